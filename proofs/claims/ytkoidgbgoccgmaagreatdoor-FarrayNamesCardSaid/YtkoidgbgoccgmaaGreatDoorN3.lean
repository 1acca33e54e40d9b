/- What the rows' proofs lean on: the contracts of the functions that they reach, and plain facts (part N3). -/
import Derived.Maps.OwnSet
import Derived.Maps.Own
import Derived.Laws.EntriesVeiled
import Derived.Lib.ConvBytes
import Derived.Lib.SlBytesRow
import Derived.Lib.SmallJoins
import Derived.Test.YtkoidgbgoccgmaaGreatDoorN2
set_option linter.unusedSimpArgs false
set_option linter.unusedVariables false
set_option maxRecDepth 100000
set_option maxHeartbeats 2000000
namespace Go.Proofs.YtkoidgbgoccgmaaGreatDoor
open Tryz
open Go.RowKit NM
def oV (r:Option Int):Value:=.tuple #[.int .i64 (r.getD 0),.bool r.isSome]
theorem zl3 (l:List Nat):(l=[]∨¬ (∀ c∈l,isD c=true))↔((l.takeWhile isD).length=0∨(l.takeWhile isD).length≠l.length):=by
 constructor
 ·rintro (rfl | h)
  ·exact Or.inl rfl
  ·refine Or.inr fun he=>h ?_
   have h1:l.takeWhile isD=l:=(List.takeWhile_prefix isD).eq_of_length he
   intro c hc
   rw [← h1] at hc
   exact zd9 l c hc
 ·intro h
  by_cases h0:l=[]
  ·exact Or.inl h0
  ·refine Or.inr fun hall=>?_
   have h1:(l.takeWhile isD).length=l.length:=by
    have h2:=zgF l
    by_cases h3:(l.takeWhile isD).length < l.length
    ·have h4:=zmE l (List.getElem?_eq_getElem h3)
     rw [hall _ (List.getElem_mem h3)] at h4
     cases h4
    ·omega
   rcases h with h | h
   ·exact h0 (List.length_eq_zero_iff.1 (by omega))
   ·exact h h1
theorem zl4 (l:List Nat):∀ n,n≤1000→l.foldl (fun n c=>min 1000 (10 * n+(c - 48))) n≤1000:=by
 induction l with
 | nil=>intro n h;exact h
 | cons c l ih=>intro n h;exact ih _ (by show min 1000 (10 * n+(c - 48))≤1000;omega)
theorem znV (c:Nat) (t u:List Nat) (ng:Bool) (hc:c=101∨c=69) (h:(t.head? = some 43∨t.head? = some 45)∧u=t.tail∧ng=decide (t.head? = some 45)∨¬ (t.head? = some 43∨t.head? = some 45)∧u=t∧ng=false) :
  zcT (c::t)=if (u.takeWhile isD).length=0∨(u.takeWhile isD).length≠u.length then none else some (if ng then -((u.foldl (fun n c=>min 1000 (10 * n+(c - 48))) 0:Nat):Int) else (u.foldl (fun n c=>min 1000 (10 * n+(c - 48))) 0:Nat)):=by
 rw [zdF]
 unfold zhl
 rw [if_neg (by omega)]
 simp only
 rcases h with ⟨h1,rfl,rfl⟩ | ⟨h1,rfl,rfl⟩
 ·rw [if_pos h1]
  rw [ite_iff _ _ (zl3 t.tail)]
  congr 2
  by_cases h45:t.head? = some 45 <;> simp [h45]
 ·rw [if_neg h1,ite_iff _ _ (zl3 u)]
  congr 2
  rw [if_neg (fun h=>h1 (Or.inr h))]
  simp
theorem zmF (s : ByteArray) (w : World) (hs : s.size ≤ 1000) :
    Calls prog 182 #[.string s] w fun r w' => r = .returned (oV (zcT (bl s))) ∧ w' = w := by
  by_cases h0 : s.size = 0
  · have : s = ⟨#[]⟩ := by
      cases s with | mk d => cases d with | mk l => cases l with
        | nil => rfl
        | cons a l => simp [ByteArray.size] at h0
    subst this
    go_enter func182, ntmps182
    go_wp2_with fail
    exact rt2 rfl rfl ⟨rfl, rfl⟩
  · have h0' : 0 < s.size := by omega
    have hne : s.toList.isEmpty = false := by
      rw [ByteArray.toList_eq]
      cases h : s.data.toList with
      | nil => have h1 : s.data.toList.length = s.size := rfl
               rw [h] at h1; simp at h1; omega
      | cons a l => rfl
    have hb := zdU s 0 h0'
    obtain ⟨c, t, hct⟩ : ∃ c t, bl s = c :: t := by
      cases h : bl s with
      | nil => have := zbs s; rw [h] at this; simp at this; omega
      | cons c t => exact ⟨c, t, rfl⟩
    have hc0 : (s[0]'h0').toNat = c := by rw [hct] at hb; simpa using hb.symm
    have hdr : (bl s).drop 1 = t := by rw [hct]; rfl
    by_cases hce : c = 101 ∨ c = 69
    · generalize hR : zcT (bl s) = R
      have HR := Lib.hid hR
      clear hR
      have HE : Hid (((s[0]'h0').toNat : Int) = 101 ∨ (((s[0]'h0').toNat : Int) != 101) = true ∧ (((s[0]'h0').toNat : Int) != 69) = false) := by
        rcases hce with h | h
        · exact Or.inl (by omega)
        · exact Or.inr ⟨by simp; omega, by simp; omega⟩
      have HT : Hid (∀ (u : List Nat) (ng : Bool), (t.head? = some 43 ∨ t.head? = some 45) ∧ u = t.tail ∧ ng = decide (t.head? = some 45) ∨ ¬ (t.head? = some 43 ∨ t.head? = some 45) ∧ u = t ∧ ng = false → R = if (u.takeWhile isD).length = 0 ∨ (u.takeWhile isD).length ≠ u.length then none else some (if ng then -((u.foldl (fun n c => min 1000 (10 * n + (c - 48))) 0 : Nat) : Int) else (u.foldl (fun n c => min 1000 (10 * n + (c - 48))) 0 : Nat))) := by
        intro u ng h
        rw [← HR.out, hct]
        exact znV c t u ng hce h
      have hc1 : ∀ h : 1 < s.size, t.head? = some (s[1]'h).toNat := by
        intro h
        have := zdU s 1 h
        rw [hct] at this
        rw [List.head?_eq_getElem?]
        simpa using this
      have hc2 : s.size ≤ 1 → t = [] := by
        intro h
        have := zbs s
        rw [hct] at this
        simp at this
        exact List.length_eq_zero_iff.1 (by omega)
      have hd2 : (bl s).drop 2 = t.tail := by rw [hct]; cases t <;> rfl
      have HC1 := Lib.hid hc1
      have HC2 := Lib.hid hc2
      have HD1 := Lib.hid hdr
      have HD2 := Lib.hid hd2
      clear hct hb hc0 hdr hc1 hc2 hd2 hce HR
      go_enter func182, ntmps182
      go_upto_region 3 with fail
      go_cut [18] (fun s18 wx => s18 = .bool false ∧ wx = w)
      case first =>
        rcases HE.out with h | ⟨h, h'⟩
        · have e1 : (((s[0]'h0').toNat : Int) != 101) = false := by simp [h]
          clear h
          go_wp2_with fail
          go_meet
          exact ⟨rfl, rfl⟩
        · go_wp2_with fail
          go_meet
          exact ⟨rfl, rfl⟩
      case rest =>
      obtain ⟨rfl, hwc⟩ := hcut
      rw [hwc]
      clear hwc wc
      go_upto_region 7 with fail
      obtain ⟨B, hB⟩ : ∃ B, B = decide (t.head? = some 43 ∨ t.head? = some 45) := ⟨_, rfl⟩
      have HB := Lib.hid hB
      clear hB
      go_cut [31] (fun s31 wx => s31 = .bool B ∧ wx = w)
      case first =>
        by_cases h1 : 1 < s.size
        · have hh := HC1.out h1
          by_cases h43 : ((s[1]'h1).toNat : Int) = 43
          · have hBt : B = true := by rw [HB.out, hh]; exact decide_eq_true (Or.inl (by congr 1; omega))
            subst hBt
            have e1 : (((s[1]'h1).toNat : Int) == 43) = true := by simp [h43]
            clear hh h43
            go_wp2_with fail
            go_meet
            exact ⟨rfl, rfl⟩
          · have e1 : (((s[1]'h1).toNat : Int) == 43) = false := by simpa using h43
            by_cases h45 : ((s[1]'h1).toNat : Int) = 45
            · have hBt : B = true := by rw [HB.out, hh]; exact decide_eq_true (Or.inr (by congr 1; omega))
              subst hBt
              have e2 : (((s[1]'h1).toNat : Int) == 45) = true := by simp [h45]
              clear hh h43 h45
              go_wp2_with fail
              go_meet
              exact ⟨rfl, rfl⟩
            · have hBt : B = false := by rw [HB.out, hh]; exact decide_eq_false (by simp; omega)
              subst hBt
              have e2 : (((s[1]'h1).toNat : Int) == 45) = false := by simpa using h45
              clear hh h43 h45
              go_wp2_with fail
              go_meet
              exact ⟨rfl, rfl⟩
        · have hBt : B = false := by rw [HB.out, HC2.out (by omega)]; rfl
          subst hBt
          go_wp2_with fail
          go_meet
          exact ⟨rfl, rfl⟩
      case rest =>
      obtain ⟨rfl, hwc⟩ := hcut
      rw [hwc]
      clear hwc wc
      go_upto_if 31 with fail
      go_cut [4, 5] (fun s4 s5 wx => ∃ (i : Nat) (ng : Bool), s4 = .int .i64 (i : Int) ∧ s5 = .bool ng ∧ wx = w ∧ i ≤ s.size ∧ Hid (R = if (((bl s).drop i).takeWhile isD).length = 0 ∨ (((bl s).drop i).takeWhile isD).length ≠ ((bl s).drop i).length then none else some (if ng then -((((bl s).drop i).foldl (fun n c => min 1000 (10 * n + (c - 48))) 0 : Nat) : Int) else (((bl s).drop i).foldl (fun n c => min 1000 (10 * n + (c - 48))) 0 : Nat))))
      case first =>
        cases B with
        | true =>
          have h1 : 1 < s.size := by
            have h2 := of_decide_eq_true HB.out.symm
            by_cases h1 : 1 < s.size
            · exact h1
            · rw [HC2.out (by omega)] at h2; simp at h2
          have hh := HC1.out h1
          go_wp2_with fail
          go_meet
          refine ⟨2, _, rfl, rfl, rfl, by omega, ?_⟩
          have h2 := of_decide_eq_true HB.out.symm
          rw [HD2.out]
          refine HT.out t.tail _ (Or.inl ⟨h2, rfl, ?_⟩)
          rw [hh]
          by_cases h45 : (s[1]'h1).toNat = 45 <;> simp [h45] <;> omega
        | false =>
          have h2 := of_decide_eq_false HB.out.symm
          have HH := Lib.hid h2
          clear h2
          go_wp2_with fail
          go_meet
          refine ⟨1, _, rfl, rfl, rfl, by omega, ?_⟩
          rw [HD1.out]
          exact HT.out t _ (Or.inr ⟨HH.out, rfl, rfl⟩)
      case rest =>
      obtain ⟨i, ng, rfl, rfl, hwc, hi, HRI⟩ := hcut
      rw [hwc]
      clear hwc wc HT HC1 HC2 HD1 HD2 HB HE
      have hrun := ziu s i w hs hi
      have hDl : ((bl s).drop i).length = s.size - i := by rw [List.length_drop, zbs]
      have HAT : Hid (∀ (m : Nat) (h : i + m < s.size), ((bl s).drop i)[m]? = some (s[i + m]'h).toNat) := fun m h => by rw [List.getElem?_drop]; exact zdU s (i + m) h
      generalize (bl s).drop i = D at *
      have HTW : Hid (∀ m c, m < (D.takeWhile isD).length → D[m]? = some c → isD c = true) := fun m c h1 h2 => zhE D h1 h2
      have hLle := zgF D
      generalize (D.takeWhile isD).length = L at *
      by_cases hbad : L = 0 ∨ L ≠ D.length
      · have hRn : R = none := by rw [HRI.out]; exact if_pos hbad
        subst hRn
        by_cases hL0 : L = 0
        · have e1 : ((L : Int) == 0) = true := by simp [hL0]
          clear hL0 hbad
          go_wp2_with (go_at_call 181; (with_reducible refine hrun.mono ?_); rintro e w' ⟨rfl, rfl⟩)
          exact rt2 rfl rfl ⟨rfl, rfl⟩
        · have e1 : ((L : Int) == 0) = false := by simp [hL0]
          have e2 : ((i : Int) + (L : Int) != (s.size : Int)) = true := by simp; omega
          clear hL0 hbad
          go_wp2_with (go_at_call 181; (with_reducible refine hrun.mono ?_); rintro e w' ⟨rfl, rfl⟩)
          exact rt2 rfl rfl ⟨rfl, rfl⟩
      · have hRn : R = some (if ng then -((D.foldl (fun n c => min 1000 (10 * n + (c - 48))) 0 : Nat) : Int) else (D.foldl (fun n c => min 1000 (10 * n + (c - 48))) 0 : Nat)) := by rw [HRI.out]; exact if_neg hbad
        have e1 : ((L : Int) == 0) = false := by simp; omega
        have e2 : ((i : Int) + (L : Int) != (s.size : Int)) = false := by simp; omega
        have HRN := Lib.hid hRn
        have hLs : Hid (L = D.length ∧ i + L = s.size) := by show L = D.length ∧ i + L = s.size; omega
        have hLb : L ≤ 1000 := by omega
        clear hRn hbad hDl HRI
        go_wp2_with (go_at_call 181; (with_reducible refine hrun.mono ?_); rintro e w' ⟨rfl, rfl⟩)
        go_loop [7, 8] (fun v7 v8 => ∃ m : Nat, i + m ≤ s.size ∧ v8 = .int .i64 ((i + m : Nat) : Int) ∧ v7 = .int .i64 (((D.take m).foldl (fun n c => min 1000 (10 * n + (c - 48))) 0 : Nat) : Int)) (fun _ v8 => s.size - (intOf v8).toNat)
        case atStart => exact ⟨0, by omega, rfl, rfl⟩
        case round =>
          obtain ⟨m, hm, rfl, rfl⟩ := hrel
          have hn := zl4 (D.take m) 0 (by omega)
          by_cases hms : i + m < s.size
          · have hb := HAT.out m hms
            obtain ⟨g1, g2⟩ := zfa (HTW.out m _ (by have := hLs.out.2; omega) hb)
            have HF : Hid ((D.take (m + 1)).foldl (fun n c => min 1000 (10 * n + (c - 48))) 0 = min 1000 (10 * (D.take m).foldl (fun n c => min 1000 (10 * n + (c - 48))) 0 + ((s[i + m]'hms).toNat - 48))) := by
              show List.foldl _ _ _ = _
              rw [za2 hb, List.foldl_append]; rfl
            generalize (D.take m).foldl (fun n c => min 1000 (10 * n + (c - 48))) 0 = n at *
            clear hb
            by_cases hbig : 1000 < 10 * n + ((s[i + m]'hms).toNat - 48)
            · have hbig' : (1000 : Int) < 10 * (n : Int) + ((s[i + m]'hms).toNat : Int) - 48 := by omega
              go_wp2_with fail
              refine ⟨⟨m + 1, by omega, by go_num, ?_⟩, by simp [intOf]; omega⟩
              rw [HF.out, Nat.min_eq_left (by omega)]; rfl
            · have hbig' : ¬ (1000 : Int) < 10 * (n : Int) + ((s[i + m]'hms).toNat : Int) - 48 := by omega
              go_wp2_with fail
              refine ⟨⟨m + 1, by omega, by go_num, ?_⟩, by simp [intOf]; omega⟩
              rw [HF.out, Nat.min_eq_right (by omega)]
              congr 1; omega
          · have HM : Hid (D.take m = D) := by
              show D.take m = D
              apply List.take_of_length_le
              have := hLs.out
              omega
            have HR2 : Hid (R = some (if ng then -(((D.take m).foldl (fun n c => min 1000 (10 * n + (c - 48))) 0 : Nat) : Int) else ((D.take m).foldl (fun n c => min 1000 (10 * n + (c - 48))) 0 : Nat))) := by
              show R = _
              rw [HM.out]; exact HRN.out
            clear HRN
            generalize (D.take m).foldl (fun n c => min 1000 (10 * n + (c - 48))) 0 = n at *
            have hms' : ¬ ((i : Int) + (m : Int) < (s.size : Int)) := by omega
            cases ng with
            | true =>
              go_wp2_with fail
              exact rt2 rfl rfl ⟨by rw [HR2.out]; rfl, rfl⟩
            | false =>
              go_wp2_with fail
              exact rt2 rfl rfl ⟨by rw [HR2.out]; rfl, rfl⟩
    · have hR : zcT (bl s) = none := by rw [hct, zdF]; unfold zhl; rw [if_pos (by omega)]
      rw [hR]
      have e1 : (((s[0]'h0').toNat : Int) != 101) = true := by simp; omega
      have e2 : (((s[0]'h0').toNat : Int) != 69) = true := by simp; omega
      clear hR hct hb hc0 hdr
      go_enter func182, ntmps182
      go_wp2_with fail
      exact rt2 rfl rfl ⟨rfl, rfl⟩
theorem zcH {P:Program} (w:World) {o:Oper} {a:Act} {K:Act→World→Prop} {Q:Exit→Act→World→Prop} (s x:Operand) (t:TypeId)
  (ho:o.op = .call { callee:=.builtin .append,args:=#[s,x],argTypes:=#[t,t] })
  (base:Nat) (e:TypeId) (i:TypeInfo) (z:Value) (size bytes:Nat) (ht:P.underlying t=some (.slice e)) (hi:P.info? e=some i) (hz:i.zero=some z)
  (hsize:i.size=size) (hby:i.bytes=bytes) (hzs:z.cells.size=size) (hsz:0 < size)
  (v:Value) (n:Nat) (xs:List Value) (hs:a.eval s=v) (hown:w.ownsRow base e size v n xs)
  (ad:Addr) (m c:Nat) (news:List Value) (hx:a.eval x = .slice (some ad) m c) (hl:news.length=m * size) (hnews:∀ j u,news[j]? = some u→w.cell? (ad.add j)=some u) (h1:∀ u∈news,u.oneCell'=true)
  (b1:n+m≤maxLen) (b2:(n+m) * bytes≤140737488355328) (hbase:base≤w.heap.size)
  (h:∀ v' w',w'.ownsRow base e size v' (n+m) (xs++news)→w.grownBy w' v.ownBlock→K (a.put o.dst v') w'):o.wp P a w K Q:=by
 obtain ⟨v',w',hr,h2,h3,_⟩:=run_append_own (P:=P) w base t o.type e i z size bytes ht hi hz hsize hby hzs hsz v n xs hown ad m c news hl hnews h1 b1 b2 hbase
 unfold Oper.wp execOp
 simp only [ho,resolve,invoke,builtin,Sem.run_bind,Sem.run_pure,Result.andThen_ok,List.map_toArray,List.map_cons,List.map_nil,hs,hx,hr]
 exact h v' w' h2 h3
theorem ziv (n:Int):∀ u∈[Value.int .i64 n],u.oneCell'=true:=by
 intro u hu
 obtain rfl:=List.mem_singleton.1 hu
 rfl
theorem zrG {w:World} {base:Nat} {e:TypeId} {v:Value} {n:Nat} {xs:List Value} (h:w.ownsRow base e 1 v n xs):∃ A c,v = .slice A n c:=by
 rcases h.2 with ⟨rfl,rfl⟩ | ⟨g,cap,cur,rfl,_⟩
 ·exact ⟨_,_,rfl⟩
 ·exact ⟨_,_,rfl⟩
structure AccD (w0:World) (s0:Nat) (neg:Bool) (A:Option Addr) (cap k:Nat) (ex:Int) (l:List Nat) (wr:World):Prop where
 ext:Ext w0 wr
 hi:w0.heap.size≤s0
 row:wr.heap[s0]? = some (.cells #[.bool neg,.slice A k cap,.int .i64 ex] 74)
 own:wr.ownsRow (s0+1) 3 1 (.slice A k cap) k (i6 l)
def zqu (w0:World) (s0:Nat) (neg:Bool) (A:Option Addr) (cap k:Nat) (ex:Int) (W:World):Prop:=Ext w0 W∧W.heap[s0]? = some (.cells #[.bool neg,.slice A k cap,.int .i64 ex] 74)
section
variable {w0:World} {s0:Nat} {neg:Bool} {A:Option Addr} {cap k:Nat} {ex:Int} {l:List Nat} {wr:World}
theorem AccD.lt (h:AccD w0 s0 neg A cap k ex l wr):s0 < wr.heap.size:=zH h.row
theorem AccD.of_ext (h:AccD w0 s0 neg A cap k ex l wr) {w1:World} (hx:Ext wr w1):AccD w0 s0 neg A cap k ex l w1 :=
 ⟨h.ext.trans hx,h.hi,by rw [hx.block h.lt];exact h.row,zd8 h.own hx⟩
theorem AccD.rd (h:AccD w0 s0 neg A cap k ex l wr):Rd (s0+1) wr A (i6 l)∧k≤cap:=by
 obtain ⟨A',c',e,hr,hc⟩:=Rd.of_own h.own
 simp only [Value.slice.injEq,true_and] at e
 obtain ⟨rfl,rfl⟩:=e
 exact ⟨hr,hc⟩
theorem AccD.len (h:AccD w0 s0 neg A cap k ex l wr):l.length=k:=by
 have:=h.own.1
 simp [i6] at this
 omega
theorem AccD.cells (h:AccD w0 s0 neg A cap k ex l wr):wr.cell? ⟨s0,0,none⟩=some (.bool neg)∧wr.cell? ⟨s0,1,none⟩=some (.slice A k cap)∧wr.cell? ⟨s0,2,none⟩=some (.int .i64 ex):=by
 refine ⟨?_,?_,?_⟩ <;> rw [cell_of_row wr s0 _ _ _ (0,0) h.row] <;> rfl
theorem AccD.fz (h:AccD w0 s0 neg A cap k ex l wr) (o:Nat):wr.frozen? ⟨s0,o,none⟩=false:=frozen_of_row wr s0 o _ _ h.row
theorem AccD.own_set (h:AccD w0 s0 neg A cap k ex l wr) (o:Nat) (x:Value):(wr.setCell ⟨s0,o,none⟩ x).ownsRow (s0+1) 3 1 (.slice A k cap) k (i6 l) :=
 zbk h.own fun g cur hg=>RowKit.Below.heap_setCell _ _ _ _ (fun he=>by subst he;rw [h.row] at hg;cases hg)
theorem AccD.set0 (h:AccD w0 s0 neg A cap k ex l wr) (n':Bool):AccD w0 s0 n' A cap k ex l (wr.setCell ⟨s0,0,none⟩ (.bool n')):=⟨h.ext.set _ h.hi,h.hi,heap_setCell_same wr s0 0 _ _ _ h.row,h.own_set _ _⟩
theorem AccD.set2 (h:AccD w0 s0 neg A cap k ex l wr) (e':Int):AccD w0 s0 neg A cap k e' l (wr.setCell ⟨s0,2,none⟩ (.int .i64 e')):=⟨h.ext.set _ h.hi,h.hi,heap_setCell_same wr s0 2 _ _ _ h.row,h.own_set _ _⟩
theorem AccD.step (h:AccD w0 s0 neg A cap k ex l wr) {x:Nat} {v':Value} {w1 w3:World} (hx:Ext wr w1)
  (hg:w1.grownBy w3 (Value.slice A k cap).ownBlock) (ho:w3.ownsRow (s0+1) 3 1 v' (k+1) (i6 l++[.int .i64 (x:Int)])) :
  ∃ A' cap',v' = .slice A' (k+1) cap'∧w3.heap[s0]? = some (.cells #[.bool neg,.slice A k cap,.int .i64 ex] 74)∧Ext w0 w3∧AccD w0 s0 neg A' cap' (k+1) ex (l++[x]) (w3.setCell ⟨s0,1,none⟩ v'):=by
 obtain ⟨A',cap',rfl⟩:=zrG ho
 have h1:=h.of_ext hx
 have hlt:=h1.lt
 have hnb:∀ b,b≤s0→some b≠(Value.slice A k cap).ownBlock:=fun b hb e=>by have:=(zdQ h.own _ e.symm).1;omega
 have hrow:w3.heap[s0]? = some (.cells #[.bool neg,.slice A k cap,.int .i64 ex] 74):=by
  rw [hg.block _ hlt (hnb _ (Nat.le_refl _))];exact h1.row
 have hex:Ext w0 w3:=by
  have h2:Ext w0 w1:=h1.ext
  exact ⟨hg.os.trans h2.os,hg.tape.trans h2.tape,hg.output.trans h2.output,Nat.le_trans h2.size hg.size,fun b hb=>(hg.block b (Nat.lt_of_lt_of_le hb h2.size) (hnb b (by have:=h.hi;omega))).trans (h2.block hb)⟩
 refine ⟨A',cap',rfl,hrow,hex,Ext.set hex _ h.hi,h.hi,?_,?_⟩
 ·exact heap_setCell_same w3 s0 1 _ _ _ hrow
 ·have:i6 (l++[x])=i6 l++[.int .i64 (x:Int)]:=by simp [i6]
  rw [this]
  exact zbk ho fun g cur hg=>RowKit.Below.heap_setCell _ _ _ _ (fun he=>by subst he;rw [hrow] at hg;cases hg)
end
theorem zmG (s:ByteArray) (i:Nat):bl (s.extract i s.size)=(bl s).drop i:=by
 unfold bl
 rw [ByteArray.data_extract,Array.toList_extract,List.extract_eq_take_drop,List.take_of_length_le (by rw [List.length_drop];exact Nat.le_refl _),List.map_drop]
def zpF (ng:Bool) (n nb:Nat) (ds:List Nat):Option Int→Option (Int×Int)
 | none=>none
 | some e=>if n+nb=0 then none else rnd ng (val ds) false (e - nb)
def ziw (ng:Bool) (n nb:Nat) (ds:List Nat) (l3:List Nat):Option (Int×Int):=zpF ng n nb ds (zcT l3)
theorem ziY (ng:Bool) (n nb:Nat) (ds:List Nat) (e:Int):zpF ng n nb ds (some e)=if n+nb=0 then none else rnd ng (val ds) false (e - nb):=rfl
theorem znW {ng:Bool} {l1:List Nat} (h:(l1.drop (l1.takeWhile isD).length).head? = some 46) (hB:((l1.drop ((l1.takeWhile isD).length+1)).takeWhile isD).length≠0) :
  zdx ng l1=ziw ng (l1.takeWhile isD).length ((l1.drop ((l1.takeWhile isD).length+1)).takeWhile isD).length (((l1.takeWhile isD)++((l1.drop ((l1.takeWhile isD).length+1)).takeWhile isD)).map (· - 48)) (l1.drop ((l1.takeWhile isD).length+1+((l1.drop ((l1.takeWhile isD).length+1)).takeWhile isD).length)):=by
 have d1:l1.dropWhile isD=l1.drop (l1.takeWhile isD).length:=by
  conv=>rhs;arg 2;rw [zcY l1]
  rw [List.drop_left]
 have d2:(l1.drop (l1.takeWhile isD).length).tail=l1.drop ((l1.takeWhile isD).length+1):=by rw [List.tail_drop]
 have d3:∀ l:List Nat,l.dropWhile isD=l.drop (l.takeWhile isD).length:=fun l=>by
  conv=>rhs;arg 2;rw [zcY l]
  rw [List.drop_left]
 unfold zdx ziw
 simp only [d1,d2,h,if_true,true_and]
 rw [if_neg (fun h0=>hB (by rw [h0];rfl)),d3 (l1.drop ((l1.takeWhile isD).length+1)),List.drop_drop]
 generalize zcT _=r
 cases r <;> rfl
theorem zmH {ng:Bool} {l1:List Nat} (h:(l1.drop (l1.takeWhile isD).length).head? = some 46) (hB:((l1.drop ((l1.takeWhile isD).length+1)).takeWhile isD).length=0):zdx ng l1=none:=by
 have d1:l1.dropWhile isD=l1.drop (l1.takeWhile isD).length:=by
  conv=>rhs;arg 2;rw [zcY l1]
  rw [List.drop_left]
 have d2:(l1.drop (l1.takeWhile isD).length).tail=l1.drop ((l1.takeWhile isD).length+1):=by rw [List.tail_drop]
 unfold zdx
 simp only [d1,d2,h,if_true,true_and]
 rw [if_pos (List.length_eq_zero_iff.1 hB)]
theorem znX {ng:Bool} {l1:List Nat} (h:(l1.drop (l1.takeWhile isD).length).head? ≠ some 46) :
  zdx ng l1=ziw ng (l1.takeWhile isD).length 0 ((l1.takeWhile isD).map (· - 48)) (l1.drop (l1.takeWhile isD).length):=by
 have d1:l1.dropWhile isD=l1.drop (l1.takeWhile isD).length:=by
  conv=>rhs;arg 2;rw [zcY l1]
  rw [List.drop_left]
 unfold zdx ziw
 simp only [d1,if_neg h,List.length_nil,List.append_nil]
 rw [if_neg (fun h0=>h h0.1)]
 generalize zcT _=r
 cases r <;> rfl
theorem zl5 (l:List Nat):l.take (l.takeWhile isD).length=l.takeWhile isD:=by
 conv=>lhs;arg 2;rw [zcY l]
 rw [List.take_left]
theorem zq5 {l:List Nat} {e:Int} (h:zcT l=some e) : -1000≤e∧e≤1000:=by
 cases l with
 | nil=>cases h;omega
 | cons c t =>
  rw [zdF] at h
  unfold zhl at h
  split at h
  ·cases h
  ·simp only at h
   generalize (if t.head? = some 43∨t.head? = some 45 then t.tail else t)=u at h
   by_cases hu:u=[]∨¬ (∀ c∈u,isD c=true)
   ·rw [if_pos hu] at h;cases h
   ·rw [if_neg hu] at h
    have hb:=zl4 u 0 (by omega)
    have h:=Option.some.inj h
    split at h <;> omega
theorem zix {a:List Nat} (h:∀ c∈a,isD c=true):AllD (a.map (· - 48)):=by
 intro d hd
 obtain ⟨c,hc,rfl⟩:=List.mem_map.1 hd
 have:=zfa (h c hc)
 omega
theorem zmI (s:ByteArray) (w:World) (hs:s.size≤1000) :
  Calls prog 144 #[.string s] w fun r w'=>r = .returned (rnV (if 255 < s.size then none else zj9 (bl s)))∧Ext w w':=by
 by_cases hlen:255 < s.size
 ·rw [if_pos hlen]
  go_enter func144,ntmps144
  go_wp2_with fail
  exact rct (v:=NV 0 0) rfl rfl (by simp [go_sem]) ⟨rfl,by simp [go_sem]⟩
 ·rw [if_neg hlen]
  generalize hR:zj9 (bl s)=R
  have HR:=Lib.hid hR
  clear hR
  go_enter func144,ntmps144
  go_upto_region 5 with fail
  refine zz fun W hW=>?_
  have hX0:PV (w.alloc (.cells #[.int .i64 0,.int .i64 0] 35)) w.heap.size 0 0:=PV.new 0 0 rfl
  have hXw:Ext w (w.alloc (.cells #[.int .i64 0,.int .i64 0] 35)):=(Ext.refl w).alloc _
  have hXs:(w.alloc (.cells #[.int .i64 0,.int .i64 0] 35)).heap.size=w.heap.size+1:=by simp
  have hacc0:AccD (w.alloc (.cells #[.int .i64 0,.int .i64 0] 35)) (w.heap.size+1) false none 0 0 0 [] W:=by
   refine ⟨by rw [hW];exact (Ext.refl _).alloc _,by omega,?_,World.ownsRow_nil _ _ _ _⟩
   rw [hW,← hXs]
   exact Array.getElem?_push_size
  clear hW
  generalize w.alloc (.cells #[.int .i64 0,.int .i64 0] 35)=X at *
  have HS0:=Lib.hid hXs
  clear hXs
  have hq0:w.heap.size < w.heap.size+1:=by omega
  generalize w.heap.size+1=q at *
  obtain ⟨B,hB⟩:∃ B,B=decide ((bl s).head? = some 45):=⟨_,rfl⟩
  have HB:=Lib.hid hB
  have HACC:=Lib.hid hacc0
  clear hB hacc0
  go_cut [24] (fun s24 wx=>s24 = .bool B∧wx=W)
  case first =>
   by_cases h0:0 < s.size
   ·have hh:(bl s).head? = some (s[0]'h0).toNat:=by rw [List.head?_eq_getElem?];exact zdU s 0 h0
    by_cases h45:((s[0]'h0).toNat:Int)=45
    ·have hBt:B=true:=by rw [HB.out,hh];exact decide_eq_true (by congr 1;omega)
     subst hBt
     have e1:(((s[0]'h0).toNat:Int) == 45)=true:=by simp [h45]
     clear hh h45
     go_wp2_with fail
     go_meet
     exact ⟨rfl,rfl⟩
    ·have hBt:B=false:=by rw [HB.out,hh];exact decide_eq_false (by simp;omega)
     subst hBt
     have e1:(((s[0]'h0).toNat:Int) == 45)=false:=by simpa using h45
     clear hh h45
     go_wp2_with fail
     go_meet
     exact ⟨rfl,rfl⟩
   ·have hBt:B=false:=by
     rw [HB.out]
     have:bl s=[]:=List.length_eq_zero_iff.1 (by rw [zbs];omega)
     rw [this];rfl
    subst hBt
    go_wp2_with fail
    go_meet
    exact ⟨rfl,rfl⟩
  case rest =>
  obtain ⟨rfl,hwc⟩:=hcut
  rw [hwc]
  clear hwc wc
  go_upto_if 24 with fail
  go_cut [5] (fun s5 wx=>∃ (p:Nat) (ng:Bool),s5 = .int .i64 (p:Int)∧p≤s.size∧Hid (R=zdx ng ((bl s).drop p))∧Hid (AccD X q ng none 0 0 0 [] wx))
  case first =>
   have a0:=HACC.out.fz 0
   have a1:=HACC.out.lt
   have a2:=HACC.out.cells.1
   cases B with
   | true =>
    have h2:=of_decide_eq_true HB.out.symm
    have h1:1≤s.size:=by
     have:=zbs s
     cases h:bl s with
     | nil=>rw [h] at h2;cases h2
     | cons a l=>rw [h] at this;simp at this;omega
    have HH:=Lib.hid h2
    clear h2
    go_wp2_with fail
    go_meet
    refine ⟨1,true,rfl,h1,?_,HACC.out.set0 true⟩
    show _=_
    rw [← HR.out,zhm,if_pos HH.out,decide_eq_true HH.out,← List.drop_one]
   | false =>
    have h2:=of_decide_eq_false HB.out.symm
    have HH:=Lib.hid h2
    clear h2
    go_wp2_with fail
    go_meet
    refine ⟨0,false,rfl,Nat.zero_le _,?_,HACC⟩
    show _=_
    rw [← HR.out,zhm,if_neg HH.out,decide_eq_false HH.out,List.drop_zero]
  case rest =>
  obtain ⟨p,ng,rfl,hp,HRP,HA⟩:=hcut
  clear HR HB HACC
  obtain ⟨i0,hi0,hz0,hz1,hz2⟩:=info_parts zbq
  have hrun:=fun W=>ziu s p W hs hp
  have HAT:Hid (∀ (m:Nat) (h:p+m < s.size),((bl s).drop p)[m]? = some (s[p+m]'h).toNat):=fun m h=>by rw [List.getElem?_drop];exact zdU s (p+m) h
  have hDl:((bl s).drop p).length=s.size - p:=by rw [List.length_drop,zbs]
  have HDD:Hid (∀ k,(bl s).drop (p+k)=((bl s).drop p).drop k):=fun k=>by rw [List.drop_drop]
  generalize hD:(bl s).drop p=D at *
  have HTW:Hid (∀ m c,m < (D.takeWhile isD).length→D[m]? = some c→isD c=true):=fun m c h1 h2=>zhE D h1 h2
  have hLle:=zgF D
  have HLT:=Lib.hid (zl5 D)
  generalize hL:(D.takeWhile isD).length=L at *
  have HL:=Lib.hid hL
  have HDl:=Lib.hid hDl
  have hLs:p+L≤s.size:=by omega
  clear hL hD hDl hLle
  go_wp2_with (go_at_call 181;(with_reducible refine (hrun _).mono ?_);rintro e w' ⟨rfl,rfl⟩)
  go_loopw [8] (fun v8 wr=>∃ (j:Nat) (A:Option Addr) (cap:Nat),j≤L∧v8 = .int .i64 (j:Int)∧Hid (AccD X q ng A cap j 0 ((D.take j).map (· - 48)) wr)) (fun v8 _=>L - (intOf v8).toNat)
  case atStart=>exact ⟨0,none,0,Nat.zero_le _,rfl,HA⟩
  case round =>
   obtain ⟨j,A,cap,hj,rfl,H⟩:=hrel
   by_cases hjL:j < L
   ·have hjs:p+j < s.size:=by omega
    have hb:=HAT.out j hjs
    obtain ⟨g1,g2⟩:=zfa (HTW.out j _ hjL hb)
    have HB:=Lib.hid hb
    have hacc:=H.out
    obtain ⟨x,hx⟩:∃ x,x=(s[p+j]'hjs).toNat - 48:=⟨_,rfl⟩
    have w1:IntKind.i64.wrap (((s[p+j]'hjs).toNat:Int) - 48)=(x:Int):=by rw [zbJ (by omega) (by omega)];omega
    have w0:IntKind.i64.wrap ((s[p+j]'hjs).toNat:Int)=((s[p+j]'hjs).toNat:Int):=zbJ (by omega) (by omega)
    have w3:IntKind.i64.wrap ((p:Int)+(j:Int))=(p:Int)+(j:Int):=zbJ (by omega) (by omega)
    have w4:(0:Int)≤(p:Int)+(j:Int)∧(p:Int)+(j:Int) < (s.size:Int):=by omega
    have w5:((p:Int)+(j:Int)).toNat=p+j:=by omega
    have HX:=Lib.hid hx
    clear hb g1 g2 hx
    go_upto_region 13 with fail
    refine zcj (S:=zqu _ _ _ _ _ _ _) [(0,0),(1,0),(2,0),(3,0),(4,0),(5,0),(6,0),(7,0),(8,0),(9,1),(10,1),(11,0),(12,2)] [12] (by kernel_rfl) (by kernel_rfl) (by kernel_rfl) (fun _ _ d _ _ h=>by cases d <;> exact h) ⟨(hacc.of_ext (by simp [go_sem])).ext,(hacc.of_ext (by simp [go_sem])).row⟩ ?_
    (refine zr (v:=?_) rfl ?_ (fun w1 h1=>?_) ?_;rotate_left 1;rfl;(obtain ⟨h1e,h1r⟩:=h1;have c2:=cell_of_row _ _ 1 _ _ _ h1r;clear h1r;obtain ⟨os1,d1,rfl⟩:=h1e.more;go_simp;first | done | rfl))
    try simp only [zq]
    (refine zr (v:=?_) rfl ?_ (fun w1 h1=>?_) ?_;rotate_left 1;rfl;(obtain ⟨h1e,h1r⟩:=h1;have c2:=cell_of_row _ _ 1 _ _ _ h1r;clear h1r;obtain ⟨os1,d1,rfl⟩:=h1e.more;go_simp;first | done | rfl))
    try simp only [zq]
    (refine zr (v:=?_) rfl ?_ (fun w1 h1=>?_) ?_;rotate_left 1;rfl;(obtain ⟨h1e,h1r⟩:=h1;have c2:=cell_of_row _ _ 1 _ _ _ h1r;clear h1r;obtain ⟨os1,d1,rfl⟩:=h1e.more;go_simp;first | done | rfl))
    try simp only [zq]
    (refine zr (v:=?_) rfl ?_ (fun w1 h1=>?_) ?_;rotate_left 1;rfl;(obtain ⟨h1e,h1r⟩:=h1;have c2:=cell_of_row _ _ 1 _ _ _ h1r;clear h1r;obtain ⟨os1,d1,rfl⟩:=h1e.more;go_simp;first | done | rfl))
    try simp only [zq]
    (refine zr (v:=?_) rfl ?_ (fun w1 h1=>?_) ?_;rotate_left 1;rfl;(obtain ⟨h1e,h1r⟩:=h1;have c2:=cell_of_row _ _ 1 _ _ _ h1r;clear h1r;obtain ⟨os1,d1,rfl⟩:=h1e.more;go_simp;first | done | rfl))
    try simp only [zq]
    (refine zr (v:=?_) rfl ?_ (fun w1 h1=>?_) ?_;rotate_left 1;rfl;(obtain ⟨h1e,h1r⟩:=h1;have c2:=cell_of_row _ _ 1 _ _ _ h1r;clear h1r;obtain ⟨os1,d1,rfl⟩:=h1e.more;go_simp;first | done | rfl))
    try simp only [zq]
    (refine zr (v:=?_) rfl ?_ (fun w1 h1=>?_) ?_;rotate_left 1;rfl;(obtain ⟨h1e,h1r⟩:=h1;have c2:=cell_of_row _ _ 1 _ _ _ h1r;clear h1r;obtain ⟨os1,d1,rfl⟩:=h1e.more;go_simp;first | done | rfl))
    try simp only [zq]
    (refine zr (v:=?_) rfl ?_ (fun w1 h1=>?_) ?_;rotate_left 1;rfl;(obtain ⟨h1e,h1r⟩:=h1;have c2:=cell_of_row _ _ 1 _ _ _ h1r;clear h1r;obtain ⟨os1,d1,rfl⟩:=h1e.more;go_simp;first | done | rfl))
    try simp only [zq]
    (refine zr (v:=?_) rfl ?_ (fun w1 h1=>?_) ?_;rotate_left 1;rfl;(obtain ⟨h1e,h1r⟩:=h1;have c2:=cell_of_row _ _ 1 _ _ _ h1r;clear h1r;obtain ⟨os1,d1,rfl⟩:=h1e.more;go_simp;first | done | rfl))
    try simp only [zq]
    (refine zh rfl ?_ (fun K hK=>?_);rfl;go_simp;refine hK _ _ ⟨(hacc.of_ext (by simp [go_sem])).ext,(hacc.of_ext (by simp [go_sem])).row⟩ ?_)
    try simp only [zq]
    (refine zh rfl ?_ (fun K hK=>?_);rfl)
    refine zcH _ _ _ _ rfl _ 3 i0 (.int .i64 0) 1 8 Tryz.underlying71 hi0 hz0 hz1 hz2 rfl (by decide) _ _ _ rfl (zd8 hacc.own (by simp [go_sem])) _ 1 1 [.int .i64 (x:Int)] rfl rfl (Rd.one_ _ _ (by first | rfl | (simp;done))).add (ziv _) (by simp only [maxLen];omega) (by omega) (by have:=hacc.lt;simp;omega) ?_
    intro v3 w3 ho3 hg3
    obtain ⟨A2,cap2,rfl,hrow3,hex3,hacc2⟩:=hacc.step (by simp [go_sem]) hg3 ho3
    refine hK _ _ ⟨hex3,hrow3⟩ ?_
    try simp only [zq]
    (refine zr (v:=?_) rfl ?_ (fun w1 h1=>?_) ?_;rotate_left 1;rfl;(obtain ⟨h1e,h1r⟩:=h1;have c2:=cell_of_row _ _ 1 _ _ _ h1r;clear h1r;obtain ⟨os1,d1,rfl⟩:=h1e.more;go_simp;first | done | rfl))
    try simp only [zq]
    have c2:=cell_of_row _ _ 1 _ _ _ hrow3
    have f2:=frozen_of_row _ _ 1 _ _ hrow3
    clear hrow3 hex3 hg3 ho3
    (refine zaa rfl ?_ (fun K hK=>?_);rfl;go_simp;refine hK _ _ ?_)
    clear c2 f2
    try simp only [Act.put]
    refine zj ?_
    go_wp2_with fail
    refine ⟨⟨j+1,A2,cap2,by omega,by go_num,?_⟩,by simp [intOf];omega⟩
    show AccD _ _ _ _ _ _ _ _ _
    rw [za2 HB.out,List.map_append,List.map_singleton,← HX.out]
    exact hacc2
   ·obtain rfl:L=j:=by omega
    clear hj hjL hrun HTW HAT HA
    go_upto_region 15 with fail
    obtain ⟨i1,hi1⟩:∃ i1:Nat,(p:Int)+(L:Int)=(i1:Int):=⟨p+L,by omega⟩
    rw [hi1]
    have hi1':i1=p+L:=by omega
    have hi1s:i1≤s.size:=by omega
    have HH:Hid (∀ h:i1 < s.size,(D.drop L).head? = some (s[i1]'h).toNat):=fun h=>by
     rw [← HDD.out L,← hi1',List.head?_drop];exact zdU s i1 h
    have HH0:Hid (¬ i1 < s.size→(D.drop L).head? ≠ some 46):=fun h=>by
     have:D.drop L=[]:=List.drop_eq_nil_of_le (by rw [HDl.out];omega)
     rw [this];simp
    have HDD1:Hid ((bl s).drop i1=D.drop L):=by show _=_;rw [hi1'];exact HDD.out L
    have HDD2:Hid (∀ k,(bl s).drop (i1+k)=D.drop (L+k)):=fun k=>by rw [hi1',Nat.add_assoc];exact HDD.out (L+k)
    clear hi1 hi1'
    have hX0r:=hX0.ext H.out.ext
    have a0:=hX0r.c0
    have a1:=hX0r.c1
    have a2:=hX0r.fz 0
    have a3:=hX0r.fz 1
    have a4:=hX0r.lt
    have z0:=(hX0r.set 0 0).c0
    have z1:=(hX0r.set 0 0).c1
    obtain ⟨B2,hB2⟩:∃ B2,B2=decide ((D.drop L).head? = some 46):=⟨_,rfl⟩
    have HB2:=Lib.hid hB2
    clear hB2
    go_cut [58] (fun s58 wx=>s58 = .bool B2∧wx=wr)
    case first =>
     by_cases h1:i1 < s.size
     ·have hh:=HH.out h1
      by_cases h46:((s[i1]'h1).toNat:Int)=46
      ·have hBt:B2=true:=by rw [HB2.out,hh];exact decide_eq_true (by congr 1;omega)
       subst hBt
       have e1:(((s[i1]'h1).toNat:Int) == 46)=true:=by simp [h46]
       clear hh h46
       go_wp2_with fail
       go_meet
       exact ⟨rfl,rfl⟩
      ·have hBt:B2=false:=by rw [HB2.out,hh];exact decide_eq_false (by simp;omega)
       subst hBt
       have e1:(((s[i1]'h1).toNat:Int) == 46)=false:=by simpa using h46
       clear hh h46
       go_wp2_with fail
       go_meet
       exact ⟨rfl,rfl⟩
     ·have hBt:B2=false:=by rw [HB2.out];exact decide_eq_false (HH0.out h1)
      subst hBt
      have h1':¬ (i1:Int) < (s.size:Int):=by omega
      go_wp2_with fail
      go_meet
      exact ⟨rfl,rfl⟩
    case rest =>
    obtain ⟨rfl,hwc⟩:=hcut
    rw [hwc]
    clear hwc wc
    go_upto_if 58 with fail
    go_cut [5,7] (fun s5 s7 wx=>∃ (i2 nb k cap2:Nat) (A2:Option Addr) (ds:List Nat),s5 = .int .i64 (i2:Int)∧s7 = .int .i64 (nb:Int)∧i2≤s.size∧nb≤s.size∧k≤510∧Hid (AllD ds)∧Hid (R=ziw ng L nb ds ((bl s).drop i2))∧Hid (AccD X q ng A2 cap2 k 0 ds wx))
    case first =>
     cases B2 with
     | false =>
      have h46:=of_decide_eq_false HB2.out.symm
      have H46:=Lib.hid h46
      clear h46
      go_wp2_with fail
      go_meet
      refine ⟨i1,0,L,cap,A,_,rfl,rfl,hi1s,Nat.zero_le _,by omega,?_,?_,H⟩
      ·show AllD _
       rw [HLT.out];exact zix (zd9 D)
      ·show _=_
       rw [HRP.out,HDD1.out,HLT.out,← HL.out]
       exact znX (by rw [HL.out];exact H46.out)
     | true =>
      have h46:=of_decide_eq_true HB2.out.symm
      have h1:i1 < s.size:=Decidable.byContradiction fun h=>HH0.out h h46
      have H46:=Lib.hid h46
      clear h46
      obtain ⟨i2,hi2⟩:∃ i2:Nat,(i1:Int)+1=(i2:Int):=⟨i1+1,by omega⟩
      have hi2':i2=i1+1:=by omega
      have hi2s:i2≤s.size:=by omega
      have hrun:=fun W=>ziu s i2 W hs hi2s
      have hD2:(bl s).drop i2=D.drop (L+1):=by rw [hi2'];exact HDD2.out 1
      have HAT:Hid (∀ (m:Nat) (h:i2+m < s.size),(D.drop (L+1))[m]? = some (s[i2+m]'h).toNat):=fun m h=>by rw [← hD2,List.getElem?_drop];exact zdU s (i2+m) h
      have hDl:(D.drop (L+1)).length=s.size - i2:=by rw [← hD2,List.length_drop,zbs]
      rw [hD2] at hrun
      have HTW:Hid (∀ m c,m < ((D.drop (L+1)).takeWhile isD).length→(D.drop (L+1))[m]? = some c→isD c=true):=fun m c h1 h2=>zhE _ h1 h2
      have hLle:=zgF (D.drop (L+1))
      have HLT2:=Lib.hid (zl5 (D.drop (L+1)))
      have HTD:=Lib.hid (zd9 (D.drop (L+1)))
      generalize hL2:((D.drop (L+1)).takeWhile isD).length=nb at *
      have HL2:=Lib.hid hL2
      have HI2:=Lib.hid hi2'
      have hLs2:i2+nb≤s.size:=by omega
      clear hL2 hDl hLle hD2 hi2'
      by_cases hnb:nb=0
      ·have hRn:R=none:=by
        rw [HRP.out]
        exact zmH (by rw [HL.out];exact H46.out) (by rw [HL.out,HL2.out];exact hnb)
       subst hRn
       have e1:((nb:Int) == 0)=true:=by simp [hnb]
       clear hnb
       go_wp2_with (go_at_call 181;(with_reducible refine (hrun _).mono ?_);rintro e w' ⟨rfl,rfl⟩)
       exact bodyPost_ret (v:=.tuple #[NV 0 0,.bool false]) (by simp [results,results144,go_sem,z0,z1]) rfl ⟨rfl,((hXw.trans H.out.ext).set _ (Nat.le_refl _)).set _ (Nat.le_refl _)⟩
      ·have e1:((nb:Int) == 0)=false:=by simp [hnb]
       have HNB:=Lib.hid hnb
       clear hnb a0 a1 a2 a3 z0 z1
       go_wp2_with (go_at_call 181;(with_reducible refine (hrun _).mono ?_);rintro e w' ⟨rfl,rfl⟩)
       go_loopw [9] (fun v9 wx=>∃ (j:Nat) (A2:Option Addr) (cap2:Nat),j≤nb∧v9 = .int .i64 (j:Int)∧Hid (AccD X q ng A2 cap2 (L+j) 0 ((D.take L).map (· - 48)++((D.drop (L+1)).take j).map (· - 48)) wx)) (fun v9 _=>nb - (intOf v9).toNat)
       case atStart=>exact ⟨0,A,cap,Nat.zero_le _,rfl,by show AccD _ _ _ _ _ _ _ _ _;rw [List.take_zero,List.map_nil,List.append_nil];exact H.out⟩
       case round =>
        obtain ⟨j,A,cap,hj,rfl,H⟩:=hrel
        by_cases hjL:j < nb
        ·have hjs:i2+j < s.size:=by omega
         have hb:=HAT.out j hjs
         obtain ⟨g1,g2⟩:=zfa (HTW.out j _ hjL hb)
         have HB:=Lib.hid hb
         have hacc:=H.out
         obtain ⟨x,hx⟩:∃ x,x=(s[i2+j]'hjs).toNat - 48:=⟨_,rfl⟩
         have w1:IntKind.i64.wrap (((s[i2+j]'hjs).toNat:Int) - 48)=(x:Int):=by rw [zbJ (by omega) (by omega)];omega
         have w0:IntKind.i64.wrap ((s[i2+j]'hjs).toNat:Int)=((s[i2+j]'hjs).toNat:Int):=zbJ (by omega) (by omega)
         have w3:IntKind.i64.wrap ((i2:Int)+(j:Int))=(i2:Int)+(j:Int):=zbJ (by omega) (by omega)
         have w7:IntKind.i64.wrap (i2:Int)=(i2:Int):=zbJ (by omega) (by omega)
         have w6:IntKind.i64.wrap ((i1:Int)+1)=(i2:Int):=by rw [zbJ (by omega) (by omega)];exact hi2
         have w4:(0:Int)≤(i2:Int)+(j:Int)∧(i2:Int)+(j:Int) < (s.size:Int):=by omega
         have w5:((i2:Int)+(j:Int)).toNat=i2+j:=by omega
         have HX:=Lib.hid hx
         clear hb g1 g2 hx
         go_upto_region 22 with fail
         refine zcj (S:=zqu _ _ _ _ _ _ _) [(0,0),(1,0),(2,0),(3,0),(4,0),(5,0),(6,0),(7,0),(8,0),(9,0),(10,1),(11,1),(12,0),(13,2)] [13] (by kernel_rfl) (by kernel_rfl) (by kernel_rfl) (fun _ _ d _ _ h=>by cases d <;> exact h) ⟨(hacc.of_ext (by simp [go_sem])).ext,(hacc.of_ext (by simp [go_sem])).row⟩ ?_
         (refine zr (v:=?_) rfl ?_ (fun w1 h1=>?_) ?_;rotate_left 1;rfl;(obtain ⟨h1e,h1r⟩:=h1;have c2:=cell_of_row _ _ 1 _ _ _ h1r;clear h1r;obtain ⟨os1,d1,rfl⟩:=h1e.more;go_simp;first | done | rfl))
         try simp only [zq]
         (refine zr (v:=?_) rfl ?_ (fun w1 h1=>?_) ?_;rotate_left 1;rfl;(obtain ⟨h1e,h1r⟩:=h1;have c2:=cell_of_row _ _ 1 _ _ _ h1r;clear h1r;obtain ⟨os1,d1,rfl⟩:=h1e.more;go_simp;first | done | rfl))
         try simp only [zq]
         (refine zr (v:=?_) rfl ?_ (fun w1 h1=>?_) ?_;rotate_left 1;rfl;(obtain ⟨h1e,h1r⟩:=h1;have c2:=cell_of_row _ _ 1 _ _ _ h1r;clear h1r;obtain ⟨os1,d1,rfl⟩:=h1e.more;go_simp;first | done | rfl))
         try simp only [zq]
         (refine zr (v:=?_) rfl ?_ (fun w1 h1=>?_) ?_;rotate_left 1;rfl;(obtain ⟨h1e,h1r⟩:=h1;have c2:=cell_of_row _ _ 1 _ _ _ h1r;clear h1r;obtain ⟨os1,d1,rfl⟩:=h1e.more;go_simp;first | done | rfl))
         try simp only [zq]
         (refine zr (v:=?_) rfl ?_ (fun w1 h1=>?_) ?_;rotate_left 1;rfl;(obtain ⟨h1e,h1r⟩:=h1;have c2:=cell_of_row _ _ 1 _ _ _ h1r;clear h1r;obtain ⟨os1,d1,rfl⟩:=h1e.more;go_simp;first | done | rfl))
         try simp only [zq]
         (refine zr (v:=?_) rfl ?_ (fun w1 h1=>?_) ?_;rotate_left 1;rfl;(obtain ⟨h1e,h1r⟩:=h1;have c2:=cell_of_row _ _ 1 _ _ _ h1r;clear h1r;obtain ⟨os1,d1,rfl⟩:=h1e.more;go_simp;first | done | rfl))
         try simp only [zq]
         (refine zr (v:=?_) rfl ?_ (fun w1 h1=>?_) ?_;rotate_left 1;rfl;(obtain ⟨h1e,h1r⟩:=h1;have c2:=cell_of_row _ _ 1 _ _ _ h1r;clear h1r;obtain ⟨os1,d1,rfl⟩:=h1e.more;go_simp;first | done | rfl))
         try simp only [zq]
         (refine zr (v:=?_) rfl ?_ (fun w1 h1=>?_) ?_;rotate_left 1;rfl;(obtain ⟨h1e,h1r⟩:=h1;have c2:=cell_of_row _ _ 1 _ _ _ h1r;clear h1r;obtain ⟨os1,d1,rfl⟩:=h1e.more;go_simp;first | done | rfl))
         try simp only [zq]
         (refine zr (v:=?_) rfl ?_ (fun w1 h1=>?_) ?_;rotate_left 1;rfl;(obtain ⟨h1e,h1r⟩:=h1;have c2:=cell_of_row _ _ 1 _ _ _ h1r;clear h1r;obtain ⟨os1,d1,rfl⟩:=h1e.more;go_simp;first | done | rfl))
         try simp only [zq]
         (refine zr (v:=?_) rfl ?_ (fun w1 h1=>?_) ?_;rotate_left 1;rfl;(obtain ⟨h1e,h1r⟩:=h1;have c2:=cell_of_row _ _ 1 _ _ _ h1r;clear h1r;obtain ⟨os1,d1,rfl⟩:=h1e.more;go_simp;first | done | rfl))
         try simp only [zq]
         (refine zh rfl ?_ (fun K hK=>?_);rfl;go_simp;refine hK _ _ ⟨(hacc.of_ext (by simp [go_sem])).ext,(hacc.of_ext (by simp [go_sem])).row⟩ ?_)
         try simp only [zq]
         (refine zh rfl ?_ (fun K hK=>?_);rfl)
         refine zcH _ _ _ _ rfl _ 3 i0 (.int .i64 0) 1 8 Tryz.underlying71 hi0 hz0 hz1 hz2 rfl (by decide) _ _ _ rfl (zd8 hacc.own (by simp [go_sem])) _ 1 1 [.int .i64 (x:Int)] rfl rfl (Rd.one_ _ _ (by first | rfl | (simp;done))).add (ziv _) (by simp only [maxLen];omega) (by omega) (by have:=hacc.lt;simp;omega) ?_
         intro v3 w3 ho3 hg3
         obtain ⟨A2,cap2,rfl,hrow3,hex3,hacc2⟩:=hacc.step (by simp [go_sem]) hg3 ho3
         refine hK _ _ ⟨hex3,hrow3⟩ ?_
         try simp only [zq]
         (refine zr (v:=?_) rfl ?_ (fun w1 h1=>?_) ?_;rotate_left 1;rfl;(obtain ⟨h1e,h1r⟩:=h1;have c2:=cell_of_row _ _ 1 _ _ _ h1r;clear h1r;obtain ⟨os1,d1,rfl⟩:=h1e.more;go_simp;first | done | rfl))
         try simp only [zq]
         have c2:=cell_of_row _ _ 1 _ _ _ hrow3
         have f2:=frozen_of_row _ _ 1 _ _ hrow3
         clear hrow3 hex3 hg3 ho3
         (refine zaa rfl ?_ (fun K hK=>?_);rfl;go_simp;refine hK _ _ ?_)
         clear c2 f2
         try simp only [Act.put]
         refine zj ?_
         go_wp2_with fail
         refine ⟨⟨j+1,A2,cap2,by omega,by go_num,?_⟩,by simp [intOf];omega⟩
         show AccD _ _ _ _ _ _ _ _ _
         rw [za2 HB.out,List.map_append,List.map_singleton,← HX.out,← List.append_assoc]
         exact hacc2
        ·obtain rfl:nb=j:=by omega
         go_wp2_with fail
         go_meet
         refine ⟨i2+nb,nb,L+nb,cap,A,_,by go_num,rfl,hLs2,by omega,by omega,?_,?_,H⟩
         ·show AllD _
          rw [HLT.out,HLT2.out];exact (zix (zd9 D)).append (zix HTD.out)
         ·show _=_
          rw [HRP.out,HLT.out,HLT2.out,HI2.out,Nat.add_assoc,HDD2.out,← List.map_append]
          have:=znW (ng:=ng) (l1:=D) (by rw [HL.out];exact H46.out) (by rw [HL.out,HL2.out];exact HNB.out)
          rw [HL.out,HL2.out] at this
          rw [this,Nat.add_assoc]
    case rest =>
    obtain ⟨i2,nb,k,cap2,A2,ds,rfl,rfl,hi2,hnb,hk,HAD,HRT,HA2⟩:=hcut
    clear a0 a1 a2 a3 a4 z0 z1 HB2 HDD1 HDD2 HH HH0 hi1s HRP HLT HL HDl H
    have hesz:(s.extract i2 s.size).size≤1000:=by rw [ByteArray.size_extract];omega
    have hpw:=fun W=>zmF (s.extract i2 s.size) W hesz
    rw [zmG] at hpw
    have hX0r:=hX0.ext HA2.out.ext
    have a0:=hX0r.c0
    have a1:=hX0r.c1
    have a2:=hX0r.fz 0
    have a3:=hX0r.fz 1
    have a4:=hX0r.lt
    have z0:=(hX0r.set 0 0).c0
    have z1:=(hX0r.set 0 0).c1
    generalize hP:zcT ((bl s).drop i2)=P at *
    have hRP:R=zpF ng L nb ds P:=by rw [HRT.out];unfold ziw;rw [hP]
    cases P with
    | none =>
     have hRP:R=none:=hRP
     subst hRP
     clear hP
     go_wp2_with (go_at_call 182;(with_reducible refine (hpw _).mono ?_);rintro e w' ⟨rfl,rfl⟩;simp only [oV,Option.isSome_none,Option.getD_none])
     exact bodyPost_ret (v:=.tuple #[NV 0 0,.bool false]) (by simp [results,results144,go_sem,z0,z1]) rfl ⟨rfl,((hXw.trans HA2.out.ext).set _ (Nat.le_refl _)).set _ (Nat.le_refl _)⟩
    | some e =>
     have hbd:=zq5 hP
     clear hP
     by_cases hLn:L+nb=0
     ·rw [ziY,if_pos hLn] at hRP
      subst hRP
      have e1:((L:Int)+(nb:Int) == 0)=true:=by simp;omega
      clear hLn
      go_wp2_with (go_at_call 182;(with_reducible refine (hpw _).mono ?_);rintro e w' ⟨rfl,rfl⟩;simp only [oV,Option.isSome_some,Option.getD_some])
      exact bodyPost_ret (v:=.tuple #[NV 0 0,.bool false]) (by simp [results,results144,go_sem,z0,z1]) rfl ⟨rfl,((hXw.trans HA2.out.ext).set _ (Nat.le_refl _)).set _ (Nat.le_refl _)⟩
     ·rw [ziY,if_neg hLn] at hRP
      have HRP:=Lib.hid hRP
      have e1:((L:Int)+(nb:Int) == 0)=false:=by simp;omega
      have w1:IntKind.i64.wrap (e - (nb:Int))=e - nb:=zbJ (by omega) (by omega)
      clear hLn hRP
      have hkl:=HA2.out.len
      have hset:=HA2.out.set2 (e - nb)
      obtain ⟨c0,c1,c2⟩:=hset.cells
      have f2:=HA2.out.fz 2
      have c20:=HA2.out.cells.2.2
      have lq:=HA2.out.lt
      have hnr:=zcs (q+1) ng A2 k cap2 ds (val ds) (e - nb) false _ hkl hset.rd.1 hset.rd.2 (by omega) HAD.out rfl (by omega) (by have:=hset.lt;omega)
      rw [← HRP.out] at hnr
      have hX0s:=hX0.ext hset.ext
      have x0:=hX0s.c0
      have x1:=hX0s.c1
      have x2:=hX0s.fz 0
      have x3:=hX0s.fz 1
      have x4:=hX0s.lt
      have y0:=(hX0s.set (rm R) (re R)).c0
      have y1:=(hX0s.set (rm R) (re R)).c1
      have HSE:=Lib.hid hset.ext
      clear hkl z0 z1 hset hX0s
      go_wp2_with (first | (go_at_call 182;(with_reducible refine (hpw _).mono ?_);rintro e w' ⟨rfl,rfl⟩;simp only [oV,Option.isSome_some,Option.getD_some]) | (go_at_call 60;(with_reducible refine hnr.mono ?_);rintro e w' ⟨rfl,hxn⟩;obtain ⟨osn,dn,rfl⟩:=hxn.more))
      exact bodyPost_ret (v:=rnV R) (by simp [results,results144,go_sem,y0,y1,x4,a4]) rfl ⟨rfl,(((hXw.trans HSE.out).set _ (Nat.le_refl _)).set _ (Nat.le_refl _)).more_ _ _⟩
def zb6 (n:Int):Nat→Option Int
 | 0=>some n
 | k+1=>if 922337203685477580 < n.natAbs then none else zb6 (n * 10) k
def zby (m e:Int):Option Int:=if ¬ Rt m e∨e < 0 then none else zb6 m e.toNat
abbrev inV (r:Option Int):Value:=.tuple #[.int .i64 (r.getD 0),.bool r.isSome]
theorem znY (x:Nat) (hx:x < 18446744073709551616) (w:World) :
  Calls prog 161 #[.int .u64 (x:Int),.int .u64 10] w fun e w'=>e = .returned (.tuple #[.int .u64 ((x * 10 / 18446744073709551616:Nat):Int),.int .u64 ((x * 10 % 18446744073709551616:Nat):Int)])∧w=w' :=
 (Tryz.bits_Mul64 x 10 hx (by omega) w).mono fun e w' ⟨h1,h2⟩=>⟨h1,h2.symm⟩
theorem zq6 (m ex:Int) (w:World) (hm:I64 m) :
  Tl prog 127 #[NV m ex] w (inV (zby m ex)):=by
 by_cases h:Rt m ex
 ·have r1:=zab h
  obtain ⟨b1,b2,b3⟩:=zaE h
  by_cases h1:ex < 0
  ·have hs:zby m ex=none:=by unfold zby;rw [if_pos (Or.inr h1)]
   rw [hs]
   clear h hs
   go_enter func127,ntmps127
   go_wp2_with (go_at_call 108;with_reducible refine aM (zaf _ _ _ (by assumption)) fun osr dr=>?_)
   go_ret2
   exact ⟨rfl,by simp [go_sem]⟩
  ·obtain ⟨n,rfl⟩:∃ n:Nat,ex=n:=⟨ex.toNat,by omega⟩
   have hs:zby m (n:Int)=zb6 m n:=by unfold zby;rw [if_neg (by rintro (h3 | h3);exact h3 h;omega)];rfl
   generalize hR:zby m (n:Int)=R at *
   have HR:=Lib.hid hs
   clear hs hR h
   go_enter func127,ntmps127
   go_wp2_with (go_at_call 108;with_reducible refine aM (zaf _ _ _ (by assumption)) fun osr dr=>?_)
   go_loop [4,19] (fun a i=>∃ (j:Nat) (x:Int),j≤n∧i = .int .i64 (j:Int)∧a = .int .i64 x∧Hid (I64 x)∧Hid (R=zb6 x (n - j))) (fun _ i=>n - (intOf i).toNat)
   case atStart=>exact ⟨0,m,Nat.zero_le _,rfl,rfl,hm,HR⟩
   case round =>
    obtain ⟨j,x,hj,rfl,rfl,HX,HG⟩:=hrel
    by_cases hlt:j < n
    ·have hx64:x.natAbs < 18446744073709551616:=by obtain ⟨h1,h2⟩:=HX.out;omega
     have hml:=znY x.natAbs hx64
     have hsz:=fun W=>zcR x W HX.out
     have HG1:Hid (R=if 922337203685477580 < x.natAbs then none else zb6 (x * 10) (n - (j+1))):=by
      show _=_
      rw [HG.out,show n - j=n - (j+1)+1 by omega];rfl
     by_cases hbig:922337203685477580 < x.natAbs
     ·have hRn:R=none:=by rw [HG1.out,if_pos hbig]
      have hor:x.natAbs * 10 / 18446744073709551616≠0∨9223372036854775807 < x.natAbs * 10 % 18446744073709551616:=by omega
      generalize x.natAbs * 10 / 18446744073709551616=hi at *
      generalize x.natAbs * 10 % 18446744073709551616=lo at *
      generalize x.natAbs=xa at *
      subst hRn
      clear hx64 hbig
      by_cases hh:hi=0
      focus
       have e1:((hi:Int) != 0)=false:=by simp [hh]
       have e1b:(hi != 0)=false:=by simp [hh]
       have e2:decide ((9223372036854775807:Int) < (lo:Int))=true:=by simp;omega
       have e3:decide (9223372036854775807 < lo)=true:=by simp;omega
      rotate_left
      focus
       have e1:((hi:Int) != 0)=true:=by simp [hh]
       have e1b:(hi != 0)=true:=by simp [hh]
      rotate_left
      all_goals
       clear hor hh
       go_wp2_with (first | (go_at_call 126;(with_reducible refine (hsz _).mono ?_);rintro e w' ⟨rfl,rfl⟩) | (go_at_call 161;(with_reducible refine (hml _).mono ?_);rintro e w' ⟨rfl,rfl⟩))
       go_ret2
       exact ⟨rfl,by simp [go_sem]⟩
     ·have HRn:Hid (R=zb6 (x * 10) (n - (j+1))):=by show _=_;rw [HG1.out,if_neg hbig]
      have h10:Hid (I64 (x * 10)):=by show I64 _;unfold I64;omega
      have hhi:x.natAbs * 10 / 18446744073709551616=0:=by omega
      have hlo:¬ 9223372036854775807 < x.natAbs * 10 % 18446744073709551616:=by omega
      have w1:IntKind.i64.wrap (x * 10)=x * 10:=zbJ h10.out.1 h10.out.2
      have w2:wrap64 (x * 10)=x * 10:=IntWalk.wrap64_in _ h10.out
      rw [hhi] at hml
      generalize x.natAbs * 10 % 18446744073709551616=lo at *
      generalize x.natAbs=xa at *
      clear hx64 hbig hhi HG1
      have e2:decide ((9223372036854775807:Int) < (lo:Int))=false:=by simp;omega
      have e3:decide (9223372036854775807 < lo)=false:=by simp;omega
      clear hlo
      simp only [show ((0:Nat):Int)=0 from rfl] at hml
      go_wp2_with (first | (go_at_call 126;(with_reducible refine (hsz _).mono ?_);rintro e w' ⟨rfl,rfl⟩) | (go_at_call 161;(with_reducible refine (hml _).mono ?_);rintro e w' ⟨rfl,rfl⟩))
      exact ⟨⟨j+1,x * 10,by omega,by go_num,rfl,h10,HRn⟩,by simp [intOf];omega⟩
    ·have hRn:R=some x:=by rw [HG.out,show n - j=0 by omega];rfl
     subst hRn
     go_wp2_with fail
     go_ret2
     exact ⟨rfl,by simp [go_sem]⟩
 ·have r1:=zbi h
  have hs:zby m ex=none:=by unfold zby;rw [if_pos (Or.inl h)]
  rw [hs]
  clear h hs
  go_enter func127,ntmps127
  go_wp2_with (go_at_call 108;with_reducible refine aM (zaf _ _ _ (by assumption)) fun osr dr=>?_)
  go_ret2
  exact ⟨rfl,by simp [go_sem]⟩
theorem zpG (m ex:Int) (w:World) (hm:I64 m) :
  Tl prog 142 #[NV m ex] w (inV (zby m ex)):=by
 by_cases h:Rt m ex
 ·have r1:=zab h
  obtain ⟨b1,b2,b3⟩:=zaE h
  by_cases h1:ex < 0
  ·have hs:zby m ex=none:=by unfold zby;rw [if_pos (Or.inr h1)]
   rw [hs]
   clear h hs
   go_enter func142,ntmps142
   go_wp2_with (go_at_call 140;with_reducible refine aM (zW _ _ _ (by assumption)) fun osr dr=>?_)
   go_ret2
   exact ⟨rfl,by simp [go_sem]⟩
  ·obtain ⟨n,rfl⟩:∃ n:Nat,ex=n:=⟨ex.toNat,by omega⟩
   have hs:zby m (n:Int)=zb6 m n:=by unfold zby;rw [if_neg (by rintro (h3 | h3);exact h3 h;omega)];rfl
   generalize hR:zby m (n:Int)=R at *
   have HR:=Lib.hid hs
   clear hs hR h
   go_enter func142,ntmps142
   go_wp2_with (go_at_call 140;with_reducible refine aM (zW _ _ _ (by assumption)) fun osr dr=>?_)
   go_loop [4,5] (fun a i=>∃ (j:Nat) (x:Int),j≤n∧i = .int .i64 (j:Int)∧a = .int .i64 x∧Hid (I64 x)∧Hid (R=zb6 x (n - j))) (fun _ i=>n - (intOf i).toNat)
   case atStart=>exact ⟨0,m,Nat.zero_le _,rfl,rfl,hm,HR⟩
   case round =>
    obtain ⟨j,x,hj,rfl,rfl,HX,HG⟩:=hrel
    by_cases hlt:j < n
    ·have HG1:Hid (R=if 922337203685477580 < x.natAbs then none else zb6 (x * 10) (n - (j+1))):=by
      show _=_
      rw [HG.out,show n - j=n - (j+1)+1 by omega];rfl
     by_cases hbig:922337203685477580 < x
     ·have hRn:R=none:=by rw [HG1.out,if_pos (by omega)]
      subst hRn
      go_wp2_with fail
      go_ret2
      exact ⟨rfl,by simp [go_sem]⟩
     ·by_cases hbig2:x < -922337203685477580
      ·have hRn:R=none:=by rw [HG1.out,if_pos (by omega)]
       subst hRn
       go_wp2_with fail
       go_ret2
       exact ⟨rfl,by simp [go_sem]⟩
      ·have HRn:Hid (R=zb6 (x * 10) (n - (j+1))):=by show _=_;rw [HG1.out,if_neg (by omega)]
       have h10:Hid (I64 (x * 10)):=by show I64 _;unfold I64;omega
       have w1:IntKind.i64.wrap (10 * x)=10 * x:=zbJ (by omega) (by omega)
       go_wp2_with fail
       refine ⟨⟨j+1,x * 10,by omega,by go_num,?_,h10,HRn⟩,by simp [intOf];omega⟩
       rw [Int.mul_comm]
    ·have hRn:R=some x:=by rw [HG.out,show n - j=0 by omega];rfl
     subst hRn
     go_wp2_with fail
     go_ret2
     exact ⟨rfl,by simp [go_sem]⟩
 ·have r1:=zbi h
  have hs:zby m ex=none:=by unfold zby;rw [if_pos (Or.inl h)]
  rw [hs]
  clear h hs
  go_enter func142,ntmps142
  go_wp2_with (go_at_call 140;with_reducible refine aM (zW _ _ _ (by assumption)) fun osr dr=>?_)
  go_ret2
  exact ⟨rfl,by simp [go_sem]⟩
end Go.Proofs.YtkoidgbgoccgmaaGreatDoor
namespace Go.Proofs.YtkoidgbgoccgmaaGreatDoor
open Tryz
open Go.RowKit
theorem zq7 (k1 m1 e1 f1 k2 m2 e2 f2:Int) (t1 t2:ByteArray) (b1 b2:Bool) (w:World):(binOp .eql 37 (VV k1 m1 e1 t1 b1 f1) (VV k2 m2 e2 t2 b2 f2)).run prog w = .ok (.bool (eqV ⟨k1,m1,e1,t1,b1,f1⟩ ⟨k2,m2,e2,t2,b2,f2⟩)) w:=by
 have ht:(t1.toList=t2.toList)↔t1=t2:=⟨fun h=>by
  cases t1;cases t2
  rename_i a b
  have:a.toList=b.toList:=by simpa [ByteArray.toList_eq] using h
  simpa using this,fun h=>by rw [h]⟩
 simp only [VV,eqV]
 simp [go_sem,ht]
 by_cases h1:k1=k2 <;> simp [h1]
 by_cases h2:m1=m2 <;> simp [h2]
 by_cases h3:e1=e2 <;> simp [h3]
 by_cases h4:t1=t2 <;> simp [h4]
 by_cases h5:b1=b2 <;> simp [h5]
 by_cases h6:f1=f2 <;> simp [h6]
theorem zfb (f:Int) (w:World) :
  Tl prog 57 #[.int .i64 f] w (VV 4 0 0 ⟨#[]⟩ false (zbZ f)):=by
 by_cases h:f < 1∨9 < f
 ·have hb:zbZ f=9:=by simp [zbZ,h]
  rw [hb]
  rcases h with h | h
  ·go_enter func57,ntmps57
   go_wp2
   exact rc1 rfl rfl (by simp [go_sem]) ⟨rfl,by simp [go_sem]⟩
  ·have h1:¬ f < 1:=by omega
   go_enter func57,ntmps57
   go_wp2
   exact rc1 rfl rfl (by simp [go_sem]) ⟨rfl,by simp [go_sem]⟩
 ·have hb:zbZ f=f:=by simp [zbZ,h]
  rw [hb]
  have h1:¬ f < 1:=by omega
  have h2:¬ 9 < f:=by omega
  go_enter func57,ntmps57
  go_wp2
  exact rc1 rfl rfl (by simp [go_sem]) ⟨rfl,by simp [go_sem]⟩
theorem zea (m ex:Int) (w:World) :
  Tl prog 67 #[NV m ex] w (VV 1 m ex ⟨#[]⟩ false 0):=by
 go_enter func67,ntmps67
 go_wp2
 exact rc1 rfl rfl (by simp [go_sem]) ⟨rfl,by simp [go_sem]⟩
theorem znZ (t:Bool) (w:World) :
  Tl prog 110 #[.bool t] w (VV 3 0 0 ⟨#[]⟩ t 0):=by
 go_enter func110,ntmps110
 go_wp2
 exact rc1 rfl rfl (by simp [go_sem]) ⟨rfl,by simp [go_sem]⟩
theorem zpH (t:ByteArray) (w:World) (ht:t.size≤9223372036854775807) :
  Tl prog 109 #[.string t] w (VV (zcO t).kind 0 0 (zcO t).text false (zcO t).fault):=by
 by_cases h:255 < t.size
 ·have hv:zcO t=⟨4,0,0,⟨#[]⟩,false,2⟩:=by simp [zcO,h]
  rw [hv]
  have hb:zbZ 2=2:=by decide
  go_enter func109,ntmps109
  go_wp2_with (go_at_call 57;refine aM (zfb _ _) fun os d=>?_)
  exact rc1 rfl rfl (by simp [go_sem]) ⟨rfl,by simp [go_sem]⟩
 ·have hv:zcO t=⟨2,0,0,t,false,0⟩:=by simp [zcO,h]
  rw [hv]
  go_enter func109,ntmps109
  go_wp2
  exact rc1 rfl rfl (by simp [go_sem]) ⟨rfl,by simp [go_sem]⟩
theorem zc9 (k m ex f:Int) (t:ByteArray) (b:Bool) (w:World) (hm:I64 m) (ht:t.size≤9223372036854775807) :
  Tl prog 59 #[VV k m ex t b f] w (.bool (valRight ⟨k,m,ex,t,b,f⟩)):=by
 have heq:=zq7
 by_cases h0:k=0
 ·subst h0
  go_enter func59,ntmps59
  go_wp2
  go_ret
  exact ⟨zaK (by simp [valRight,Val.zero]),by simp [go_sem]⟩
 by_cases h1:k=1
 ·subst h1
  clear h0
  by_cases hr:zK m ex=true
  rw [show valRight ⟨1,m,ex,t,b,f⟩=eqV ⟨1,m,ex,t,b,f⟩ ⟨1,m,ex,⟨#[]⟩,false,0⟩ by simp [valRight,hr]]
  rotate_left
  have hr':zK m ex=false:=by simpa using hr
  rw [show valRight ⟨1,m,ex,t,b,f⟩=false by simp [valRight,hr]]
  clear hr
  all_goals
   go_enter func59,ntmps59
   go_wp2
   refine plP [(0,0),(1,0),(2,1),(3,0),(4,0),(5,0),(6,0),(7,1),(8,0),(9,0),(10,0)] [] (by kernel_rfl) (fun _ _ d _ _ h=>by cases d <;> exact h) ?_
   iterate 2 (apply rdP rfl rfl;(intros;go_simp;first | done | rfl);try simp only [zq])
   (refine zh rfl ?_ (fun K hK=>?_);rfl;go_simp;refine aM (zc5 _ _ _ hm) fun os d=>?_;refine hK _ _ ?_ ?_;(simp [go_sem]))
   try simp only [zq]
   iterate 4 ((first | refine z8 rfl rfl ?_ | (apply rdP rfl rfl;(intros;go_simp;first | done | rfl)) | (refine zS (v:=?_) (c:=?_) rfl rfl rfl rfl ?_ (fun hc w1 h1=>?_) ?_;rotate_left 2;(first | exact zak _ | exact zal _ | exact zQ _ _ | exact zR _ _);(obtain ⟨os1,d1,rfl⟩:=h1.more;(try simp only [zn hc]);(try (have hc1:=zx hc;(try simp only [zn hc1]);(try (have hc2:=zx hc1;(try simp only [zn hc2])))));go_simp;first | done | rfl)));try simp only [zq])
   first | (refine za8 rfl ?_ ?_ ?_;(first | with_reducible rfl | rfl | (go_simp;done));(simp [go_sem])) | (refine zh rfl ?_ (fun K hK=>?_);(first | with_reducible rfl | rfl | (go_simp;done));go_simp;refine aM (zea _ _ _) fun os d=>?_;refine hK _ _ ?_ ?_;(simp [go_sem]))
   try simp only [zq]
   iterate 3 ((first | refine z8 rfl rfl ?_ | refine zat rfl rfl rfl rfl rfl rfl ?_ | refine zaz rfl rfl rfl rfl rfl rfl ?_ | (apply rdP rfl rfl;(intros;go_simp;first | done | rfl)) | (refine zS (v:=?_) (c:=?_) rfl rfl rfl rfl ?_ (fun hc w1 h1=>?_) ?_;rotate_left 2;(first | exact zak _ | exact zal _ | exact zQ _ _ | exact zR _ _);(obtain ⟨os1,d1,rfl⟩:=h1.more;(try simp only [zn hc]);(try (have hc1:=zx hc;(try simp only [zn hc1]);(try (have hc2:=zx hc1;(try simp only [zn hc2])))));go_simp;first | done | rfl)));try simp only [zq])
   refine zj ?_
   go_wp2
   go_ret
   exact ⟨rfl,by simp [go_sem]⟩
 by_cases h2:k=2
 ·subst h2
  clear h0 h1
  go_enter func59,ntmps59
  go_wp2
  refine plP [(0,0),(1,0),(2,0),(3,1),(4,0),(5,0)] [] (by kernel_rfl) (fun _ _ d _ _ h=>by cases d <;> exact h) ?_
  iterate 3 (apply rdP rfl rfl;(intros;go_simp;first | done | rfl);try simp only [zq])
  (refine zh rfl ?_ (fun K hK=>?_);rfl;go_simp;refine aM (zpH _ _ ht) fun os d=>?_;refine hK _ _ ?_ ?_;(simp [go_sem]))
  try simp only [zq]
  iterate 2 (apply rdP rfl rfl;(intros;go_simp;first | done | rfl);try simp only [zq])
  refine zj ?_
  go_wp2
  go_ret
  exact ⟨zaK (by simp [valRight];unfold zcO;split <;> rfl),by simp [go_sem]⟩
 by_cases h3:k=3
 ·subst h3
  clear h0 h1 h2
  go_enter func59,ntmps59
  go_wp2
  refine plP [(0,0),(1,0),(2,0),(3,1),(4,0),(5,0)] [] (by kernel_rfl) (fun _ _ d _ _ h=>by cases d <;> exact h) ?_
  iterate 3 (apply rdP rfl rfl;(intros;go_simp;first | done | rfl);try simp only [zq])
  (refine zh rfl ?_ (fun K hK=>?_);rfl;go_simp;refine aM (znZ _ _) fun os d=>?_;refine hK _ _ ?_ ?_;(simp [go_sem]))
  try simp only [zq]
  iterate 2 (apply rdP rfl rfl;(intros;go_simp;first | done | rfl);try simp only [zq])
  refine zj ?_
  go_wp2
  go_ret
  exact ⟨zaK (by simp [valRight]),by simp [go_sem]⟩
 by_cases h4:k=4
 ·subst h4
  clear h0 h1 h2 h3
  go_enter func59,ntmps59
  go_wp2
  refine plP [(0,0),(1,0),(2,0),(3,1),(4,0),(5,0)] [] (by kernel_rfl) (fun _ _ d _ _ h=>by cases d <;> exact h) ?_
  iterate 3 (apply rdP rfl rfl;(intros;go_simp;first | done | rfl);try simp only [zq])
  (refine zh rfl ?_ (fun K hK=>?_);rfl;go_simp;refine aM (zfb _ _) fun os d=>?_;refine hK _ _ ?_ ?_;(simp [go_sem]))
  try simp only [zq]
  iterate 2 (apply rdP rfl rfl;(intros;go_simp;first | done | rfl);try simp only [zq])
  refine zj ?_
  go_wp2
  go_ret
  exact ⟨zaK (by simp [valRight]),by simp [go_sem]⟩
 have e:valRight ⟨k,m,ex,t,b,f⟩=false:=by simp [valRight,h0,h1,h2,h3,h4]
 rw [e];clear e
 have h0:(k == 0)=false:=by simp [h0]
 have h1:(k == 1)=false:=by simp [h1]
 have h2:(k == 2)=false:=by simp [h2]
 have h3:(k == 3)=false:=by simp [h3]
 have h4:(k == 4)=false:=by simp [h4]
 go_enter func59,ntmps59
 go_wp2
 go_ret
 exact ⟨rfl,by simp [go_sem]⟩
theorem zrH (t:ByteArray):(!t.toList.isEmpty)=true↔t≠⟨#[]⟩:=by
 obtain ⟨⟨l⟩⟩:=t
 simp [ByteArray.toList_eq]
theorem zrI (t:ByteArray):(!t.toList.isEmpty)=false↔t=⟨#[]⟩:=by
 obtain ⟨⟨l⟩⟩:=t
 simp [ByteArray.toList_eq]
theorem zkf {k m ex f:Int} {t:ByteArray} {b:Bool} (h:(((k != 1)=true∧((!m == 0)=true∨(!ex == 0)=true)∨(k != 2)=true∧(!t.toList.isEmpty)=true)∨(k != 3)=true∧b=true)∨(k != 4)=true∧(f != 0)=true) :
  false=refRight ⟨k,m,ex,t,b,f⟩:=by
 unfold refRight
 rw [if_pos]
 rw [zrH] at h
 simp at h ⊢
 rcases h with ((⟨h1,h2⟩ | ⟨h1,h2⟩) | ⟨h1,h2⟩) | ⟨h1,h2⟩
 ·left;refine ⟨h1,fun h3=>?_⟩;rcases h2 with h2 | h2 <;> simp_all
 ·right;left;exact ⟨h1,h2⟩
 ·right;right;left;exact ⟨h1,h2⟩
 ·right;right;right;exact ⟨h1,h2⟩
theorem zju {k m ex f:Int} {t:ByteArray} {b:Bool} (h:((((k != 1)=false∨(!m == 0)=false∧(!ex == 0)=false)∧((k != 2)=false∨(!t.toList.isEmpty)=false))∧((k != 3)=false∨b=false))∧((k != 4)=false∨(f != 0)=false)) :
  refRight ⟨k,m,ex,t,b,f⟩=if k=1 then zO m ex else if k=2 then decide (t.size≤255) else k == 0 || k == 3 || (k == 4 && decide (1≤f) && decide (f≤9)):=by
 unfold refRight
 rw [if_neg]
 rw [zrI] at h
 obtain ⟨⟨⟨h1,h2⟩,h3⟩,h4⟩:=h
 simp at h1 h2 h3 h4
 rintro (⟨h5,h6⟩ | ⟨h5,h6⟩ | ⟨h5,h6⟩ | ⟨h5,h6⟩)
 ·exact h6 (h1.resolve_left h5)
 ·exact h6 (h2.resolve_left h5)
 ·rcases h3 with h3 | h3
  ·exact h5 h3
  ·simp_all
 ·exact h6 (h4.resolve_left h5)
theorem zda (k m ex f:Int) (t:ByteArray) (b:Bool) (w:World) (hm:I64 m) (ht:t.size≤9223372036854775807) :
  Tl prog 91 #[VV k m ex t b f] w (.bool (refRight ⟨k,m,ex,t,b,f⟩)):=by
 generalize hR:refRight ⟨k,m,ex,t,b,f⟩=R
 have HR:=Lib.hid hR
 clear hR
 go_enter func91,ntmps91
 go_upto_region 1 with (fail)
 refine wp_region_lit ?_
 iterate 11 ((first | refine zas rfl rfl rfl rfl rfl ?_ | refine zaC rfl rfl rfl rfl rfl ?_ | (refine zbj (v:=?_) rfl ?_ ?_;rotate_left 1;(go_simp;first | done | rfl)) | (refine za1 (v:=?_) (c:=?_) rfl rfl rfl ?_ (fun hc=>?_) ?_;rotate_left 2;(first | exact zak _ | exact zal _ | exact zQ _ _ | exact zR _ _);((try simp only [zn hc]);(try (have hc1:=zx hc;(try simp only [zn hc1]);(try (have hc2:=zx hc1;(try simp only [zn hc2])))));go_simp;first | done | rfl)));try simp only [zq])
 refine wpList_nil ?_
 try go_simp
 go_upto_region 2 with (fail)
 refine wp_region_lit ?_
 iterate 15 ((first | refine zas rfl rfl rfl rfl rfl ?_ | refine zaC rfl rfl rfl rfl rfl ?_ | (refine zbj (v:=?_) rfl ?_ ?_;rotate_left 1;(go_simp;first | done | rfl)) | (refine za1 (v:=?_) (c:=?_) rfl rfl rfl ?_ (fun hc=>?_) ?_;rotate_left 2;(first | exact zak _ | exact zal _ | exact zQ _ _ | exact zR _ _);((try simp only [zn hc]);(try (have hc1:=zx hc;(try simp only [zn hc1]);(try (have hc2:=zx hc1;(try simp only [zn hc2])))));go_simp;first | done | rfl)));try simp only [zq])
 first | (refine zch rfl rfl rfl rfl rfl rfl rfl ?_ ?_;(first | exact zak _ | exact zal _ | exact zQ _ _ | exact zR _ _)) | (refine zcq rfl rfl rfl rfl rfl rfl rfl ?_ ?_;(first | exact zak _ | exact zal _ | exact zQ _ _ | exact zR _ _))
 try simp only [zq]
 iterate 8 ((first | refine zas rfl rfl rfl rfl rfl ?_ | refine zaC rfl rfl rfl rfl rfl ?_ | (refine zbj (v:=?_) rfl ?_ ?_;rotate_left 1;(go_simp;first | done | rfl)) | (refine za1 (v:=?_) (c:=?_) rfl rfl rfl ?_ (fun hc=>?_) ?_;rotate_left 2;(first | exact zak _ | exact zal _ | exact zQ _ _ | exact zR _ _);((try simp only [zn hc]);(try (have hc1:=zx hc;(try simp only [zn hc1]);(try (have hc2:=zx hc1;(try simp only [zn hc2])))));go_simp;first | done | rfl)));try simp only [zq])
 first | (refine zch rfl rfl rfl rfl rfl rfl rfl ?_ ?_;(first | exact zak _ | exact zal _ | exact zQ _ _ | exact zR _ _)) | (refine zcq rfl rfl rfl rfl rfl rfl rfl ?_ ?_;(first | exact zak _ | exact zal _ | exact zQ _ _ | exact zR _ _))
 try simp only [zq]
 iterate 9 ((first | refine zas rfl rfl rfl rfl rfl ?_ | refine zaC rfl rfl rfl rfl rfl ?_ | (refine zbj (v:=?_) rfl ?_ ?_;rotate_left 1;(go_simp;first | done | rfl)) | (refine za1 (v:=?_) (c:=?_) rfl rfl rfl ?_ (fun hc=>?_) ?_;rotate_left 2;(first | exact zak _ | exact zal _ | exact zQ _ _ | exact zR _ _);((try simp only [zn hc]);(try (have hc1:=zx hc;(try simp only [zn hc1]);(try (have hc2:=zx hc1;(try simp only [zn hc2])))));go_simp;first | done | rfl)));try simp only [zq])
 first | (refine zch rfl rfl rfl rfl rfl rfl rfl ?_ ?_;(first | exact zak _ | exact zal _ | exact zQ _ _ | exact zR _ _)) | (refine zcq rfl rfl rfl rfl rfl rfl rfl ?_ ?_;(first | exact zak _ | exact zal _ | exact zQ _ _ | exact zR _ _))
 try simp only [zq]
 first | (refine zas rfl rfl rfl rfl rfl ?_) | (refine zaC rfl rfl rfl rfl rfl ?_)
 try simp only [zq]
 refine wpList_nil ?_
 try go_simp
 go_wp2_with (go_at_call 140;refine aM (zes _ _ _ hm) fun os d=>?_)
 all_goals (go_ret;refine ⟨zaK ?_,by simp [go_sem]⟩)
 all_goals rw [← HR.out]
 ·exact zkf (by assumption)
 all_goals rw [zju (by assumption)]
 all_goals simp_all
 all_goals omega
def zaq (r c:Int):Bool:=decide (1≤r) && decide (1≤c) && decide (r≤4096) && decide (c≤4096 / r)
theorem zeb {r c:Int} (h:zaq r c=true):1≤r∧1≤c∧r≤4096∧c≤4096∧1≤r * c∧r * c≤4096:=by
 simp only [zaq,Bool.and_eq_true,decide_eq_true_eq] at h
 obtain ⟨⟨⟨h1,h2⟩,h3⟩,h4⟩:=h
 have h5:r * (4096 / r)≤4096:=Int.mul_ediv_self_le (by omega)
 have h6:r * c≤r * (4096 / r):=Int.mul_le_mul_of_nonneg_left h4 (by omega)
 have h7:c≤4096:=by have:=Int.ediv_le_self (a:=4096) r (by omega);omega
 have h8:1 * 1≤r * c:=Int.mul_le_mul h1 h2 (by omega) (by omega)
 exact ⟨h1,h2,h3,h7,by omega,by omega⟩
theorem zaW (r c:Int) (w:World) :
  Calls prog 58 #[.int .i64 r,.int .i64 c] w fun e w'=>e = .returned (.bool (zaq r c))∧w=w':=by
 by_cases h1:1≤r
 ·by_cases h2:1≤c
  ·by_cases h3:r≤4096
   ·have e:zaq r c=decide (c≤4096 / r):=by simp [zaq,h1,h2,h3]
    rw [e]
    go_enter func58,ntmps58
    go_wp2
    go_ret
    exact ⟨rfl,rfl⟩
   ·have e:zaq r c=false:=by simp [zaq,h3]
    rw [e]
    go_enter func58,ntmps58
    go_wp2
    go_ret
    exact ⟨rfl,rfl⟩
  ·have e:zaq r c=false:=by simp [zaq,h2]
   rw [e]
   go_enter func58,ntmps58
   go_wp2
   go_ret
   exact ⟨rfl,rfl⟩
 ·have e:zaq r c=false:=by simp [zaq,h1]
  rw [e]
  go_enter func58,ntmps58
  go_wp2
  go_ret
  exact ⟨rfl,rfl⟩
structure ArrIn (w:World) (A:Option Addr) (n cap:Nat) (l:List Val):Prop where
 rd:SlV 0 w A l
 len:l.length=n
 cap:n≤cap
 small:n≤9223372036854775807
 ok:∀ x∈l,x.ok
theorem ArrIn.ext {w w':World} {A:Option Addr} {n cap:Nat} {l:List Val} (h:ArrIn w A n cap l) (hb:Ext w w'):ArrIn w' A n cap l:=⟨h.rd.ext hb,h.len,h.cap,h.small,h.ok⟩
theorem ArrIn.at {w:World} {A:Option Addr} {n cap:Nat} {l:List Val} (h:ArrIn w A n cap l) {k:Nat} (hk:k < n) :
  ∃ x b off,l[k]? = some x∧x.ok∧A=some ⟨b,off,none⟩∧zen w b (off+k * 6) x:=by
 have hl:k < l.length:=by rw [h.len];exact hk
 obtain ⟨b,off,hA,_,hv⟩:=h.rd.at (List.getElem?_eq_getElem hl)
 exact ⟨l[k],b,off,List.getElem?_eq_getElem hl,h.ok _ (List.getElem_mem hl),hA,hv⟩
def zo (r c:Int) (l:List Val):Bool:=zaq r c && decide ((l.length:Int)=r * c) && l.all valRight
theorem zy (r c:Int) (A:Option Addr) (n cap:Nat) (l:List Val) (w:World) (h:ArrIn w A n cap l) :
  Tl prog 18 #[AV r c (.slice A n cap)] w (.bool (zo r c l)):=by
 have hsm:=h.small
 by_cases hf:zaq r c=true
 ·obtain ⟨f1,f2,f3,f4,f5,f6⟩:=zeb hf
  have hw:IntKind.i64.wrap (r * c)=r * c:=by rw [IntKind.wrap_i64];omega
  by_cases hn:(n:Int)=r * c
  ·have e:zo r c l=l.all valRight:=by simp [zo,hf,h.len,hn]
   generalize hR:zo r c l=R at *
   have HR:=Lib.hid e
   clear e hR
   have hn':((n:Int) != r * c)=false:=by simp [hn]
   have HN:=Lib.hid hn
   clear hn
   go_enter func18,ntmps18
   go_wp2_with (go_at_call 58;refine (zaW _ _ _).mono ?_;rintro e w' ⟨rfl,rfl⟩)
   go_loopw [24] (fun i wr=>∃ (k:Nat) (os:Array Obj) (d:Nat),k≤n∧i = .int .i64 k∧wr=more (w.alloc (Obj.cells #[.int .i64 r,.int .i64 c,.slice A n cap] 30)) os d∧Hid (∀ j x,j < k→l[j]? = some x→valRight x=true)) (fun i _=>n - (intOf i).toNat)
   case atStart=>exact ⟨0,#[],_,Nat.zero_le _,rfl,(zbo _).symm,fun j x hj=>absurd hj (Nat.not_lt_zero _)⟩
   case round =>
    obtain ⟨k,os,d,hk,rfl,rfl,H⟩:=hrel
    by_cases hlt:k < n
    ·obtain ⟨x,b,off,hx,hxo,rfl,hv⟩:=h.at hlt
     obtain ⟨v0,v1,v2,v3,v4,v5⟩:=hv
     have hbl:b < w.heap.size:=zg v0
     by_cases hvr:valRight x=true
     ·go_wp2_with (go_at_call 59;refine (zc9 _ _ _ _ _ _ _ hxo.2.1 hxo.2.2.2.1).mono ?_;rintro e w' ⟨rfl,hb⟩;obtain ⟨os',d',rfl⟩:=hb.more)
      refine ⟨⟨k+1,_,_,by omega,by go_num,rfl,?_⟩,by simp [intOf];omega⟩
      intro j y hj hy
      by_cases hjk:j=k
      ·subst hjk
       obtain rfl:x=y:=by rw [hx] at hy;simpa using hy
       exact hvr
      ·exact H.out j y (by omega) hy
     ·have hvr':valRight x=false:=by simpa using hvr
      have hR:R=false:=by
       rw [HR.out]
       exact List.all_eq_false.2 ⟨x,List.mem_of_getElem? hx,hvr⟩
      have HR2:=Lib.hid hR
      clear hR hvr
      go_wp2_with (go_at_call 59;refine (zc9 _ _ _ _ _ _ _ hxo.2.1 hxo.2.2.2.1).mono ?_;rintro e w' ⟨rfl,hb⟩;obtain ⟨os',d',rfl⟩:=hb.more)
      go_ret
      exact ⟨zaK HR2.out.symm,by simp [go_sem]⟩
    ·have hR:R=true:=by
      rw [HR.out]
      refine List.all_eq_true.2 fun x hx=>?_
      obtain ⟨j,hj,rfl⟩:=List.getElem_of_mem hx
      exact H.out j _ (by have:=h.len;omega) (List.getElem?_eq_getElem hj)
     have HR2:=Lib.hid hR
     clear hR
     go_wp2
     go_ret
     exact ⟨zaK HR2.out.symm,by simp [go_sem]⟩
  ·have e:zo r c l=false:=by simp [zo,h.len,hn]
   rw [e];clear e
   have hn':((n:Int) != r * c)=true:=by simp [hn]
   clear hn
   go_enter func18,ntmps18
   go_wp2_with (go_at_call 58;refine (zaW _ _ _).mono ?_;rintro e w' ⟨rfl,rfl⟩)
   go_ret
   exact ⟨rfl,by simp [go_sem]⟩
 ·have e:zo r c l=false:=by simp [zo,hf]
  have hf':zaq r c=false:=by simpa using hf
  rw [e];clear e hf
  go_enter func18,ntmps18
  go_wp2_with (go_at_call 58;refine (zaW _ _ _).mono ?_;rintro e w' ⟨rfl,rfl⟩)
  go_ret
  exact ⟨rfl,by simp [go_sem]⟩
def za4 (r c:Int) (l:List Val):Bool :=
 decide (1≤r) && decide (1≤c) && decide (r≤4096) && decide (c≤4096) && decide (r * c≤4096) && decide ((l.length:Int)=r * c) && l.all refRight
theorem zaA (r c:Int) (l:List Val) (h:∀ x∈l,x.ok):zo r c l=za4 r c l:=by
 have h1:l.all valRight=l.all refRight:=by
  rw [Bool.eq_iff_iff]
  simp only [List.all_eq_true]
  exact ⟨fun k x hx=>by rw [← zhf x (h x hx)];exact k x hx,fun k x hx=>by rw [zhf x (h x hx)];exact k x hx⟩
 unfold zo za4
 rw [h1]
 by_cases hf:zaq r c=true
 ·obtain ⟨f1,f2,f3,f4,f5,f6⟩:=zeb hf
  simp [hf,f1,f2,f3,f4,f6]
 ·have hf':zaq r c=false:=by simpa using hf
  simp only [hf',Bool.false_and]
  by_cases h1:1≤r <;> simp [h1]
  by_cases h2:1≤c <;> simp [h2]
  by_cases h3:r≤4096 <;> simp [h3]
  intro h4 h5
  exfalso
  simp [zaq,h1,h2,h3] at hf'
  have h6:4096 / r+1≤c:=by omega
  have h7:r * (4096 / r+1)≤r * c:=Int.mul_le_mul_of_nonneg_left h6 (by omega)
  have h8:=Int.lt_mul_ediv_self_add (x:=4096) (k:=r) (by omega)
  rw [Int.mul_add] at h7
  omega
theorem zhF {r c:Int} (h1:1≤r) (h2:1≤c) (h3:r≤4096) (h4:c≤4096):IntKind.i64.wrap (r * c)=r * c:=by
 have h5:1 * 1≤r * c:=Int.mul_le_mul h1 h2 (by omega) (by omega)
 have h6:r * c≤4096 * 4096:=Int.mul_le_mul h3 h4 (by omega) (by omega)
 rw [IntKind.wrap_i64];omega
theorem zjv {r c:Int} {n:Nat} {l:List Val} (hl:l.length=n) (h:((((r < 1∨c < 1)∨4096 < r)∨4096 < c)∨4096 < IntKind.i64.wrap (r * c))∨((n:Int) != IntKind.i64.wrap (r * c))=true):za4 r c l=false:=by
 by_cases h1:1≤r
 ·by_cases h2:1≤c
  ·by_cases h3:r≤4096
   ·by_cases h4:c≤4096
    ·rw [zhF h1 h2 h3 h4] at h
     rcases h with (((h | h) | h) | h) | h
     ·omega
     ·omega
     ·omega
     ·have h5:¬ r * c≤4096:=by omega
      simp [za4,h5]
     ·have h5:¬ (l.length:Int)=r * c:=by rw [hl];simpa using h
      simp [za4,h5]
    ·simp [za4,h4]
   ·simp [za4,h3]
  ·simp [za4,h2]
 ·simp [za4,h1]
theorem ziy {r c:Int} {n:Nat} {l:List Val} (hl:l.length=n) (h:((((1≤r∧1≤c)∧r≤4096)∧c≤4096)∧IntKind.i64.wrap (r * c)≤4096)∧((n:Int) != IntKind.i64.wrap (r * c))=false):za4 r c l=l.all refRight:=by
 obtain ⟨⟨⟨⟨⟨h1,h2⟩,h3⟩,h4⟩,h5⟩,h6⟩:=h
 rw [zhF h1 h2 h3 h4] at h5 h6
 have h7:(l.length:Int)=r * c:=by rw [hl];simpa using h6
 simp [za4,h1,h2,h3,h4,h5,h7]
theorem ze (w:World) (os:Array Obj) (d:Nat) (o:Obj):(more w os d).alloc o=more w (os.push o) d:=by
 simp [more,World.alloc]
theorem zU (r c:Int) (A:Option Addr) (n cap:Nat) (l:List Val) (w:World) (h:ArrIn w A n cap l) :
  Tl prog 45 #[AV r c (.slice A n cap)] w (.bool (za4 r c l)):=by
 have hsm:=h.small
 generalize hR:za4 r c l=R
 have HR:=Lib.hid hR
 clear hR
 go_enter func45,ntmps45
 go_upto_region 1 with (fail)
 refine wp_region_lit ?_
 iterate 37 ((first | refine zas rfl rfl rfl rfl rfl ?_ | refine zaC rfl rfl rfl rfl rfl ?_ | (refine zbj (v:=?_) rfl ?_ ?_;rotate_left 1;(go_simp;first | done | rfl)) | (refine za1 (v:=?_) (c:=?_) rfl rfl rfl ?_ (fun hc=>?_) ?_;rotate_left 2;(first | exact zak _ | exact zal _ | exact zQ _ _ | exact zR _ _);((try simp only [zn hc]);(try (have hc1:=zx hc;(try simp only [zn hc1]);(try (have hc2:=zx hc1;(try simp only [zn hc2])))));go_simp;first | done | rfl)));try simp only [zq])
 refine wpList_nil ?_
 try go_simp
 go_wp2
 ·go_ret
  refine ⟨zaK ?_,by simp [go_sem]⟩
  rw [← HR.out]
  symm
  exact zjv h.len (by assumption)
 ·rename_i hgood _ _
  have HR':=Lib.hid (ziy h.len hgood)
  clear hgood
  go_loopw [3] (fun i wr=>∃ (k:Nat) (os:Array Obj) (d:Nat),k≤n∧i = .int .i64 k∧wr=more (w.alloc (Obj.cells #[.int .i64 r,.int .i64 c,.slice A n cap] 30)) os d∧Hid (∀ j x,j < k→l[j]? = some x→refRight x=true)) (fun i _=>n - (intOf i).toNat)
  case atStart=>exact ⟨0,#[],_,Nat.zero_le _,rfl,(zbo _).symm,fun j x hj=>absurd hj (Nat.not_lt_zero _)⟩
  case round =>
   obtain ⟨k,os,d,hk,rfl,rfl,H⟩:=hrel
   by_cases hlt:k < n
   ·obtain ⟨x,b,off,hx,hxo,rfl,hv⟩:=h.at hlt
    obtain ⟨v0,v1,v2,v3,v4,v5⟩:=hv
    have hbl:b < w.heap.size:=zg v0
    by_cases hvr:refRight x=true
    ·go_wp2_with (go_at_call 91;refine (zda _ _ _ _ _ _ _ hxo.2.1 hxo.2.2.2.1).mono ?_;rintro e w' ⟨rfl,hb⟩;obtain ⟨os',d',rfl⟩:=hb.more)
     refine ⟨⟨k+1,_,_,by omega,by go_num,rfl,?_⟩,by simp [intOf];omega⟩
     intro j y hj hy
     by_cases hjk:j=k
     ·subst hjk
      obtain rfl:x=y:=by rw [hx] at hy;simpa using hy
      exact hvr
     ·exact H.out j y (by omega) hy
    ·have hvr':refRight x=false:=by simpa using hvr
     have hR:R=false:=by
      rw [← HR.out,HR'.out]
      exact List.all_eq_false.2 ⟨x,List.mem_of_getElem? hx,hvr⟩
     have HR2:=Lib.hid hR
     clear hR hvr
     go_wp2_with (go_at_call 91;refine (zda _ _ _ _ _ _ _ hxo.2.1 hxo.2.2.2.1).mono ?_;rintro e w' ⟨rfl,hb⟩;obtain ⟨os',d',rfl⟩:=hb.more)
     go_ret
     exact ⟨zaK HR2.out.symm,by simp [go_sem]⟩
   ·have hR:R=true:=by
     rw [← HR.out,HR'.out]
     refine List.all_eq_true.2 fun x hx=>?_
     obtain ⟨j,hj,rfl⟩:=List.getElem_of_mem hx
     exact H.out j _ (by have:=h.len;omega) (List.getElem?_eq_getElem hj)
    have HR2:=Lib.hid hR
    clear hR
    go_wp2
    go_ret
    exact ⟨zaK HR2.out.symm,by simp [go_sem]⟩
theorem zn0 (r c:Int) (A:Option Addr) (n cap:Nat) (l:List Val) (w:World) (h:ArrIn w A n cap l) :
  Calls prog 14 #[AV r c (.slice A n cap)] w fun e w'=>∃ s:Int,e = .returned (.int .i64 s)∧(s=0∨(s=1∧n≤300∧∀ x∈l,x.text.size≤300))∧Ext w w':=by
 have hsm:=h.small
 by_cases hn:300 < n
 ·go_enter func14,ntmps14
  go_wp2
  go_ret
  exact ⟨0,rfl,.inl rfl,by simp [go_sem]⟩
 ·go_enter func14,ntmps14
  go_wp2
  go_loopw [12] (fun i wr=>∃ (k:Nat) (os:Array Obj) (d:Nat),k≤n∧i = .int .i64 k∧wr=more (w.alloc (Obj.cells #[.int .i64 r,.int .i64 c,.slice A n cap] 30)) os d∧Hid (∀ j x,j < k→l[j]? = some x→x.text.size≤300)) (fun i _=>n - (intOf i).toNat)
  case atStart=>exact ⟨0,#[],_,Nat.zero_le _,rfl,(zbo _).symm,fun j x hj=>absurd hj (Nat.not_lt_zero _)⟩
  case round =>
   obtain ⟨k,os,d,hk,rfl,rfl,H⟩:=hrel
   by_cases hlt:k < n
   ·obtain ⟨x,b,off,hx,hxo,rfl,hv⟩:=h.at hlt
    obtain ⟨v0,v1,v2,v3,v4,v5⟩:=hv
    have hbl:b < w.heap.size:=zg v0
    by_cases ht:300 < x.text.size
    ·have hxs:=hxo.2.2.2.1
     go_wp2
     go_ret
     exact ⟨0,rfl,.inl rfl,by simp [go_sem]⟩
    ·go_wp2
     refine ⟨⟨k+1,_,_,by omega,by go_num,ze _ _ _ _,?_⟩,by simp [intOf];omega⟩
     intro j y hj hy
     by_cases hjk:j=k
     ·subst hjk
      obtain rfl:x=y:=by rw [hx] at hy;simpa using hy
      omega
     ·exact H.out j y (by omega) hy
   ·go_wp2
    go_ret
    refine ⟨1,rfl,.inr ⟨rfl,by omega,fun x hx=>?_⟩,by simp [go_sem]⟩
    obtain ⟨j,hj,rfl⟩:=List.getElem_of_mem hx
    exact H.out j _ (by have:=h.len;omega) (List.getElem?_eq_getElem hj)
theorem SlV.one {w:World} {n base:Nat} {k m e:Int} {t:ByteArray} {b:Bool} {f:Int} {ty:TypeId} (hn:n=w.heap.size) (hb:base≤n) :
  SlV base (w.alloc (.cells #[.int .i64 k,.int .i64 m,.int .i64 e,.string t,.bool b,.int .i64 f] ty)) (some ⟨n,0,none⟩) [⟨k,m,e,t,b,f⟩]:=fun j u hu=>by
 refine ⟨n,0,rfl,hb,?_⟩
 rw [World.cell?_alloc_at _ _ _ _ hn,Nat.zero_add,← hu]
 simp only [zm,Val.cells,List.flatMap_cons,List.flatMap_nil,List.append_nil]
 simp
def zdp (base:Nat) (w':World) (e:Ending) (r c:Int) (l:List Val):Prop :=
 ∃ A cap,e = .returned (AV r c (.slice A l.length cap))∧SlV base w' A l∧l.length≤cap
def bad9:Val:=⟨4,0,0,⟨#[]⟩,false,9⟩
def zaX (f:Int):Val:=⟨4,0,0,⟨#[]⟩,false,f⟩
theorem zhG (f:Int) (w:World) :
  Calls prog 44 #[.int .i64 f] w fun e w'=>zdp w.heap.size w' e 1 1 [zaX f]∧Ext w w':=by
 go_enter func44,ntmps44
 go_wp2
 refine bodyPost_ret (v:=AV 1 1 (.slice (some ⟨w.heap.size+1,0,none⟩) 1 1)) (by simp [results,results44,go_sem]) rfl ⟨⟨_,_,rfl,?_,Nat.le_refl _⟩,by simp [go_sem]⟩
 exact SlV.one (by simp) (by simp)
theorem zgc (k m ex f:Int) (t:ByteArray) (b:Bool) (w:World) (hm:I64 m) (ht:t.size≤9223372036854775807) (hr:valRight ⟨k,m,ex,t,b,f⟩=true) :
  Calls prog 24 #[VV k m ex t b f] w fun e w'=>zdp w.heap.size w' e 1 1 [⟨k,m,ex,t,b,f⟩]∧Ext w w':=by
 go_enter func24,ntmps24
 go_wp2_with (go_at_call 59;refine aM (zc9 _ _ _ _ _ _ _ hm ht) fun os d=>?_)
 refine bodyPost_ret (v:=AV 1 1 (.slice (some ⟨w.heap.size+1+1+os.size,0,none⟩) 1 1)) (by simp [results,results24,go_sem]) rfl ⟨⟨_,_,rfl,?_,Nat.le_refl _⟩,by simp [go_sem]⟩
 exact SlV.one (by simp) (by omega)
theorem zmJ (w:World) :
  Calls prog 65 #[] w fun e w'=>zdp w.heap.size w' e 1 1 [bad9]∧Ext w w':=by
 have hb9:zbZ 9=9:=by decide
 have hr:valRight ⟨4,0,0,⟨#[]⟩,false,9⟩=true:=by decide
 have hm0:I64 0:=⟨by omega,by omega⟩
 have ht0:(⟨#[]⟩:ByteArray).size≤9223372036854775807:=by decide
 go_enter func65,ntmps65
 go_wp2_with (first | (go_at_call 57;refine aM (zfb _ _) fun os d=>?_) | (go_at_call 24;refine (zgc 4 0 0 9 ⟨#[]⟩ false _ hm0 ht0 hr).mono ?_;rintro e w' ⟨⟨A,cap,rfl,hs,hcap⟩,hb⟩;obtain ⟨os,d,rfl⟩:=hb.more))
 exact rc1 (v:=AV 1 1 (.slice A 1 cap)) rfl rfl (by simp [go_sem]) ⟨⟨_,_,rfl,(by (try simp only [za] at hs);(try simp only [zc] at hs);(try simp only [zb] at hs);exact hs.sw (by simp <;> omega)),hcap⟩,by simp [go_sem]⟩
theorem zec (f:Int) (h:1≤f∧f≤9):valRight (zaX f)=true:=by
 have hb:zbZ f=f:=by unfold zbZ;rw [if_neg (by omega)]
 simp [valRight,zaX,hb,eqV]
def zmK (x:Val):Val:=if valRight x then x else bad9
theorem zsT (k m ex f:Int) (t:ByteArray) (b:Bool) (w:World) (hm:I64 m) (ht:t.size≤9223372036854775807) :
  Calls prog 24 #[VV k m ex t b f] w fun e w'=>zdp w.heap.size w' e 1 1 [zmK ⟨k,m,ex,t,b,f⟩]∧Ext w w':=by
 by_cases hr:valRight ⟨k,m,ex,t,b,f⟩=true
 ·simpa [zmK,hr] using zgc k m ex f t b w hm ht hr
 ·have e:zmK ⟨k,m,ex,t,b,f⟩=bad9:=by simp [zmK,hr]
  have hr':valRight ⟨k,m,ex,t,b,f⟩=false:=by simpa using hr
  rw [e];clear e hr
  go_enter func24,ntmps24
  go_wp2_with (first | (go_at_call 59;refine aM (zc9 _ _ _ _ _ _ _ hm ht) fun os d=>?_) | (go_at_call 65;refine (zmJ _).mono ?_;rintro e w' ⟨⟨A,cap,rfl,hs,hcap⟩,hb⟩;obtain ⟨os,d,rfl⟩:=hb.more))
  exact rc1 (v:=AV 1 1 (.slice A 1 cap)) rfl rfl (by simp [go_sem]) ⟨⟨_,_,rfl,(by (try simp only [za] at hs);(try simp only [zc] at hs);(try simp only [zb] at hs);exact hs.sw (by simp <;> omega)),hcap⟩,by simp [go_sem]⟩
def zd0 (x:Val):Val:=if refRight x then x else bad9
theorem zmL (k m ex f:Int) (t:ByteArray) (b:Bool) (w:World) (hm:I64 m) (ht:t.size≤9223372036854775807) :
  Calls prog 46 #[VV k m ex t b f] w fun e w'=>zdp w.heap.size w' e 1 1 [zd0 ⟨k,m,ex,t,b,f⟩]∧Ext w w':=by
 by_cases hr:refRight ⟨k,m,ex,t,b,f⟩=true
 ·have e:zd0 ⟨k,m,ex,t,b,f⟩=⟨k,m,ex,t,b,f⟩:=by simp [zd0,hr]
  rw [e];clear e
  go_enter func46,ntmps46
  go_wp2_with (go_at_call 91;refine aM (zda _ _ _ _ _ _ _ hm ht) fun os d=>?_)
  refine bodyPost_ret (v:=AV 1 1 (.slice (some ⟨w.heap.size+1+1+os.size,0,none⟩) 1 1)) (by simp [results,results46,go_sem]) rfl ⟨⟨_,_,rfl,?_,Nat.le_refl _⟩,by simp [go_sem]⟩
  exact SlV.one (by simp) (by omega)
 ·have e:zd0 ⟨k,m,ex,t,b,f⟩=bad9:=by simp [zd0,hr]
  have hr':refRight ⟨k,m,ex,t,b,f⟩=false:=by simpa using hr
  rw [e];clear e hr
  go_enter func46,ntmps46
  go_wp2_with (first | (go_at_call 91;refine aM (zda _ _ _ _ _ _ _ hm ht) fun os d=>?_) | (go_at_call 44;refine (zhG _ _).mono ?_;rintro e w' ⟨⟨A,cap,rfl,hs,hcap⟩,hb⟩;obtain ⟨os,d,rfl⟩:=hb.more))
  exact rc1 (v:=AV 1 1 (.slice A 1 cap)) rfl rfl (by simp [go_sem]) ⟨⟨_,_,rfl,(by (try simp only [za] at hs);(try simp only [zc] at hs);(try simp only [zb] at hs);exact hs.sw (by simp <;> omega)),hcap⟩,by simp [go_sem]⟩
end Go.Proofs.YtkoidgbgoccgmaaGreatDoor
namespace Go.Proofs.YtkoidgbgoccgmaaGreatDoor
open Tryz
open Go.RowKit NM
def tnP (v:Val):Int×Int:=if v.kind=1 then (v.mant,v.exp) else if v.kind=2 then (zcJ v.text).getD (0,0) else if v.kind=3∧v.truth=true then (1,0) else (0,0)
def tnF (v:Val):Int:=if v.kind=2 then (if (zcJ v.text).isSome then 0 else 2) else if v.kind=4 then v.fault else 0
def zeX (f:Int):Val:=zaX (zbZ f)
def zed (b:Bool):Val:=⟨3,0,0,⟨#[]⟩,b,0⟩
def Val.right (x:Val):Prop:=valRight x=true
theorem zbT {m e:Int} (h:Rt m e):Val.right ⟨1,m,e,⟨#[]⟩,false,0⟩:=by
 unfold Val.right valRight
 rw [if_neg (show ¬ (1:Int)=0 by decide),if_pos rfl,Bool.and_eq_true]
 exact ⟨by rw [zck];exact decide_eq_true h,decide_eq_true rfl⟩
theorem zl6 (f:Int):1≤zbZ f∧zbZ f≤9:=by unfold zbZ;split <;> omega
theorem zn1 (f:Int):(zeX f).right:=zec _ (zl6 f)
theorem Val.right.rt {x:Val} (h:x.right) (h1:x.kind=1):Rt x.mant x.exp:=by
 have:=(zeW h).2.1 h1
 rw [zck] at this
 exact of_decide_eq_true this
theorem Val.right.form {x:Val} (h:x.right):x=Val.only 0∨(∃ m e,x=⟨1,m,e,⟨#[]⟩,false,0⟩∧Rt m e)∨(∃ t,x=⟨2,0,0,t,false,0⟩∧t.size≤255)∨(∃ b,x=zed b)∨(∃ f,x=zaX f∧1≤f∧f≤9):=by
 have hc:=zeW h
 unfold Val.right valRight at h
 by_cases h0:x.kind=0
 ·exact Or.inl (hc.1.2 h0)
 ·rw [if_neg h0] at h
  by_cases h1:x.kind=1
  ·rw [if_pos h1,Bool.and_eq_true,zck] at h
   exact Or.inr (Or.inl ⟨x.mant,x.exp,of_decide_eq_true h.2,of_decide_eq_true h.1⟩)
  ·rw [if_neg h1] at h
   by_cases h2:x.kind=2
   ·rw [if_pos h2] at h
    have h3:=hc.2.2.1 h2
    refine Or.inr (Or.inr (Or.inl ⟨x.text,?_,h3⟩))
    have:=of_decide_eq_true h
    unfold zcO at this
    rw [if_neg (by omega)] at this
    exact this
   ·rw [if_neg h2] at h
    by_cases h3:x.kind=3
    ·rw [if_pos h3] at h
     exact Or.inr (Or.inr (Or.inr (Or.inl ⟨x.truth,of_decide_eq_true h⟩)))
    ·rw [if_neg h3] at h
     by_cases h4:x.kind=4
     ·rw [if_pos h4] at h
      have hf:=hc.2.2.2 h4
      refine Or.inr (Or.inr (Or.inr (Or.inr ⟨x.fault,?_,hf⟩)))
      have:=of_decide_eq_true h
      rw [show zbZ x.fault=x.fault by unfold zbZ;rw [if_neg (by omega)]] at this
      exact this
     ·rw [if_neg h4] at h;cases h
theorem zcZ {n:Int} (h : -1000≤n∧n≤1000):I64 n:=by unfold I64;omega
theorem Val.right.ok {x:Val} (h:x.right):x.ok:=by
 have z:I64 0:=zcZ (by decide)
 have s0:(0:Nat)≤9223372036854775807:=Nat.zero_le _
 rcases h.form with rfl | ⟨m,e,rfl,hr⟩ | ⟨t,rfl,ht⟩ | ⟨b,rfl⟩ | ⟨f,rfl,hf⟩
 ·exact ⟨z,z,z,s0,z⟩
 ·obtain ⟨r1,r2⟩:=zct hr
  exact ⟨zcZ (n:=1) (by decide),r1,r2,s0,z⟩
 ·exact ⟨zcZ (n:=2) (by decide),z,z,Nat.le_trans ht (by decide),z⟩
 ·exact ⟨zcZ (n:=3) (by decide),z,z,s0,z⟩
 ·exact ⟨zcZ (n:=4) (by decide),z,z,s0,zcZ (n:=f) (by omega)⟩
theorem zfc:Rt 0 0:=Or.inl ⟨rfl,rfl⟩
theorem zrJ {s:ByteArray} {p:Int×Int} (h:zcJ s=some p):Rt p.1 p.2:=by
 unfold zcJ at h
 by_cases hl:255 < s.size
 ·rw [if_pos hl] at h;cases h
 ·rw [if_neg hl] at h
  unfold zgb at h
  cases hr:zaS (bl s) st0 with
  | none=>rw [hr] at h;cases h
  | some S =>
   rw [hr,Option.bind_some] at h
   unfold zbg at h
   split at h
   ·exact rnd_right h
   ·cases h
theorem zgG {x:Val} (h:x.right):Rt (tnP x).1 (tnP x).2:=by
 rcases h.form with rfl | ⟨m,e,rfl,hr⟩ | ⟨t,rfl,ht⟩ | ⟨b,rfl⟩ | ⟨f,rfl,hf⟩
 ·exact zfc
 ·exact hr
 ·show Rt ((zcJ t).getD (0,0)).1 ((zcJ t).getD (0,0)).2
  cases hp:zcJ t with
  | none=>exact zfc
  | some p=>exact zrJ hp
 ·cases b
  ·exact zfc
  ·exact zc7
 ·exact zfc
theorem zdq {a b c d:Int} {p:Int×Int} (h:addS a b c d=some p):Rt p.1 p.2:=by
 unfold addS at h
 split at h
 ·exact rnd_right h
 ·cases h
end Go.Proofs.YtkoidgbgoccgmaaGreatDoor
namespace Go.Proofs.YtkoidgbgoccgmaaGreatDoor
open Tryz
open Go.Maps Go.RowKit Go.WideMaps
def zkg (v:Value):Option (DataW Value×List MemPlace):=some (.held v,[])
abbrev Tab1:=List (List UInt8×Value)
def ziz (D:DataW Value) (L:Tab1):DataW Value:=L.foldl (fun D p=>D.put (.string p.1) (.held p.2)) D
def zdb (L:Tab1):DataW Value:=ziz (.map []) L
def zbU (L:Tab1) (s:List UInt8):Option Value:=(L.find? fun p=>p.1 == s).map (·.2)
theorem zmM (k:List UInt8) (v:Value) (L:Tab1) (s:List UInt8):zbU ((k,v)::L) s=if k=s then some v else zbU L s:=by
 unfold zbU
 by_cases h:k=s
 ·rw [if_pos h,List.find?_cons_of_pos (by simpa using h)];rfl
 ·rw [if_neg h,List.find?_cons_of_neg (by simpa using h)]
theorem zhH {L:Tab1} {s:List UInt8} (h:∀ p∈L,p.1≠s):zbU L s=none:=by
 unfold zbU
 rw [List.find?_eq_none.2 (fun p hp=>by simpa using h p hp)];rfl
theorem zl7:∀ (L:Tab1) (D:DataW Value),IsMap D→L.Pairwise (fun p q=>p.1≠q.1)→∀ (s:List UInt8) (z:DataW Value),
  (ziz D L).atKey (.string s) z=((zbU L s).map (fun v=>DataW.held v)).getD (D.atKey (.string s) z)∧Maps.has (ziz D L) (.string s)=((zbU L s).isSome || Maps.has D (.string s))
 | [],D,_,_,s,z=>⟨rfl,rfl⟩
 | (k,v)::L,D,hD,hp,s,z=>by
  obtain ⟨h1,h2⟩:=List.pairwise_cons.1 hp
  have ih:=zl7 L (D.put (.string k) (.held v)) (hD.put _ _) h2 s z
  have e:ziz D ((k,v)::L)=ziz (D.put (.string k) (.held v)) L:=rfl
  rw [e,ih.1,ih.2,zmM]
  by_cases h:k=s
  ·subst h
   rw [if_pos rfl,zhH (fun p hp=>(h1 p hp).symm)]
   have hkl:WideAt.IsKeyLit (Lit.string k):=trivial
   exact ⟨atKey_put_same hD hkl _ _,by rw [has_put_same hD hkl];rfl⟩
  ·have hne:Lit.string s≠Lit.string k:=fun e=>h (by injection e with e;exact e.symm)
   rw [if_neg h,atKey_put_other hne,has_put_other hne]
   exact ⟨rfl,rfl⟩
theorem zrK (L:Tab1) (hp:L.Pairwise (fun p q=>p.1≠q.1)) (s:List UInt8) (z:Value):(zdb L).atKey (.string s) (.held z) = .held ((zbU L s).getD z)∧Maps.has (zdb L) (.string s)=(zbU L s).isSome:=by
 have h:=zl7 L (.map []) isMap_empty hp s (.held z)
 unfold zdb
 refine ⟨h.1.trans ?_,h.2.trans (by rw [show Maps.has (.map []:DataW Value) (.string s)=false from rfl,Bool.or_false])⟩
 cases zbU L s <;> rfl
def zdr (P:Program) (k:TypeId) (L:Tab1) (b:Nat) (w:World):Prop:=w.ownsMap P k zkg b L.length (zdb L)
theorem zdr.ext {P:Program} {k:TypeId} {L:Tab1} {b:Nat} {w w':World} (h:zdr P k L b w) (hx:Ext w w'):zdr P k L b w' :=
 World.ownsMap.kept (row:=none) h ⟨hx.os,hx.tape,hx.output,hx.size,fun i hi _=>hx.block hi⟩ (by simp)
theorem zq8 {P:Program} {k t e:TypeId} {L:Tab1} {b:Nat} {w:World} (h:zdr P k L b w) (hk:P.underlying k=some .string) (ht:P.underlying t=some (.map k e)) (hp:L.Pairwise (fun p q=>p.1≠q.1)) {z:Value} (hz:(zeroValue e).run P w = .ok z w) (s:ByteArray) (hs:s.size≤maxLen) :
  (Instr.lookup t (.map (some b)) (.string s) true).run P w = .ok (.tuple #[(zbU L s.data.toList).getD z,.bool (zbU L s.data.toList).isSome]) w:=by
 obtain ⟨v,ps,h1,h2⟩:=World.ownsMap.look_ok h (string_keyed hk) ht hz (zd:=.held z) (zp:=[]) rfl (keyOf_string_mk hk hs)
 obtain ⟨e1,e2⟩:=zrK L hp s.data.toList z
 rw [e1] at h2
 rw [e2] at h1
 unfold zkg at h2
 simp only [Option.some.injEq,Prod.mk.injEq,DataW.held.injEq] at h2
 rw [h1,h2.1]
theorem zpI (w:World) (P:Program) (k:TypeId):zdr P k [] w.heap.size (w.alloc (.map #[] 0)):=World.ownsMap_made w P k zkg
theorem zq9 {P:Program} {k t e:TypeId} {L:Tab1} {b:Nat} {w:World} (h:zdr P k L b w) (hk:P.underlying k=some .string) (ht:P.underlying t=some (.map k e)) (hn:L.length < maxLen) (s:ByteArray) (hs:s.size≤maxLen) (v:Value) :
  ∃ w',(Instr.mapUpdate t (.map (some b)) (.string s) v).run P w = .ok () w'∧zdr P k (L++[(s.data.toList,v)]) b w'∧w.grownBy w' (some b):=by
 obtain ⟨w',h1,h2,h3⟩:=World.ownsMap.update h (string_keyed hk) ht hn (keyOf_string_mk hk hs) (show zkg v=some (.held v,[]) from rfl)
 refine ⟨w',h1,?_,h3⟩
 unfold zdr
 rw [List.length_append]
 have:zdb (L++[(s.data.toList,v)])=(zdb L).put (.string s.data.toList) (.held v):=by unfold zdb ziz;rw [List.foldl_append];rfl
 rw [this];exact h2
theorem zmN {P:Program} {w:World} {ops:Array Oper} {rest:List Oper} {o:Oper} {a:Act} {Q:Exit→Act→World→Prop} (hg:o.guard=none) (m x v:Operand) (t:TypeId) (hop:o.op=Op.insert t m x v)
  (k e:TypeId) (hk:P.underlying k=some .string) (ht:P.underlying t=some (.map k e)) (L:Tab1) (b:Nat) (hm:a.eval m = .map (some b)) (h:zdr P k L b w) (hn:L.length < maxLen) (s:ByteArray) (hx:a.eval x = .string s) (hs:s.size≤maxLen) (val:Value) (hv:a.eval v=val)
  (hK:∀ w',zdr P k (L++[(s.data.toList,val)]) b w'→w.grownBy w' (some b)→wpList P ops Q rest (a.put o.dst undef) w'):wpList P ops Q (o::rest) a w:=by
 refine wpList_plain hg fun K' hK'=>?_
 obtain ⟨w',hrun,r1,r2⟩:=zq9 h hk ht hn s hs val
 unfold Oper.wp
 simp [execOp,hop,hm,hx,hv,hrun,Result.andThen]
 exact hK' _ _ (hK w' r1 r2)
structure TabS (P:Program) (k:TypeId) (w0:World) (b:Nat) (L:Tab1) (B:List (Nat×Obj)) (W:World):Prop where
 tab:zdr P k L b W
 ext:Ext w0 W
 hb:w0.heap.size≤b
 box:∀ p∈B,w0.heap.size≤p.1∧p.1≠b∧W.heap[p.1]? = some p.2
section
variable {P:Program} {k:TypeId} {w0:World} {b:Nat} {L:Tab1} {B:List (Nat×Obj)} {W W':World}
theorem TabS.lt (h:TabS P k w0 b L B W):b < W.heap.size:=World.ownsMap.lt h.tab
theorem TabS.put {L':Tab1} (h:TabS P k w0 b L B W) (ht:zdr P k L' b W') (hg:W.grownBy W' (some b)):TabS P k w0 b L' B W':=by
 have hbl:∀ i,i < W.heap.size→i≠b→W'.heap[i]? = W.heap[i]?:=fun i hi hne=>hg.block i hi (fun e=>hne (Option.some.inj e))
 refine ⟨ht,⟨hg.os.trans h.ext.os,hg.tape.trans h.ext.tape,hg.output.trans h.ext.output,Nat.le_trans h.ext.size hg.size,fun i hi=>?_⟩,h.hb,fun p hp=>?_⟩
 ·rw [hbl i (Nat.lt_of_lt_of_le hi h.ext.size) (by have:=h.hb;omega)];exact h.ext.block hi
 ·obtain ⟨h0,h1,h2⟩:=h.box p hp
  refine ⟨h0,h1,?_⟩
  rw [hbl _ ?_ h1];exact h2
  rcases Nat.lt_or_ge p.1 W.heap.size with hl | hl
  ·exact hl
  ·rw [Array.getElem?_eq_none hl] at h2;cases h2
theorem TabS.later (h:TabS P k w0 b L B W) (hx:Ext W W'):TabS P k w0 b L B W':=by
 refine ⟨h.tab.ext hx,h.ext.trans hx,h.hb,fun p hp=>?_⟩
 obtain ⟨h0,h1,h2⟩:=h.box p hp
 refine ⟨h0,h1,?_⟩
 rw [hx.block ?_];exact h2
 rcases Nat.lt_or_ge p.1 W.heap.size with hl | hl
 ·exact hl
 ·rw [Array.getElem?_eq_none hl] at h2;cases h2
theorem TabS.new (h:TabS P k w0 b L B W) {o:Obj} (hx:Ext W W') (ho:W'.heap[W.heap.size]? = some o):TabS P k w0 b L (B++[(W.heap.size,o)]) W':=by
 have h':=h.later hx
 refine ⟨h'.tab,h'.ext,h.hb,fun p hp=>?_⟩
 rcases List.mem_append.1 hp with hp | hp
 ·exact h'.box p hp
 ·obtain rfl:=List.mem_singleton.1 hp
  exact ⟨h.ext.size,by have:=h.lt;show W.heap.size≠b;omega,ho⟩
theorem TabS.start (w:World) (P:Program) (k:TypeId):TabS P k w w.heap.size [] [] (w.alloc (.map #[] 0)) :=
 ⟨zpI w P k,(Ext.refl _).alloc _,Nat.le_refl _,fun p hp=>by cases hp⟩
end
end Go.Proofs.YtkoidgbgoccgmaaGreatDoor
namespace Go.Proofs.YtkoidgbgoccgmaaGreatDoor
open Tryz
open Go.RowKit
structure ArrN (base:Nat) (w:World) (A:Option Addr) (n cap:Nat) (l:List Val):Prop where
 rd:SlV base w A l
 len:l.length=n
 cap:n≤cap
 small:n≤9223372036854775807
 ok:∀ x∈l,x.ok
theorem ArrN.arr {base:Nat} {w:World} {A:Option Addr} {n cap:Nat} {l:List Val} (h:ArrN base w A n cap l):ArrIn w A n cap l:=⟨Rd.mono h.rd (Nat.zero_le _),h.len,h.cap,h.small,h.ok⟩
abbrev fn0 (fid:FuncId):Value:=.func (.func fid) #[] #[]
abbrev fn1 (fid:FuncId) (p:Nat):Value:=.func (.func fid) #[] #[.pointer (some ⟨p,0,none⟩)]
theorem zfr {P:Program} {w:World} {ops:Array Oper} {rest:List Oper} {o:Oper} {a:Act} {Q:Exit→Act→World→Prop} (hg:o.guard=none) (m x:Operand) (t:TypeId) (hop:o.op=Op.lookup t m x true)
  (k e:TypeId) (hk:P.underlying k=some .string) (ht:P.underlying t=some (.map k e)) (L:Tab1) (b:Nat) (hm:a.eval m = .map (some b)) (h:zdr P k L b w) (hp:L.Pairwise (fun p q=>p.1≠q.1)) (z:Value) (hz:(zeroValue e).run P w = .ok z w) (s:ByteArray) (hx:a.eval x = .string s) (hs:s.size≤maxLen)
  (v:Value) (ok:Bool) (hv:(zbU L s.data.toList).getD z=v) (hok:(zbU L s.data.toList).isSome=ok) (hK:wpList P ops Q rest (a.put o.dst (.tuple #[v,.bool ok])) w):wpList P ops Q (o::rest) a w:=by
 refine wpList_plain hg fun K' hK'=>?_
 have hrun:=zq8 h hk ht hp hz s hs
 rw [hv,hok] at hrun
 unfold Oper.wp
 simp [execOp,hop,hm,hx,hrun,Result.andThen]
 exact hK' _ _ hK
theorem zra (k1 m1 e1 f1 k2 m2 e2 f2:Int) (t1 t2:ByteArray) (b1 b2:Bool) (w:World):(binOp .neq 37 (VV k1 m1 e1 t1 b1 f1) (VV k2 m2 e2 t2 b2 f2)).run prog w = .ok (.bool (!eqV ⟨k1,m1,e1,t1,b1,f1⟩ ⟨k2,m2,e2,t2,b2,f2⟩)) w:=by
 have ht:(t1.toList=t2.toList)↔t1=t2:=⟨fun h=>by
  cases t1;cases t2
  rename_i a b
  have:a.toList=b.toList:=by simpa [ByteArray.toList_eq] using h
  simpa using this,fun h=>by rw [h]⟩
 simp only [VV,eqV]
 simp [go_sem,ht]
 by_cases h1:k1=k2 <;> simp [h1]
 by_cases h2:m1=m2 <;> simp [h2]
 by_cases h3:e1=e2 <;> simp [h3]
 by_cases h4:t1=t2 <;> simp [h4]
 by_cases h5:b1=b2 <;> simp [h5]
 by_cases h6:f1=f2 <;> simp [h6]
def zfs (k:Nat) (l l':List Val):Prop:=∀ j x y,j < k→l[j]? = some x→l'[j]? = some y→x=y
theorem zn2 {n:Nat} {l l':List Val} (h1:l.length=n) (h2:l'.length=n) (h:zfs n l l'):l=l':=by
 apply List.ext_getElem?
 intro i
 by_cases hi:i < n
 ·have:=h i l[i] l'[i] hi (List.getElem?_eq_getElem _) (List.getElem?_eq_getElem _)
  rw [List.getElem?_eq_getElem (by omega),List.getElem?_eq_getElem (by omega),this]
 ·rw [List.getElem?_eq_none (by omega),List.getElem?_eq_none (by omega)]
theorem zmO {k:Nat} {l l':List Val} {x:Val} (h:zfs k l l') (hx:l[k]? = some x) (hy:l'[k]? = some x):zfs (k+1) l l':=by
 intro j a b hj ha hb
 by_cases hjk:j=k
 ·subst hjk
  rw [hx] at ha;rw [hy] at hb
  simp_all
 ·exact h j a b (by omega) ha hb
def zdy (r c:Int) (l:List Val) (r' c':Int) (l':List Val):Bool:=r == r' && c == c' && decide (l=l')
theorem zgU (r c r' c':Int) (A B:Option Addr) (n cap n' cap':Nat) (l l':List Val) (w:World) (h:ArrIn w A n cap l) (h':ArrIn w B n' cap' l') :
  Tl prog 16 #[AV r c (.slice A n cap),AV r' c' (.slice B n' cap')] w (.bool (zdy r c l r' c' l')):=by
 have hsm:=h.small
 have hsm':=h'.small
 generalize hR:zdy r c l r' c' l'=R
 have HR:=Lib.hid hR
 clear hR
 have hneq:=zra
 go_enter func16,ntmps16
 go_upto_region 1 with (fail)
 refine wp_region_lit ?_
 iterate 21 ((first | refine zas rfl rfl rfl rfl rfl ?_ | refine zaC rfl rfl rfl rfl rfl ?_ | (refine zbj (v:=?_) rfl ?_ ?_;rotate_left 1;(go_simp;first | done | rfl)) | (refine za1 (v:=?_) (c:=?_) rfl rfl rfl ?_ (fun hc=>?_) ?_;rotate_left 2;(first | exact zak _ | exact zal _ | exact zQ _ _ | exact zR _ _);((try simp only [zn hc]);(try (have hc1:=zx hc;(try simp only [zn hc1]);(try (have hc2:=zx hc1;(try simp only [zn hc2])))));go_simp;first | done | rfl)));try simp only [zq])
 refine wpList_nil ?_
 try go_simp
 go_wp2
 ·rename_i hbad
  go_ret
  refine ⟨zaK ?_,by simp [go_sem]⟩
  rw [← HR.out]
  symm
  simp only [bne_iff_ne,ne_eq] at hbad
  rcases hbad with (hb | hb) | hb
  ·simp [zdy,hb]
  ·simp [zdy,hb]
  ·have:¬ l=l':=by rintro rfl;exact hb (by rw [← h.len,← h'.len])
   simp [zdy,this]
 ·rename_i hgood _ _
  simp only [bne_eq_false_iff_eq] at hgood
  obtain ⟨⟨g1,g2⟩,g3⟩:=hgood
  obtain rfl:n=n':=by omega
  have HR':Hid (R=decide (l=l')):=by show _=_;rw [← HR.out,g1,g2];simp [zdy]
  clear g1 g2 g3
  go_loopw [5] (fun i wr=>∃ k:Nat,k≤n∧i = .int .i64 k∧Ext ((w.alloc (Obj.cells #[.int .i64 r,.int .i64 c,.slice A n cap] 30)).alloc (Obj.cells #[.int .i64 r',.int .i64 c',.slice B n cap'] 30)) wr∧Hid (zfs k l l')) (fun i _=>n - (intOf i).toNat)
  case atStart=>exact ⟨0,Nat.zero_le _,rfl,Ext.refl _,fun j x y hj=>absurd hj (Nat.not_lt_zero _)⟩
  case round =>
   obtain ⟨k,hk,rfl,hX,H⟩:=hrel
   obtain ⟨os,d,rfl⟩:=hX.more
   by_cases hlt:k < n
   ·obtain ⟨x,b,off,hx,hxo,rfl,hv⟩:=h.at hlt;obtain ⟨v0,v1,v2,v3,v4,v5⟩:=hv;have hbl:b < w.heap.size:=zg v0
    obtain ⟨y,b',off',hy,hyo,rfl,hv'⟩:=h'.at hlt;obtain ⟨u0,u1,u2,u3,u4,u5⟩:=hv';have hbl':b' < w.heap.size:=zg u0
    by_cases hxy:eqV x y=true
    ·go_wp2
     refine plP [(0,0),(1,0),(2,0),(3,0),(4,0),(5,0),(6,0),(7,0),(8,0),(9,0),(10,0)] [] (by kernel_rfl) (fun _ _ d _ _ h=>by cases d <;> exact h) ?_
     iterate 11 (apply rdP rfl rfl;(intros;go_simp;first | done | rfl);try simp only [zq])
     refine zj ?_
     go_wp2
     refine ⟨⟨k+1,by omega,by go_num,by simp [go_sem],?_⟩,by simp [intOf];omega⟩
     obtain rfl:x=y:=by simpa [eqV] using hxy
     exact zmO H.out hx hy
    ·have hxy':eqV x y=false:=by simpa using hxy
     have hR:R=false:=by
      rw [HR'.out]
      simp only [decide_eq_false_iff_not]
      rintro rfl
      rw [hx] at hy
      simp [eqV] at hxy
      exact hxy (by simpa using hy)
     have HR2:=Lib.hid hR
     clear hR hxy
     go_wp2
     refine plP [(0,0),(1,0),(2,0),(3,0),(4,0),(5,0),(6,0),(7,0),(8,0),(9,0),(10,0)] [] (by kernel_rfl) (fun _ _ d _ _ h=>by cases d <;> exact h) ?_
     iterate 11 (apply rdP rfl rfl;(intros;go_simp;first | done | rfl);try simp only [zq])
     refine zj ?_
     go_wp2
     go_ret
     exact ⟨zaK HR2.out.symm,by simp [go_sem]⟩
   ·have hR:R=true:=by
     rw [HR'.out]
     simp only [decide_eq_true_eq]
     obtain rfl:k=n:=by omega
     exact zn2 h.len h'.len H.out
    have HR2:=Lib.hid hR
    clear hR
    go_wp2
    go_ret
    exact ⟨zaK HR2.out.symm,by simp [go_sem]⟩
theorem zaY:(Tryz.prog.info? 37).map (fun i=>(i.zero,i.size,i.bytes))=some (some (VV 0 0 0 ⟨#[]⟩ false 0),6,56):=by kernel_rfl
theorem zgd (A:Option Addr) (n cap:Nat) (l:List Val) (w:World) (h:ArrIn w A n cap l) (hn:0 < n) (hn':n≤65536) :
  Calls prog 37 #[.slice A n cap] w fun e w'=>∃ A' c',e = .returned (.slice A' n c')∧SlV w.heap.size w' A' l∧n≤c'∧Ext w w':=by
 obtain ⟨i0,hi,hz0,hz1,hz2⟩:=info_parts zaY
 obtain ⟨x,b,off,hx,hxo,rfl,hv⟩:=h.at hn
 have hnil:=fun (w:World) (a:Option Addr) (n c n' c':Nat)=>Lib.run_eql_slice_nil (P:=prog) w 28 37 a n c n' c' Tryz.underlying28
 have hvl:(zm l).length=n * 6:=by rw [zaU,h.len]
 have HV:=Lib.hid hvl
 clear hvl
 go_enter func37,ntmps37
 go_wp2_with (at_builtin;refine zbp _ rfl _ _ _ rfl 37 i0 (VV 0 0 0 ⟨#[]⟩ false 0) 6 56 Tryz.underlying28 hi hz0 hz1 hz2 rfl (by decide) w.heap.size _ 0 [] rfl (fun _=>rfl) rfl (Rd.nil _ _ _) (by simp) (some ⟨b,off,none⟩) n cap (zm l) rfl HV.out (Rd.ext h.rd (by simp [go_sem])) zbB (by simp [maxLen];omega) (by omega) ?_;intro A' c' os d hr _ hc')
 go_ret
 exact ⟨A',c',rfl,(by simp only [List.nil_append] at hr;exact hr),by omega,by simp [go_sem]⟩
structure Keep (s0:Nat) (W W':World):Prop where
 os:W'.os=W.os
 tape:W'.tape=W.tape
 output:W'.output=W.output
 size:W.heap.size≤W'.heap.size
 block:∀ b,b < W.heap.size→b≠s0→b≠s0+1→b≠s0+1+1→W'.heap[b]? = W.heap[b]?
structure Leaves (s0:Nat) (W W':World):Prop where
 size:W.heap.size≤W'.heap.size
 b0:W'.heap[s0]? = W.heap[s0]?
 b1:W'.heap[s0+1]? = W.heap[s0+1]?
 b2:W'.heap[s0+1+1]? = W.heap[s0+1+1]?
theorem Keep.refl (s0:Nat) (W:World):Keep s0 W W:=⟨rfl,rfl,rfl,Nat.le_refl _,fun _ _ _ _ _=>rfl⟩
theorem Keep.trans {s0:Nat} {a b c:World} (h:Keep s0 a b) (k:Keep s0 b c):Keep s0 a c :=
 ⟨k.os.trans h.os,k.tape.trans h.tape,k.output.trans h.output,Nat.le_trans h.size k.size,fun i hi h0 h1 h2=>(k.block i (Nat.lt_of_lt_of_le hi h.size) h0 h1 h2).trans (h.block i hi h0 h1 h2)⟩
theorem Keep.of_ext {s0:Nat} {a b:World} (h:Ext a b):Keep s0 a b:=⟨h.os,h.tape,h.output,h.size,fun _ hi _ _ _=>h.block hi⟩
theorem Keep.of_grown {s0:Nat} {a b:World} (h:a.grownBy b (some (s0+1))):Keep s0 a b:=⟨h.os,h.tape,h.output,h.size,fun i hi _ h1 _=>h.block i hi (fun e=>h1 (by simpa using e))⟩
theorem Keep.of_set {s0:Nat} (a:World) {p:Addr} (v:Value) (hp:p.block=s0∨p.block=s0+1∨p.block=s0+1+1):Keep s0 a (a.setCell p v) :=
 ⟨rfl,rfl,rfl,by simp [World.setCell],fun i hi h0 h1 h2=>Below.heap_setCell _ _ _ _ (by omega)⟩
theorem Keep.drew {s0:Nat} {a b:World} (h:Keep s0 a b):Keep s0 a b.drew:=⟨h.os,h.tape,h.output,h.size,h.block⟩
theorem Leaves.of_ext {s0:Nat} {a b:World} (h:Ext a b) (hs:s0+3≤a.heap.size):Leaves s0 a b:=⟨h.size,h.block (by omega),h.block (by omega),h.block (by omega)⟩
structure BSt (s0 R C N k:Nat) (l:List Val) (wr:World):Prop where
 size:s0+3≤wr.heap.size
 b0:wr.heap[s0]? = some (.cells #[.int .i64 0,.int .i64 0,.slice none 0 0] 30)
 b2:wr.heap[s0+1+1]? = some (.cells #[.int .i64 R,.int .i64 C,.slice (some ⟨s0+1,0,none⟩) k N] 30)
 own:wr.ownsRow (s0+1) 37 6 (.slice (some ⟨s0+1,0,none⟩) k N) k (zm l)
def zC (g:Nat→Nat→Val) (C k:Nat):List Val:=(List.range k).map fun t=>g (t / C) (t % C)
theorem zbd (g:Nat→Nat→Val) (C i j:Nat) (hj:j < C):zC g C (i * C+j+1)=zC g C (i * C+j)++[g i j]:=by
 unfold zC
 rw [List.range_succ,List.map_append]
 have h1:(i * C+j) / C=i:=by rw [Nat.add_comm,Nat.add_mul_div_right _ _ (by omega),Nat.div_eq_of_lt hj];omega
 have h2:(i * C+j) % C=j:=by rw [Nat.add_comm,Nat.add_mul_mod_self_right,Nat.mod_eq_of_lt hj]
 simp [h1,h2]
theorem za7 (g:Nat→Nat→Val) (C k:Nat):(zC g C k).length=k:=by simp [zC]
theorem BSt.step {s0 R C N k:Nat} {l:List Val} {x:Val} {wr w1 w3:World} {ty:TypeId} (h:BSt s0 R C N k l wr) (hl:Leaves s0 wr w1) (hg:(w1.alloc (.cells x.cells.toArray ty)).grownBy w3 (some (s0+1)))
  (ho:w3.ownsRow (s0+1) 37 6 (.slice (some ⟨s0+1,0,none⟩) (k+1) N) (k+1) (zm l++x.cells)) :
  BSt s0 R C N (k+1) (l++[x]) (w3.setCell ⟨s0+1+1,2,none⟩ (.slice (some ⟨s0+1,0,none⟩) (k+1) N)):=by
 have hs1:=hl.size
 have hs:=h.size
 have hz:(w1.alloc (.cells x.cells.toArray ty)).heap.size=w1.heap.size+1:=by simp
 have hs3:=hg.size
 have hb:∀ b,b < w1.heap.size→b≠s0+1→w3.heap[b]? = w1.heap[b]?:=fun b hb hn=>(hg.block b (by omega) (by simpa using hn)).trans (Below.heap_alloc _ _ _ hb)
 refine ⟨by simp [World.setCell];omega,?_,?_,?_⟩
 ·rw [Below.heap_setCell _ _ _ _ (by simp only;omega),hb s0 (by omega) (by omega),hl.b0,h.b0]
 ·have h2:w3.heap[s0+1+1]? = some (.cells #[.int .i64 R,.int .i64 C,.slice (some ⟨s0+1,0,none⟩) k N] 30):=by rw [hb (s0+1+1) (by omega) (by omega),hl.b2,h.b2]
  simp [World.setCell,Array.getElem?_modify,h2]
 ·have:zm (l++[x])=zm l++x.cells:=by simp [zm]
  rw [this]
  exact ho.kept (row:=some (s0+1+1)) ⟨rfl,rfl,rfl,by simp [World.setCell],fun b hb hne=>Below.heap_setCell _ _ _ _ (fun e=>hne (by simp [e]))⟩ (.inr (by simp [Value.ownBlock]))
theorem ziA {P:Program} (w:World) {o:Oper} {a:Act} {K:Act→World→Prop} {Q:Exit→Act→World→Prop} (s x:Operand) (t:TypeId)
  (ho:o.op = .call { callee:=.builtin .append,args:=#[s,x],argTypes:=#[t,t] })
  (base:Nat) (e:TypeId) (i:TypeInfo) (size:Nat) (ht:P.underlying t=some (.slice e)) (hi:P.info? e=some i) (hsize:i.size=size)
  (g n cap:Nat) (xs:List Value) (hs:a.eval s = .slice (some ⟨g,0,none⟩) n cap) (hown:w.ownsRow base e size (.slice (some ⟨g,0,none⟩) n cap) n xs)
  (ad:Addr) (m c:Nat) (news:List Value) (hx:a.eval x = .slice (some ad) m c) (hl:news.length=m * size) (hnews:∀ j u,news[j]? = some u→w.cell? (ad.add j)=some u) (h1:∀ u∈news,u.oneCell'=true)
  (hroom:n+m≤cap)
  (h:∀ w',w'.ownsRow base e size (.slice (some ⟨g,0,none⟩) (n+m) cap) (n+m) (xs++news)→w.grownBy w' (some g)→K (a.put o.dst (.slice (some ⟨g,0,none⟩) (n+m) cap)) w'):o.wp P a w K Q:=by
 obtain ⟨w',hr,h2,h3⟩:=run_append_fits (P:=P) w base t o.type e i size ht hi hsize g n cap xs hown ad m c news hl hnews h1 hroom
 unfold Oper.wp execOp
 simp only [ho,resolve,invoke,builtin,Sem.run_bind,Sem.run_pure,Result.andThen_ok,List.map_toArray,List.map_cons,List.map_nil,hs,hx,hr]
 exact h w' h2 h3
theorem BSt.start {w:World} {R C:Nat} (N:Nat) (hN:N≤4096) :
  BSt w.heap.size R C N 0 [] (((w.alloc (Obj.cells #[.int .i64 0,.int .i64 0,.slice none 0 0] 30)).alloc (Obj.cells (madeCells #[.int .i64 0,.int .i64 0,.int .i64 0,.string ⟨#[]⟩,.bool false,.int .i64 0] (N * 6)) 37)).alloc (Obj.cells #[.int .i64 R,.int .i64 C,.slice (some ⟨w.heap.size+1,0,none⟩) 0 N] 30)):=by
 refine ⟨by simp,?_,?_,?_⟩
 ·rw [Below.heap_alloc _ _ _ (by simp;omega),Below.heap_alloc _ _ _ (by simp),heap_alloc_new]
 ·have:=heap_alloc_new ((w.alloc (Obj.cells #[.int .i64 0,.int .i64 0,.slice none 0 0] 30)).alloc (Obj.cells (madeCells #[.int .i64 0,.int .i64 0,.int .i64 0,.string ⟨#[]⟩,.bool false,.int .i64 0] (N * 6)) 37)) (Obj.cells #[.int .i64 R,.int .i64 C,.slice (some ⟨w.heap.size+1,0,none⟩) 0 N] 30)
  simpa using this
 ·refine World.ownsRow.alloc ?_ _
  have:=World.ownsRow_made (base:=w.heap.size+1) (e:=37) (size:=6) (w.alloc (Obj.cells #[.int .i64 0,.int .i64 0,.slice none 0 0] 30)) (madeCells #[.int .i64 0,.int .i64 0,.int .i64 0,.string ⟨#[]⟩,.bool false,.int .i64 0] (N * 6)) N (by simp) (by simp only [maxLen];omega) (by rw [size_madeCells])
  simpa [zm] using this
theorem BSt.own_later {s0 R C N k:Nat} {l:List Val} {wr w1:World} (h:BSt s0 R C N k l wr) (hl:Leaves s0 wr w1) (o:Obj):(w1.alloc o).ownsRow (s0+1) 37 6 (.slice (some ⟨s0+1,0,none⟩) k N) k (zm l):=by
 refine World.ownsRow.alloc ?_ _
 obtain ⟨h1,h2⟩:=h.own
 refine ⟨h1,?_⟩
 rcases h2 with ⟨h2,_⟩ | ⟨g,cap,cur,hv,hg,hh,r⟩
 ·simp at h2
 ·simp only [Value.slice.injEq,Option.some.injEq,Addr.mk.injEq,and_true,true_and] at hv
  obtain ⟨rfl,rfl⟩:=hv
  exact .inr ⟨s0+1,N,cur,rfl,hg,hl.b1.trans hh,r⟩
theorem Keep.three (s0:Nat) (a:World) (u v x:Value):Keep s0 a (((a.setCell ⟨s0,0,none⟩ u).setCell ⟨s0,1,none⟩ v).setCell ⟨s0,2,none⟩ x) :=
 ((Keep.of_set (s0:=s0) a (p:=⟨s0,0,none⟩) u (.inl rfl)).trans (Keep.of_set (s0:=s0) _ (p:=⟨s0,1,none⟩) v (.inl rfl))).trans (Keep.of_set (s0:=s0) _ (p:=⟨s0,2,none⟩) x (.inl rfl))
theorem Rd.set_far {base:Nat} {w:World} {A:Option Addr} {cs:List Value} (h:Rd base w A cs) {p:Addr} (v:Value) (hp:p.block < base):Rd base (w.setCell p v) A cs :=
 h.blocks fun b hb=>Below.heap_setCell _ _ _ _ (by omega)
theorem ziZ (w:World) (cs:List Value) (ty:TypeId):∀ j u,cs[j]? = some u→(w.alloc (.cells cs.toArray ty)).cell? ((⟨w.heap.size,0,none⟩:Addr).add j)=some u:=fun j u hu=>by
 rw [Addr.add_mid,World.cell?_alloc_at _ _ _ _ rfl]
 simpa using hu
theorem zbe (x:Val):∀ u∈x.cells,u.oneCell'=true:=by
 intro u hu
 simp only [Val.cells,List.mem_cons,List.not_mem_nil,or_false] at hu
 rcases hu with rfl | rfl | rfl | rfl | rfl | rfl <;> rfl
theorem zn3 (R C:Nat) (cl:FuncId) (capt:Array Value) (g:Nat→Nat→Val) (w:World) (J:Nat→World→Prop) (hR:1≤R) (hC:1≤C) (hN:R * C≤4096) (hR':R≤4096) (hC':C≤4096)
  (hent:∀ (args:Array Value) (W:World),(callFunc cl args).run prog W = .ok (.enter cl args) W) (hJ0:J 0 w) (hJ:∀ k W W',Keep w.heap.size W W'→J k W→J k W')
  (hcall:∀ i j W,i < R→j < C→J (i * C+j) W→w.heap.size+3≤W.heap.size →
   Calls prog cl (#[.int .i64 i,.int .i64 j]++capt) W fun e W'=>e = .returned (VV (g i j).kind (g i j).mant (g i j).exp (g i j).text (g i j).truth (g i j).fault)∧J (i * C+j+1) W'∧Leaves w.heap.size W W') :
  Calls prog 76 #[.int .i64 R,.int .i64 C,.func (.func cl) #[] capt] w fun e w'=>∃ A c,e = .returned (AV R C (.slice A (R * C) c))∧SlV w.heap.size w' A (zC g C (R * C))∧R * C≤c∧J (R * C) w':=by
 obtain ⟨i0,hi,hz0,hz1,hz2⟩:=info_parts zaY
 have hw:IntKind.i64.wrap ((R:Int) * (C:Int))=((R * C:Nat):Int):=by rw [IntKind.wrap_i64,Int.natCast_mul];omega
 have hmk:∀ (N:Nat) (W:World),N≤4096→(Instr.makeSlice 28 (.int .i64 0) (.int .i64 (N:Int))).run prog W = .ok (.slice (some ⟨W.heap.size,0,none⟩) 0 N) (W.alloc (.cells (madeCells (VV 0 0 0 ⟨#[]⟩ false 0).cells (N * 6)) 37)):=fun N W hN=>by
  have:=run_make (P:=prog) W 28 37 i0 _ Tryz.underlying28 hi hz0 .i64 .i64 0 (N:Int) (by omega) (by omega) (by rw [hz2];omega) (by omega)
  simpa [hz1] using this
 generalize hNN:R * C=N at *
 have hmk':=fun W=>hmk N W hN
 clear hmk
 have HN:=Lib.hid hNN
 clear hNN
 have HC:=Lib.hid hcall
 clear hcall
 have HJ:=Lib.hid hJ
 clear hJ
 go_enter func76,ntmps76
 go_wp2
 have hst0:=BSt.start (w:=w) (R:=R) (C:=C) N hN
 have hj0:J 0 (((w.alloc (Obj.cells #[.int .i64 0,.int .i64 0,.slice none 0 0] 30)).alloc (Obj.cells (madeCells #[.int .i64 0,.int .i64 0,.int .i64 0,.string ⟨#[]⟩,.bool false,.int .i64 0] (N * 6)) 37)).alloc (Obj.cells #[.int .i64 R,.int .i64 C,.slice (some ⟨w.heap.size+1,0,none⟩) 0 N] 30)):=HJ.out 0 w _ (Keep.of_ext (by simp [go_sem])) hJ0
 go_loopw [18] (fun i wr=>∃ r:Nat,r≤R∧i = .int .i64 r∧BSt w.heap.size R C N (r * C) (zC g C (r * C)) wr∧Hid (J (r * C) wr)) (fun i _=>R - (intOf i).toNat)
 case atStart=>exact ⟨0,Nat.zero_le _,rfl,by simpa [zC] using hst0,by show J _ _;simpa using hj0⟩
 case round =>
  clear hst0 hj0
  obtain ⟨r,hr,rfl,hst,HJr⟩:=hrel
  by_cases hlt:r < R
  ·go_wp2
   obtain ⟨wo,rfl⟩:∃ wo:World,wo=wr:=⟨_,rfl⟩
   go_loopw [22] (fun i wr=>∃ j:Nat,j≤C∧i = .int .i64 j∧BSt w.heap.size R C N (r * C+j) (zC g C (r * C+j)) wr∧Hid (J (r * C+j) wr)) (fun i _=>C - (intOf i).toNat)
   case atStart=>exact ⟨0,Nat.zero_le _,rfl,by simpa using hst,by show J _ _;simpa using HJr.out⟩
   case round =>
    clear hst HJr
    obtain ⟨j,hj,rfl,hst,HJr⟩:=hrel
    by_cases hjt:j < C
    ·go_wp2
     have hkN:r * C+j < N:=by
      rw [← HN.out]
      have:(r+1) * C≤R * C:=Nat.mul_le_mul_right C hlt
      rw [Nat.succ_mul] at this
      omega
     refine zcj (S:=fun W=>W.heap[w.heap.size+1+1]? = some (.cells #[.int .i64 R,.int .i64 C,.slice (some ⟨w.heap.size+1,0,none⟩) (r * C+j) N] 30)) [(0,0),(1,0),(2,0),(3,0),(4,0),(5,1),(6,1),(7,1),(8,0),(9,2)] [9] (by kernel_rfl) (by kernel_rfl) (by kernel_rfl) (fun _ _ d _ _ h=>by cases d <;> exact h) hst.b2 ?_
     (refine zr (v:=?_) rfl ?_ (fun w1 h1=>?_) ?_;rotate_left 1;rfl;(go_simp;first | done | rfl))
     try simp only [zq]
     (refine zr (v:=?_) rfl ?_ (fun w1 h1=>?_) ?_;rotate_left 1;rfl;(have h2:=cell_of_row _ _ 2 _ _ _ h1;clear h1;go_simp;first | done | rfl))
     try simp only [zq]
     iterate 3 (refine zr (v:=?_) rfl ?_ (fun w1 h1=>?_) ?_;rotate_left 1;rfl;(clear h1;go_simp;first | done | rfl);try simp only [zq])
     (refine zh rfl ?_ (fun K hK=>?_);rfl;go_simp)
     refine (HC.out r j _ hlt hjt (HJ.out _ _ _ ((Keep.refl _ _).drew) HJr.out) hst.size).mono ?_
     rintro e w1 ⟨rfl,hJ1,hL1⟩
     have hL:Leaves w.heap.size wr w1:=⟨hL1.size,hL1.b0,hL1.b1,hL1.b2⟩
     refine hK _ _ (hL.b2.trans hst.b2) ?_
     try simp only [zq]
     (refine zh rfl ?_ (fun K hK=>?_);rfl;go_simp)
     refine hK _ _ ((Below.heap_alloc _ _ _ (by have:=hL.size;have:=hst.size;omega)).trans (hL.b2.trans hst.b2)) ?_
     try simp only [zq]
     (refine zh rfl ?_ (fun K hK=>?_);rfl)
     refine ziA _ _ _ _ rfl (w.heap.size+1) 37 i0 6 Tryz.underlying28 hi hz1 (w.heap.size+1) (r * C+j) N (zm (zC g C (r * C+j))) rfl (hst.own_later hL _) ⟨w1.heap.size,0,none⟩ 1 1 (g r j).cells rfl rfl (ziZ _ _ _) (zbe _) (by omega) ?_
     intro w3 ho3 hg3
     refine hK _ _ ((hg3.block _ (by have:=hL.size;have:=hst.size;simp;omega) (by simp)).trans ((Below.heap_alloc _ _ _ (by have:=hL.size;have:=hst.size;omega)).trans (hL.b2.trans hst.b2))) ?_
     try simp only [zq]
     (refine zr (v:=?_) rfl ?_ (fun w1 h1=>?_) ?_;rotate_left 1;rfl;(clear h1;go_simp;first | done | rfl))
     try simp only [zq]
     have hb2:w3.heap[w.heap.size+1+1]? = some (.cells #[.int .i64 R,.int .i64 C,.slice (some ⟨w.heap.size+1,0,none⟩) (r * C+j) N] 30):=(hg3.block _ (by have:=hL.size;have:=hst.size;simp;omega) (by simp)).trans ((Below.heap_alloc _ _ _ (by have:=hL.size;have:=hst.size;omega)).trans (hL.b2.trans hst.b2))
     have c2:=cell_of_row _ _ 2 _ _ _ hb2
     have f2:=frozen_of_row _ _ 2 _ _ hb2
     have hst2:BSt w.heap.size R C N (r * C+(j+1)) (zC g C (r * C+(j+1))) (w3.setCell ⟨w.heap.size+1+1,2,none⟩ (.slice (some ⟨w.heap.size+1,0,none⟩) (r * C+j+1) N)):=by
      rw [show r * C+(j+1)=r * C+j+1 by omega,zbd g C r j hjt]
      exact hst.step hL hg3 ho3
     have hJ3:Hid (J (r * C+(j+1)) (w3.setCell ⟨w.heap.size+1+1,2,none⟩ (.slice (some ⟨w.heap.size+1,0,none⟩) (r * C+j+1) N))) :=
      HJ.out _ _ _ (((Keep.of_ext ((Ext.refl w1).alloc _)).trans (Keep.of_grown hg3)).trans (Keep.of_set w3 _ (.inr (.inr rfl)))) hJ1
     clear hb2 ho3 hg3 hst
     (refine zaa rfl ?_ (fun K hK=>?_);rfl;go_simp)
     refine hK _ _ ?_
     try simp only [zq]
     refine zj ?_
     go_wp2
     exact ⟨⟨j+1,by omega,by go_num,hst2,hJ3⟩,by simp [intOf];omega⟩
    ·go_wp2
     obtain rfl:j=C:=by omega
     refine ⟨⟨r+1,by omega,by go_num,by rw [Nat.succ_mul];exact hst,by rw [Nat.succ_mul];exact HJr⟩,by simp [intOf];omega⟩
  ·obtain rfl:r=R:=by omega
   have e:=HN.out
   rw [e] at hst HJr
   clear e
   have c20:=cell_of_row _ _ 0 _ _ _ hst.b2
   have c21:=cell_of_row _ _ 1 _ _ _ hst.b2
   have c22:=cell_of_row _ _ 2 _ _ _ hst.b2
   have c00:=cell_of_row _ _ 0 _ _ _ hst.b0
   have c01:=cell_of_row _ _ 1 _ _ _ hst.b0
   have c02:=cell_of_row _ _ 2 _ _ _ hst.b0
   have f00:=frozen_of_row _ _ 0 _ _ hst.b0
   have f01:=frozen_of_row _ _ 1 _ _ hst.b0
   have f02:=frozen_of_row _ _ 2 _ _ hst.b0
   go_wp2
   refine bodyPost_ret (results_cell_row (by rfl) _ _ w.heap.size 30 #[.int .i64 r,.int .i64 C,.slice (some ⟨w.heap.size+1,0,none⟩) N N] (0,0) _ (by rfl) ?_ Tryz.underlying30 (by rfl) (by kernel_rfl)) rfl ⟨some ⟨w.heap.size+1,0,none⟩,N,rfl,?_,Nat.le_refl _,HJ.out _ _ _ (Keep.three _ _ _ _ _) HJr.out⟩
   ·simp [World.setCell,Array.getElem?_modify,hst.b0]
   ·obtain ⟨A,c,hA,hrd,_⟩:=Rd.of_own hst.own
    simp only [Value.slice.injEq,true_and] at hA
    obtain ⟨rfl,rfl⟩:=hA
    exact Rd.mono (((hrd.set_far _ (by simp)).set_far _ (by simp)).set_far _ (by simp)) (by omega)
theorem Keep.ext {w W W':World} (h:Keep w.heap.size W W') (hx:Ext w W):Ext w W' :=
 ⟨h.os.trans hx.os,h.tape.trans hx.tape,h.output.trans hx.output,Nat.le_trans hx.size h.size,fun b hb=>(h.block b (Nat.lt_of_lt_of_le hb hx.size) (by omega) (by omega) (by omega)).trans (hx.block hb)⟩
theorem zcc (R C:Nat) (cl:FuncId) (capt:Array Value) (g:Nat→Nat→Val) (w:World) (hR:1≤R) (hC:1≤C) (hN:R * C≤4096)
  (hent:∀ (args:Array Value) (W:World),(callFunc cl args).run prog W = .ok (.enter cl args) W)
  (hcall:∀ i j W,i < R→j < C→Ext w W →
   Calls prog cl (#[.int .i64 i,.int .i64 j]++capt) W fun e W'=>e = .returned (VV (g i j).kind (g i j).mant (g i j).exp (g i j).text (g i j).truth (g i j).fault)∧Ext W W') :
  Calls prog 76 #[.int .i64 R,.int .i64 C,.func (.func cl) #[] capt] w fun e w'=>∃ A c,e = .returned (AV R C (.slice A (R * C) c))∧SlV w.heap.size w' A (zC g C (R * C))∧R * C≤c∧Ext w w':=by
 have h1:R * 1≤R * C:=Nat.mul_le_mul_left R hC
 have h2:1 * C≤R * C:=Nat.mul_le_mul_right C hR
 exact zn3 R C cl capt g w (fun _ W=>Ext w W) hR hC hN (by omega) (by omega) hent (Ext.refl w) (fun _ _ _ h hx=>h.ext hx)
  (fun i j W hi hj hx hs=>(hcall i j W hi hj hx).mono fun e W' ⟨he,hb⟩=>⟨he,hx.trans hb,Leaves.of_ext hb hs⟩)
abbrev zb2 (pb:Nat) (r c:Int) (A:Option Addr) (n cap:Nat) (W:World):Prop :=
 pb < W.heap.size∧W.cell? ⟨pb,0,none⟩=some (.int .i64 r)∧W.cell? ⟨pb,1,none⟩=some (.int .i64 c)∧W.cell? ⟨pb,2,none⟩=some (.slice A n cap)
theorem zb2.ext {pb:Nat} {r c:Int} {A:Option Addr} {n cap:Nat} {W W':World} (h:zb2 pb r c A n cap W) (hb:Ext W W'):zb2 pb r c A n cap W' :=
 ⟨by have:=hb.size;have:=h.1;omega,hb.cell_some h.2.1,hb.cell_some h.2.2.1,hb.cell_some h.2.2.2⟩
def zk (l:List Val) (k:Nat):Val:=(l[k]?).getD Val.zero
theorem ArrIn.get {w:World} {A:Option Addr} {n cap:Nat} {l:List Val} (h:ArrIn w A n cap l) {k:Nat} (hk:k < n):∃ b off,A=some ⟨b,off,none⟩∧zen w b (off+k * 6) (zk l k)∧(zk l k).ok:=by
 obtain ⟨x,b,off,hx,ho,hA,hv⟩:=h.at hk
 have:zk l k=x:=by simp [zk,hx]
 rw [this]
 exact ⟨b,off,hA,hv,ho⟩
theorem zcu {C i j:Nat} (R:Nat) (hi:i < R) (hj:j < C) (hN:R * C≤4096):i * C+j < R * C∧i * C≤4096:=by
 have:(i+1) * C≤R * C:=Nat.mul_le_mul_right C hi
 rw [Nat.succ_mul] at this
 omega
theorem zn4 (pb:Nat) (R C:Nat) (A:Option Addr) (n cap:Nat) (l:List Val) (i j:Nat) (W:World) (hb:zb2 pb R C A n cap W) (h:ArrIn W A n cap l) (hn:n=R * C) (hN:n≤4096) (hi:i < C) (hj:j < R) :
  Calls prog 87 #[.int .i64 i,.int .i64 j,.pointer (some ⟨pb,0,none⟩)] W fun e W'=>e = .returned (VV (zk l (j * C+i)).kind (zk l (j * C+i)).mant (zk l (j * C+i)).exp (zk l (j * C+i)).text (zk l (j * C+i)).truth (zk l (j * C+i)).fault)∧Ext W W':=by
 subst hn
 obtain ⟨hk,hk2⟩:=zcu R hj hi hN
 obtain ⟨b,off,rfl,hv,ho⟩:=h.get hk
 generalize hx:zk l (j * C+i)=x at *
 clear hx
 obtain ⟨v0,v1,v2,v3,v4,v5⟩:=hv
 have hbl:b < W.heap.size:=zg v0
 obtain ⟨hp,b0,b1,b2⟩:=hb
 have w1:IntKind.i64.wrap ((j:Int) * (C:Int))=((j * C:Nat):Int):=by rw [IntKind.wrap_i64,Int.natCast_mul];omega
 generalize hjc:j * C=jc at *
 generalize hrc:R * C=rc at *
 clear hjc hrc
 go_enter func87,ntmps87
 go_wp2
 exact rc1 rfl rfl (by simp [go_sem]) ⟨rfl,by simp [go_sem]⟩
def zT (R C:Nat) (l:List Val):List Val:=zC (fun i j=>zk l (j * C+i)) R (C * R)
theorem zcl {r c:Int} {l:List Val} (h:zo r c l=true):∃ R C:Nat,r=R∧c=C∧1≤R∧1≤C∧R * C≤4096∧l.length=R * C∧(∀ x∈l,valRight x=true):=by
 simp only [zo,Bool.and_eq_true,decide_eq_true_eq,List.all_eq_true] at h
 obtain ⟨⟨hf,hn⟩,ha⟩:=h
 obtain ⟨f1,f2,f3,f4,f5,f6⟩:=zeb hf
 obtain ⟨R,rfl⟩:=Int.eq_ofNat_of_zero_le (show 0≤r by omega)
 obtain ⟨C,rfl⟩:=Int.eq_ofNat_of_zero_le (show 0≤c by omega)
 rw [← Int.natCast_mul] at hn f6
 exact ⟨R,C,rfl,rfl,by omega,by omega,by omega,by omega,ha⟩
theorem zpJ (R C:Nat) (A:Option Addr) (n cap:Nat) (l:List Val) (w:World) (h:ArrIn w A n cap l) (hr:zo R C l=true) :
  Calls prog 40 #[AV R C (.slice A n cap)] w fun e w'=>zdp w.heap.size w' e C R (zT R C l)∧Ext w w':=by
 have hX:∀ o o':Obj,Ext w ((w.alloc o).alloc o'):=fun o o'=>by simp [go_sem]
 obtain ⟨R',C',e1,e2,r1,r2,r3,r4,_⟩:=zcl hr
 obtain rfl:R=R':=by omega
 obtain rfl:C=C':=by omega
 clear e1 e2
 have hln:=h.len
 have hN:n≤4096:=by omega
 have hn:n=R * C:=by omega
 have HN:=Lib.hid hn
 clear hn r4 hln
 have hcr:C * R≤4096:=by rw [Nat.mul_comm];exact r3
 go_enter func40,ntmps40
 go_wp2_with (first | (go_at_call 18;refine aM (zy _ _ _ _ _ _ _ (h.ext (hX _ _))) fun os d=>?_) | fail)
 refine (zcc C R 87 #[.pointer (some ⟨w.heap.size,0,none⟩)] (fun i j=>zk l (j * C+i)) _ r2 r1 hcr (fun _ _=>by kernel_rfl) ?_).mono ?_
 ·intro i j W hi hj hx
  refine zn4 w.heap.size R C A n cap l i j W (zb2.ext ?_ hx) (h.ext (Ext.trans ?_ hx)) HN.out hN hi hj
  ·refine ⟨?_,?_,?_,?_⟩ <;> simp [go_sem]
  ·exact (by simp [go_sem])
 rintro e w' ⟨A',c',rfl,hs,hc',hb⟩
 obtain ⟨os',d',rfl⟩:=hb.more
 go_wp2
 have hl:(zT R C l).length=C * R:=za7 _ _ _
 exact rc1 (v:=AV C R (.slice A' (C * R) c')) rfl rfl (by simp [go_sem]) ⟨⟨A',c',by rw [hl],(by (try simp only [za] at hs);(try simp only [zc] at hs);(try simp only [zb] at hs);exact hs.sw (by simp <;> omega)),by rw [hl];exact hc'⟩,by simp [go_sem]⟩
def zbP (r c i j:Int):Bool:=decide (0≤i) && decide (i < r) && decide (0≤j) && decide (j < c)
theorem zl8 (r c i j:Int) (s:Value) (w:World) (_hs:s.oneCell'=true) :
  Tl prog 131 #[AV r c s,.int .i64 i,.int .i64 j] w (.bool (zbP r c i j)):=by
 go_enter func131,ntmps131
 go_upto_region 1 with (fail)
 refine wp_region_lit ?_
 iterate 19 ((first | refine zas rfl rfl rfl rfl rfl ?_ | refine zaC rfl rfl rfl rfl rfl ?_ | (refine zbj (v:=?_) rfl ?_ ?_;rotate_left 1;(go_simp;first | done | rfl)) | (refine za1 (v:=?_) (c:=?_) rfl rfl rfl ?_ (fun hc=>?_) ?_;rotate_left 2;(first | exact zak _ | exact zal _ | exact zQ _ _ | exact zR _ _);((try simp only [zn hc]);(try (have hc1:=zx hc;(try simp only [zn hc1]);(try (have hc2:=zx hc1;(try simp only [zn hc2])))));go_simp;first | done | rfl)));try simp only [zq])
 refine wpList_nil ?_
 try go_simp
 go_wp2
 go_ret
 exact ⟨rfl,by simp [go_sem]⟩
theorem ArrIn.none_ (w:World):ArrIn w none 0 0 []:=⟨SlV.nil _ _ _,rfl,Nat.le_refl _,by omega,by simp⟩
def zl (R C:Nat) (l:List Val) (i j:Int):Val:=if zbP R C i j then zk l (i.toNat * C+j.toNat) else zaX 6
theorem zkh {R C:Nat} {i j:Int} (h:zbP R C i j=true):∃ a b:Nat,i=a∧j=b∧a < R∧b < C:=by
 simp only [zbP,Bool.and_eq_true,decide_eq_true_eq] at h
 obtain ⟨⟨⟨h1,h2⟩,h3⟩,h4⟩:=h
 obtain ⟨a,rfl⟩:=Int.eq_ofNat_of_zero_le h1
 obtain ⟨b,rfl⟩:=Int.eq_ofNat_of_zero_le h3
 exact ⟨a,b,rfl,rfl,by omega,by omega⟩
theorem zdV (R C:Nat) (A:Option Addr) (n cap:Nat) (l:List Val) (i j:Int) (w:World) (h:ArrIn w A n cap l) (hn:n=R * C) (hN:n≤4096) (x:Val) (hx:zl R C l i j=x) :
  Tl prog 78 #[AV R C (.slice A n cap),.int .i64 i,.int .i64 j] w (VV x.kind x.mant x.exp x.text x.truth x.fault):=by
 by_cases hh:zbP R C i j=true
 ·obtain ⟨a,b,rfl,rfl,ha,hb⟩:=zkh hh
  obtain ⟨hk,hk2⟩:=zcu R ha hb (by omega)
  have hx':zk l (a * C+b)=x:=by rw [← hx];simp [zl,hh]
  subst hn
  obtain ⟨b',off,rfl,hv,ho⟩:=h.get hk
  rw [hx'] at hv ho
  clear hx hx'
  obtain ⟨v0,v1,v2,v3,v4,v5⟩:=hv
  have hbl:b' < w.heap.size:=zg v0
  have w1:IntKind.i64.wrap ((a:Int) * (C:Int))=((a * C:Nat):Int):=by rw [IntKind.wrap_i64,Int.natCast_mul];omega
  generalize hjc:a * C=jc at *
  generalize hrc:R * C=rc at *
  clear hjc hrc
  go_enter func78,ntmps78
  go_wp2_with (go_at_call 131;refine aM (zl8 _ _ _ _ _ _ rfl) fun os d=>?_)
  exact rc1 rfl rfl (by simp [go_sem]) ⟨rfl,by simp [go_sem]⟩
 ·have hh':zbP R C i j=false:=by simpa using hh
  have hx':x=zaX 6:=by rw [← hx];simp [zl,hh']
  have hb6:zbZ 6=6:=by decide
  subst hx'
  clear hh hx hn
  go_enter func78,ntmps78
  go_wp2_with (first | (go_at_call 131;refine aM (zl8 _ _ _ _ _ _ rfl) fun os d=>?_) | (go_at_call 57;refine aM (zfb _ _) fun os d=>?_))
  exact rc1 (v:=VV 4 0 0 ⟨#[]⟩ false 6) rfl rfl (by simp [go_sem]) ⟨rfl,by simp [go_sem]⟩
theorem zeY (pa pb R C R' C':Nat) (A B:Option Addr) (n cap n' cap':Nat) (l l':List Val) (i j:Nat) (W:World) (ha:zb2 pa R C A n cap W) (hb:zb2 pb R' C' B n' cap' W) (h:ArrIn W A n cap l) (h':ArrIn W B n' cap' l')
  (hn:n=R * C) (hn':n'=R' * C') (hN:n≤4096) (hN':n'≤4096) (_hi:i≤4096) (hj:j≤10000) (hC:C≤4096) (x:Val) (hx:(if j < C then zl R C l i j else zl R' C' l' i ((j:Int) - (C:Int)))=x) :
  Calls prog 77 #[.int .i64 i,.int .i64 j,.pointer (some ⟨pa,0,none⟩),.pointer (some ⟨pb,0,none⟩)] W fun e W'=>e = .returned (VV x.kind x.mant x.exp x.text x.truth x.fault)∧Ext W W':=by
 obtain ⟨p0,p1,p2,p3⟩:=ha
 obtain ⟨q0,q1,q2,q3⟩:=hb
 by_cases hjc:j < C
 ·rw [if_pos hjc] at hx
  have HX:=Lib.hid hx
  have HN:=Lib.hid hn
  clear hx hn hn'
  go_enter func77,ntmps77
  go_wp2_with fail
  refine (zdV R C A n cap l i j _ (h.ext (by simp [go_sem])) HN.out hN x HX.out).mono ?_
  rintro e w' ⟨rfl,hb⟩
  obtain ⟨os,d,rfl⟩:=hb.more
  go_wp2
  exact rc1 rfl rfl (by simp [go_sem]) ⟨rfl,by simp [go_sem]⟩
 ·rw [if_neg hjc] at hx
  have HX:=Lib.hid hx
  have HN:=Lib.hid hn'
  clear hx hn hn'
  go_enter func77,ntmps77
  go_wp2_with fail
  refine (zdV R' C' B n' cap' l' i ((j:Int) - (C:Int)) _ (h'.ext (by simp [go_sem])) HN.out hN' x HX.out).mono ?_
  rintro e w' ⟨rfl,hb⟩
  obtain ⟨os,d,rfl⟩:=hb.more
  go_wp2
  exact rc1 rfl rfl (by simp [go_sem]) ⟨rfl,by simp [go_sem]⟩
theorem zft (pa pb R C R' C':Nat) (A B:Option Addr) (n cap n' cap':Nat) (l l':List Val) (i j:Nat) (W:World) (ha:zb2 pa R C A n cap W) (hb:zb2 pb R' C' B n' cap' W) (h:ArrIn W A n cap l) (h':ArrIn W B n' cap' l')
  (hn:n=R * C) (hn':n'=R' * C') (hN:n≤4096) (hN':n'≤4096) (hi:i≤10000) (_hj:j≤4096) (hR:R≤4096) (x:Val) (hx:(if i < R then zl R C l i j else zl R' C' l' ((i:Int) - (R:Int)) j)=x) :
  Calls prog 90 #[.int .i64 i,.int .i64 j,.pointer (some ⟨pa,0,none⟩),.pointer (some ⟨pb,0,none⟩)] W fun e W'=>e = .returned (VV x.kind x.mant x.exp x.text x.truth x.fault)∧Ext W W':=by
 obtain ⟨p0,p1,p2,p3⟩:=ha
 obtain ⟨q0,q1,q2,q3⟩:=hb
 by_cases hjc:i < R
 ·rw [if_pos hjc] at hx
  have HX:=Lib.hid hx
  have HN:=Lib.hid hn
  clear hx hn hn'
  go_enter func90,ntmps90
  go_wp2_with fail
  refine (zdV R C A n cap l i j _ (h.ext (by simp [go_sem])) HN.out hN x HX.out).mono ?_
  rintro e w' ⟨rfl,hb⟩
  obtain ⟨os,d,rfl⟩:=hb.more
  go_wp2
  exact rc1 rfl rfl (by simp [go_sem]) ⟨rfl,by simp [go_sem]⟩
 ·rw [if_neg hjc] at hx
  have HX:=Lib.hid hx
  have HN:=Lib.hid hn'
  clear hx hn hn'
  go_enter func90,ntmps90
  go_wp2_with fail
  refine (zdV R' C' B n' cap' l' ((i:Int) - (R:Int)) j _ (h'.ext (by simp [go_sem])) HN.out hN' x HX.out).mono ?_
  rintro e w' ⟨rfl,hb⟩
  obtain ⟨os,d,rfl⟩:=hb.more
  go_wp2
  exact rc1 rfl rfl (by simp [go_sem]) ⟨rfl,by simp [go_sem]⟩
def zbQ (R C:Nat) (l:List Val) (R' C':Nat) (l':List Val):List Val:=zC (fun i j=>if j < C then zl R C l i j else zl R' C' l' i ((j:Int) - (C:Int))) (C+C') (max R R' * (C+C'))
def zdG (R C:Nat) (l:List Val) (R' C':Nat) (l':List Val):List Val:=zC (fun i j=>if i < R then zl R C l i j else zl R' C' l' ((i:Int) - (R:Int)) j) (max C C') ((R+R') * max C C')
theorem zM {R C:Nat} {l:List Val} (h:zo R C l=true):1≤R∧1≤C∧R * C≤4096∧l.length=R * C∧R≤4096∧C≤4096:=by
 obtain ⟨R',C',e1,e2,r1,r2,r3,r4,_⟩:=zcl h
 obtain rfl:R=R':=by omega
 obtain rfl:C=C':=by omega
 have h1:R * 1≤R * C:=Nat.mul_le_mul_left R r2
 have h2:1 * C≤R * C:=Nat.mul_le_mul_right C r1
 exact ⟨r1,r2,r3,r4,by omega,by omega⟩
theorem zcv {a b:Nat} : zaq a b=true↔1≤a∧1≤b∧a * b≤4096:=by
 constructor
 ·intro h
  obtain ⟨f1,f2,f3,f4,f5,f6⟩:=zeb h
  rw [← Int.natCast_mul] at f6
  exact ⟨by omega,by omega,by omega⟩
 ·intro ⟨h1,h2,h3⟩
  have ha:a * 1≤a * b:=Nat.mul_le_mul_left a h2
  have hq:b≤4096 / a:=(Nat.le_div_iff_mul_le (by omega)).2 (by rw [Nat.mul_comm];exact h3)
  simp only [zaq,Bool.and_eq_true,decide_eq_true_eq]
  refine ⟨⟨⟨by omega,by omega⟩,by omega⟩,?_⟩
  have:((b:Nat):Int)≤((4096 / a:Nat):Int):=by omega
  simpa using this
theorem zn5 (R C R' C':Nat) (A B:Option Addr) (n cap n' cap':Nat) (l l':List Val) (w:World) (h:ArrIn w A n cap l) (h':ArrIn w B n' cap' l') (hr:zo R C l=true) (hr':zo R' C' l'=true) (hlt:R' < R) (hf:R * (C+C')≤4096) :
  Calls prog 29 #[AV R C (.slice A n cap),AV R' C' (.slice B n' cap')] w fun e w'=>∃ D c,e = .returned (.tuple #[AV (R:Nat) (C+C':Nat) (.slice D (R * (C+C')) c),.bool true])∧SlV w.heap.size w' D (zC (fun i j=>if j < C then zl R C l i j else zl R' C' l' i ((j:Int) - (C:Int))) (C+C') (R * (C+C')))∧R * (C+C')≤c∧Ext w w':=by
 obtain ⟨r1,r2,r3,r4,r5,r6⟩:=zM hr
 obtain ⟨s1,s2,s3,s4,s5,s6⟩:=zM hr'
 have hln:=h.len
 have hln':=h'.len
 have HN:=Lib.hid (show n=R * C by omega)
 have HN':=Lib.hid (show n'=R' * C' by omega)
 have hN:n≤4096:=by omega
 have hN':n'≤4096:=by omega
 clear r4 s4 hln hln'
 have hfit:zaq ((R:Nat):Int) ((C+C':Nat):Int)=true:=zcv.2 ⟨by omega,by omega,hf⟩
 have hmx:max (R:Int) (R':Int)=(R:Int):=by omega
 have hcc:(C:Int)+(C':Int)=((C+C':Nat):Int):=by omega
 rw [← hcc] at hfit
 generalize hL:zC (fun i j=>if j < C then zl R C l i j else zl R' C' l' i ((j:Int) - (C:Int))) (C+C') (R * (C+C'))=LL
 have HL:=Lib.hid hL
 generalize hT:R * (C+C')=T at *
 have HT:=Lib.hid hT
 clear hT hL hcc
 go_enter func29,ntmps29
 go_wp2_with fail
 refine aM (zy _ _ _ _ _ _ _ (h.ext (by simp [go_sem]))) fun os1 d1=>?_
 go_wp2_with fail
 refine aM (zy _ _ _ _ _ _ _ (h'.ext (by simp [go_sem]))) fun os2 d2=>?_
 go_wp2_with fail
 refine (zaW _ _ _).mono ?_
 rintro e w' ⟨rfl,rfl⟩
 go_wp2_with fail
 rw [show (C:Int)+(C':Int)=((C+C':Nat):Int) by omega]
 refine (zcc R (C+C') 77 #[.pointer (some ⟨w.heap.size,0,none⟩),.pointer (some ⟨w.heap.size+1,0,none⟩)] (fun i j=>if j < C then zl R C l i j else zl R' C' l' i ((j:Int) - (C:Int))) _ (by omega) (by omega) (by rw [HT.out];exact hf) (fun _ _=>by kernel_rfl) ?_).mono ?_
 ·intro i j W hi hj hx
  refine zeY w.heap.size (w.heap.size+1) R C R' C' A B n cap n' cap' l l' i j W (zb2.ext ?_ hx) (zb2.ext ?_ hx) (h.ext (Ext.trans ?_ hx)) (h'.ext (Ext.trans ?_ hx)) HN.out HN'.out hN hN' (by omega) (by omega) (by omega) _ rfl
  ·refine ⟨?_,?_,?_,?_⟩ <;> simp [go_sem]
  ·refine ⟨?_,?_,?_,?_⟩ <;> simp [go_sem]
  ·exact (by simp [go_sem])
  ·exact (by simp [go_sem])
 rintro e w' ⟨D,c',rfl,hs,hc',hb⟩
 obtain ⟨os',d',rfl⟩:=hb.more
 rw [HT.out] at hs hc' ⊢
 rw [HL.out] at hs
 go_wp2
 exact rct rfl rfl (by simp [go_sem]) ⟨D,c',rfl,(by (try simp only [za,zc,zb,Array.append_assoc] at hs);exact hs.sw (by simp <;> omega)),hc',by simp [go_sem]⟩
theorem zn6 (R C C':Nat) (A B:Option Addr) (n cap n' cap':Nat) (l l':List Val) (w:World) (h:ArrIn w A n cap l) (h':ArrIn w B n' cap' l') (hr:zo R C l=true) (hr':zo R C' l'=true)  (hf:R * (C+C')≤4096) :
  Calls prog 29 #[AV R C (.slice A n cap),AV R C' (.slice B n' cap')] w fun e w'=>∃ D c,e = .returned (.tuple #[AV (R:Nat) (C+C':Nat) (.slice D (R * (C+C')) c),.bool true])∧SlV w.heap.size w' D (zC (fun i j=>if j < C then zl R C l i j else zl R C' l' i ((j:Int) - (C:Int))) (C+C') (R * (C+C')))∧R * (C+C')≤c∧Ext w w':=by
 obtain ⟨r1,r2,r3,r4,r5,r6⟩:=zM hr
 obtain ⟨s1,s2,s3,s4,s5,s6⟩:=zM hr'
 have hln:=h.len
 have hln':=h'.len
 have HN:=Lib.hid (show n=R * C by omega)
 have HN':=Lib.hid (show n'=R * C' by omega)
 have hN:n≤4096:=by omega
 have hN':n'≤4096:=by omega
 clear r4 s4 hln hln'
 have hfit:zaq ((R:Nat):Int) ((C+C':Nat):Int)=true:=zcv.2 ⟨by omega,by omega,hf⟩
 have hcc:(C:Int)+(C':Int)=((C+C':Nat):Int):=by omega
 rw [← hcc] at hfit
 generalize hL:zC (fun i j=>if j < C then zl R C l i j else zl R C' l' i ((j:Int) - (C:Int))) (C+C') (R * (C+C'))=LL
 have HL:=Lib.hid hL
 generalize hT:R * (C+C')=T at *
 have HT:=Lib.hid hT
 clear hT hL hcc
 go_enter func29,ntmps29
 go_wp2_with fail
 refine aM (zy _ _ _ _ _ _ _ (h.ext (by simp [go_sem]))) fun os1 d1=>?_
 go_wp2_with fail
 refine aM (zy _ _ _ _ _ _ _ (h'.ext (by simp [go_sem]))) fun os2 d2=>?_
 go_wp2_with fail
 refine (zaW _ _ _).mono ?_
 rintro e w' ⟨rfl,rfl⟩
 go_wp2_with fail
 rw [show (C:Int)+(C':Int)=((C+C':Nat):Int) by omega]
 refine (zcc R (C+C') 77 #[.pointer (some ⟨w.heap.size,0,none⟩),.pointer (some ⟨w.heap.size+1,0,none⟩)] (fun i j=>if j < C then zl R C l i j else zl R C' l' i ((j:Int) - (C:Int))) _ (by omega) (by omega) (by rw [HT.out];exact hf) (fun _ _=>by kernel_rfl) ?_).mono ?_
 ·intro i j W hi hj hx
  refine zeY w.heap.size (w.heap.size+1) R C R C' A B n cap n' cap' l l' i j W (zb2.ext ?_ hx) (zb2.ext ?_ hx) (h.ext (Ext.trans ?_ hx)) (h'.ext (Ext.trans ?_ hx)) HN.out HN'.out hN hN' (by omega) (by omega) (by omega) _ rfl
  ·refine ⟨?_,?_,?_,?_⟩ <;> simp [go_sem]
  ·refine ⟨?_,?_,?_,?_⟩ <;> simp [go_sem]
  ·exact (by simp [go_sem])
  ·exact (by simp [go_sem])
 rintro e w' ⟨D,c',rfl,hs,hc',hb⟩
 obtain ⟨os',d',rfl⟩:=hb.more
 rw [HT.out] at hs hc' ⊢
 rw [HL.out] at hs
 go_wp2
 exact rct rfl rfl (by simp [go_sem]) ⟨D,c',rfl,(by (try simp only [za,zc,zb,Array.append_assoc] at hs);exact hs.sw (by simp <;> omega)),hc',by simp [go_sem]⟩
theorem zn7 (R C R' C':Nat) (A B:Option Addr) (n cap n' cap':Nat) (l l':List Val) (w:World) (h:ArrIn w A n cap l) (h':ArrIn w B n' cap' l') (hr:zo R C l=true) (hr':zo R' C' l'=true) (hlt:R < R') (hf:R' * (C+C')≤4096) :
  Calls prog 29 #[AV R C (.slice A n cap),AV R' C' (.slice B n' cap')] w fun e w'=>∃ D c,e = .returned (.tuple #[AV (R':Nat) (C+C':Nat) (.slice D (R' * (C+C')) c),.bool true])∧SlV w.heap.size w' D (zC (fun i j=>if j < C then zl R C l i j else zl R' C' l' i ((j:Int) - (C:Int))) (C+C') (R' * (C+C')))∧R' * (C+C')≤c∧Ext w w':=by
 obtain ⟨r1,r2,r3,r4,r5,r6⟩:=zM hr
 obtain ⟨s1,s2,s3,s4,s5,s6⟩:=zM hr'
 have hln:=h.len
 have hln':=h'.len
 have HN:=Lib.hid (show n=R * C by omega)
 have HN':=Lib.hid (show n'=R' * C' by omega)
 have hN:n≤4096:=by omega
 have hN':n'≤4096:=by omega
 clear r4 s4 hln hln'
 have hfit:zaq ((R':Nat):Int) ((C+C':Nat):Int)=true:=zcv.2 ⟨by omega,by omega,hf⟩
 have hmx:max (R:Int) (R':Int)=(R':Int):=by omega
 have hcc:(C:Int)+(C':Int)=((C+C':Nat):Int):=by omega
 rw [← hcc] at hfit
 generalize hL:zC (fun i j=>if j < C then zl R C l i j else zl R' C' l' i ((j:Int) - (C:Int))) (C+C') (R' * (C+C'))=LL
 have HL:=Lib.hid hL
 generalize hT:R' * (C+C')=T at *
 have HT:=Lib.hid hT
 clear hT hL hcc
 go_enter func29,ntmps29
 go_wp2_with fail
 refine aM (zy _ _ _ _ _ _ _ (h.ext (by simp [go_sem]))) fun os1 d1=>?_
 go_wp2_with fail
 refine aM (zy _ _ _ _ _ _ _ (h'.ext (by simp [go_sem]))) fun os2 d2=>?_
 go_wp2_with fail
 refine (zaW _ _ _).mono ?_
 rintro e w' ⟨rfl,rfl⟩
 go_wp2_with fail
 rw [show (C:Int)+(C':Int)=((C+C':Nat):Int) by omega]
 refine (zcc R' (C+C') 77 #[.pointer (some ⟨w.heap.size,0,none⟩),.pointer (some ⟨w.heap.size+1,0,none⟩)] (fun i j=>if j < C then zl R C l i j else zl R' C' l' i ((j:Int) - (C:Int))) _ (by omega) (by omega) (by rw [HT.out];exact hf) (fun _ _=>by kernel_rfl) ?_).mono ?_
 ·intro i j W hi hj hx
  refine zeY w.heap.size (w.heap.size+1) R C R' C' A B n cap n' cap' l l' i j W (zb2.ext ?_ hx) (zb2.ext ?_ hx) (h.ext (Ext.trans ?_ hx)) (h'.ext (Ext.trans ?_ hx)) HN.out HN'.out hN hN' (by omega) (by omega) (by omega) _ rfl
  ·refine ⟨?_,?_,?_,?_⟩ <;> simp [go_sem]
  ·refine ⟨?_,?_,?_,?_⟩ <;> simp [go_sem]
  ·exact (by simp [go_sem])
  ·exact (by simp [go_sem])
 rintro e w' ⟨D,c',rfl,hs,hc',hb⟩
 obtain ⟨os',d',rfl⟩:=hb.more
 rw [HT.out] at hs hc' ⊢
 rw [HL.out] at hs
 go_wp2
 exact rct rfl rfl (by simp [go_sem]) ⟨D,c',rfl,(by (try simp only [za,zc,zb,Array.append_assoc] at hs);exact hs.sw (by simp <;> omega)),hc',by simp [go_sem]⟩
theorem zpK (R C R' C':Nat) (A B:Option Addr) (n cap n' cap':Nat) (l l':List Val) (w:World) (h:ArrIn w A n cap l) (h':ArrIn w B n' cap' l') (hr:zo R C l=true) (hr':zo R' C' l'=true) (hlt:C' < C) (hf:(R+R') * C≤4096) :
  Calls prog 42 #[AV R C (.slice A n cap),AV R' C' (.slice B n' cap')] w fun e w'=>∃ D c,e = .returned (.tuple #[AV (R+R':Nat) (C:Nat) (.slice D ((R+R') * C) c),.bool true])∧SlV w.heap.size w' D (zC (fun i j=>if i < R then zl R C l i j else zl R' C' l' ((i:Int) - (R:Int)) j) C ((R+R') * C))∧(R+R') * C≤c∧Ext w w':=by
 obtain ⟨r1,r2,r3,r4,r5,r6⟩:=zM hr
 obtain ⟨s1,s2,s3,s4,s5,s6⟩:=zM hr'
 have hln:=h.len
 have hln':=h'.len
 have HN:=Lib.hid (show n=R * C by omega)
 have HN':=Lib.hid (show n'=R' * C' by omega)
 have hN:n≤4096:=by omega
 have hN':n'≤4096:=by omega
 clear r4 s4 hln hln'
 have hfit:zaq ((R+R':Nat):Int) ((C:Nat):Int)=true:=zcv.2 ⟨by omega,by omega,hf⟩
 have hmx:max (C:Int) (C':Int)=(C:Int):=by omega
 have hcc:(R:Int)+(R':Int)=((R+R':Nat):Int):=by omega
 rw [← hcc] at hfit
 generalize hL:zC (fun i j=>if i < R then zl R C l i j else zl R' C' l' ((i:Int) - (R:Int)) j) C ((R+R') * C)=LL
 have HL:=Lib.hid hL
 generalize hT:(R+R') * C=T at *
 have HT:=Lib.hid hT
 clear hT hL hcc
 go_enter func42,ntmps42
 go_wp2_with fail
 refine aM (zy _ _ _ _ _ _ _ (h.ext (by simp [go_sem]))) fun os1 d1=>?_
 go_wp2_with fail
 refine aM (zy _ _ _ _ _ _ _ (h'.ext (by simp [go_sem]))) fun os2 d2=>?_
 go_wp2_with fail
 refine (zaW _ _ _).mono ?_
 rintro e w' ⟨rfl,rfl⟩
 go_wp2_with fail
 rw [show (R:Int)+(R':Int)=((R+R':Nat):Int) by omega]
 refine (zcc (R+R') C 90 #[.pointer (some ⟨w.heap.size,0,none⟩),.pointer (some ⟨w.heap.size+1,0,none⟩)] (fun i j=>if i < R then zl R C l i j else zl R' C' l' ((i:Int) - (R:Int)) j) _ (by omega) (by omega) (by rw [HT.out];exact hf) (fun _ _=>by kernel_rfl) ?_).mono ?_
 ·intro i j W hi hj hx
  refine zft w.heap.size (w.heap.size+1) R C R' C' A B n cap n' cap' l l' i j W (zb2.ext ?_ hx) (zb2.ext ?_ hx) (h.ext (Ext.trans ?_ hx)) (h'.ext (Ext.trans ?_ hx)) HN.out HN'.out hN hN' (by omega) (by omega) (by omega) _ rfl
  ·refine ⟨?_,?_,?_,?_⟩ <;> simp [go_sem]
  ·refine ⟨?_,?_,?_,?_⟩ <;> simp [go_sem]
  ·exact (by simp [go_sem])
  ·exact (by simp [go_sem])
 rintro e w' ⟨D,c',rfl,hs,hc',hb⟩
 obtain ⟨os',d',rfl⟩:=hb.more
 rw [HT.out] at hs hc' ⊢
 rw [HL.out] at hs
 go_wp2
 exact rct rfl rfl (by simp [go_sem]) ⟨D,c',rfl,(by (try simp only [za,zc,zb,Array.append_assoc] at hs);exact hs.sw (by simp <;> omega)),hc',by simp [go_sem]⟩
theorem zpL (R C R':Nat) (A B:Option Addr) (n cap n' cap':Nat) (l l':List Val) (w:World) (h:ArrIn w A n cap l) (h':ArrIn w B n' cap' l') (hr:zo R C l=true) (hr':zo R' C l'=true)  (hf:(R+R') * C≤4096) :
  Calls prog 42 #[AV R C (.slice A n cap),AV R' C (.slice B n' cap')] w fun e w'=>∃ D c,e = .returned (.tuple #[AV (R+R':Nat) (C:Nat) (.slice D ((R+R') * C) c),.bool true])∧SlV w.heap.size w' D (zC (fun i j=>if i < R then zl R C l i j else zl R' C l' ((i:Int) - (R:Int)) j) C ((R+R') * C))∧(R+R') * C≤c∧Ext w w':=by
 obtain ⟨r1,r2,r3,r4,r5,r6⟩:=zM hr
 obtain ⟨s1,s2,s3,s4,s5,s6⟩:=zM hr'
 have hln:=h.len
 have hln':=h'.len
 have HN:=Lib.hid (show n=R * C by omega)
 have HN':=Lib.hid (show n'=R' * C by omega)
 have hN:n≤4096:=by omega
 have hN':n'≤4096:=by omega
 clear r4 s4 hln hln'
 have hfit:zaq ((R+R':Nat):Int) ((C:Nat):Int)=true:=zcv.2 ⟨by omega,by omega,hf⟩
 have hcc:(R:Int)+(R':Int)=((R+R':Nat):Int):=by omega
 rw [← hcc] at hfit
 generalize hL:zC (fun i j=>if i < R then zl R C l i j else zl R' C l' ((i:Int) - (R:Int)) j) C ((R+R') * C)=LL
 have HL:=Lib.hid hL
 generalize hT:(R+R') * C=T at *
 have HT:=Lib.hid hT
 clear hT hL hcc
 go_enter func42,ntmps42
 go_wp2_with fail
 refine aM (zy _ _ _ _ _ _ _ (h.ext (by simp [go_sem]))) fun os1 d1=>?_
 go_wp2_with fail
 refine aM (zy _ _ _ _ _ _ _ (h'.ext (by simp [go_sem]))) fun os2 d2=>?_
 go_wp2_with fail
 refine (zaW _ _ _).mono ?_
 rintro e w' ⟨rfl,rfl⟩
 go_wp2_with fail
 rw [show (R:Int)+(R':Int)=((R+R':Nat):Int) by omega]
 refine (zcc (R+R') C 90 #[.pointer (some ⟨w.heap.size,0,none⟩),.pointer (some ⟨w.heap.size+1,0,none⟩)] (fun i j=>if i < R then zl R C l i j else zl R' C l' ((i:Int) - (R:Int)) j) _ (by omega) (by omega) (by rw [HT.out];exact hf) (fun _ _=>by kernel_rfl) ?_).mono ?_
 ·intro i j W hi hj hx
  refine zft w.heap.size (w.heap.size+1) R C R' C A B n cap n' cap' l l' i j W (zb2.ext ?_ hx) (zb2.ext ?_ hx) (h.ext (Ext.trans ?_ hx)) (h'.ext (Ext.trans ?_ hx)) HN.out HN'.out hN hN' (by omega) (by omega) (by omega) _ rfl
  ·refine ⟨?_,?_,?_,?_⟩ <;> simp [go_sem]
  ·refine ⟨?_,?_,?_,?_⟩ <;> simp [go_sem]
  ·exact (by simp [go_sem])
  ·exact (by simp [go_sem])
 rintro e w' ⟨D,c',rfl,hs,hc',hb⟩
 obtain ⟨os',d',rfl⟩:=hb.more
 rw [HT.out] at hs hc' ⊢
 rw [HL.out] at hs
 go_wp2
 exact rct rfl rfl (by simp [go_sem]) ⟨D,c',rfl,(by (try simp only [za,zc,zb,Array.append_assoc] at hs);exact hs.sw (by simp <;> omega)),hc',by simp [go_sem]⟩
theorem zpM (R C R' C':Nat) (A B:Option Addr) (n cap n' cap':Nat) (l l':List Val) (w:World) (h:ArrIn w A n cap l) (h':ArrIn w B n' cap' l') (hr:zo R C l=true) (hr':zo R' C' l'=true) (hlt:C < C') (hf:(R+R') * C'≤4096) :
  Calls prog 42 #[AV R C (.slice A n cap),AV R' C' (.slice B n' cap')] w fun e w'=>∃ D c,e = .returned (.tuple #[AV (R+R':Nat) (C':Nat) (.slice D ((R+R') * C') c),.bool true])∧SlV w.heap.size w' D (zC (fun i j=>if i < R then zl R C l i j else zl R' C' l' ((i:Int) - (R:Int)) j) C' ((R+R') * C'))∧(R+R') * C'≤c∧Ext w w':=by
 obtain ⟨r1,r2,r3,r4,r5,r6⟩:=zM hr
 obtain ⟨s1,s2,s3,s4,s5,s6⟩:=zM hr'
 have hln:=h.len
 have hln':=h'.len
 have HN:=Lib.hid (show n=R * C by omega)
 have HN':=Lib.hid (show n'=R' * C' by omega)
 have hN:n≤4096:=by omega
 have hN':n'≤4096:=by omega
 clear r4 s4 hln hln'
 have hfit:zaq ((R+R':Nat):Int) ((C':Nat):Int)=true:=zcv.2 ⟨by omega,by omega,hf⟩
 have hmx:max (C:Int) (C':Int)=(C':Int):=by omega
 have hcc:(R:Int)+(R':Int)=((R+R':Nat):Int):=by omega
 rw [← hcc] at hfit
 generalize hL:zC (fun i j=>if i < R then zl R C l i j else zl R' C' l' ((i:Int) - (R:Int)) j) C' ((R+R') * C')=LL
 have HL:=Lib.hid hL
 generalize hT:(R+R') * C'=T at *
 have HT:=Lib.hid hT
 clear hT hL hcc
 go_enter func42,ntmps42
 go_wp2_with fail
 refine aM (zy _ _ _ _ _ _ _ (h.ext (by simp [go_sem]))) fun os1 d1=>?_
 go_wp2_with fail
 refine aM (zy _ _ _ _ _ _ _ (h'.ext (by simp [go_sem]))) fun os2 d2=>?_
 go_wp2_with fail
 refine (zaW _ _ _).mono ?_
 rintro e w' ⟨rfl,rfl⟩
 go_wp2_with fail
 rw [show (R:Int)+(R':Int)=((R+R':Nat):Int) by omega]
 refine (zcc (R+R') C' 90 #[.pointer (some ⟨w.heap.size,0,none⟩),.pointer (some ⟨w.heap.size+1,0,none⟩)] (fun i j=>if i < R then zl R C l i j else zl R' C' l' ((i:Int) - (R:Int)) j) _ (by omega) (by omega) (by rw [HT.out];exact hf) (fun _ _=>by kernel_rfl) ?_).mono ?_
 ·intro i j W hi hj hx
  refine zft w.heap.size (w.heap.size+1) R C R' C' A B n cap n' cap' l l' i j W (zb2.ext ?_ hx) (zb2.ext ?_ hx) (h.ext (Ext.trans ?_ hx)) (h'.ext (Ext.trans ?_ hx)) HN.out HN'.out hN hN' (by omega) (by omega) (by omega) _ rfl
  ·refine ⟨?_,?_,?_,?_⟩ <;> simp [go_sem]
  ·refine ⟨?_,?_,?_,?_⟩ <;> simp [go_sem]
  ·exact (by simp [go_sem])
  ·exact (by simp [go_sem])
 rintro e w' ⟨D,c',rfl,hs,hc',hb⟩
 obtain ⟨os',d',rfl⟩:=hb.more
 rw [HT.out] at hs hc' ⊢
 rw [HL.out] at hs
 go_wp2
 exact rct rfl rfl (by simp [go_sem]) ⟨D,c',rfl,(by (try simp only [za,zc,zb,Array.append_assoc] at hs);exact hs.sw (by simp <;> omega)),hc',by simp [go_sem]⟩
theorem zmP (R C R' C':Nat) (A B:Option Addr) (n cap n' cap':Nat) (l l':List Val) (w:World) (h:ArrIn w A n cap l) (h':ArrIn w B n' cap' l') (hr:zo R C l=true) (hr':zo R' C' l'=true) (hf:max R R' * (C+C')≤4096) :
  Calls prog 29 #[AV R C (.slice A n cap),AV R' C' (.slice B n' cap')] w fun e w'=>∃ D c,e = .returned (.tuple #[AV (max R R':Nat) (C+C':Nat) (.slice D (max R R' * (C+C')) c),.bool true])∧SlV w.heap.size w' D (zbQ R C l R' C' l')∧max R R' * (C+C')≤c∧Ext w w':=by
 unfold zbQ
 rcases Nat.lt_trichotomy R R' with hlt | rfl | hlt
 ·rw [Nat.max_eq_right (Nat.le_of_lt hlt)] at hf ⊢
  exact zn7 R C R' C' A B n cap n' cap' l l' w h h' hr hr' hlt hf
 ·rw [Nat.max_self] at hf ⊢
  exact zn6 R C C' A B n cap n' cap' l l' w h h' hr hr' hf
 ·rw [Nat.max_eq_left (Nat.le_of_lt hlt)] at hf ⊢
  exact zn5 R C R' C' A B n cap n' cap' l l' w h h' hr hr' hlt hf
theorem zn8 (R C R' C':Nat) (A B:Option Addr) (n cap n' cap':Nat) (l l':List Val) (w:World) (h:ArrIn w A n cap l) (h':ArrIn w B n' cap' l') (hr:zo R C l=true) (hr':zo R' C' l'=true) (hf:(R+R') * max C C'≤4096) :
  Calls prog 42 #[AV R C (.slice A n cap),AV R' C' (.slice B n' cap')] w fun e w'=>∃ D c,e = .returned (.tuple #[AV (R+R':Nat) (max C C':Nat) (.slice D ((R+R') * max C C') c),.bool true])∧SlV w.heap.size w' D (zdG R C l R' C' l')∧(R+R') * max C C'≤c∧Ext w w':=by
 unfold zdG
 rcases Nat.lt_trichotomy C C' with hlt | rfl | hlt
 ·rw [Nat.max_eq_right (Nat.le_of_lt hlt)] at hf ⊢
  exact zpM R C R' C' A B n cap n' cap' l l' w h h' hr hr' hlt hf
 ·rw [Nat.max_self] at hf ⊢
  exact zpL R C R' A B n cap n' cap' l l' w h h' hr hr' hf
 ·rw [Nat.max_eq_left (Nat.le_of_lt hlt)] at hf ⊢
  exact zpK R C R' C' A B n cap n' cap' l l' w h h' hr hr' hlt hf
theorem zn9 (r c r' c':Int) (A B:Option Addr) (n cap n' cap':Nat) (l l':List Val) (w:World) (h:ArrIn w A n cap l) (h':ArrIn w B n' cap' l') (hr:(zo r c l && zo r' c' l' && zaq (max r r') (c+c'))=false) :
  Tl prog 29 #[AV r c (.slice A n cap),AV r' c' (.slice B n' cap')] w (.tuple #[AV 0 0 (.slice none 0 0),.bool false]):=by
 by_cases h1:zo r c l=true
 ·by_cases h2:zo r' c' l'=true
  ·have h3:zaq (max r r') (c+c')=false:=by simpa [h1,h2] using hr
   clear hr
   obtain ⟨R,C,rfl,rfl,r1,r2,r3,r4,_⟩:=zcl h1
   obtain ⟨R',C',rfl,rfl,s1,s2,s3,s4,_⟩:=zcl h2
   obtain ⟨_,_,_,_,r5,r6⟩:=zM h1
   obtain ⟨_,_,_,_,s5,s6⟩:=zM h2
   clear r4 s4
   rcases Nat.lt_trichotomy R R' with hlt | rfl | hlt
   ·have hmx:max (R:Int) (R':Int)=(R':Int):=by omega
    rw [hmx] at h3
    go_enter func29,ntmps29;go_wp2_with fail;(refine aM (zy _ _ _ _ _ _ _ (h.ext (by simp [go_sem]))) fun os1 d1=>?_);go_wp2_with fail;(refine aM (zy _ _ _ _ _ _ _ (h'.ext (by simp [go_sem]))) fun os2 d2=>?_);go_wp2_with fail;refine (zaW _ _ _).mono ?_;rintro e w' ⟨rfl,rfl⟩;go_wp2;exact rct rfl rfl (by simp [go_sem]) ⟨rfl,by simp [go_sem]⟩
   ·have hmx:max (R:Int) (R:Int)=(R:Int):=by omega
    rw [hmx] at h3
    go_enter func29,ntmps29;go_wp2_with fail;(refine aM (zy _ _ _ _ _ _ _ (h.ext (by simp [go_sem]))) fun os1 d1=>?_);go_wp2_with fail;(refine aM (zy _ _ _ _ _ _ _ (h'.ext (by simp [go_sem]))) fun os2 d2=>?_);go_wp2_with fail;refine (zaW _ _ _).mono ?_;rintro e w' ⟨rfl,rfl⟩;go_wp2;exact rct rfl rfl (by simp [go_sem]) ⟨rfl,by simp [go_sem]⟩
   ·have hmx:max (R:Int) (R':Int)=(R:Int):=by omega
    rw [hmx] at h3
    go_enter func29,ntmps29;go_wp2_with fail;(refine aM (zy _ _ _ _ _ _ _ (h.ext (by simp [go_sem]))) fun os1 d1=>?_);go_wp2_with fail;(refine aM (zy _ _ _ _ _ _ _ (h'.ext (by simp [go_sem]))) fun os2 d2=>?_);go_wp2_with fail;refine (zaW _ _ _).mono ?_;rintro e w' ⟨rfl,rfl⟩;go_wp2;exact rct rfl rfl (by simp [go_sem]) ⟨rfl,by simp [go_sem]⟩
  ·have h2':zo r' c' l'=false:=by simpa using h2
   clear hr h2
   go_enter func29,ntmps29
   go_wp2_with fail
   refine aM (zy _ _ _ _ _ _ _ (h.ext (by simp [go_sem]))) fun os1 d1=>?_
   go_wp2_with fail
   refine aM (zy _ _ _ _ _ _ _ (h'.ext (by simp [go_sem]))) fun os2 d2=>?_
   go_wp2
   exact rct rfl rfl (by simp [go_sem]) ⟨rfl,by simp [go_sem]⟩
 ·have h1':zo r c l=false:=by simpa using h1
  clear hr h1
  go_enter func29,ntmps29
  go_wp2_with fail
  refine aM (zy _ _ _ _ _ _ _ (h.ext (by simp [go_sem]))) fun os1 d1=>?_
  go_wp2
  exact rct rfl rfl (by simp [go_sem]) ⟨rfl,by simp [go_sem]⟩
theorem zpN (r c r' c':Int) (A B:Option Addr) (n cap n' cap':Nat) (l l':List Val) (w:World) (h:ArrIn w A n cap l) (h':ArrIn w B n' cap' l') (hr:(zo r c l && zo r' c' l' && zaq (r+r') (max c c'))=false) :
  Tl prog 42 #[AV r c (.slice A n cap),AV r' c' (.slice B n' cap')] w (.tuple #[AV 0 0 (.slice none 0 0),.bool false]):=by
 by_cases h1:zo r c l=true
 ·by_cases h2:zo r' c' l'=true
  ·have h3:zaq (r+r') (max c c')=false:=by simpa [h1,h2] using hr
   clear hr
   obtain ⟨R,C,rfl,rfl,r1,r2,r3,r4,_⟩:=zcl h1
   obtain ⟨R',C',rfl,rfl,s1,s2,s3,s4,_⟩:=zcl h2
   obtain ⟨_,_,_,_,r5,r6⟩:=zM h1
   obtain ⟨_,_,_,_,s5,s6⟩:=zM h2
   clear r4 s4
   rcases Nat.lt_trichotomy C C' with hlt | rfl | hlt
   ·have hmx:max (C:Int) (C':Int)=(C':Int):=by omega
    rw [hmx] at h3
    go_enter func42,ntmps42;go_wp2_with fail;(refine aM (zy _ _ _ _ _ _ _ (h.ext (by simp [go_sem]))) fun os1 d1=>?_);go_wp2_with fail;(refine aM (zy _ _ _ _ _ _ _ (h'.ext (by simp [go_sem]))) fun os2 d2=>?_);go_wp2_with fail;refine (zaW _ _ _).mono ?_;rintro e w' ⟨rfl,rfl⟩;go_wp2;exact rct rfl rfl (by simp [go_sem]) ⟨rfl,by simp [go_sem]⟩
   ·have hmx:max (C:Int) (C:Int)=(C:Int):=by omega
    rw [hmx] at h3
    go_enter func42,ntmps42;go_wp2_with fail;(refine aM (zy _ _ _ _ _ _ _ (h.ext (by simp [go_sem]))) fun os1 d1=>?_);go_wp2_with fail;(refine aM (zy _ _ _ _ _ _ _ (h'.ext (by simp [go_sem]))) fun os2 d2=>?_);go_wp2_with fail;refine (zaW _ _ _).mono ?_;rintro e w' ⟨rfl,rfl⟩;go_wp2;exact rct rfl rfl (by simp [go_sem]) ⟨rfl,by simp [go_sem]⟩
   ·have hmx:max (C:Int) (C':Int)=(C:Int):=by omega
    rw [hmx] at h3
    go_enter func42,ntmps42;go_wp2_with fail;(refine aM (zy _ _ _ _ _ _ _ (h.ext (by simp [go_sem]))) fun os1 d1=>?_);go_wp2_with fail;(refine aM (zy _ _ _ _ _ _ _ (h'.ext (by simp [go_sem]))) fun os2 d2=>?_);go_wp2_with fail;refine (zaW _ _ _).mono ?_;rintro e w' ⟨rfl,rfl⟩;go_wp2;exact rct rfl rfl (by simp [go_sem]) ⟨rfl,by simp [go_sem]⟩
  ·have h2':zo r' c' l'=false:=by simpa using h2
   clear hr h2
   go_enter func42,ntmps42
   go_wp2_with fail
   refine aM (zy _ _ _ _ _ _ _ (h.ext (by simp [go_sem]))) fun os1 d1=>?_
   go_wp2_with fail
   refine aM (zy _ _ _ _ _ _ _ (h'.ext (by simp [go_sem]))) fun os2 d2=>?_
   go_wp2
   exact rct rfl rfl (by simp [go_sem]) ⟨rfl,by simp [go_sem]⟩
 ·have h1':zo r c l=false:=by simpa using h1
  clear hr h1
  go_enter func42,ntmps42
  go_wp2_with fail
  refine aM (zy _ _ _ _ _ _ _ (h.ext (by simp [go_sem]))) fun os1 d1=>?_
  go_wp2
  exact rct rfl rfl (by simp [go_sem]) ⟨rfl,by simp [go_sem]⟩
theorem zgH (f:Int) (h:I64 f):(zaX f).ok:=⟨⟨by simp [zaX],by simp [zaX]⟩,⟨by simp [zaX],by simp [zaX]⟩,⟨by simp [zaX],by simp [zaX]⟩,by simp [zaX,ByteArray.size],h⟩
theorem zee {l:List Val} {k:Nat} (h:k < l.length):zk l k∈l:=by
 simp [zk,List.getElem?_eq_getElem h]
theorem zge (R C:Nat) (l:List Val) (i j:Int) (hl:l.length=R * C):zl R C l i j∈l∨zl R C l i j=zaX 6:=by
 unfold zl
 split
 ·rename_i hh
  obtain ⟨a,b,rfl,rfl,ha,hb⟩:=zkh hh
  left
  refine zee ?_
  rw [hl]
  simp only [Int.toNat_natCast]
  calc a * C+b < a * C+C:=by omega
   _=(a+1) * C:=by rw [Nat.succ_mul]
   _≤R * C:=Nat.mul_le_mul_right _ ha
 ·exact .inr rfl
theorem zdW {R C:Nat} {l:List Val} {i j:Int} (h:zbP R C i j=false):zl R C l i j=zaX 6:=by simp [zl,h]
theorem zdH (g:Nat→Nat→Val) {R C i j:Nat} (hi:i < R) (hj:j < C):zk (zC g C (R * C)) (i * C+j)=g i j:=by
 have h1:(i * C+j) / C=i:=by rw [Nat.add_comm,Nat.add_mul_div_right _ _ (by omega),Nat.div_eq_of_lt hj];omega
 have h2:(i * C+j) % C=j:=by rw [Nat.add_comm,Nat.add_mul_mod_self_right,Nat.mod_eq_of_lt hj]
 have h3:i * C+j < R * C:=by
  calc i * C+j < i * C+C:=by omega
   _=(i+1) * C:=by rw [Nat.succ_mul]
   _≤R * C:=Nat.mul_le_mul_right _ hi
 simp [zk,zC,h1,h2,h3]
theorem zfu {g g' : Nat → Nat → Val} {C R : Nat} (h : ∀ i j, i < R → j < C → g i j = g' i j) : zC g C (R * C) = zC g' C (R * C) := by
  unfold zC
  refine List.map_congr_left fun t ht => ?_
  have ht' : t < R * C := List.mem_range.1 ht
  have hC : 0 < C := by rcases Nat.eq_zero_or_pos C with rfl | h; · simp at ht'
                        · exact h
  exact h _ _ (Nat.div_lt_of_lt_mul (by rw [Nat.mul_comm]; exact ht')) (Nat.mod_lt _ hC)
theorem zki {g:Nat→Nat→Val} {C k:Nat} {y:Val} (h:y∈zC g C k):∃ i j,y=g i j:=by
 unfold zC at h
 obtain ⟨t,_,rfl⟩:=List.mem_map.1 h
 exact ⟨_,_,rfl⟩
structure NA where
 R:Nat
 C:Nat
 l:List Val
def NA.right (a:NA):Prop:=zo a.R a.C a.l=true
def NA.ok (a:NA):Prop:=∀ x∈a.l,x.ok
theorem zi {R C:Nat} {l:List Val} : zo R C l=true↔1≤R∧1≤C∧R * C≤4096∧l.length=R * C∧∀ x∈l,valRight x=true:=by
 simp only [zo,Bool.and_eq_true,zcv,decide_eq_true_eq,List.all_eq_true]
 constructor
 ·rintro ⟨⟨⟨h1,h2,h3⟩,h4⟩,h5⟩
  refine ⟨h1,h2,h3,?_,h5⟩
  have:((l.length:Nat):Int)=((R * C:Nat):Int):=by rw [h4];simp
  omega
 ·rintro ⟨h1,h2,h3,h4,h5⟩
  exact ⟨⟨⟨h1,h2,h3⟩,by rw [h4];simp⟩,h5⟩
def besideO (a b:NA):Option NA:=if max a.R b.R * (a.C+b.C)≤4096 then some ⟨max a.R b.R,a.C+b.C,zbQ a.R a.C a.l b.R b.C b.l⟩ else none
def belowO (a b:NA):Option NA:=if (a.R+b.R) * max a.C b.C≤4096 then some ⟨a.R+b.R,max a.C b.C,zdG a.R a.C a.l b.R b.C b.l⟩ else none
theorem zl9 {P:Val→Prop} {a b:NA} (hl:a.l.length=a.R * a.C) (hl':b.l.length=b.R * b.C) (ha:∀ x∈a.l,P x) (hb:∀ x∈b.l,P x) (h6:P (zaX 6)) (q:Prop) [Decidable q] (i j i' j':Int) :
  P (if q then zl a.R a.C a.l i j else zl b.R b.C b.l i' j'):=by
 split
 ·rcases zge a.R a.C a.l i j hl with h | h
  ·exact ha _ h
  ·rw [h];exact h6
 ·rcases zge b.R b.C b.l i' j' hl' with h | h
  ·exact hb _ h
  ·rw [h];exact h6
theorem zfv {P:Val→Prop} {a b:NA} (hl:a.l.length=a.R * a.C) (hl':b.l.length=b.R * b.C) (ha:∀ x∈a.l,P x) (hb:∀ x∈b.l,P x) (h6:P (zaX 6)):∀ x∈zbQ a.R a.C a.l b.R b.C b.l,P x:=by
 intro x hx
 obtain ⟨i,j,rfl⟩:=zki hx
 exact zl9 hl hl' ha hb h6 _ _ _ _ _
theorem zi0 {P:Val→Prop} {a b:NA} (hl:a.l.length=a.R * a.C) (hl':b.l.length=b.R * b.C) (ha:∀ x∈a.l,P x) (hb:∀ x∈b.l,P x) (h6:P (zaX 6)):∀ x∈zdG a.R a.C a.l b.R b.C b.l,P x:=by
 intro x hx
 obtain ⟨i,j,rfl⟩:=zki hx
 exact zl9 hl hl' ha hb h6 _ _ _ _ _
theorem zmQ:I64 6:=⟨by omega,by omega⟩
theorem zef {a b c:NA} (ha:a.right) (hb:b.right) (h:besideO a b=some c):c.right:=by
 obtain ⟨a1,a2,a3,a4,a5⟩:=zi.1 ha
 obtain ⟨b1,b2,b3,b4,b5⟩:=zi.1 hb
 unfold besideO at h
 split at h
 ·obtain rfl:=(Option.some.inj h).symm
  refine zi.2 ⟨?_,?_,?_,?_,?_⟩
  ·dsimp;omega
  ·dsimp;omega
  ·assumption
  ·simp [zbQ,za7]
  ·exact zfv a4 b4 a5 b5 (zec 6 (by omega))
 ·cases h
theorem zgV {a b c:NA} (ha:a.right) (hb:b.right) (h:belowO a b=some c):c.right:=by
 obtain ⟨a1,a2,a3,a4,a5⟩:=zi.1 ha
 obtain ⟨b1,b2,b3,b4,b5⟩:=zi.1 hb
 unfold belowO at h
 split at h
 ·obtain rfl:=(Option.some.inj h).symm
  refine zi.2 ⟨?_,?_,?_,?_,?_⟩
  ·dsimp;omega
  ·dsimp;omega
  ·assumption
  ·simp [zdG,za7]
  ·exact zi0 a4 b4 a5 b5 (zec 6 (by omega))
 ·cases h
theorem zds {R C:Nat} {i j:Int} : zbP R C i j=true↔0≤i∧i < R∧0≤j∧j < C:=by
 simp only [zbP,Bool.and_eq_true,decide_eq_true_eq,and_assoc]
theorem zgI {R C:Nat} {i j:Int} (h:¬ (0≤i∧i < R∧0≤j∧j < C)):zbP R C i j=false:=by
 cases hh:zbP R C i j with
 | false=>rfl
 | true=>exact absurd (zds.1 hh) h
def orZ (o:Option NA):NA:=o.getD ⟨0,0,[]⟩
def zhI (f:FuncId) (J:NA→NA→Option NA):Prop :=
 ∀ (a b:NA) (A B:Option Addr) (n cap n' cap':Nat) (w:World),ArrIn w A n cap a.l→ArrIn w B n' cap' b.l→a.right→b.right→∀ x:NA,∀ k:Bool,orZ (J a b)=x→(J a b).isSome=k →
  Calls prog f #[AV a.R a.C (.slice A n cap),AV b.R b.C (.slice B n' cap')] w fun e w'=>∃ D m c,e = .returned (.tuple #[AV x.R x.C (.slice D m c),.bool k])∧ArrIn w' D m c x.l∧SlV w.heap.size w' D x.l∧Ext w w'
theorem zma {a b:Nat} (_h1:1≤a) (_h2:1≤b) (h:¬ a * b≤4096):zaq a b=false:=by
 cases hh:zaq a b with
 | false=>rfl
 | true=>exact absurd (zcv.1 hh).2.2 h
theorem zpO:zhI 29 besideO:=by
 intro a b A B n cap n' cap' w h h' ha hb x k hx hk
 obtain ⟨a1,a2,a3,a4,a5⟩:=zi.1 ha
 obtain ⟨b1,b2,b3,b4,b5⟩:=zi.1 hb
 by_cases hf:max a.R b.R * (a.C+b.C)≤4096
 ·simp only [besideO,if_pos hf,orZ,Option.getD_some,Option.isSome_some] at hx hk
  subst hx hk
  refine (zmP a.R a.C b.R b.C A B n cap n' cap' a.l b.l w h h' ha hb hf).mono ?_
  rintro e w' ⟨D,c,rfl,hs,hc,hX⟩
  exact ⟨D,_,c,rfl,⟨Rd.mono hs (Nat.zero_le _),by simp [zbQ,za7],hc,by omega,zfv a4 b4 h.ok h'.ok (zgH 6 zmQ)⟩,hs,hX⟩
 ·simp only [besideO,if_neg hf,orZ,Option.getD_none,Option.isSome_none] at hx hk
  subst hx hk
  refine (zn9 a.R a.C b.R b.C A B n cap n' cap' a.l b.l w h h' ?_).mono ?_
  ·rw [show (max (a.R:Int) (b.R:Int))=((max a.R b.R:Nat):Int) by omega,show ((a.C:Int)+(b.C:Int))=((a.C+b.C:Nat):Int) by omega,zma (by omega) (by omega) hf,Bool.and_false]
  rintro e w' ⟨rfl,hX⟩
  exact ⟨none,0,0,rfl,ArrIn.none_ _,SlV.nil _ _ _,hX⟩
theorem zrb:zhI 42 belowO:=by
 intro a b A B n cap n' cap' w h h' ha hb x k hx hk
 obtain ⟨a1,a2,a3,a4,a5⟩:=zi.1 ha
 obtain ⟨b1,b2,b3,b4,b5⟩:=zi.1 hb
 by_cases hf:(a.R+b.R) * max a.C b.C≤4096
 ·simp only [belowO,if_pos hf,orZ,Option.getD_some,Option.isSome_some] at hx hk
  subst hx hk
  refine (zn8 a.R a.C b.R b.C A B n cap n' cap' a.l b.l w h h' ha hb hf).mono ?_
  rintro e w' ⟨D,c,rfl,hs,hc,hX⟩
  exact ⟨D,_,c,rfl,⟨Rd.mono hs (Nat.zero_le _),by simp [zdG,za7],hc,by omega,zi0 a4 b4 h.ok h'.ok (zgH 6 zmQ)⟩,hs,hX⟩
 ·simp only [belowO,if_neg hf,orZ,Option.getD_none,Option.isSome_none] at hx hk
  subst hx hk
  refine (zpN a.R a.C b.R b.C A B n cap n' cap' a.l b.l w h h' ?_).mono ?_
  ·rw [show (max (a.C:Int) (b.C:Int))=((max a.C b.C:Nat):Int) by omega,show ((a.R:Int)+(b.R:Int))=((a.R+b.R:Nat):Int) by omega,zma (by omega) (by omega) hf,Bool.and_false]
  rintro e w' ⟨rfl,hX⟩
  exact ⟨none,0,0,rfl,ArrIn.none_ _,SlV.nil _ _ _,hX⟩
end Go.Proofs.YtkoidgbgoccgmaaGreatDoor
namespace Go.Proofs.YtkoidgbgoccgmaaGreatDoor
open Tryz
open Go.RowKit NM
structure Ar where
 x:NA
 A:Option Addr
 n:Nat
 cap:Nat
def Ar.cells (a:Ar):List Value:=[.int .i64 a.x.R,.int .i64 a.x.C,.slice a.A a.n a.cap]
def zdI (xs:List Ar):List Value:=xs.flatMap Ar.cells
def zpP (w:World) (b o:Nat) (a:Ar):Prop :=
 w.cell? ⟨b,o,none⟩=some (.int .i64 a.x.R)∧w.cell? ⟨b,o+1,none⟩=some (.int .i64 a.x.C)∧w.cell? ⟨b,o+2,none⟩=some (.slice a.A a.n a.cap)
theorem zi1:∀ (xs:List Ar) (i:Nat) (a:Ar),xs[i]? = some a→∀ j,j < 3→(zdI xs)[i * 3+j]? = a.cells[j]?
 | [],i,x,h,j,hj=>by simp at h
 | y::l,0,x,h,j,hj=>by
  obtain rfl:y=x:=by simpa using h
  rw [zdI,List.flatMap_cons,List.getElem?_append_left (by simp [Ar.cells];omega)]
  simp
 | y::l,i+1,x,h,j,hj=>by
  rw [zdI,List.flatMap_cons,List.getElem?_append_right (by simp [Ar.cells];omega)]
  rw [show (i+1) * 3+j - y.cells.length=i * 3+j by simp [Ar.cells];omega]
  exact zi1 l i x (by simpa using h) j hj
structure ArOk (w:World) (a:Ar):Prop where
 arr:ArrIn w a.A a.n a.cap a.x.l
 right:a.x.right
theorem ArOk.ext {w w':World} {a:Ar} (h:ArOk w a) (hx:Ext w w'):ArOk w' a:=⟨h.arr.ext hx,h.right⟩
structure ArgsIn (w:World) (A:Option Addr) (n cap:Nat) (xs:List Ar):Prop where
 rd:Rd 0 w A (zdI xs)
 len:xs.length=n
 cap:n≤cap
 small:n≤9223372036854775807
 all:∀ a∈xs,ArOk w a
theorem ArgsIn.ext {w w':World} {A:Option Addr} {n cap:Nat} {xs:List Ar} (h:ArgsIn w A n cap xs) (hx:Ext w w'):ArgsIn w' A n cap xs :=
 ⟨h.rd.ext hx,h.len,h.cap,h.small,fun a ha=>(h.all a ha).ext hx⟩
theorem ArgsIn.get {w:World} {A:Option Addr} {n cap:Nat} {xs:List Ar} (h:ArgsIn w A n cap xs) {k:Nat} {a:Ar} (hk:xs[k]? = some a) :
  ∃ b off,A=some ⟨b,off,none⟩∧zpP w b (off+k * 3) a∧ArOk w a:=by
 have hc:∀ j,j < 3→(zdI xs)[k * 3+j]? = a.cells[j]?:=zi1 xs k a hk
 obtain ⟨b,off,rfl,_,h0⟩:=h.rd (k * 3+0) (.int .i64 a.x.R) (by rw [hc 0 (by omega)];rfl)
 refine ⟨b,off,rfl,?_,h.all a (List.mem_of_getElem? hk)⟩
 have hg:∀ j u,j < 3→a.cells[j]? = some u→w.cell? ⟨b,off+k * 3+j,none⟩=some u:=fun j u hj hu=>by
  obtain ⟨b',off',he,_,h1⟩:=h.rd (k * 3+j) u (by rw [hc j hj];exact hu)
  obtain ⟨rfl,rfl⟩:=aI he
  rw [← h1];congr 2;omega
 exact ⟨hg 0 _ (by omega) rfl,hg 1 _ (by omega) rfl,hg 2 _ (by omega) rfl⟩
theorem ArgsIn.at {w:World} {A:Option Addr} {n cap:Nat} {xs:List Ar} (h:ArgsIn w A n cap xs) {k:Nat} (hk:k < n) :
  ∃ a b off,xs[k]? = some a∧A=some ⟨b,off,none⟩∧zpP w b (off+k * 3) a∧ArOk w a:=by
 have hl:k < xs.length:=by rw [h.len];exact hk
 obtain ⟨b,off,e,h1,h2⟩:=h.get (List.getElem?_eq_getElem hl)
 exact ⟨_,b,off,List.getElem?_eq_getElem hl,e,h1,h2⟩
theorem Rd.of_row {w:World} {b:Nat} {cs:List Value} {t:TypeId} (h:w.heap[b]? = some (.cells cs.toArray t)) (base:Nat) (hb:base≤b):Rd base w (some ⟨b,0,none⟩) cs:=fun j u hu=>by
 refine ⟨b,0,rfl,hb,?_⟩
 simp only [World.cell?,h,Nat.zero_add]
 simpa using hu
def zan (w:World) (x:NA) (e:Ending) (w':World):Prop :=
 ∃ D m cc,e = .returned (AV x.R x.C (.slice D m cc))∧ArrN w.heap.size w' D m cc x.l∧Ext w w'
theorem aR {P:Program} {f:FuncId} {ag:Array Value} {w:World} {x:NA} {Q:Ending→World→Prop} (h:Calls P f ag w (zan w x)) (k:∀ D m cc os d,ArrN w.heap.size (more w os d) D m cc x.l→Q (.returned (AV x.R x.C (.slice D m cc))) (more w os d)):Calls P f ag w Q :=
 h.mono (by rintro e w' ⟨D,m,cc,rfl,hD,hb⟩;obtain ⟨os,d,rfl⟩:=hb.more;exact k D m cc os d hD)
theorem raS {base d d':Nat} {w w' X X':World} {os:Array Obj} {x:NA} {D:Option Addr} {m cc:Nat} (hr:Rd base (more X os d) D (zm x.l)) (h:ArrN base w' D m cc x.l) (k:X.heap.size≤base∧X'.heap.size=X.heap.size∧w.heap.size≤base) (he:Ext w (more X' os d')):zan w x (.returned (AV x.R x.C (.slice D m cc))) (more X' os d') :=
 ⟨D,m,cc,rfl,⟨hr.sw k,h.len,h.cap,h.small,h.ok⟩,he⟩
def zao (v:Val):NA:=⟨1,1,[v]⟩
def zf (f:Int):NA:=zao (zeX f)
structure GA where
 r:Int
 c:Int
 A:Option Addr
 n:Nat
 cap:Nat
 l:List Val
def GA.cells (g:GA):List Value:=[.int .i64 g.r,.int .i64 g.c,.slice g.A g.n g.cap]
def zdc (gs:List GA):List Value:=gs.flatMap GA.cells
def GA.right (g:GA):Bool:=zo g.r g.c g.l
def Ar.toG (a:Ar):GA:=⟨a.x.R,a.x.C,a.A,a.n,a.cap,a.x.l⟩
def GAt (w:World) (b o:Nat) (g:GA):Prop :=
 w.cell? ⟨b,o,none⟩=some (.int .i64 g.r)∧w.cell? ⟨b,o+1,none⟩=some (.int .i64 g.c)∧w.cell? ⟨b,o+2,none⟩=some (.slice g.A g.n g.cap)
theorem zgf:∀ (gs:List GA) (i:Nat) (g:GA),gs[i]? = some g→∀ j,j < 3→(zdc gs)[i * 3+j]? = g.cells[j]?
 | [],i,x,h,j,hj=>by simp at h
 | y::l,0,x,h,j,hj=>by
  obtain rfl:y=x:=by simpa using h
  rw [zdc,List.flatMap_cons,List.getElem?_append_left (by simp [GA.cells];omega)]
  simp
 | y::l,i+1,x,h,j,hj=>by
  rw [zdc,List.flatMap_cons,List.getElem?_append_right (by simp [GA.cells];omega)]
  rw [show (i+1) * 3+j - y.cells.length=i * 3+j by simp [GA.cells];omega]
  exact zgf l i x (by simpa using h) j hj
structure ArgsG (w:World) (A:Option Addr) (n cap:Nat) (gs:List GA):Prop where
 rd:Rd 0 w A (zdc gs)
 len:gs.length=n
 cap:n≤cap
 small:n≤9223372036854775807
 all:∀ g∈gs,ArrIn w g.A g.n g.cap g.l
theorem ArgsG.ext {w w':World} {A:Option Addr} {n cap:Nat} {gs:List GA} (h:ArgsG w A n cap gs) (hx:Ext w w'):ArgsG w' A n cap gs :=
 ⟨h.rd.ext hx,h.len,h.cap,h.small,fun g hg=>(h.all g hg).ext hx⟩
theorem ArgsG.get {w:World} {A:Option Addr} {n cap:Nat} {gs:List GA} (h:ArgsG w A n cap gs) {k:Nat} {g:GA} (hk:gs[k]? = some g) :
  ∃ b off,A=some ⟨b,off,none⟩∧GAt w b (off+k * 3) g∧ArrIn w g.A g.n g.cap g.l:=by
 have hc:∀ j,j < 3→(zdc gs)[k * 3+j]? = g.cells[j]?:=zgf gs k g hk
 obtain ⟨b,off,rfl,_,h0⟩:=h.rd (k * 3+0) (.int .i64 g.r) (by rw [hc 0 (by omega)];rfl)
 refine ⟨b,off,rfl,?_,h.all g (List.mem_of_getElem? hk)⟩
 have hg:∀ j u,j < 3→g.cells[j]? = some u→w.cell? ⟨b,off+k * 3+j,none⟩=some u:=fun j u hj hu=>by
  obtain ⟨b',off',he,_,h1⟩:=h.rd (k * 3+j) u (by rw [hc j hj];exact hu)
  obtain ⟨rfl,rfl⟩:=aI he
  rw [← h1];congr 2;omega
 exact ⟨hg 0 _ (by omega) rfl,hg 1 _ (by omega) rfl,hg 2 _ (by omega) rfl⟩
theorem ArgsG.at {w:World} {A:Option Addr} {n cap:Nat} {gs:List GA} (h:ArgsG w A n cap gs) {k:Nat} (hk:k < n) :
  ∃ g b off,gs[k]? = some g∧A=some ⟨b,off,none⟩∧GAt w b (off+k * 3) g∧ArrIn w g.A g.n g.cap g.l:=by
 have hl:k < gs.length:=by rw [h.len];exact hk
 obtain ⟨b,off,e,h1,h2⟩:=h.get (List.getElem?_eq_getElem hl)
 exact ⟨_,b,off,List.getElem?_eq_getElem hl,e,h1,h2⟩
theorem zkj {r c:Int} {l:List Val} (h:zo r c l=true):∃ R C:Nat,r=(R:Int)∧c=(C:Int):=by
 unfold zo at h
 simp only [Bool.and_eq_true] at h
 have:=zeb h.1.1
 exact ⟨r.toNat,c.toNat,by omega,by omega⟩
theorem zfw:∀ xs:List Ar,zdc (xs.map Ar.toG)=zdI xs
 | []=>rfl
 | a::xs=>by
  show GA.cells (Ar.toG a)++zdc (xs.map Ar.toG)=Ar.cells a++zdI xs
  rw [zfw xs];rfl
theorem ArgsG.toIn {w:World} {A:Option Addr} {n cap:Nat} {xs:List Ar} (h:ArgsG w A n cap (xs.map Ar.toG)) (hr:∀ a∈xs,a.x.right):ArgsIn w A n cap xs :=
 ⟨by rw [← zfw];exact h.rd,by rw [← h.len,List.length_map],h.cap,h.small,fun a ha=>⟨h.all a.toG (List.mem_map.2 ⟨a,ha,rfl⟩),hr a ha⟩⟩
theorem ArgsIn.toG {w:World} {A:Option Addr} {n cap:Nat} {xs:List Ar} (h:ArgsIn w A n cap xs):ArgsG w A n cap (xs.map Ar.toG) :=
 ⟨by rw [zfw];exact h.rd,by rw [List.length_map];exact h.len,h.cap,h.small,fun g hg=>by obtain ⟨a,ha,rfl⟩:=List.mem_map.1 hg;exact (h.all a ha).arr⟩
def zI (lo hi:Nat) (gs:List GA) (F:NA):NA :=
 if gs.length < lo∨hi < gs.length then zf 2 else if gs.all GA.right then F else zf 9
theorem zdp.res {w w':World} {e:Ending} {x:NA} (h:zdp w.heap.size w' e x.R x.C x.l) (hl:x.l.length≤9223372036854775807) (ho:x.ok) (hx:Ext w w'):zan w x e w':=by
 obtain ⟨A,cap,rfl,h1,h2⟩:=h
 exact ⟨A,_,cap,rfl,⟨h1,rfl,h2,hl,ho⟩,hx⟩
theorem ziB (v:Val) (w:World) (hv:v.ok) (hr:v.right) :
  Calls prog 24 #[VV v.kind v.mant v.exp v.text v.truth v.fault] w fun e w'=>zan w (zao v) e w' :=
 (zgc v.kind v.mant v.exp v.fault v.text v.truth w hv.2.1 hv.2.2.2.1 hr).mono fun e w' ⟨h1,h2⟩=>zdp.res (x:=zao v) h1 (by simp [zao]) (fun y hy=>by rw [show y=v by simpa [zao] using hy];exact hv) h2
theorem zoa (f:Int):(zeX f).ok:=zgH _ (by have:=zl6 f;unfold I64;omega)
theorem zmb {b:UInt8} (h1:97≤b.toNat) (h2:b.toNat≤122):(upB b).toNat=b.toNat - 32:=by
 unfold upB
 rw [if_pos ⟨UInt8.le_iff_toNat_le.2 h1,UInt8.le_iff_toNat_le.2 h2⟩,UInt8.toNat_sub_of_le]
 ·rfl
 ·rw [UInt8.le_iff_toNat_le];show 32≤b.toNat;omega
theorem zfd {b:UInt8} (h:b.toNat < 97∨122 < b.toNat):upB b=b:=by
 unfold upB
 rw [if_neg]
 rintro ⟨h1,h2⟩
 have h1:97≤b.toNat:=UInt8.le_iff_toNat_le.1 h1
 have h2:b.toNat≤122:=UInt8.le_iff_toNat_le.1 h2
 omega
theorem zmR (w:World) (e:TypeId) (s:ByteArray):Ext w (Lib.bytesWorld w e s) :=
 ⟨rfl,rfl,rfl,by rw [Lib.bytesWorld_size];omega,fun b hb=>Lib.bytesWorld_at_old w e s b hb⟩
theorem zhJ (s:ByteArray) (j:Nat) (h:j < s.size):(tl s)[j]? = some (s[j]'h):=by
 unfold tl
 rw [List.getElem?_eq_getElem (by exact h)]
 rfl
theorem zkk (s:ByteArray) (j:Nat) (h:j < s.size):(zac s)[j]'(by rw [zcG];exact h)=upB (s[j]'h):=by
 have h1:=zhJ (zac s) j (by rw [zcG];exact h)
 rw [zir,List.getElem?_map,zhJ s j h] at h1
 exact (Option.some.inj h1).symm
structure FS (w:World) (s:ByteArray) (k:Nat) (wr:World):Prop where
 ext:Ext w wr
 cell:∀ j (h:j < s.size),wr.cell? ⟨w.heap.size,j,none⟩=some (.int .u8 ((if j < k then upB (s[j]'h) else s[j]'h).toNat:Int))
 fz:∀ j,j < s.size→wr.frozen? ⟨w.heap.size,j,none⟩=false
theorem FS.start (w:World) (s:ByteArray):FS w s 0 (Lib.bytesWorld w 5 s):=by
 refine ⟨zmR _ _ _,fun j h=>?_,fun j h=>?_⟩
 ·rw [Lib.bytesWorld_cell _ _ _ _ h]
  have h1:=zhJ s j h
  unfold tl at h1
  rw [List.getD_eq_getElem?_getD,h1]
  rfl
 ·have hc:s.size≤(Lib.bytesCells w 5 s).size:=by
   unfold Lib.bytesCells
   rw [Array.size_append,Array.size_map]
   exact Nat.le_add_right _ _
  unfold World.frozen?
  rw [Lib.bytesWorld_at_new]
  simp
  omega
theorem FS.lt {w:World} {s:ByteArray} {k:Nat} {wr:World} (h:FS w s k wr) (h0:0 < s.size):w.heap.size < wr.heap.size:=zg (h.cell 0 h0)
theorem FS.up {w:World} {s:ByteArray} {k:Nat} {wr:World} (h:FS w s k wr) (hk:k < s.size) (v:Int) (hv:v=((upB (s[k]'hk)).toNat:Int)):FS w s (k+1) (wr.setCell ⟨w.heap.size,k,none⟩ (.int .u8 v)):=by
 subst hv
 refine ⟨h.ext.set _ (Nat.le_refl _),fun j hj=>?_,fun j hj=>by rw [World.frozen?_setCell];exact h.fz j hj⟩
 by_cases hjk:j=k
 ·subst hjk
  rw [World.cell?_setCell_same _ _ _ (h.cell j hj),if_pos (by omega)]
 ·rw [World.cell?_setCell_other _ _ _ _ (by intro e;injection e with _ e;omega),h.cell j hj]
  congr 4
  by_cases h1:j < k
  ·rw [if_pos h1,if_pos (by omega)]
  ·rw [if_neg h1,if_neg (by omega)]
theorem FS.keep {w:World} {s:ByteArray} {k:Nat} {wr:World} (h:FS w s k wr) (hk:k < s.size) (hv:upB (s[k]'hk)=s[k]'hk):FS w s (k+1) wr:=by
 refine ⟨h.ext,fun j hj=>?_,h.fz⟩
 rw [h.cell j hj]
 by_cases hjk:j=k
 ·subst hjk
  rw [if_neg (by omega),if_pos (by omega),hv]
 ·congr 4
  by_cases h1:j < k
  ·rw [if_pos h1,if_pos (by omega)]
  ·rw [if_neg h1,if_neg (by omega)]
theorem FS.done {w:World} {s:ByteArray} {wr:World} (h:FS w s s.size wr):Lib.Bytes wr w.heap.size 0 (zac s):=by
 intro j hj
 have hj':j < s.size:=by rw [zcG] at hj;exact hj
 rw [Nat.zero_add,h.cell j hj',if_pos hj',zkk s j hj']
theorem zmS (s:ByteArray) (w:World) (h0:0 < s.size) (hs:s.size≤9223372036854775807) :
  Tl prog 163 #[.string s] w (.string (zac s)):=by
 have hc1:=Lib.run_convert_string_bytes (P:=prog) w 9 124 5 s Tryz.underlying9 Tryz.underlying124 Tryz.underlying5
 have hst:=FS.start w s
 generalize Lib.bytesWorld w 5 s=W at *
 generalize grownCap w s.size 0 5=cap at *
 have HST:=Lib.hid hst
 clear hst
 go_enter func163,ntmps163
 go_wp2_with fail
 go_loopw [10] (fun v10 wr=>∃ k:Nat,k≤s.size∧v10 = .int .i64 (k:Int)∧Hid (FS w s k wr)) (fun v10 _=>s.size - (intOf v10).toNat)
 case atStart=>exact ⟨0,Nat.zero_le _,rfl,HST⟩
 case round =>
  obtain ⟨k,hk,rfl,H⟩:=hrel
  by_cases hks:k < s.size
  ·have hc:=H.out.cell k hks
   rw [if_neg (Nat.lt_irrefl k)] at hc
   have hf:=H.out.fz k hks
   have hl:=H.out.lt h0
   have hb:=(s[k]'hks).toNat_lt
   by_cases h97:97≤(s[k]'hks).toNat
   ·by_cases h122:(s[k]'hks).toNat≤122
    ·have HU:=Lib.hid (H.out.up hks (((s[k]'hks).toNat:Int) - 97+65) (by rw [zmb h97 h122];omega))
     have g1:(97:Int)≤((s[k]'hks).toNat:Int):=by omega
     have g2:((s[k]'hks).toNat:Int)≤122:=by omega
     generalize (s[k]'hks).toNat=c at *
     have w1:IntKind.u8.wrap ((c:Int) - 97)=(c:Int) - 97:=by rw [IntKind.wrap_u8];omega
     have w2:IntKind.u8.wrap ((c:Int) - 97+65)=(c:Int) - 97+65:=by rw [IntKind.wrap_u8];omega
     clear h97 h122
     go_wp2_with fail
     exact ⟨⟨k+1,by omega,by go_num,HU⟩,by simp [intOf];omega⟩
    ·have HU:=Lib.hid (H.out.keep hks (zfd (by omega)))
     have g1:(97:Int)≤((s[k]'hks).toNat:Int):=by omega
     have g2:¬ ((s[k]'hks).toNat:Int)≤122:=by omega
     generalize (s[k]'hks).toNat=c at *
     clear h97 h122
     go_wp2_with fail
     exact ⟨⟨k+1,by omega,by go_num,HU⟩,by simp [intOf];omega⟩
   ·have HU:=Lib.hid (H.out.keep hks (zfd (by omega)))
    have g1:¬ (97:Int)≤((s[k]'hks).toNat:Int):=by omega
    generalize (s[k]'hks).toNat=c at *
    clear h97
    go_wp2_with fail
    exact ⟨⟨k+1,by omega,by go_num,HU⟩,by simp [intOf];omega⟩
  ·obtain rfl:k=s.size:=by omega
   have hcv:=Lib.run_convert_whole (P:=prog) wr 124 5 9 Tryz.underlying124 Tryz.underlying5 Tryz.underlying9 w.heap.size 0 (zac s) H.out.done cap
   rw [zcG] at hcv
   go_wp2_with fail
   exact rt1 rfl rfl ⟨rfl,H.out.ext⟩
theorem zhn (s:ByteArray) (w:World) (hs:s.size≤9223372036854775807) :
  Tl prog 130 #[.string s] w (.string (zac s)):=by
 go_enter func130,ntmps130
 go_wp2_with fail
 go_loop [6] (fun v6=>∃ k:Nat,k≤s.size∧v6 = .int .i64 (k:Int)∧Hid (∀ j (h:j < s.size),j < k→upB (s[j]'h)=s[j]'h)) (fun v6=>s.size - (intOf v6).toNat)
 case atStart=>exact ⟨0,Nat.zero_le _,rfl,fun j _ h=>by omega⟩
 case round =>
  obtain ⟨k,hk,rfl,H⟩:=hrel
  have hstep:∀ hks:k < s.size,upB (s[k]'hks)=s[k]'hks→Hid (∀ j (h:j < s.size),j < k+1→upB (s[j]'h)=s[j]'h):=by
   intro hks hu j hj hjk
   by_cases h:j=k
   ·subst h;exact hu
   ·exact H.out j hj (by omega)
  by_cases hks:k < s.size
  ·have HS:=fun hu=>hstep hks hu
   by_cases h97:97≤(s[k]'hks).toNat
   ·have g1:(97:Int)≤((s[k]'hks).toNat:Int):=by omega
    by_cases h122:(s[k]'hks).toNat≤122
    ·have g2:((s[k]'hks).toNat:Int)≤122:=by omega
     have hfd:=zmS s w (by omega) hs
     clear HS hstep h97 h122
     go_wp2_with (go_at_call 163;(with_reducible refine hfd.mono ?_);rintro e w' ⟨rfl,hb⟩)
     exact rt1 rfl rfl ⟨rfl,hb⟩
    ·have g2:¬ ((s[k]'hks).toNat:Int)≤122:=by omega
     have HU:=HS (zfd (by omega))
     clear HS hstep h97 h122
     go_wp2_with fail
     exact ⟨⟨k+1,by omega,by go_num,HU⟩,by simp [intOf];omega⟩
   ·have g1:¬ (97:Int)≤((s[k]'hks).toNat:Int):=by omega
    have HU:=HS (zfd (by omega))
    clear HS hstep h97
    go_wp2_with fail
    exact ⟨⟨k+1,by omega,by go_num,HU⟩,by simp [intOf];omega⟩
  ·have hfs:Hid (zac s=s):=by
    show _=_
    have h1:tl (zac s)=tl s:=by
     rw [zir]
     conv=>rhs;rw [← List.map_id (tl s)]
     apply List.map_congr_left
     intro b hb
     obtain ⟨j,hj,rfl⟩:=List.mem_iff_getElem.1 hb
     exact H.out j hj (by have:j < s.size:=hj;omega)
    rw [zqt h1]
    cases s;simp [tl]
   have hks':¬ (k:Int) < (s.size:Int):=by omega
   clear hstep
   go_wp2_with fail
   exact bodyPost_ret (v:=.string s) (by simp [results,results130,go_sem]) rfl ⟨by rw [hfs.out],Ext.refl _⟩
theorem zpQ (w:World) (c:UInt8):(convert 124 9 (.slice (some ⟨w.heap.size,0,none⟩) 1 1)).run prog (w.alloc (.cells #[.int .u8 (c.toNat:Int)] 5)) = .ok (.string ⟨#[c]⟩) (w.alloc (.cells #[.int .u8 (c.toNat:Int)] 5)):=by
 have hb:Lib.Bytes (w.alloc (.cells #[.int .u8 (c.toNat:Int)] 5)) w.heap.size 0 ⟨#[c]⟩:=by
  intro i hi
  have hi:i < 1:=hi
  obtain rfl:i=0:=by omega
  rw [World.cell?_alloc_new]
  rfl
 exact Lib.run_convert_whole (P:=prog) _ 124 5 9 Tryz.underlying124 Tryz.underlying5 Tryz.underlying9 w.heap.size 0 ⟨#[c]⟩ hb 1
theorem zcw (s:ByteArray) (w:World) (hs:s.size≤9223372036854775807) :
  Tl prog 148 #[.string s] w (.string (zac s)):=by
 go_enter func148,ntmps148
 go_wp2_with fail
 go_loopw [3,4] (fun v3 v4 wr=>∃ (k:Nat) (t:ByteArray),k≤s.size∧v3 = .string t∧v4 = .int .i64 (k:Int)∧t.size=k∧Ext w wr∧Hid (tl t=(tl (zac s)).take k)) (fun _ v4 _=>s.size - (intOf v4).toNat)
 case atStart=>exact ⟨0,⟨#[]⟩,Nat.zero_le _,rfl,rfl,rfl,Ext.refl _,by show _=_;rfl⟩
 case round =>
  obtain ⟨k,t,hk,rfl,rfl,ht,hx,H⟩:=hrel
  by_cases hks:k < s.size
  ·have hb:=(s[k]'hks).toNat_lt
   have HN:Hid (tl (t++⟨#[upB (s[k]'hks)]⟩)=(tl (zac s)).take (k+1)):=by
    have hg:=zhJ (zac s) k (by rw [zcG];exact hks)
    rw [zkk s k hks] at hg
    show _=_
    rw [znQ,H.out,List.take_add_one,hg];rfl
   have hcv:=zpQ wr (upB (s[k]'hks))
   have HT:=Lib.hid ht
   have g5:¬ 9223372036854775807 < t.size+1:=by omega
   by_cases h97:97≤(s[k]'hks).toNat
   ·have g1:(97:Int)≤((s[k]'hks).toNat:Int):=by omega
    by_cases h122:(s[k]'hks).toNat≤122
    ·have g2:((s[k]'hks).toNat:Int)≤122:=by omega
     have w1:IntKind.u8.wrap (((s[k]'hks).toNat:Int) - 32)=((upB (s[k]'hks)).toNat:Int):=by rw [IntKind.wrap_u8,zmb h97 h122];omega
     clear h97 h122 ht
     go_wp2_with fail
     refine ⟨⟨k+1,_,by omega,rfl,by go_num,?_,(hx.alloc _),HN⟩,by simp [intOf];omega⟩
     rw [ByteArray.size_append,HT.out];rfl
    ·have g2:¬ ((s[k]'hks).toNat:Int)≤122:=by omega
     have hup:upB (s[k]'hks)=s[k]'hks:=zfd (by omega)
     rw [hup] at hcv HN
     clear h97 h122 hup ht
     go_wp2_with fail
     refine ⟨⟨k+1,_,by omega,rfl,by go_num,?_,(hx.alloc _),HN⟩,by simp [intOf];omega⟩
     rw [ByteArray.size_append,HT.out];rfl
   ·have g1:¬ (97:Int)≤((s[k]'hks).toNat:Int):=by omega
    have hup:upB (s[k]'hks)=s[k]'hks:=zfd (by omega)
    rw [hup] at hcv HN
    clear h97 hup ht
    go_wp2_with fail
    refine ⟨⟨k+1,_,by omega,rfl,by go_num,?_,(hx.alloc _),HN⟩,by simp [intOf];omega⟩
    rw [ByteArray.size_append,HT.out];rfl
  ·obtain rfl:s.size=k:=by omega
   have he:Hid (t=zac s):=by
    show _=_
    have h1:=H.out
    rw [List.take_of_length_le (by rw [ziq,zcG];exact Nat.le_refl _)] at h1
    rw [zqt h1]
    generalize zac s=u
    cases u;simp [tl]
   clear ht
   go_wp2_with fail
   exact bodyPost_ret (v:=.string t) (by simp [results,results148,go_sem]) rfl ⟨by rw [he.out],hx⟩
end Go.Proofs.YtkoidgbgoccgmaaGreatDoor
namespace Go.Proofs.YtkoidgbgoccgmaaGreatDoor
open Tryz
open Go.RowKit
def zbK (b:Nat):Value:=.pointer (some ⟨b,0,none⟩)
def zbL (β:Nat→Option Nat) (j b:Nat):Nat→Option Nat:=fun i=>if i=j then some b else β i
section
variable {P:Program} {ops:Array Oper} {Q:Exit→Act→World→Prop} {tl:List Nat}
theorem zob {j:Nat} {oj:Oper} {d:Tmp} {v:Value} (hj:ops[j]? = some oj) (hsj:∀ cs b,oj.op ≠ .select cs b) (h1:d ∉ oj.looksAt ops) (h2:oj.dst≠some d)
  (hQ:∀ c a w,Q (.panic c) a w→Q (.panic c) (a.put (some d) v) w) {K:Act→World→Prop} {a:Act} {w:World} (h:wpOp P ops Q j K a w) :
  wpOp P ops Q j (fun a' w'=>∃ a'',a'=a''.put (some d) v∧K a'' w') (a.put (some d) v) w:=by
 have h1':∀ e,(some d:Option Tmp)=some e→e ∉ oj.looksAt ops:=fun e he=>by obtain rfl:=Option.some.inj he;exact h1
 have h2':∀ e,(some d:Option Tmp)=some e→oj.dst≠some e:=fun e he=>by obtain rfl:=Option.some.inj he;exact h2
 unfold wpOp at *
 simp only [hj] at *
 rw [wanted_put oj a (some d) v h1']
 split
 ·rename_i hw
  simp only [hw,if_true] at h
  rcases h with h | ⟨hasks,hlets⟩
  case inr=>exact .inr ⟨by unfold Oper.asks at *;rw [execOp_put oj hsj a (some d) v h1'];exact hasks,hlets⟩
  refine .inl ?_
  unfold Oper.wp at *
  rw [execOp_put oj hsj a (some d) v h1']
  generalize (execOp a.eval oj).run P w=r at *
  cases r with
  | ok n w' =>
   cases n <;> simp only [Oper.upon] at h ⊢
   case value u=>exact ⟨_,Act.put_comm a v u h2',h⟩
   case skip=>exact ⟨_,Act.put_comm a v undef h2',h⟩
   case defer f=>exact ⟨_,Act.put_comm { a with defers:=f::a.defers } v undef h2',h⟩
   case enter f args =>
    refine Calls.mono h fun e w'' he=>?_
    cases e with
    | returned u=>exact ⟨_,Act.put_comm a v u h2',he⟩
    | panicked c=>exact hQ _ _ _ he
    | outgrown=>exact he
   case row row args=>exact Rows.mono h fun u w'' he=>⟨_,Act.put_comm a v u h2',he⟩
  | halt x w' =>
   cases x <;> simp only [Oper.upon] at h ⊢
   case panic u=>exact hQ _ _ _ h
 ·rename_i hw
  simp only [hw] at h
  exact ⟨_,Act.put_comm a v undef h2',h⟩
def zdd (P:Program) (ops:Array Oper) (Q:Exit→Act→World→Prop) (S:World→Prop) (tl pu:List Nat):Nat→Array Bool→Act→World→Prop
 | 0,listed,a,w=>Region.ready .any ops listed=[]∧Q .normal a w
 | fuel+1,listed,a,w =>
  (Region.ready .any ops listed=[]→Q .normal a w) ∧
  ∀ i∈Region.ready .any ops listed,wpOp P ops Q i (fun a' w'=>(tl.contains i=false→(pu.contains i=true→S w)→S w')∧zdd P ops Q S tl pu fuel (listed.setIfInBounds i true) a' w') a w
theorem zhK {S:World→Prop} {pu:List Nat} : ∀ (fuel:Nat) (listed:Array Bool) (a:Act) (w:World),zdd P ops Q S tl pu fuel listed a w→wpAny P .any ops Q fuel listed a w
 | 0,_,_,_,h=>h
 | fuel+1,_,_,_,h=>⟨h.1,fun i hi=>wpOp_mono (fun a' w' h'=>zhK fuel _ a' w' h'.2) (h.2 i hi)⟩
def dep (ops:Array Oper) (listed:Array Bool) (i:Nat):Nat→Nat→Prop
 | 0,k=>k=i
 | n+1,k=>k=i∨(listed.getD k false=false∧∃ om,ops[k]? = some om∧∃ e'∈om.after,Region.binds .any e'=true∧dep ops listed i n e'.on)
theorem zmc {listed:Array Bool} {i:Nat} : ∀ {n k:Nat},dep ops listed i n k→k=i∨listed.getD k false=false
 | 0,_,h=>.inl h
 | _+1,_,.inl h=>.inl h
 | _+1,_,.inr h=>.inr h.1
theorem zmd {listed:Array Bool} {i j:Nat} {oj:Oper} (hoj:ops[j]? = some oj) (hall:∀ e∈oj.after,Region.binds .any e=true→listed.getD e.on false=true) (hnot:∀ e∈oj.after,Region.binds .any e=true→e.on≠i) :
  ∀ (n k:Nat),dep ops listed i n k→dep ops (listed.setIfInBounds j true) i n k
 | 0,_,h=>h
 | _+1,_,.inl h=>.inl h
 | n+1,k,.inr ⟨ho,om,hom,e',he',hb',hd⟩=>by
  refine .inr ⟨?_,om,hom,e',he',hb',zmd hoj hall hnot n _ hd⟩
  have hje:j≠k:=fun hje=>by
   subst hje
   rw [hoj] at hom
   obtain rfl:=Option.some.inj hom
   rcases zmc hd with h | h
   ·exact hnot e' he' hb' h
   ·rw [hall e' he' hb'] at h;cases h
  rw [getD_set_ne false hje];exact ho
def zoc (ops:Array Oper) (tl:List Nat) (listed:Array Bool) (i:Nat):Prop :=
 ∀ j oj,ops[j]? = some oj→tl.contains j=true→listed.getD j true=false→∃ e∈oj.after,Region.binds .any e=true∧dep ops listed i 4 e.on
theorem zkl {S:World→Prop} {pu:List Nat} {i:Nat} {oi:Oper} {v:Value} (hi:ops[i]? = some oi) (hsel:∀ (j:Nat) (o:Oper) cs b,ops[j]? = some o→o.op ≠ .select cs b)
  (hQ:∀ c a w,Q (.panic c) (a.put oi.dst v) w→Q (.panic c) a w) :
  ∀ (fuel:Nat) (listed:Array Bool) (a:Act) (w:World),
   (∀ j oj,ops[j]? = some oj→j≠i→listed.getD j true=false→(∀ e∈oj.after,Region.binds .any e=true→e.on≠i)→oi.apart ops oj=true) →
   zoc ops tl listed i →
   i∈Region.ready .any ops listed→YieldsIf P ops S oi v a→S w →
   zdd P ops Q S tl pu fuel (listed.setIfInBounds i true) (a.put oi.dst v) w→zdd P ops Q S tl pu (fuel+1) listed a w:=by
 intro fuel
 induction fuel with
 | zero =>
  intro listed a w _ _ hr hy hS H
  refine ⟨fun h=>(by rw [h] at hr;cases hr),fun j hj=>?_⟩
  by_cases hji:j=i
  ·subst hji;exact hy.wpOp hi hS ⟨fun _ _=>hS,H⟩
  ·have:=ready_mono hj hji
   rw [H.1] at this
   cases this
 | succ fuel ih =>
  intro listed a w hfree hwt hr hy hS H
  refine ⟨fun h=>(by rw [h] at hr;cases hr),fun j hj=>?_⟩
  by_cases hji:j=i
  ·subst hji;exact hy.wpOp hi hS ⟨fun _ _=>hS,H⟩
  ·have h1:=H.2 j (ready_mono hj hji)
   obtain ⟨hjun,oj,hoj,hall⟩:=mem_ready.1 hj
   have hnot:∀ e∈oj.after,Region.binds .any e=true→e.on≠i:=fun e he hb heq=>by
    have h1:=hall e he hb
    have h0:=(mem_ready.1 hr).1
    rw [heq] at h1
    rcases Nat.lt_or_ge i listed.size with h' | h'
    ·simp [h'] at h0 h1;rw [h0] at h1;cases h1
    ·simp [Array.getElem?_eq_none h'] at h1
   have htj:tl.contains j=false:=by
    cases hc:tl.contains j with
    | false=>rfl
    | true =>
     obtain ⟨e,he,hb,ho⟩:=hwt j oj hoj hc hjun
     rcases zmc ho with ho | ho
     ·exact absurd ho (hnot e he hb)
     ·have:=hall e he hb
      rw [ho] at this;cases this
   have h2:=wpOp_putIf hoj (hfree j oj hoj hji hjun hnot) (fun cs b=>hsel i oi cs b hi) (fun cs b=>hsel j oj cs b hoj) hQ hy h1
   have hfree':∀ k ok,ops[k]? = some ok→k≠i→(listed.setIfInBounds j true).getD k true=false →
     (∀ e∈ok.after,Region.binds .any e=true→e.on≠i)→oi.apart ops ok=true:=fun k ok hk hki hun hno=>by
    refine hfree k ok hk hki ?_ hno
    by_cases hjk:j=k
    ·subst hjk;exact hjun
    ·rw [getD_set_ne true hjk] at hun;exact hun
   have hwt':zoc ops tl (listed.setIfInBounds j true) i:=fun k ok hk htk hun=>by
    obtain ⟨e,he,hb,ho⟩:=hwt k ok hk htk (by
     by_cases hjk:j=k
     ·subst hjk;exact hjun
     ·rw [getD_set_ne true hjk] at hun;exact hun)
    exact ⟨e,he,hb,zmd hoj hall hnot _ _ ho⟩
   refine wpOp_mono (fun a' w' h3=>⟨h3.2.1,ih (listed.setIfInBounds j true) a' w' hfree' hwt' (ready_mono hr (Ne.symm hji)) h3.1 (h3.2.1 htj fun _=>hS) ?_⟩) h2
   rw [Array.setIfInBounds_comm _ _ hji]
   exact h3.2.2
theorem zlf {S:World→Prop} {pu:List Nat} {i:Nat} {oi:Oper} {v:Value} (hi:ops[i]? = some oi) (hsel:∀ (j:Nat) (o:Oper) cs b,ops[j]? = some o→o.op ≠ .select cs b)
  (hpi:pu.contains i=true) (hQ:∀ c a w,Q (.panic c) (a.put oi.dst v) w→Q (.panic c) a w) :
  ∀ (fuel:Nat) (listed:Array Bool) (a:Act) (w:World),
   (∀ j oj,ops[j]? = some oj→j≠i→listed.getD j true=false→(∀ e∈oj.after,Region.binds .any e=true→e.on≠i)→oi.apart ops oj=true) →
   i∈Region.ready .any ops listed→YieldsIf P ops (fun _=>True) oi v a →
   zdd P ops Q S tl pu fuel (listed.setIfInBounds i true) (a.put oi.dst v) w→zdd P ops Q S tl pu (fuel+1) listed a w:=by
 intro fuel
 induction fuel with
 | zero =>
  intro listed a w _ hr hy H
  refine ⟨fun h=>(by rw [h] at hr;cases hr),fun j hj=>?_⟩
  by_cases hji:j=i
  ·subst hji;exact hy.wpOp hi trivial ⟨fun _ h=>h hpi,H⟩
  ·have:=ready_mono hj hji
   rw [H.1] at this
   cases this
 | succ fuel ih =>
  intro listed a w hfree hr hy H
  refine ⟨fun h=>(by rw [h] at hr;cases hr),fun j hj=>?_⟩
  by_cases hji:j=i
  ·subst hji;exact hy.wpOp hi trivial ⟨fun _ h=>h hpi,H⟩
  ·have h1:=H.2 j (ready_mono hj hji)
   obtain ⟨hjun,oj,hoj,hall⟩:=mem_ready.1 hj
   have hnot:∀ e∈oj.after,Region.binds .any e=true→e.on≠i:=fun e he hb heq=>by
    have h1:=hall e he hb
    have h0:=(mem_ready.1 hr).1
    rw [heq] at h1
    rcases Nat.lt_or_ge i listed.size with h' | h'
    ·simp [h'] at h0 h1;rw [h0] at h1;cases h1
    ·simp [Array.getElem?_eq_none h'] at h1
   have h2:=wpOp_putIf hoj (hfree j oj hoj hji hjun hnot) (fun cs b=>hsel i oi cs b hi) (fun cs b=>hsel j oj cs b hoj) hQ hy h1
   have hfree':∀ k ok,ops[k]? = some ok→k≠i→(listed.setIfInBounds j true).getD k true=false →
     (∀ e∈ok.after,Region.binds .any e=true→e.on≠i)→oi.apart ops ok=true:=fun k ok hk hki hun hno=>by
    refine hfree k ok hk hki ?_ hno
    by_cases hjk:j=k
    ·subst hjk;exact hjun
    ·rw [getD_set_ne true hjk] at hun;exact hun
   refine wpOp_mono (fun a' w' h3=>⟨h3.2.1,ih (listed.setIfInBounds j true) a' w' hfree' (ready_mono hr (Ne.symm hji)) h3.1 ?_⟩) h2
   rw [Array.setIfInBounds_comm _ _ hji]
   exact h3.2.2
def zgg (P:Program) (ops:Array Oper) (Q:Exit→Act→World→Prop):List Nat→Act→World→Prop
 | [],a,w=>Q .normal a w
 | i::rest,a,w=>wpOp P ops Q i (zgg P ops Q rest) a w
def zfe (ops:Array Oper) (tl:List Nat):Array Bool→List Nat→Bool
 | listed,[]=>(Region.ready .any ops listed).isEmpty
 | listed,i::rest=>(Region.ready .any ops listed == [i]) && tl.contains i && zfe ops tl (listed.setIfInBounds i true) rest
theorem zfx {S:World→Prop} {pu:List Nat} : ∀ (tp:List Nat) (listed:Array Bool) (a:Act) (w:World),zfe ops tl listed tp=true→zgg P ops Q tp a w→zdd P ops Q S tl pu tp.length listed a w
 | [],listed,a,w,ho,h=>⟨by simpa [zfe] using ho,h⟩
 | i::rest,listed,a,w,ho,h=>by
  simp only [zfe,Bool.and_eq_true,beq_iff_eq] at ho
  obtain ⟨⟨h1,h2⟩,h3⟩:=ho
  refine ⟨fun h0=>(by rw [h1] at h0;cases h0),fun j hj=>?_⟩
  rw [h1] at hj
  obtain rfl:j=i:=by simpa using hj
  exact wpOp_mono (fun a' w' h'=>⟨fun ht=>(by rw [h2] at ht;cases ht),zfx rest _ _ _ h3 h'⟩) h
theorem zX {i:Nat} {o:Oper} {rest:List Nat} {a:Act} {w:World} (hi:ops.toList[i]? = some o) (hw:Region.wanted o (yielded ops a.tmps)=true) (h:∀ K:Act→World→Prop,(∀ a' w',zgg P ops Q rest a' w'→K a' w')→o.wp P a w K Q) :
  zgg P ops Q (i::rest) a w:=by
 have hi':ops[i]? = some o:=by simpa using hi
 show wpOp _ _ _ _ _ _ _
 unfold wpOp
 simp only [hi',hw,if_true]
 exact .inl (h _ fun a' w' hk=>hk)
theorem zaZ {a:Act} {w:World} (h:Q .normal a w):zgg P ops Q [] a w:=h
def zkm (ops:Array Oper) (F:List Nat) (listed:Array Bool) (i:Nat):Nat→Nat→Bool
 | 0,k=>k == i
 | n+1,k=>k == i || (!F.contains k && !listed.getD k false && match ops[k]? with | some om=>om.after.any (fun e'=>Region.binds .any e' && zkm ops F listed i n e'.on) | none=>false)
theorem zff {l:Array Bool} {j:Nat} {b d:Bool} (h:l[j]? = some b):l.getD j d=b:=by simp [h]
theorem zbV {l l':Array Bool} {j:Nat} {d:Bool} (h:l[j]? = l'[j]?):l.getD j d=l'.getD j d:=by simp [h]
end
end Go.Proofs.YtkoidgbgoccgmaaGreatDoor
