/- What the rows' proofs lean on: the contracts of the functions that they reach, and plain facts (part C4). -/
import Derived.Lib.ConvBytes
import Derived.Lib.SlBytesRow
import Derived.Lib.SmallJoins
import Derived.RegionTactic
import Derived.Test.YtinjdacijiohiaaGreatDoorC3
set_option linter.unusedSimpArgs false
set_option linter.unusedVariables false
set_option maxRecDepth 100000
set_option maxHeartbeats 4000000
namespace Go.Proofs.YtinjdacijiohiaaGreatDoor
open _root_.Go.Proofs.Tryz
open Go.RowKit
theorem zjG {P} (w) {o:Oper} {a} {K:Act->World->Prop} {Q} (s x t) (ho:o.op = .call { callee:=.builtin .append,args:=#[s,x],argTypes:=#[t,t] }) (base e i size) (ht:P.underlying t=some (.slice e)) (hi:P.info? e=some i) (hsize:i.size=size) (g n cap xs) (hs:a.eval s = .slice (some ⟨g,0,none⟩) n cap) (hown:w.ownsRow base e size (.slice (some ⟨g,0,none⟩) n cap) n xs) (ad m c news) (hx:a.eval x = .slice (some ad) m c) (hl:news.length=m*size) (hnews:∀ j u,news[j]? = some u->w.cell? (ad.add j)=some u) (h1:∀ u∈news,u.oneCell'=true) (hroom:n+m<=cap) (h:∀ w',w'.ownsRow base e size (.slice (some ⟨g,0,none⟩) (n+m) cap) (n+m) (xs++news)->w.grownBy w' (some g)->K (a.put o.dst (.slice (some ⟨g,0,none⟩) (n+m) cap)) w'):o.wp P a w K Q:=by
 obtain⟨w',hr,h2,h3⟩:=run_append_fits (P:=P) w base t o.type e i size ht hi hsize g n cap xs hown ad m c news hl hnews h1 hroom;unfold Oper.wp execOp;simp only[ho,resolve,invoke,builtin,Sem.run_bind,Sem.run_pure,Result.andThen_ok,List.map_toArray,List.map_cons,List.map_nil,hs,hx,hr];exact h w' h2 h3
theorem BSt.start {w:World} {R C} (N) (hN:N<=4096) :
  BSt w.heap.size R C N 0 [] (((w.alloc (Obj.cells #[.int .i64 0,.int .i64 0,.slice none 0 0] 27)).alloc (Obj.cells (madeCells #[.int .i64 0,.int .i64 0,.int .i64 0,.string ⟨#[]⟩,.bool false,.int .i64 0] (N*6)) 38)).alloc (Obj.cells #[.int .i64 R,.int .i64 C,.slice (some ⟨w.heap.size+1,0,none⟩) 0 N] 27)):=by
 refine⟨by simp,?_,?_,?_⟩
 ·rw[Below.heap_alloc _ _ _ (by simp;omega),Below.heap_alloc _ _ _ (by simp),heap_alloc_new]
 ·have:=heap_alloc_new ((w.alloc (Obj.cells #[.int .i64 0,.int .i64 0,.slice none 0 0] 27)).alloc (Obj.cells (madeCells #[.int .i64 0,.int .i64 0,.int .i64 0,.string ⟨#[]⟩,.bool false,.int .i64 0] (N*6)) 38)) (Obj.cells #[.int .i64 R,.int .i64 C,.slice (some ⟨w.heap.size+1,0,none⟩) 0 N] 27);simpa using this
 ·refine World.ownsRow.alloc ?_ _;have:=World.ownsRow_made (base:=w.heap.size+1) (e:=38) (size:=6) (w.alloc (Obj.cells #[.int .i64 0,.int .i64 0,.slice none 0 0] 27)) (madeCells #[.int .i64 0,.int .i64 0,.int .i64 0,.string ⟨#[]⟩,.bool false,.int .i64 0] (N*6)) N (by simp) (by simp only[maxLen];omega) (by rw[size_madeCells]);simpa[zJ] using this
theorem BSt.own_later {s0 R C N k l wr w1} (h:BSt s0 R C N k l wr) (hl:Leaves s0 wr w1) (o):(w1.alloc o).ownsRow (s0+1) 38 6 (.slice (some ⟨s0+1,0,none⟩) k N) k (zJ l):=by
 refine World.ownsRow.alloc ?_ _;obtain⟨h1,h2⟩:=h.own;refine⟨h1,?_⟩;rcases h2 with⟨h2,_⟩ | ⟨g,cap,cur,hv,hg,hh,r⟩
 ·simp at h2
 ·simp only[Value.slice.injEq,Option.some.injEq,Addr.mk.injEq,and_true,true_and] at hv;obtain⟨rfl,rfl⟩:=hv;exact .inr ⟨s0+1,N,cur,rfl,hg,hl.b1.trans hh,r⟩
theorem Keep.three (s0 a u v x):Keep s0 a (((a.setCell ⟨s0,0,none⟩ u).setCell ⟨s0,1,none⟩ v).setCell ⟨s0,2,none⟩ x):=
 ((Keep.of_set (s0:=s0) a (p:=⟨s0,0,none⟩) u (.inl rfl)).trans (Keep.of_set (s0:=s0) _ (p:=⟨s0,1,none⟩) v (.inl rfl))).trans (Keep.of_set (s0:=s0) _ (p:=⟨s0,2,none⟩) x (.inl rfl))
theorem Rd.set_far {base w A cs} (h:Rd base w A cs) {p} (v) (hp:p.block<base):Rd base (w.setCell p v) A cs:=
 h.blocks λb hb=>Below.heap_setCell _ _ _ _ (by omega)
theorem zkf (w:World) (cs:List Value) (ty):∀ j u,cs[j]? = some u->(w.alloc (.cells cs.toArray ty)).cell? ((⟨w.heap.size,0,none⟩:Addr).add j)=some u:=λj u hu=>by
 rw[Addr.add_mid,World.cell?_alloc_at _ _ _ _ rfl];simpa using hu
theorem zdf (x:Val):∀ u∈x.cells,u.oneCell'=true:=by
 intro u hu;simp only[Val.cells,List.mem_cons,List.not_mem_nil,or_false] at hu;rcases hu with rfl | rfl | rfl | rfl | rfl | rfl <;> rfl
theorem zkg (R C cl capt) (g : Nat → Nat → Val) (w) (J : Nat → World → Prop) (hR : 1 ≤ R) (hC : 1 ≤ C) (hN : R * C ≤ 4096) (hR' : R ≤ 4096) (hC' : C ≤ 4096) (hent : ∀ (args : Array Value) (W : World), (callFunc cl args).run prog W = .ok (.enter cl args) W) (hJ0 : J 0 w) (hJ : ∀ k W W', Keep w.heap.size W W' → J k W → J k W') (hcall : ∀ i j W, i < R → j < C → J (i * C + j) W → w.heap.size + 3 ≤ W.heap.size →
      Calls prog cl (#[.int .i64 i, .int .i64 j] ++ capt) W fun e W' => e = .returned (VV (g i j).kind (g i j).mant (g i j).exp (g i j).text (g i j).truth (g i j).fault) ∧ J (i * C + j + 1) W' ∧ Leaves w.heap.size W W') :
    Calls prog 171 #[.int .i64 R, .int .i64 C, .func (.func cl) #[] capt] w fun e w' => ∃ A c, e = .returned (AV R C (.slice A (R * C) c)) ∧ SlV w.heap.size w' A (zbX g C (R * C)) ∧ R * C ≤ c ∧ J (R * C) w' := by
  obtain ⟨i0, hi, hz0, hz1, hz2⟩ := info_parts zcn
  have hw : IntKind.i64.wrap ((R : Int) * (C : Int)) = ((R * C : Nat) : Int) := by rw [IntKind.wrap_i64, Int.natCast_mul]; omega
  have hmk : ∀ (N : Nat) (W : World), N ≤ 4096 → (Instr.makeSlice 25 (.int .i64 0) (.int .i64 (N : Int))).run prog W = .ok (.slice (some ⟨W.heap.size, 0, none⟩) 0 N) (W.alloc (.cells (madeCells (VV 0 0 0 ⟨#[]⟩ false 0).cells (N * 6)) 38)) := fun N W hN => by
    have := run_make (P := prog) W 25 38 i0 _ Tryz.underlying25 hi hz0 .i64 .i64 0 (N : Int) (by omega) (by omega) (by rw [hz2]; omega) (by omega)
    simpa [hz1] using this
  generalize hNN : R * C = N at *
  have hmk' := fun W => hmk N W hN
  clear hmk
  have HN := Lib.hid hNN
  clear hNN
  have HC := Lib.hid hcall
  clear hcall
  have HJ := Lib.hid hJ
  clear hJ
  go_enter func171, ntmps171
  go_wp2
  have hst0 := BSt.start (w := w) (R := R) (C := C) N hN
  have hj0 : J 0 (((w.alloc (Obj.cells #[.int .i64 0, .int .i64 0, .slice none 0 0] 27)).alloc (Obj.cells (madeCells #[.int .i64 0, .int .i64 0, .int .i64 0, .string ⟨#[]⟩, .bool false, .int .i64 0] (N * 6)) 38)).alloc (Obj.cells #[.int .i64 R, .int .i64 C, .slice (some ⟨w.heap.size + 1, 0, none⟩) 0 N] 27)) := HJ.out 0 w _ (Keep.of_ext (by simp [go_sem])) hJ0
  go_loopw [18] (fun i wr => ∃ r : Nat, r ≤ R ∧ i = .int .i64 r ∧ BSt w.heap.size R C N (r * C) (zbX g C (r * C)) wr ∧ Hid (J (r * C) wr)) (fun i _ => R - (intOf i).toNat)
  case atStart => exact ⟨0, Nat.zero_le _, rfl, by simpa [zbX] using hst0, by show J _ _; simpa using hj0⟩
  case round =>
    clear hst0 hj0
    obtain ⟨r, hr, rfl, hst, HJr⟩ := hrel
    by_cases hlt : r < R
    · go_wp2
      obtain ⟨wo, rfl⟩ : ∃ wo : World, wo = wr := ⟨_, rfl⟩
      go_loopw [22] (fun i wr => ∃ j : Nat, j ≤ C ∧ i = .int .i64 j ∧ BSt w.heap.size R C N (r * C + j) (zbX g C (r * C + j)) wr ∧ Hid (J (r * C + j) wr)) (fun i _ => C - (intOf i).toNat)
      case atStart => exact ⟨0, Nat.zero_le _, rfl, by simpa using hst, by show J _ _; simpa using HJr.out⟩
      case round =>
        clear hst HJr
        obtain ⟨j, hj, rfl, hst, HJr⟩ := hrel
        by_cases hjt : j < C
        · go_wp2
          have hkN : r * C + j < N := by
            rw [← HN.out]
            have : (r + 1) * C ≤ R * C := Nat.mul_le_mul_right C hlt
            rw [Nat.succ_mul] at this
            omega
          refine zdN (S := fun W => W.heap[w.heap.size + 1 + 1]? = some (.cells #[.int .i64 R, .int .i64 C, .slice (some ⟨w.heap.size + 1, 0, none⟩) (r * C + j) N] 27)) [(0, 0), (1, 0), (2, 0), (3, 0), (4, 0), (5, 1), (6, 1), (7, 1), (8, 0), (9, 2)] [9] (by kernel_rfl) (by kernel_rfl) (by kernel_rfl) (fun _ _ d _ _ h => by cases d <;> exact h) hst.b2 ?_
          (refine zn (v := ?_) rfl ?_ (fun w1 h1 => ?_) ?_; rotate_left 1; rfl; (go_simp; first | done | rfl))
          try simp only [zq]
          (refine zn (v := ?_) rfl ?_ (fun w1 h1 => ?_) ?_; rotate_left 1; rfl; (have h2 := cell_of_row _ _ 2 _ _ _ h1; clear h1; go_simp; first | done | rfl))
          try simp only [zq]
          iterate 3 (refine zn (v := ?_) rfl ?_ (fun w1 h1 => ?_) ?_; rotate_left 1; rfl; (clear h1; go_simp; first | done | rfl); try simp only [zq])
          (refine zg rfl ?_ (fun K hK => ?_); rfl; go_simp)
          refine (HC.out r j _ hlt hjt (HJ.out _ _ _ ((Keep.refl _ _).drew) HJr.out) hst.size).mono ?_
          rintro e w1 ⟨rfl, hJ1, hL1⟩
          have hL : Leaves w.heap.size wr w1 := ⟨hL1.size, hL1.b0, hL1.b1, hL1.b2⟩
          refine hK _ _ (hL.b2.trans hst.b2) ?_
          try simp only [zq]
          (refine zg rfl ?_ (fun K hK => ?_); rfl; go_simp)
          refine hK _ _ ((Below.heap_alloc _ _ _ (by have := hL.size; have := hst.size; omega)).trans (hL.b2.trans hst.b2)) ?_
          try simp only [zq]
          (refine zg rfl ?_ (fun K hK => ?_); rfl)
          refine zjG _ _ _ _ rfl (w.heap.size + 1) 38 i0 6 Tryz.underlying25 hi hz1 (w.heap.size + 1) (r * C + j) N (zJ (zbX g C (r * C + j))) rfl (hst.own_later hL _) ⟨w1.heap.size, 0, none⟩ 1 1 (g r j).cells rfl rfl (zkf _ _ _) (zdf _) (by omega) ?_
          intro w3 ho3 hg3
          refine hK _ _ ((hg3.block _ (by have := hL.size; have := hst.size; simp; omega) (by simp)).trans ((Below.heap_alloc _ _ _ (by have := hL.size; have := hst.size; omega)).trans (hL.b2.trans hst.b2))) ?_
          try simp only [zq]
          (refine zn (v := ?_) rfl ?_ (fun w1 h1 => ?_) ?_; rotate_left 1; rfl; (clear h1; go_simp; first | done | rfl))
          try simp only [zq]
          have hb2 : w3.heap[w.heap.size + 1 + 1]? = some (.cells #[.int .i64 R, .int .i64 C, .slice (some ⟨w.heap.size + 1, 0, none⟩) (r * C + j) N] 27) := (hg3.block _ (by have := hL.size; have := hst.size; simp; omega) (by simp)).trans ((Below.heap_alloc _ _ _ (by have := hL.size; have := hst.size; omega)).trans (hL.b2.trans hst.b2))
          have c2 := cell_of_row _ _ 2 _ _ _ hb2
          have f2 := frozen_of_row _ _ 2 _ _ hb2
          have hst2 : BSt w.heap.size R C N (r * C + (j + 1)) (zbX g C (r * C + (j + 1))) (w3.setCell ⟨w.heap.size + 1 + 1, 2, none⟩ (.slice (some ⟨w.heap.size + 1, 0, none⟩) (r * C + j + 1) N)) := by
            rw [show r * C + (j + 1) = r * C + j + 1 by omega, zg9 g C r j hjt]
            exact hst.step hL hg3 ho3
          have hJ3 : Hid (J (r * C + (j + 1)) (w3.setCell ⟨w.heap.size + 1 + 1, 2, none⟩ (.slice (some ⟨w.heap.size + 1, 0, none⟩) (r * C + j + 1) N))) :=
            HJ.out _ _ _ (((Keep.of_ext ((Ext.refl w1).alloc _)).trans (Keep.of_grown hg3)).trans (Keep.of_set w3 _ (.inr (.inr rfl)))) hJ1
          clear hb2 ho3 hg3 hst
          (refine zU rfl ?_ (fun K hK => ?_); rfl; go_simp)
          refine hK _ _ ?_
          try simp only [zq]
          refine zi ?_
          go_wp2
          exact ⟨⟨j + 1, by omega, by go_num, hst2, hJ3⟩, by simp [intOf]; omega⟩
        · go_wp2
          obtain rfl : j = C := by omega
          refine ⟨⟨r + 1, by omega, by go_num, by rw [Nat.succ_mul]; exact hst, by rw [Nat.succ_mul]; exact HJr⟩, by simp [intOf]; omega⟩
    · obtain rfl : r = R := by omega
      have e := HN.out
      rw [e] at hst HJr
      clear e
      have c20 := cell_of_row _ _ 0 _ _ _ hst.b2
      have c21 := cell_of_row _ _ 1 _ _ _ hst.b2
      have c22 := cell_of_row _ _ 2 _ _ _ hst.b2
      have c00 := cell_of_row _ _ 0 _ _ _ hst.b0
      have c01 := cell_of_row _ _ 1 _ _ _ hst.b0
      have c02 := cell_of_row _ _ 2 _ _ _ hst.b0
      have f00 := frozen_of_row _ _ 0 _ _ hst.b0
      have f01 := frozen_of_row _ _ 1 _ _ hst.b0
      have f02 := frozen_of_row _ _ 2 _ _ hst.b0
      go_wp2
      refine bodyPost_ret (results_cell_row (by rfl) _ _ w.heap.size 27 #[.int .i64 r, .int .i64 C, .slice (some ⟨w.heap.size + 1, 0, none⟩) N N] (0, 0) _ (by rfl) ?_ Tryz.underlying27 (by rfl) (by kernel_rfl)) rfl ⟨some ⟨w.heap.size + 1, 0, none⟩, N, rfl, ?_, Nat.le_refl _, HJ.out _ _ _ (Keep.three _ _ _ _ _) HJr.out⟩
      · simp [World.setCell, Array.getElem?_modify, hst.b0]
      · obtain ⟨A, c, hA, hrd, _⟩ := Rd.of_own hst.own
        simp only [Value.slice.injEq, true_and] at hA
        obtain ⟨rfl, rfl⟩ := hA
        exact Rd.mono (((hrd.set_far _ (by simp)).set_far _ (by simp)).set_far _ (by simp)) (by omega)
abbrev zha (pb:Nat) (r c:Int) (A:Option Addr) (n cap:Nat) (W:World):Prop:=
 pb<W.heap.size∧W.cell? ⟨pb,0,none⟩=some (.int .i64 r)∧W.cell? ⟨pb,1,none⟩=some (.int .i64 c)∧W.cell? ⟨pb,2,none⟩=some (.slice A n cap)
def zaI (l:List Val) (k:Nat):Val:=(l[k]?).getD Val.zero
theorem ArrIn.get {w A n cap l} (h:ArrIn w A n cap l) {k} (hk:k<n):∃ b off,A=some ⟨b,off,none⟩∧zb7 w b (off+k*6) (zaI l k)∧(zaI l k).ok:=by
 obtain⟨x,b,off,hx,ho,hA,hv⟩:=h.at hk;have:zaI l k=x:=by simp[zaI,hx]
 rw[this];exact⟨b,off,hA,hv,ho⟩
theorem zcA {C i j} (R) (hi:i<R) (hj:j<C) (hN:R*C<=4096):i*C+j<R*C∧i*C<=4096:=by
 have:(i+1)*C<=R*C:=Nat.mul_le_mul_right C hi;rw[Nat.succ_mul] at this;omega
theorem zcZ {r c l} (h:zA r c l=true):∃ R C:Nat,r=R∧c=C∧1<=R∧1<=C∧R*C<=4096∧l.length=R*C∧(∀ x∈l,valRight x=true):=by
 simp only[zA,Bool.and_eq_true,decide_eq_true_eq,List.all_eq_true] at h;obtain⟨⟨hf,hn⟩,ha⟩:=h;obtain⟨f1,f2,f3,f4,f5,f6⟩:=zfd hf;obtain⟨R,rfl⟩:=Int.eq_ofNat_of_zero_le (show 0<=r by omega);obtain⟨C,rfl⟩:=Int.eq_ofNat_of_zero_le (show 0<=c by omega);rw[<-Int.natCast_mul] at hn f6;exact⟨R,C,rfl,rfl,by omega,by omega,by omega,by omega,ha⟩
def zeC (r c i j:Int):Bool:=decide (0<=i)&&decide (i<r)&&decide (0<=j)&&decide (j<c)
theorem znv (r c i j s w) (_hs:s.oneCell'=true) :
  Tl prog 210 #[AV r c s,.int .i64 i,.int .i64 j] w (.bool (zeC r c i j)):=by
 go_enter func210,ntmps210;go_upto_region 1 with(fail);refine wp_region_lit ?_;iterate 19((first | refine zaH rfl rfl rfl rfl rfl ?_ | refine zaY rfl rfl rfl rfl rfl ?_ | (refine zbE (v:=?_) rfl ?_ ?_;rotate_left 1;(go_simp;first | done | rfl)) | (refine zbk (v:=?_) (c:=?_) rfl rfl rfl ?_ (λhc=>?_) ?_;rotate_left 2;(first | exact zaO _ | exact zaP _ | exact zaq _ _ | exact zar _ _);((try simp only[zv hc]);(try(have hc1:=zO hc;(try simp only[zv hc1]);(try(have hc2:=zO hc1;(try simp only[zv hc2])))));go_simp;first | done | rfl)));try simp only[zq])
 refine wpList_nil ?_;try go_simp
 go_wp2;go_ret;exact⟨rfl,by simp[go_sem]⟩
theorem zf6:bad9.ok:=⟨⟨by simp[bad9],by simp[bad9]⟩,⟨by simp[bad9],by simp[bad9]⟩,⟨by simp[bad9],by simp[bad9]⟩,by simp[bad9,ByteArray.size],⟨by simp[bad9],by simp[bad9]⟩⟩
theorem znw {x} (h:x.ok):∀ y∈[zaQ x],y.ok:=by
 intro y hy;obtain rfl:y=zaQ x:=by simpa using hy
 unfold zaQ;split
 ·exact h
 ·exact zf6
theorem za5 {R C:Nat} {l} (h:zA R C l=true):1<=R∧1<=C∧R*C<=4096∧l.length=R*C∧R<=4096∧C<=4096:=by
 obtain⟨R',C',e1,e2,r1,r2,r3,r4,_⟩:=zcZ h;obtain rfl:R=R':=by omega
 obtain rfl:C=C':=by omega
 have h1:R*1<=R*C:=Nat.mul_le_mul_left R r2;have h2:1*C<=R*C:=Nat.mul_le_mul_right C r1;exact⟨r1,r2,r3,r4,by omega,by omega⟩
theorem zil {a b:Nat} : zbs a b=true↔1<=a∧1<=b∧a*b<=4096:=by
 constructor
 ·intro h;obtain⟨f1,f2,f3,f4,f5,f6⟩:=zfd h;rw[<-Int.natCast_mul] at f6;exact⟨by omega,by omega,by omega⟩
 ·intro⟨h1,h2,h3⟩;have ha:a*1<=a*b:=Nat.mul_le_mul_left a h2;have hq:b<=4096/a:=(Nat.le_div_iff_mul_le (by omega)).2 (by rw[Nat.mul_comm];exact h3);simp only[zbs,Bool.and_eq_true,decide_eq_true_eq];refine⟨⟨⟨by omega,by omega⟩,by omega⟩,?_⟩;have:((b:Nat):Int)<=((4096/a:Nat):Int):=by omega
  simpa using this
theorem zhG (f) (h:I64 f):(zz f).ok:=⟨⟨by simp[zz],by simp[zz]⟩,⟨by simp[zz],by simp[zz]⟩,⟨by simp[zz],by simp[zz]⟩,by simp[zz,ByteArray.size],h⟩
theorem zim {l k} (h:k<l.length):zaI l k∈l:=by
 simp[zaI,List.getElem?_eq_getElem h]
theorem zrG {g:Nat->Nat->Val} {C k y} (h:y∈zbX g C k):∃ i j,y=g i j:=by
 unfold zbX at h;obtain⟨t,_,rfl⟩:=List.mem_map.1 h;exact⟨_,_,rfl⟩
structure NA where
 R:Nat
 C:Nat
 l:List Val
def NA.right (a:NA):Prop:=zA a.R a.C a.l=true
def NA.ok (a:NA):Prop:=∀ x∈a.l,x.ok
theorem zC {R C:Nat} {l} : zA R C l=true↔1<=R∧1<=C∧R*C<=4096∧l.length=R*C∧∀ x∈l,valRight x=true:=by
 simp only[zA,Bool.and_eq_true,zil,decide_eq_true_eq,List.all_eq_true];constructor
 ·rintro⟨⟨⟨h1,h2,h3⟩,h4⟩,h5⟩;refine⟨h1,h2,h3,?_,h5⟩;have:((l.length:Nat):Int)=((R*C:Nat):Int):=by rw[h4];simp
  omega
 ·rintro⟨h1,h2,h3,h4,h5⟩;exact⟨⟨⟨h1,h2,h3⟩,by rw[h4];simp⟩,h5⟩
theorem zu0:I64 6:=⟨by omega,by omega⟩
theorem zin {R C:Nat} {i j} : zeC R C i j=true↔0<=i∧i<R∧0<=j∧j<C:=by
 simp only[zeC,Bool.and_eq_true,decide_eq_true_eq,and_assoc]
theorem znx {R C:Nat} {i j:Int} (h:¬ (0<=i∧i<R∧0<=j∧j<C)):zeC R C i j=false:=by
 cases hh:zeC R C i j with
 | false=>rfl
 | true=>exact absurd (zin.1 hh) h
theorem ztb {a b:Nat} (_h1:1<=a) (_h2:1<=b) (h:¬ a*b<=4096):zbs a b=false:=by
 cases hh:zbs a b with
 | false=>rfl
 | true=>exact absurd (zil.1 hh).2.2 h
end Go.Proofs.YtinjdacijiohiaaGreatDoor
namespace Go.Proofs.YtinjdacijiohiaaGreatDoor
open _root_.Go.Proofs.Tryz
open Go.RowKit NM
structure Ar where
 x:NA
 A:Option Addr
 n:Nat
 cap:Nat
def Ar.cells (a:Ar):List Value:=[.int .i64 a.x.R,.int .i64 a.x.C,.slice a.A a.n a.cap]
def zcR (xs:List Ar):List Value:=xs.flatMap Ar.cells
def zio (w:World) (b o:Nat) (a:Ar):Prop:=
 w.cell? ⟨b,o,none⟩=some (.int .i64 a.x.R)∧w.cell? ⟨b,o+1,none⟩=some (.int .i64 a.x.C)∧w.cell? ⟨b,o+2,none⟩=some (.slice a.A a.n a.cap)
theorem zkh:∀ (xs:List Ar) (i:Nat) (a:Ar),xs[i]? = some a->∀ j,j<3->(zcR xs)[i*3+j]? = a.cells[j]?
 | [],i,x,h,j,hj=>by simp at h
 | y::l,0,x,h,j,hj=>by
  obtain rfl:y=x:=by simpa using h
  rw[zcR,List.flatMap_cons,List.getElem?_append_left (by simp[Ar.cells];omega)];simp
 | y::l,i+1,x,h,j,hj=>by
  rw[zcR,List.flatMap_cons,List.getElem?_append_right (by simp[Ar.cells];omega)];rw[show(i+1)*3+j-y.cells.length=i*3+j by simp[Ar.cells];omega];exact zkh l i x (by simpa using h) j hj
structure ArOk (w:World) (a:Ar):Prop where
 arr:ArrIn w a.A a.n a.cap a.x.l
 right:a.x.right
theorem ArOk.ext {w w' a} (h:ArOk w a) (hx:Ext w w'):ArOk w' a:=⟨h.arr.ext hx,h.right⟩
structure ArgsIn (w:World) (A:Option Addr) (n cap:Nat) (xs:List Ar):Prop where
 rd:Rd 0 w A (zcR xs)
 len:xs.length=n
 cap:n<=cap
 small:n<=9223372036854775807
 all:∀ a∈xs,ArOk w a
theorem ArgsIn.ext {w w' A n cap xs} (h:ArgsIn w A n cap xs) (hx:Ext w w'):ArgsIn w' A n cap xs:=
 ⟨h.rd.ext hx,h.len,h.cap,h.small,λa ha=>(h.all a ha).ext hx⟩
theorem ArgsIn.get {w A n cap xs} (h:ArgsIn w A n cap xs) {k a} (hk:xs[k]? = some a) :
  ∃ b off,A=some ⟨b,off,none⟩∧zio w b (off+k*3) a∧ArOk w a:=by
 have hc:∀ j,j<3->(zcR xs)[k*3+j]? = a.cells[j]?:=zkh xs k a hk;obtain⟨b,off,rfl,_,h0⟩:=h.rd (k*3+0) (.int .i64 a.x.R) (by rw[hc 0 (by omega)];rfl);refine⟨b,off,rfl,?_,h.all a (List.mem_of_getElem? hk)⟩;have hg:∀ j u,j<3->a.cells[j]? = some u->w.cell? ⟨b,off+k*3+j,none⟩=some u:=λj u hj hu=>by
  obtain⟨b',off',he,_,h1⟩:=h.rd (k*3+j) u (by rw[hc j hj];exact hu);obtain⟨rfl,rfl⟩:=aI he;rw[<-h1];congr 2;omega
 exact⟨hg 0 _ (by omega) rfl,hg 1 _ (by omega) rfl,hg 2 _ (by omega) rfl⟩
theorem ArgsIn.at {w A n cap xs} (h:ArgsIn w A n cap xs) {k} (hk:k<n) :
  ∃ a b off,xs[k]? = some a∧A=some ⟨b,off,none⟩∧zio w b (off+k*3) a∧ArOk w a:=by
 have hl:k<xs.length:=by rw[h.len];exact hk
 obtain⟨b,off,e,h1,h2⟩:=h.get (List.getElem?_eq_getElem hl);exact⟨_,b,off,List.getElem?_eq_getElem hl,e,h1,h2⟩
theorem Rd.of_row {w b cs t} (h:w.heap[b]? = some (.cells cs.toArray t)) (base) (hb:base<=b):Rd base w (some ⟨b,0,none⟩) cs:=λj u hu=>by
 refine⟨b,0,rfl,hb,?_⟩;simp only[World.cell?,h,Nat.zero_add];simpa using hu
def zbB (w:World) (x:NA) (e:Ending) (w':World):Prop:=
 ∃ D m cc,e = .returned (AV x.R x.C (.slice D m cc))∧ArrN w.heap.size w' D m cc x.l∧Ext w w'
theorem aR {P f ag w x Q} (h:Calls P f ag w (zbB w x)) (k:∀ D m cc os d,ArrN w.heap.size (more w os d) D m cc x.l->Q (.returned (AV x.R x.C (.slice D m cc))) (more w os d)):Calls P f ag w Q:=
 h.mono (by rintro e w' ⟨D,m,cc,rfl,hD,hb⟩;obtain⟨os,d,rfl⟩:=hb.more;exact k D m cc os d hD)
theorem raS {base d d' w w' X X' os x D m cc} (hr:Rd base (more X os d) D (zJ x.l)) (h:ArrN base w' D m cc x.l) (k:X.heap.size<=base∧X'.heap.size=X.heap.size∧w.heap.size<=base) (he:Ext w (more X' os d')):zbB w x (.returned (AV x.R x.C (.slice D m cc))) (more X' os d'):=
 ⟨D,m,cc,rfl,⟨hr.sw k,h.len,h.cap,h.small,h.ok⟩,he⟩
def zaj (v:Val):NA:=⟨1,1,[v]⟩
def zT (f:Int):NA:=zaj (zx f)
theorem zdH.res {w w' e x} (h:zdH w.heap.size w' e x.R x.C x.l) (hl:x.l.length<=9223372036854775807) (ho:x.ok) (hx:Ext w w'):zbB w x e w':=by
 obtain⟨A,cap,rfl,h1,h2⟩:=h;exact⟨A,_,cap,rfl,⟨h1,rfl,h2,hl,ho⟩,hx⟩
theorem zdT (v w) (hv:v.ok) (hr:v.right) :
  Calls prog 56 #[VV v.kind v.mant v.exp v.text v.truth v.fault] w λe w'=>zbB w (zaj v) e w':=
 (zfx v.kind v.mant v.exp v.fault v.text v.truth w hv.2.1 hv.2.2.2.1 hr).mono λe w' ⟨h1,h2⟩=>zdH.res (x:=zaj v) h1 (by simp[zaj]) (λy hy=>by rw[show y=v by simpa[zaj] using hy];exact hv) h2
theorem zpC (f):(zx f).ok:=zhG _ (by have:=zns f;unfold I64;omega)
theorem zny {b} (h1:97<=b.toNat) (h2:b.toNat<=122):(upB b).toNat=b.toNat-32:=by
 unfold upB;rw[if_pos ⟨UInt8.le_iff_toNat_le.2 h1,UInt8.le_iff_toNat_le.2 h2⟩,UInt8.toNat_sub_of_le]
 ·rfl
 ·rw[UInt8.le_iff_toNat_le];show 32<=b.toNat;omega
theorem zf7 {b} (h:b.toNat<97∨122<b.toNat):upB b=b:=by
 unfold upB;rw[if_neg];rintro⟨h1,h2⟩;have h1:97<=b.toNat:=UInt8.le_iff_toNat_le.1 h1;have h2:b.toNat<=122:=UInt8.le_iff_toNat_le.1 h2;omega
theorem zof (w e s):Ext w (Lib.bytesWorld w e s):=
 ⟨rfl,rfl,rfl,by rw[Lib.bytesWorld_size];omega,λb hb=>Lib.bytesWorld_at_old w e s b hb⟩
theorem ziT (s j) (h:j<s.size):(tl s)[j]? = some (s[j]'h):=by
 unfold tl;rw[List.getElem?_eq_getElem (by exact h)];rfl
theorem zlA (s j) (h:j<s.size):(zam s)[j]'(by rw[zdo];exact h)=upB (s[j]'h):=by
 have h1:=ziT (zam s) j (by rw[zdo];exact h);rw[zjx,List.getElem?_map,ziT s j h] at h1;exact(Option.some.inj h1).symm
structure FS (w:World) (s:ByteArray) (k:Nat) (wr:World):Prop where
 ext:Ext w wr
 cell:∀ j (h:j<s.size),wr.cell? ⟨w.heap.size,j,none⟩=some (.int .u8 ((if j<k then upB (s[j]'h) else s[j]'h).toNat:Int))
 fz:∀ j,j<s.size->wr.frozen? ⟨w.heap.size,j,none⟩=false
theorem FS.start (w s):FS w s 0 (Lib.bytesWorld w 5 s):=by
 refine⟨zof _ _ _,λj h=>?_,λj h=>?_⟩
 ·rw[Lib.bytesWorld_cell _ _ _ _ h];have h1:=ziT s j h;unfold tl at h1;rw[List.getD_eq_getElem?_getD,h1];rfl
 ·have hc:s.size<=(Lib.bytesCells w 5 s).size:=by
   unfold Lib.bytesCells;rw[Array.size_append,Array.size_map];exact Nat.le_add_right _ _
  unfold World.frozen?;rw[Lib.bytesWorld_at_new];simp
  omega
theorem FS.lt {w s k wr} (h:FS w s k wr) (h0:0<s.size):w.heap.size<wr.heap.size:=za (h.cell 0 h0)
theorem FS.up {w s k wr} (h:FS w s k wr) (hk:k<s.size) (v) (hv:v=((upB (s[k]'hk)).toNat:Int)):FS w s (k+1) (wr.setCell ⟨w.heap.size,k,none⟩ (.int .u8 v)):=by
 subst hv;refine⟨h.ext.set _ (Nat.le_refl _),λj hj=>?_,λj hj=>by rw[World.frozen?_setCell];exact h.fz j hj⟩;by_cases hjk:j=k
 ·subst hjk;rw[World.cell?_setCell_same _ _ _ (h.cell j hj),if_pos (by omega)]
 ·rw[World.cell?_setCell_other _ _ _ _ (by intro e;injection e with _ e;omega),h.cell j hj];congr 4
  by_cases h1:j<k
  ·rw[if_pos h1,if_pos (by omega)]
  ·rw[if_neg h1,if_neg (by omega)]
theorem FS.keep {w s k wr} (h:FS w s k wr) (hk:k<s.size) (hv:upB (s[k]'hk)=s[k]'hk):FS w s (k+1) wr:=by
 refine⟨h.ext,λj hj=>?_,h.fz⟩;rw[h.cell j hj];by_cases hjk:j=k
 ·subst hjk;rw[if_neg (by omega),if_pos (by omega),hv]
 ·congr 4
  by_cases h1:j<k
  ·rw[if_pos h1,if_pos (by omega)]
  ·rw[if_neg h1,if_neg (by omega)]
theorem FS.done {w s wr} (h:FS w s s.size wr):Lib.Bytes wr w.heap.size 0 (zam s):=by
 intro j hj;have hj':j<s.size:=by rw[zdo] at hj;exact hj
 rw[Nat.zero_add,h.cell j hj',if_pos hj',zlA s j hj']
theorem zog (s w) (h0:0<s.size) (hs:s.size<=9223372036854775807) :
  Tl prog 230 #[.string s] w (.string (zam s)):=by
 have hc1:=Lib.run_convert_string_bytes (P:=prog) w 9 141 5 s Tryz.underlying9 Tryz.underlying141 Tryz.underlying5;have hst:=FS.start w s;generalize Lib.bytesWorld w 5 s=W at *;generalize grownCap w s.size 0 5=cap at *;have HST:=Lib.hid hst;clear hst;go_enter func230,ntmps230;go_wp2_with fail;go_loopw [10] (λv10 wr=>∃ k:Nat,k<=s.size∧v10 = .int .i64 (k:Int)∧Hid (FS w s k wr)) (λv10 _=>s.size-(intOf v10).toNat)
 case atStart=>exact⟨0,Nat.zero_le _,rfl,HST⟩
 case round=>
  obtain⟨k,hk,rfl,H⟩:=hrel;by_cases hks:k<s.size
  ·have hc:=H.out.cell k hks;rw[if_neg (Nat.lt_irrefl k)] at hc;have hf:=H.out.fz k hks;have hl:=H.out.lt h0;have hb:=(s[k]'hks).toNat_lt;by_cases h97:97<=(s[k]'hks).toNat
   ·by_cases h122:(s[k]'hks).toNat<=122
    ·have HU:=Lib.hid (H.out.up hks (((s[k]'hks).toNat:Int)-97+65) (by rw[zny h97 h122];omega));have g1:(97:Int)<=((s[k]'hks).toNat:Int):=by omega
     have g2:((s[k]'hks).toNat:Int)<=122:=by omega
     generalize (s[k]'hks).toNat=c at *;have w1:IntKind.u8.wrap ((c:Int)-97)=(c:Int)-97:=by rw[IntKind.wrap_u8];omega
     have w2:IntKind.u8.wrap ((c:Int)-97+65)=(c:Int)-97+65:=by rw[IntKind.wrap_u8];omega
     clear h97 h122;go_wp2_with fail;exact⟨⟨k+1,by omega,by go_num,HU⟩,by simp[intOf];omega⟩
    ·have HU:=Lib.hid (H.out.keep hks (zf7 (by omega)));have g1:(97:Int)<=((s[k]'hks).toNat:Int):=by omega
     have g2:¬ ((s[k]'hks).toNat:Int)<=122:=by omega
     generalize (s[k]'hks).toNat=c at *;clear h97 h122;go_wp2_with fail;exact⟨⟨k+1,by omega,by go_num,HU⟩,by simp[intOf];omega⟩
   ·have HU:=Lib.hid (H.out.keep hks (zf7 (by omega)));have g1:¬ (97:Int)<=((s[k]'hks).toNat:Int):=by omega
    generalize (s[k]'hks).toNat=c at *;clear h97;go_wp2_with fail;exact⟨⟨k+1,by omega,by go_num,HU⟩,by simp[intOf];omega⟩
  ·obtain rfl:k=s.size:=by omega
   have hcv:=Lib.run_convert_whole (P:=prog) wr 141 5 9 Tryz.underlying141 Tryz.underlying5 Tryz.underlying9 w.heap.size 0 (zam s) H.out.done cap;rw[zdo] at hcv;go_wp2_with fail;exact rt1 rfl rfl ⟨rfl,H.out.ext⟩
theorem zgt (s w) (hs:s.size<=9223372036854775807) :
  Tl prog 206 #[.string s] w (.string (zam s)):=by
 go_enter func206,ntmps206;go_wp2_with fail;go_loop [6] (λv6=>∃ k:Nat,k<=s.size∧v6 = .int .i64 (k:Int)∧Hid (∀ j (h:j<s.size),j<k->upB (s[j]'h)=s[j]'h)) (λv6=>s.size-(intOf v6).toNat)
 case atStart=>exact⟨0,Nat.zero_le _,rfl,λj _ h=>by omega⟩
 case round=>
  obtain⟨k,hk,rfl,H⟩:=hrel;have hstep:∀ hks:k<s.size,upB (s[k]'hks)=s[k]'hks->Hid (∀ j (h:j<s.size),j<k+1->upB (s[j]'h)=s[j]'h):=by
   intro hks hu j hj hjk;by_cases h:j=k
   ·subst h;exact hu
   ·exact H.out j hj (by omega)
  by_cases hks:k<s.size
  ·have HS:=λhu=>hstep hks hu;by_cases h97:97<=(s[k]'hks).toNat
   ·have g1:(97:Int)<=((s[k]'hks).toNat:Int):=by omega
    by_cases h122:(s[k]'hks).toNat<=122
    ·have g2:((s[k]'hks).toNat:Int)<=122:=by omega
     have hfd:=zog s w (by omega) hs;clear HS hstep h97 h122;go_wp2_with (go_at_call 230;(with_reducible refine hfd.mono ?_);rintro e w' ⟨rfl,hb⟩);exact rt1 rfl rfl ⟨rfl,hb⟩
    ·have g2:¬ ((s[k]'hks).toNat:Int)<=122:=by omega
     have HU:=HS (zf7 (by omega));clear HS hstep h97 h122;go_wp2_with fail;exact⟨⟨k+1,by omega,by go_num,HU⟩,by simp[intOf];omega⟩
   ·have g1:¬ (97:Int)<=((s[k]'hks).toNat:Int):=by omega
    have HU:=HS (zf7 (by omega));clear HS hstep h97;go_wp2_with fail;exact⟨⟨k+1,by omega,by go_num,HU⟩,by simp[intOf];omega⟩
  ·have hfs:Hid (zam s=s):=by
    show _=_;have h1:tl (zam s)=tl s:=by
     rw[zjx];conv=>rhs;rw[<-List.map_id (tl s)]
     apply List.map_congr_left
     intro b hb;obtain⟨j,hj,rfl⟩:=List.mem_iff_getElem.1 hb;exact H.out j hj (by have:j<s.size:=hj;omega)
    rw[zhE h1];cases s;simp[tl]
   have hks':¬ (k:Int)<(s.size:Int):=by omega
   clear hstep;go_wp2_with fail;exact bodyPost_ret (v:=.string s) (by simp[results,results206,go_sem]) rfl ⟨by rw[hfs.out],Ext.refl _⟩
theorem zrH (w:World) (c):(convert 141 9 (.slice (some ⟨w.heap.size,0,none⟩) 1 1)).run prog (w.alloc (.cells #[.int .u8 (c.toNat:Int)] 5)) = .ok (.string ⟨#[c]⟩) (w.alloc (.cells #[.int .u8 (c.toNat:Int)] 5)):=by
 have hb:Lib.Bytes (w.alloc (.cells #[.int .u8 (c.toNat:Int)] 5)) w.heap.size 0 ⟨#[c]⟩:=by
  intro i hi;have hi:i<1:=hi;obtain rfl:i=0:=by omega
  rw[World.cell?_alloc_new];rfl
 exact Lib.run_convert_whole (P:=prog) _ 141 5 9 Tryz.underlying141 Tryz.underlying5 Tryz.underlying9 w.heap.size 0 ⟨#[c]⟩ hb 1
theorem zcB (s w) (hs:s.size<=9223372036854775807) :
  Tl prog 224 #[.string s] w (.string (zam s)):=by
 go_enter func224,ntmps224;go_wp2_with fail;go_loopw [3,4] (λv3 v4 wr=>∃ (k:Nat) (t:ByteArray),k<=s.size∧v3 = .string t∧v4 = .int .i64 (k:Int)∧t.size=k∧Ext w wr∧Hid (tl t=(tl (zam s)).take k)) (λ_ v4 _=>s.size-(intOf v4).toNat)
 case atStart=>exact⟨0,⟨#[]⟩,Nat.zero_le _,rfl,rfl,rfl,Ext.refl _,by show _=_;rfl⟩
 case round=>
  obtain⟨k,t,hk,rfl,rfl,ht,hx,H⟩:=hrel;by_cases hks:k<s.size
  ·have hb:=(s[k]'hks).toNat_lt;have HN:Hid (tl (t++⟨#[upB (s[k]'hks)]⟩)=(tl (zam s)).take (k+1)):=by
    have hg:=ziT (zam s) k (by rw[zdo];exact hks);rw[zlA s k hks] at hg;show _=_;rw[zb0,H.out,List.take_add_one,hg];rfl
   have hcv:=zrH wr (upB (s[k]'hks));have HT:=Lib.hid ht;have g5:¬ 9223372036854775807<t.size+1:=by omega
   by_cases h97:97<=(s[k]'hks).toNat
   ·have g1:(97:Int)<=((s[k]'hks).toNat:Int):=by omega
    by_cases h122:(s[k]'hks).toNat<=122
    ·have g2:((s[k]'hks).toNat:Int)<=122:=by omega
     have w1:IntKind.u8.wrap (((s[k]'hks).toNat:Int)-32)=((upB (s[k]'hks)).toNat:Int):=by rw[IntKind.wrap_u8,zny h97 h122];omega
     clear h97 h122 ht;go_wp2_with fail;refine⟨⟨k+1,_,by omega,rfl,by go_num,?_,(hx.alloc _),HN⟩,by simp[intOf];omega⟩;rw[ByteArray.size_append,HT.out];rfl
    ·have g2:¬ ((s[k]'hks).toNat:Int)<=122:=by omega
     have hup:upB (s[k]'hks)=s[k]'hks:=zf7 (by omega);rw[hup] at hcv HN;clear h97 h122 hup ht;go_wp2_with fail;refine⟨⟨k+1,_,by omega,rfl,by go_num,?_,(hx.alloc _),HN⟩,by simp[intOf];omega⟩;rw[ByteArray.size_append,HT.out];rfl
   ·have g1:¬ (97:Int)<=((s[k]'hks).toNat:Int):=by omega
    have hup:upB (s[k]'hks)=s[k]'hks:=zf7 (by omega);rw[hup] at hcv HN;clear h97 hup ht;go_wp2_with fail;refine⟨⟨k+1,_,by omega,rfl,by go_num,?_,(hx.alloc _),HN⟩,by simp[intOf];omega⟩;rw[ByteArray.size_append,HT.out];rfl
  ·obtain rfl:s.size=k:=by omega
   have he:Hid (t=zam s):=by
    show _=_;have h1:=H.out;rw[List.take_of_length_le (by rw[zem,zdo];exact Nat.le_refl _)] at h1;rw[zhE h1];generalize zam s=u;cases u;simp[tl]
   clear ht;go_wp2_with fail;exact bodyPost_ret (v:=.string t) (by simp[results,results224,go_sem]) rfl ⟨by rw[he.out],hx⟩
end Go.Proofs.YtinjdacijiohiaaGreatDoor
namespace Go.Proofs.YtinjdacijiohiaaGreatDoor
open _root_.Go.Proofs.Tryz
open Go.RowKit
def zcH (b:Nat):Value:=.pointer (some ⟨b,0,none⟩)
def zb2 (β:Nat->Option Nat) (j b:Nat):Nat->Option Nat:=λi=>if i=j then some b else β i
section
variable {P:Program} {ops:Array Oper} {Q:Exit->Act->World->Prop} {tl:List Nat}
theorem zpD {j:Nat} {oj:Oper} {d:Tmp} {v:Value} (hj:ops[j]? = some oj) (hsj:∀ cs b,oj.op ≠ .select cs b) (h1:d ∉ oj.looksAt ops) (h2:oj.dst≠some d)
  (hQ:∀ c a w,Q (.panic c) a w->Q (.panic c) (a.put (some d) v) w) {K:Act->World->Prop} {a:Act} {w:World} (h:wpOp P ops Q j K a w) :
  wpOp P ops Q j (λa' w'=>∃ a'',a'=a''.put (some d) v∧K a'' w') (a.put (some d) v) w:=by
 have h1':∀ e,(some d:Option Tmp)=some e->e ∉ oj.looksAt ops:=λe he=>by obtain rfl:=Option.some.inj he;exact h1
 have h2':∀ e,(some d:Option Tmp)=some e->oj.dst≠some e:=λe he=>by obtain rfl:=Option.some.inj he;exact h2
 unfold wpOp at *;simp only[hj] at *;rw[wanted_put oj a (some d) v h1'];split
 ·rename_i hw;simp only[hw,if_true] at h;rcases h with h | ⟨hasks,hlets⟩
  case inr=>exact .inr ⟨by unfold Oper.asks at *;rw[execOp_put oj hsj a (some d) v h1'];exact hasks,hlets⟩
  refine .inl ?_;unfold Oper.wp at *;rw[execOp_put oj hsj a (some d) v h1'];generalize (execOp a.eval oj).run P w=r at *;cases r with
  | ok n w'=>
   cases n <;> simp only[Oper.upon] at h⊢
   case value u=>exact⟨_,Act.put_comm a v u h2',h⟩
   case skip=>exact⟨_,Act.put_comm a v undef h2',h⟩
   case defer f=>exact⟨_,Act.put_comm { a with defers:=f::a.defers } v undef h2',h⟩
   case enter f args=>
    refine Calls.mono h λe w'' he=>?_;cases e with
    | returned u=>exact⟨_,Act.put_comm a v u h2',he⟩
    | panicked c=>exact hQ _ _ _ he
    | outgrown=>exact he
   case row row args=>exact Rows.mono h λu w'' he=>⟨_,Act.put_comm a v u h2',he⟩
  | halt x w'=>
   cases x <;> simp only[Oper.upon] at h⊢
   case panic u=>exact hQ _ _ _ h
 ·rename_i hw;simp only[hw] at h;exact⟨_,Act.put_comm a v undef h2',h⟩
def zd9 (P:Program) (ops:Array Oper) (Q:Exit->Act->World->Prop) (S:World->Prop) (tl pu:List Nat):Nat->Array Bool->Act->World->Prop
 | 0,listed,a,w=>Region.ready .any ops listed=[]∧Q .normal a w
 | fuel+1,listed,a,w=>
  (Region.ready .any ops listed=[]->Q .normal a w) ∧
  ∀ i∈Region.ready .any ops listed,wpOp P ops Q i (λa' w'=>(tl.contains i=false->(pu.contains i=true->S w)->S w')∧zd9 P ops Q S tl pu fuel (listed.setIfInBounds i true) a' w') a w
theorem ziU {S:World->Prop} {pu:List Nat} : ∀ (fuel:Nat) (listed:Array Bool) (a:Act) (w:World),zd9 P ops Q S tl pu fuel listed a w->wpAny P .any ops Q fuel listed a w
 | 0,_,_,_,h=>h
 | fuel+1,_,_,_,h=>⟨h.1,λi hi=>wpOp_mono (λa' w' h'=>ziU fuel _ a' w' h'.2) (h.2 i hi)⟩
def dep (ops:Array Oper) (listed:Array Bool) (i:Nat):Nat->Nat->Prop
 | 0,k=>k=i
 | n+1,k=>k=i∨(listed.getD k false=false∧∃ om,ops[k]? = some om∧∃ e'∈om.after,Region.binds .any e'=true∧dep ops listed i n e'.on)
theorem znz {listed:Array Bool} {i:Nat} : ∀ {n k:Nat},dep ops listed i n k->k=i∨listed.getD k false=false
 | 0,_,h=>.inl h
 | _+1,_,.inl h=>.inl h
 | _+1,_,.inr h=>.inr h.1
theorem znA {listed:Array Bool} {i j:Nat} {oj:Oper} (hoj:ops[j]? = some oj) (hall:∀ e∈oj.after,Region.binds .any e=true->listed.getD e.on false=true) (hnot:∀ e∈oj.after,Region.binds .any e=true->e.on≠i) :
  ∀ (n k:Nat),dep ops listed i n k->dep ops (listed.setIfInBounds j true) i n k
 | 0,_,h=>h
 | _+1,_,.inl h=>.inl h
 | n+1,k,.inr ⟨ho,om,hom,e',he',hb',hd⟩=>by
  refine .inr ⟨?_,om,hom,e',he',hb',znA hoj hall hnot n _ hd⟩;have hje:j≠k:=λhje=>by
   subst hje;rw[hoj] at hom;obtain rfl:=Option.some.inj hom;rcases znz hd with h | h
   ·exact hnot e' he' hb' h
   ·rw[hall e' he' hb'] at h;cases h
  rw[getD_set_ne false hje];exact ho
def zpE (ops:Array Oper) (tl:List Nat) (listed:Array Bool) (i:Nat):Prop:=
 ∀ j oj,ops[j]? = some oj->tl.contains j=true->listed.getD j true=false->∃ e∈oj.after,Region.binds .any e=true∧dep ops listed i 4 e.on
theorem zlB {S:World->Prop} {pu:List Nat} {i:Nat} {oi:Oper} {v:Value} (hi:ops[i]? = some oi) (hsel:∀ (j:Nat) (o:Oper) cs b,ops[j]? = some o->o.op ≠ .select cs b)
  (hQ:∀ c a w,Q (.panic c) (a.put oi.dst v) w->Q (.panic c) a w) :
  ∀ (fuel:Nat) (listed:Array Bool) (a:Act) (w:World),
   (∀ j oj,ops[j]? = some oj->j≠i->listed.getD j true=false->(∀ e∈oj.after,Region.binds .any e=true->e.on≠i)->oi.apart ops oj=true) ->
   zpE ops tl listed i ->
   i∈Region.ready .any ops listed->YieldsIf P ops S oi v a->S w ->
   zd9 P ops Q S tl pu fuel (listed.setIfInBounds i true) (a.put oi.dst v) w->zd9 P ops Q S tl pu (fuel+1) listed a w:=by
 intro fuel;induction fuel with
 | zero=>
  intro listed a w _ _ hr hy hS H;refine⟨λh=>(by rw[h] at hr;cases hr),λj hj=>?_⟩;by_cases hji:j=i
  ·subst hji;exact hy.wpOp hi hS ⟨λ_ _=>hS,H⟩
  ·have:=ready_mono hj hji;rw[H.1] at this;cases this
 | succ fuel ih=>
  intro listed a w hfree hwt hr hy hS H;refine⟨λh=>(by rw[h] at hr;cases hr),λj hj=>?_⟩;by_cases hji:j=i
  ·subst hji;exact hy.wpOp hi hS ⟨λ_ _=>hS,H⟩
  ·have h1:=H.2 j (ready_mono hj hji);obtain⟨hjun,oj,hoj,hall⟩:=mem_ready.1 hj;have hnot:∀ e∈oj.after,Region.binds .any e=true->e.on≠i:=λe he hb heq=>by
    have h1:=hall e he hb;have h0:=(mem_ready.1 hr).1;rw[heq] at h1;rcases Nat.lt_or_ge i listed.size with h' | h'
    ·simp[h'] at h0 h1;rw[h0] at h1;cases h1
    ·simp[Array.getElem?_eq_none h'] at h1
   have htj:tl.contains j=false:=by
    cases hc:tl.contains j with
    | false=>rfl
    | true=>
     obtain⟨e,he,hb,ho⟩:=hwt j oj hoj hc hjun;rcases znz ho with ho | ho
     ·exact absurd ho (hnot e he hb)
     ·have:=hall e he hb;rw[ho] at this;cases this
   have h2:=wpOp_putIf hoj (hfree j oj hoj hji hjun hnot) (λcs b=>hsel i oi cs b hi) (λcs b=>hsel j oj cs b hoj) hQ hy h1;have hfree':∀ k ok,ops[k]? = some ok->k≠i->(listed.setIfInBounds j true).getD k true=false ->
     (∀ e∈ok.after,Region.binds .any e=true->e.on≠i)->oi.apart ops ok=true:=λk ok hk hki hun hno=>by
    refine hfree k ok hk hki ?_ hno;by_cases hjk:j=k
    ·subst hjk;exact hjun
    ·rw[getD_set_ne true hjk] at hun;exact hun
   have hwt':zpE ops tl (listed.setIfInBounds j true) i:=λk ok hk htk hun=>by
    obtain⟨e,he,hb,ho⟩:=hwt k ok hk htk (by
     by_cases hjk:j=k
     ·subst hjk;exact hjun
     ·rw[getD_set_ne true hjk] at hun;exact hun)
    exact⟨e,he,hb,znA hoj hall hnot _ _ ho⟩
   refine wpOp_mono (λa' w' h3=>⟨h3.2.1,ih (listed.setIfInBounds j true) a' w' hfree' hwt' (ready_mono hr (Ne.symm hji)) h3.1 (h3.2.1 htj λ_=>hS) ?_⟩) h2;rw[Array.setIfInBounds_comm _ _ hji];exact h3.2.2
theorem zmA {S:World->Prop} {pu:List Nat} {i:Nat} {oi:Oper} {v:Value} (hi:ops[i]? = some oi) (hsel:∀ (j:Nat) (o:Oper) cs b,ops[j]? = some o->o.op ≠ .select cs b)
  (hpi:pu.contains i=true) (hQ:∀ c a w,Q (.panic c) (a.put oi.dst v) w->Q (.panic c) a w) :
  ∀ (fuel:Nat) (listed:Array Bool) (a:Act) (w:World),
   (∀ j oj,ops[j]? = some oj->j≠i->listed.getD j true=false->(∀ e∈oj.after,Region.binds .any e=true->e.on≠i)->oi.apart ops oj=true) ->
   i∈Region.ready .any ops listed->YieldsIf P ops (λ_=>True) oi v a ->
   zd9 P ops Q S tl pu fuel (listed.setIfInBounds i true) (a.put oi.dst v) w->zd9 P ops Q S tl pu (fuel+1) listed a w:=by
 intro fuel;induction fuel with
 | zero=>
  intro listed a w _ hr hy H;refine⟨λh=>(by rw[h] at hr;cases hr),λj hj=>?_⟩;by_cases hji:j=i
  ·subst hji;exact hy.wpOp hi trivial ⟨λ_ h=>h hpi,H⟩
  ·have:=ready_mono hj hji;rw[H.1] at this;cases this
 | succ fuel ih=>
  intro listed a w hfree hr hy H;refine⟨λh=>(by rw[h] at hr;cases hr),λj hj=>?_⟩;by_cases hji:j=i
  ·subst hji;exact hy.wpOp hi trivial ⟨λ_ h=>h hpi,H⟩
  ·have h1:=H.2 j (ready_mono hj hji);obtain⟨hjun,oj,hoj,hall⟩:=mem_ready.1 hj;have hnot:∀ e∈oj.after,Region.binds .any e=true->e.on≠i:=λe he hb heq=>by
    have h1:=hall e he hb;have h0:=(mem_ready.1 hr).1;rw[heq] at h1;rcases Nat.lt_or_ge i listed.size with h' | h'
    ·simp[h'] at h0 h1;rw[h0] at h1;cases h1
    ·simp[Array.getElem?_eq_none h'] at h1
   have h2:=wpOp_putIf hoj (hfree j oj hoj hji hjun hnot) (λcs b=>hsel i oi cs b hi) (λcs b=>hsel j oj cs b hoj) hQ hy h1;have hfree':∀ k ok,ops[k]? = some ok->k≠i->(listed.setIfInBounds j true).getD k true=false ->
     (∀ e∈ok.after,Region.binds .any e=true->e.on≠i)->oi.apart ops ok=true:=λk ok hk hki hun hno=>by
    refine hfree k ok hk hki ?_ hno;by_cases hjk:j=k
    ·subst hjk;exact hjun
    ·rw[getD_set_ne true hjk] at hun;exact hun
   refine wpOp_mono (λa' w' h3=>⟨h3.2.1,ih (listed.setIfInBounds j true) a' w' hfree' (ready_mono hr (Ne.symm hji)) h3.1 ?_⟩) h2;rw[Array.setIfInBounds_comm _ _ hji];exact h3.2.2
def zhb (P:Program) (ops:Array Oper) (Q:Exit->Act->World->Prop):List Nat->Act->World->Prop
 | [],a,w=>Q .normal a w
 | i::rest,a,w=>wpOp P ops Q i (zhb P ops Q rest) a w
def zf8 (ops:Array Oper) (tl:List Nat):Array Bool->List Nat->Bool
 | listed,[]=>(Region.ready .any ops listed).isEmpty
 | listed,i::rest=>(Region.ready .any ops listed == [i])&&tl.contains i&&zf8 ops tl (listed.setIfInBounds i true) rest
theorem zgu {S:World->Prop} {pu:List Nat} : ∀ (tp:List Nat) (listed:Array Bool) (a:Act) (w:World),zf8 ops tl listed tp=true->zhb P ops Q tp a w->zd9 P ops Q S tl pu tp.length listed a w
 | [],listed,a,w,ho,h=>⟨by simpa[zf8] using ho,h⟩
 | i::rest,listed,a,w,ho,h=>by
  simp only[zf8,Bool.and_eq_true,beq_iff_eq] at ho;obtain⟨⟨h1,h2⟩,h3⟩:=ho;refine⟨λh0=>(by rw[h1] at h0;cases h0),λj hj=>?_⟩;rw[h1] at hj;obtain rfl:j=i:=by simpa using hj
  exact wpOp_mono (λa' w' h'=>⟨λht=>(by rw[h2] at ht;cases ht),zgu rest _ _ _ h3 h'⟩) h
theorem zaz {i:Nat} {o:Oper} {rest:List Nat} {a:Act} {w:World} (hi:ops.toList[i]? = some o) (hw:Region.wanted o (yielded ops a.tmps)=true) (h:∀ K:Act->World->Prop,(∀ a' w',zhb P ops Q rest a' w'->K a' w')->o.wp P a w K Q) :
  zhb P ops Q (i::rest) a w:=by
 have hi':ops[i]? = some o:=by simpa using hi
 show wpOp _ _ _ _ _ _ _;unfold wpOp;simp only[hi',hw,if_true];exact .inl (h _ λa' w' hk=>hk)
theorem zbS {a:Act} {w:World} (h:Q .normal a w):zhb P ops Q [] a w:=h
def zlC (ops:Array Oper) (F:List Nat) (listed:Array Bool) (i:Nat):Nat->Nat->Bool
 | 0,k=>k==i
 | n+1,k=>k==i||(!F.contains k && !listed.getD k false&&match ops[k]? with | some om=>om.after.any (λe'=>Region.binds .any e'&&zlC ops F listed i n e'.on) | none=>false)
theorem zf9 {l:Array Bool} {j:Nat} {b d:Bool} (h:l[j]? = some b):l.getD j d=b:=by simp[h]
theorem zcd {l l':Array Bool} {j:Nat} {d:Bool} (h:l[j]? = l'[j]?):l.getD j d=l'.getD j d:=by simp[h]
end
structure FX where
 i:Nat
 t:Nat
 ob:Obj
 yv:Nat->Value
def zbJ:List FX->(Nat->Option Nat)->Act->Act
 | [],_,a=>a
 | x::fs,β,a=>match β x.i with
  | none=>zbJ fs β a
  | some b=>(zbJ fs β a).put (some x.t) (x.yv b)
def nx (fs:List FX) (β:Nat->Option Nat):Nat:=fs.countP λx=>(β x.i).isNone
theorem ziV {β β':Nat->Option Nat} {a:Act} : ∀ {fs:List FX},(∀ x∈fs,β x.i=β' x.i)->zbJ fs β a=zbJ fs β' a
 | [],_=>rfl
 | x::fs,h=>by
  unfold zbJ;rw[h x (by simp),ziV (fs:=fs) λy hy=>h y (by simp[hy])]
theorem zgv {β:Nat->Option Nat} {a:Act} {d:Option Tmp} {v:Value} : ∀ {fs:List FX},(∀ x∈fs,d≠some x.t)->zbJ fs β (a.put d v)=(zbJ fs β a).put d v
 | [],_=>rfl
 | x::fs,h=>by
  unfold zbJ;rw[zgv (fs:=fs) λy hy=>h y (by simp[hy])];cases β x.i with
  | none=>rfl
  | some b=>exact Act.put_comm _ _ _ λe he hx=>h x (by simp) (by rw[he,hx])
theorem zlD {β:Nat->Option Nat} {a:Act} {x:FX} {b:Nat} : ∀ {fs:List FX},x∈fs->(fs.map (·.i)).Nodup->(fs.map (·.t)).Nodup->β x.i=none->zbJ fs (zb2 β x.i b) a=(zbJ fs β a).put (some x.t) (x.yv b)
 | [],h,_,_,_=>by cases h
 | y::fs,h,hn,hs,hb=>by
  simp only[List.map_cons,List.nodup_cons,List.mem_map,not_exists,not_and] at hn hs;unfold zbJ;by_cases hxy:y.i=x.i
  ·have hyx:y=x:=by
    rcases List.mem_cons.1 h with rfl | h'
    ·rfl
    ·exact absurd hxy.symm (hn.1 x h')
   subst hyx;have e:zbJ fs (zb2 β y.i b) a=zbJ fs β a:=ziV λz hz=>by
    unfold zb2;rw[if_neg (λe=>hn.1 z hz e)]
   simp only[zb2,if_true,hb] at e⊢;rw[e]
  ·have hx:x∈fs:=by
    rcases List.mem_cons.1 h with rfl | h'
    ·exact absurd rfl hxy
    ·exact h'
   have e:zb2 β x.i b y.i=β y.i:=by unfold zb2;rw[if_neg hxy]
   rw[e,zlD hx hn.2 hs.2 hb];cases β y.i with
   | none=>rfl
   | some b'=>exact Act.put_comm _ _ _ λd hd hd'=>hs.1 x hx (by simp_all)
theorem zpF {β:Nat->Option Nat} {x:FX} {b:Nat} : ∀ {fs:List FX},x∈fs->(fs.map (·.i)).Nodup->β x.i=none->nx fs (zb2 β x.i b)+1=nx fs β
 | [],h,_,_=>by cases h
 | y::fs,h,hn,hb=>by
  simp only[List.map_cons,List.nodup_cons,List.mem_map,not_exists,not_and] at hn;unfold nx;rw[List.countP_cons,List.countP_cons];by_cases hxy:y.i=x.i
  ·have e:fs.countP (λz=>(zb2 β x.i b z.i).isNone)=fs.countP (λz=>(β z.i).isNone):=by
    refine List.countP_congr λz hz=>?_;rw[show zb2 β x.i b z.i=β z.i by unfold zb2;rw[if_neg (λe=>hn.1 z hz (e.trans hxy.symm))]]
   rw[e,show zb2 β x.i b y.i=some b by unfold zb2;rw[if_pos hxy],show β y.i=none by rw[hxy];exact hb];simp
  ·have hx:x∈fs:=by
    rcases List.mem_cons.1 h with rfl | h'
    ·exact absurd rfl hxy
    ·exact h'
   have ih:=zpF (b:=b) hx hn.2 hb;unfold nx at ih;rw[show zb2 β x.i b y.i=β y.i by unfold zb2;rw[if_neg hxy]];omega
theorem ziW {x y:FX} : ∀ {fs:List FX},(fs.map (·.i)).Nodup->x∈fs->y∈fs->x.i=y.i->x=y
 | [],_,h,_,_=>by cases h
 | z::fs,hn,hx,hy,e=>by
  simp only[List.map_cons,List.nodup_cons,List.mem_map,not_exists,not_and] at hn;rcases List.mem_cons.1 hx with rfl | hx'
  ·rcases List.mem_cons.1 hy with rfl | hy'
   ·rfl
   ·exact absurd e.symm (hn.1 y hy')
  ·rcases List.mem_cons.1 hy with rfl | hy'
   ·exact absurd e (hn.1 x hx')
   ·exact ziW hn.2 hx' hy' e
section
variable {P:Program} {ops:Array Oper} {Q:Exit->Act->World->Prop} {tl:List Nat}
theorem zhc {j:Nat} {oj:Oper} {β:Nat->Option Nat} (hj:ops[j]? = some oj) (hsj:∀ cs b,oj.op ≠ .select cs b) (hQ:∀ c a d v w,Q (.panic c) a w->Q (.panic c) (a.put d v) w)
  {K:Act->World->Prop} {a:Act} {w:World} (h:wpOp P ops Q j K a w):∀ {fs:List FX},(∀ x∈fs,x.t ∉ oj.looksAt ops∧oj.dst≠some x.t) ->
  wpOp P ops Q j (λa' w'=>∃ a'',a'=zbJ fs β a''∧K a'' w') (zbJ fs β a) w
 | [],_=>wpOp_mono (λa' w' h'=>⟨a',rfl,h'⟩) h
 | x::fs,hx=>by
  have ih:=zhc (β:=β) hj hsj hQ h (fs:=fs) λy hy=>hx y (by simp[hy]);unfold zbJ;cases β x.i with
  | none=>exact ih
  | some b=>
   refine wpOp_mono ?_ (zpD (v:=x.yv b) hj hsj (hx x (by simp)).1 (hx x (by simp)).2 (λc a w=>hQ c a _ _ w) ih);rintro a' w' ⟨a1,rfl,a2,rfl,hk⟩;exact⟨a2,rfl,hk⟩
theorem zfR {S:World->Prop} {o:Oper} {v:Value} {a:Act} {β:Nat->Option Nat} (hs:∀ cs b,o.op ≠ .select cs b) (hy:YieldsIf P ops S o v a):∀ {fs:List FX},(∀ x∈fs,x.t ∉ o.looksAt ops)->YieldsIf P ops S o v (zbJ fs β a)
 | [],_=>hy
 | x::fs,hx=>by
  have ih:=zfR (β:=β) hs hy (fs:=fs) λy hy=>hx y (by simp[hy]);unfold zbJ;cases β x.i with
  | none=>exact ih
  | some b=>
   have h1:∀ e,(some x.t:Option Tmp)=some e->e ∉ o.looksAt ops:=λe he=>by obtain rfl:=Option.some.inj he;exact hx x (by simp)
   exact ih.of_same (execOp_put o hs _ _ _ h1) (wanted_put o _ _ _ h1)
theorem zhV {o:Oper} {a:Act} {β:Nat->Option Nat} : ∀ {fs:List FX},(∀ x∈fs,x.t ∉ o.looksAt ops)->Region.wanted o (yielded ops (zbJ fs β a).tmps)=Region.wanted o (yielded ops a.tmps)
 | [],_=>rfl
 | x::fs,hx=>by
  have ih:=zhV (a:=a) (β:=β) (fs:=fs) λy hy=>hx y (by simp[hy]);unfold zbJ;cases β x.i with
  | none=>exact ih
  | some b=>exact(wanted_put o _ _ _ (λe he=>by obtain rfl:=Option.some.inj he;exact hx x (by simp))).trans ih
theorem zki {o:Oper} {a:Act} {β:Nat->Option Nat} (hs:∀ cs b,o.op ≠ .select cs b):∀ {fs:List FX},(∀ x∈fs,x.t ∉ o.looksAt ops)->execOp (zbJ fs β a).eval o=execOp a.eval o
 | [],_=>rfl
 | x::fs,hx=>by
  have ih:=zki (a:=a) (β:=β) hs (fs:=fs) λy hy=>hx y (by simp[hy]);unfold zbJ;cases β x.i with
  | none=>exact ih
  | some b=>
   have h1:∀ e,(some x.t:Option Tmp)=some e->e ∉ o.looksAt ops:=λe he=>by obtain rfl:=Option.some.inj he;exact hx x (by simp)
   exact(execOp_put o hs _ _ _ h1).trans ih
def zjH (ops:Array Oper) (d:Option Tmp) (a a':Act):Prop:=∀ o:Oper,(∀ cs b,o.op ≠ .select cs b)->(∀ e,d=some e->e ∉ o.looksAt ops)->execOp a'.eval o=execOp a.eval o∧Region.wanted o (yielded ops a'.tmps)=Region.wanted o (yielded ops a.tmps)
theorem zco {d:Option Tmp} {a:Act} {v:Value} : zjH ops d a (a.put d v):=λo hs h=>⟨execOp_put o hs _ _ _ h,wanted_put o _ _ _ h⟩
theorem zkj {j:Nat} {oj:Oper} (hj:ops[j]? = some oj) {K:Act->World->Prop} {a:Act} {w:World} (h:wpOp P ops Q j K a w):wpOp P ops Q j (λa' w'=>zjH ops oj.dst a a'∧K a' w') a w:=by
 unfold wpOp at *;simp only[hj] at *;split
 ·rename_i hw;simp only[hw,if_true] at h;rcases h with h | ⟨hasks,hlets⟩
  case inr=>exact .inr ⟨hasks,hlets⟩
  refine .inl ?_;unfold Oper.wp at *;generalize (execOp a.eval oj).run P w=r at *;cases r with
  | ok n w'=>
   cases n <;> simp only[Oper.upon] at h⊢
   case value u=>exact⟨zco,h⟩
   case skip=>exact⟨zco,h⟩
   case defer f=>exact⟨λo hs ho=>⟨execOp_put o hs { a with defers:=f::a.defers } _ _ ho,wanted_put o { a with defers:=f::a.defers } _ _ ho⟩,h⟩
   case enter f args=>
    refine Calls.mono h λe w'' he=>?_;cases e with
    | returned u=>exact⟨zco,he⟩
    | panicked c=>exact he
    | outgrown=>exact he
   case row row args=>exact Rows.mono h λu w'' he=>⟨zco,he⟩
  | halt x w'=>
   cases x <;> simp only[Oper.upon] at h⊢
   case panic u=>exact h
   all_goals exact h
 ·rename_i hw;simp only[hw] at h;exact⟨zco,h⟩
def zcp (P:Program) (ops:Array Oper) (Q:Exit->Act->World->Prop) (W0:World) (tp:List Nat):List (Nat×Nat)->List FX->List Nat->Act->(World->Prop)->Prop
 | [],_,_,a,E=>∀ w,Ext W0 w->E w->zhb P ops Q tp a w
 | (i,0)::rest,fs,bs,a,E=>∃ o v,ops[i]? = some o∧YieldsIf P ops (Ext W0) o v a∧zcp P ops Q W0 tp rest fs bs (a.put o.dst v) E
 | (i,2)::rest,fs,bs,a,E=>∃ o v,ops[i]? = some o∧YieldsIf P ops (λ_=>True) o v a∧zcp P ops Q W0 tp rest fs bs (a.put o.dst v) E
 | (_,3)::rest,fs,bs,a,E=>∃ x fs',fs=x::fs'∧∀ b,W0.heap.size<=b->b ∉ bs->(∀ w1 w2,Ext w1 w2->E w1->E w2)->∃ E':World->Prop,(∀ w1 w2,Ext w1 w2->E' w1->E' w2)∧(∀ w,Ext W0 w->E w->w.heap[b]? = some x.ob->E' w)∧zcp P ops Q W0 tp rest fs' (b::bs) (a.put (some x.t) (x.yv b)) E'
 | (i,4)::rest,fs,bs,a,E=>∃ x o,x.i=i∧ops[i]? = some o∧o.dst=some x.t∧Region.wanted o (yielded ops a.tmps)=true∧(∀ w,(execOp a.eval o).run P w = .ok (.value (x.yv w.heap.size)) (w.alloc x.ob))∧zcp P ops Q W0 tp rest (x::fs) bs a E
 | (i,5)::rest,fs,bs,a,E=>∀ w,Ext W0 w->E w->wpOp P ops Q i (λa' w'=>Ext W0 w'∧w.heap.size<=w'.heap.size∧∃ E':World->Prop,(∀ w1 w2,Ext w1 w2->E' w1->E' w2)∧E' w'∧zcp P ops Q W0 tp rest fs bs a' E') a w
 | (i,_)::rest,fs,bs,a,E=>∀ w,Ext W0 w->E w->wpOp P ops Q i (λa' w'=>Ext w w'∧∃ E':World->Prop,(∀ w1 w2,Ext w1 w2->E' w1->E' w2)∧E' w'∧zcp P ops Q W0 tp rest fs bs a' E') a w
def zfy (ops:Array Oper) (o:Oper) (F:List Nat):Bool:=
 o.after.all (λe=>!Region.binds .any e || !F.contains e.on)&&F.all (λk=>match ops[k]? with
  | some ok=>(match ok.dst with | some t=>!(o.looksAt ops).contains t&&o.dst != some t | none=>false)&&(match o.dst with | some d=>!(ok.looksAt ops).contains d | none=>true)&&o.apart ops ok
  | none=>false)
def zcu (ops:Array Oper) (tl pu:List Nat):Array Bool->List Nat->List (Nat×Nat)->Bool
 | lF,F,[]=>F.isEmpty
 | lF,F,(i,0)::rest=>Region.free .any ops lF i&&(Region.ready .any ops lF).contains i && !tl.contains i && !F.contains i &&
   tl.all (λj=>lF.getD j true||match ops[j]? with | some oj=>oj.after.any (λe=>Region.binds .any e&&zlC ops F lF i 4 e.on) | none=>true) &&
   (match ops[i]? with | some o=>zfy ops o F | none=>false)&&zcu ops tl pu (lF.setIfInBounds i true) F rest
 | lF,F,(i,2)::rest=>Region.free .any ops lF i&&(Region.ready .any ops lF).contains i && !tl.contains i && !F.contains i&&pu.contains i &&
   (match ops[i]? with | some o=>zfy ops o F | none=>false)&&zcu ops tl pu (lF.setIfInBounds i true) F rest
 | lF,F,(i,3)::rest=>(F.head? == some i)&&(Region.ready .any ops lF).all (λj=>match ops[j]? with | some oj=>oj.after.any (λe=>Region.binds .any e&&e.on==i) | none=>false)&&zcu ops tl pu lF F.tail rest
 | lF,F,(i,4)::rest=>(lF[i]? == some false) && !tl.contains i && !F.contains i &&
   (match ops[i]? with | some o=>o.after.all (λe=>!Region.binds .any e||lF.getD e.on false)&&(match o.dst with | some t=>!(o.looksAt ops).contains t | none=>false)&&zfy ops o F | none=>false)&&zcu ops tl pu (lF.setIfInBounds i true) (i::F) rest
 | lF,F,(i,5)::rest=>F.isEmpty&&(Region.ready .any ops lF == [i]) && !tl.contains i && !pu.contains i &&
   (match ops[i]? with | some o=>zfy ops o F | none=>false)&&zcu ops tl pu (lF.setIfInBounds i true) F rest
 | lF,F,(i,_)::rest=>(Region.ready .any ops lF == [i]) && !tl.contains i && !F.contains i && !pu.contains i &&
   (match ops[i]? with | some o=>zfy ops o F | none=>false)&&zcu ops tl pu (lF.setIfInBounds i true) F rest
def zsw (listed:Array Bool) (pl:List (Nat×Nat)):Array Bool:=pl.foldl (λl x=>if x.2=3 then l else l.setIfInBounds x.1 true) listed
def zbt (pl:List (Nat×Nat)):Nat:=pl.countP λx=>x.2 != 3
theorem zga {i k:Nat} {rest:List (Nat×Nat)} (h:k≠3):zbt ((i,k)::rest)=zbt rest+1:=by
 unfold zbt;rw[List.countP_cons,if_pos (by simpa using h)]
theorem ztc {i:Nat} {rest:List (Nat×Nat)} : zbt ((i,3)::rest)=zbt rest:=by
 unfold zbt;rw[List.countP_cons,if_neg (by simp),Nat.add_zero]
structure RelX (fs:List FX) (listed lF:Array Bool) (β:Nat->Option Nat):Prop where
 size:listed.size=lF.size
 main:∀ j,j ∉ fs.map (·.i)->listed[j]? = lF[j]?
 done:∀ x∈fs,listed[x.i]? = some (β x.i).isSome∧lF[x.i]? = some true
theorem RelX.step {fs:List FX} {listed lF:Array Bool} {β:Nat->Option Nat} (h:RelX fs listed lF β) {i:Nat} (hi:i ∉ fs.map (·.i)):RelX fs (listed.setIfInBounds i true) (lF.setIfInBounds i true) β:=by
 refine⟨by simp[h.size],λj hj=>?_,λx hx=>?_⟩
 ·rw[Array.getElem?_setIfInBounds,Array.getElem?_setIfInBounds,h.size,h.main j hj]
 ·have hne:i≠x.i:=λe=>hi (by rw[e];exact List.mem_map.2 ⟨x,hx,rfl⟩);rw[Array.getElem?_setIfInBounds_ne hne,Array.getElem?_setIfInBounds_ne hne];exact h.done x hx
theorem RelX.float {fs:List FX} {listed lF:Array Bool} {β:Nat->Option Nat} (h:RelX fs listed lF β) {x:FX} (hx:x∈fs) (b:Nat):RelX fs (listed.setIfInBounds x.i true) lF (zb2 β x.i b):=by
 refine⟨by simp[h.size],λj hj=>?_,λy hy=>?_⟩
 ·rw[Array.getElem?_setIfInBounds_ne (λe=>hj (by rw[<-e];exact List.mem_map.2 ⟨x,hx,rfl⟩))];exact h.main j hj
 ·refine⟨?_,(h.done y hy).2⟩;have hl:=(h.done y hy).1;by_cases hxy:x.i=y.i
  ·rw[<-hxy,Array.getElem?_setIfInBounds_self];have:x.i<listed.size:=by rw[hxy];exact(Array.getElem?_eq_some_iff.1 hl).1
   simp[this,zb2]
  ·rw[Array.getElem?_setIfInBounds_ne hxy,hl];unfold zb2;rw[if_neg (λe=>hxy e.symm)]
theorem RelX.wait {x:FX} {fs:List FX} {listed lF:Array Bool} {β:Nat->Option Nat} (h:RelX (x::fs) listed lF β) (hb:(β x.i).isSome=true):RelX fs listed lF β:=by
 refine⟨h.size,λj hj=>?_,λy hy=>h.done y (by simp[hy])⟩;by_cases e:j=x.i
 ·subst e;rw[(h.done x (by simp)).1,(h.done x (by simp)).2,hb]
 ·exact h.main j (by simp only[List.map_cons,List.mem_cons,not_or];exact⟨e,hj⟩)
theorem RelX.launch {x:FX} {fs:List FX} {listed lF:Array Bool} {β:Nat->Option Nat} (h:RelX fs listed lF β) (hi:x.i ∉ fs.map (·.i)) (hl:lF[x.i]? = some false) (hb:β x.i=none):RelX (x::fs) listed (lF.setIfInBounds x.i true) β:=by
 refine⟨by simp[h.size],λj hj=>?_,λy hy=>?_⟩
 ·simp only[List.map_cons,List.mem_cons,not_or] at hj;rw[Array.getElem?_setIfInBounds_ne (λe=>hj.1 e.symm)];exact h.main j hj.2
 ·rcases List.mem_cons.1 hy with rfl | hy
  ·refine⟨by rw[h.main _ hi,hl,hb];rfl,?_⟩;have:=(Array.getElem?_eq_some_iff.1 hl).1;simp[this]
  ·have hne:x.i≠y.i:=λe=>hi (by rw[e];exact List.mem_map.2 ⟨y,hy,rfl⟩);refine⟨(h.done y hy).1,?_⟩;rw[Array.getElem?_setIfInBounds_ne hne];exact(h.done y hy).2
theorem znB {fs:List FX} {listed lF:Array Bool} {β:Nat->Option Nat} (hR:RelX fs listed lF β) {i:Nat} : ∀ (n k:Nat),zlC ops (fs.map (·.i)) lF i n k=true->dep ops listed i n k
 | 0,k,h=>by show k=i;simpa[zlC] using h
 | n+1,k,h=>by
  simp only[zlC,Bool.or_eq_true,beq_iff_eq,Bool.and_eq_true,Bool.not_eq_true'] at h;rcases h with h | ⟨⟨hF,hun⟩,h⟩
  ·exact .inl h
  ·right
   refine⟨by rw[zcd (hR.main k (by simpa using hF))];exact hun,?_⟩;cases hom:ops[k]? with
   | none=>rw[hom] at h;cases h
   | some om=>
    rw[hom] at h;obtain⟨e',he',hb'⟩:=Array.any_eq_true'.1 h;simp only[Bool.and_eq_true] at hb';exact⟨om,rfl,e',he',hb'.1,znB hR n _ hb'.2⟩
structure FgOk (P:Program) (ops:Array Oper) (tl:List Nat) (fs:List FX) (lF:Array Bool) (a:Act):Prop where
 fl:∀ x∈fs,∃ o,ops[x.i]? = some o∧Region.wanted o (yielded ops a.tmps)=true∧o.dst=some x.t∧tl.contains x.i=false∧(∀ e∈o.after,Region.binds .any e=true->lF[e.on]? = some true∧e.on ∉ fs.map (·.i)) ∧
  (∀ y∈fs,y.t ∉ o.looksAt ops)∧∀ w,(execOp a.eval o).run P w = .ok (.value (x.yv w.heap.size)) (w.alloc x.ob)
 n1:(fs.map (·.i)).Nodup
 n2:(fs.map (·.t)).Nodup
theorem zip {o:Oper} {F:List Nat} (h:zfy ops o F=true):(∀ e∈o.after,Region.binds .any e=true->e.on ∉ F)∧∀ k∈F,∀ ok,ops[k]? = some ok->∃ t,ok.dst=some t∧t ∉ o.looksAt ops∧o.dst≠some t∧(∀ d,o.dst=some d->d ∉ ok.looksAt ops)∧o.apart ops ok=true:=by
 simp only[zfy,Bool.and_eq_true,List.all_eq_true,Array.all_eq_true_iff_forall_mem] at h;refine⟨λe he hb hin=>?_,λk hk ok hok=>?_⟩
 ·have:=h.1 e he;rw[hb] at this;simp only[Bool.not_true,Bool.false_or,Bool.not_eq_true'] at this;exact absurd hin (by simpa using this)
 ·have:=h.2 k hk;rw[hok] at this;simp only[Bool.and_eq_true] at this;obtain⟨⟨h1,h2⟩,h3⟩:=this;cases hd:ok.dst with
  | none=>rw[hd] at h1;cases h1
  | some t=>
   rw[hd] at h1;simp only[Bool.and_eq_true] at h1;refine⟨t,rfl,by simpa using h1.1,by simpa using h1.2,λd hd'=>?_,h3⟩;rw[hd'] at h2;simpa using h2
theorem FgOk.step {fs:List FX} {lF:Array Bool} {a a':Act} {i:Nat} {o:Oper} (h:FgOk P ops tl fs lF a) (hsel:Region.noSelect ops=true) (haw:zfy ops o (fs.map (·.i))=true) (hs:zjH ops o.dst a a'):FgOk P ops tl fs (lF.setIfInBounds i true) a':=by
 refine⟨λx hx=>?_,h.n1,h.n2⟩;obtain⟨ox,h1,h2,h3,h4,h5,h6,h7⟩:=h.fl x hx;obtain⟨t,_,_,_,hd,_⟩:=(zip haw).2 x.i (List.mem_map.2 ⟨x,hx,rfl⟩) ox h1;have hsx:=hs ox (λcs b=>Region.noSelect_spec hsel x.i ox cs b h1) hd;refine⟨ox,h1,hsx.2.trans h2,h3,h4,λe he hb=>⟨?_,(h5 e he hb).2⟩,h6,λw=>?_⟩
 ·have:=(h5 e he hb).1;by_cases hie:i=e.on
  ·have hlt:=(Array.getElem?_eq_some_iff.1 this).1;subst hie;simp[hlt]
  ·rw[Array.getElem?_setIfInBounds_ne hie];exact this
 ·rw[hsx.1];exact h7 w
theorem zoh {W0:World} {tp pu:List Nat} (hsel:Region.noSelect ops=true) (hQ:∀ c a d v w,Q (.panic c) (a.put d v) w->Q (.panic c) a w) (hQ':∀ c a d v w,Q (.panic c) a w->Q (.panic c) (a.put d v) w) :
  ∀ (m:Nat) (pl:List (Nat×Nat)) (fs:List FX) (bs:List Nat) (listed lF:Array Bool) (β:Nat->Option Nat) (a:Act) (E:World->Prop) (w:World),2*pl.length+nx fs β<=m->RelX fs listed lF β->FgOk P ops tl fs lF a ->
   zcu ops tl pu lF (fs.map (·.i)) pl=true->zf8 ops tl (zsw lF pl) tp=true->Ext W0 w->(∀ w1 w2,Ext w1 w2->E w1->E w2)->E w ->
   (∀ x∈fs,∀ b,β x.i=some b->w.heap[b]? = some x.ob∧W0.heap.size<=b∧b ∉ bs)->(∀ x∈fs,∀ y∈fs,∀ b,β x.i=some b->β y.i=some b->x.i=y.i)->(∀ b∈bs,b<w.heap.size)->(∀ j,(∃ b,β j=some b)->lF[j]? = some true) ->
   zcp P ops Q W0 tp pl fs bs a E->zd9 P ops Q (Ext W0) tl pu (zbt pl+nx fs β+tp.length) listed (zbJ fs β a) w:=by
 intro m;induction m with
 | zero=>
  intro pl fs bs listed lF β a E w hm hR hok hpl htp hX hst hE hbl hinj hbs hβ h;obtain rfl:pl=[]:=List.eq_nil_of_length_eq_zero (by omega);obtain rfl:fs=[]:=by simpa[zcu] using hpl
  have hl:listed=lF:=Array.ext_getElem? λj=>hR.main j (by simp);subst hl;rw[show zbt []+nx [] β+tp.length=tp.length by simp[zbt,nx]];exact zgu tp _ _ _ htp (h w hX hE)
 | succ m ih=>
  intro pl fs bs listed lF β a E w hm hR hok hpl htp hX hst hE hbl hinj hbs hβ h;have hal:∀ x∈fs,β x.i=none->∀ f,zbt pl+nx fs β+tp.length=f+1->wpOp P ops Q x.i (λa' w'=>(tl.contains x.i=false->(pu.contains x.i=true->Ext W0 w)->Ext W0 w')∧zd9 P ops Q (Ext W0) tl pu f (listed.setIfInBounds x.i true) a' w') (zbJ fs β a) w:=by
   intro x hx hb f hf;obtain⟨o,ho,hg,hd,_,_,hl,hrun⟩:=hok.fl x hx;unfold wpOp;simp only[ho];rw[if_pos ((zhV hl).trans hg)];refine .inl ?_;unfold Oper.wp;rw[zki (λcs b=>Region.noSelect_spec hsel x.i o cs b ho) hl,hrun w];have hnp:=zpF (b:=w.heap.size) hx hok.n1 hb;have hXa:Ext w (w.alloc x.ob):=(Ext.refl w).alloc _;have hlt:∀ u∈fs,∀ b,β u.i=some b->b<w.heap.size:=λu hu b hub=>by
    obtain⟨h1,_⟩:=hbl u hu b hub;rcases Nat.lt_or_ge b w.heap.size with hl | hl
    ·exact hl
    ·rw[Array.getElem?_eq_none hl] at h1;cases h1
   have key:=ih pl fs bs (listed.setIfInBounds x.i true) lF (zb2 β x.i w.heap.size) a E (w.alloc x.ob) (by omega) (hR.float hx _) hok hpl htp (hX.trans hXa) hst (hst _ _ hXa hE) ?_ ?_ (λb hb'=>by have:=hbs b hb';have:=hXa.size;omega) ?_ h
   ·rw[zlD hx hok.n1 hok.n2 hb,show zbt pl+nx fs (zb2 β x.i w.heap.size)+tp.length=f by omega] at key;simp only[Oper.upon,hd];exact⟨λ_ _=>hX.trans hXa,key⟩
   ·intro y hy b hyb;by_cases hxy:y.i=x.i
    ·have hyx:y=x:=ziW hok.n1 hy hx hxy;subst hyx;simp only[zb2,if_true,Option.some.injEq] at hyb;subst hyb;exact⟨heap_alloc_new _ _,hX.size,λhin=>by have:=hbs _ hin;omega⟩
    ·simp only[zb2,hxy,if_false] at hyb;obtain⟨h1,h2,h3⟩:=hbl y hy b hyb;exact⟨by rw[hXa.block (hlt y hy b hyb)];exact h1,h2,h3⟩
   ·intro y hy z hz b hyb hzb;unfold zb2 at hyb hzb;split at hyb
    ·rename_i e1;split at hzb
     ·rename_i e2;rw[e1,e2]
     ·have:=hlt z hz b hzb;simp only[Option.some.injEq] at hyb;omega
    ·split at hzb
     ·have:=hlt y hy b hyb;simp only[Option.some.injEq] at hzb;omega
     ·exact hinj y hy z hz b hyb hzb
   ·rintro j ⟨b,hj⟩;unfold zb2 at hj;split at hj
    ·rename_i e;subst e;exact(hR.done x hx).2
    ·exact hβ j ⟨b,hj⟩
  have hfr:∀ x∈fs,β x.i=none->x.i∈Region.ready .any ops listed:=by
   intro x hx hb;obtain⟨o,ho,_,_,_,ha,_⟩:=hok.fl x hx;refine mem_ready.2 ⟨?_,o,ho,λe he hbi=>?_⟩
   ·rw[zf9 (hR.done x hx).1,hb];rfl
   ·obtain⟨h1,h2⟩:=ha e he hbi;rw[zcd (hR.main _ h2),zf9 h1]
  have hfl:∀ x∈fs,x.i∈Region.ready .any ops listed->β x.i=none:=by
   intro x hx hr;have h0:=(mem_ready.1 hr).1;rw[zf9 (hR.done x hx).1] at h0;cases hb:β x.i with
   | none=>rfl
   | some b=>rw[hb] at h0;cases h0
  have hto:∀ j,j ∉ fs.map (·.i)->j∈Region.ready .any ops listed->j∈Region.ready .any ops lF:=by
   intro j hj hr;obtain⟨h0,o,ho,ha⟩:=mem_ready.1 hr;refine mem_ready.2 ⟨by rw[<-zcd (hR.main j hj)];exact h0,o,ho,λe he hb=>?_⟩;have h1:=ha e he hb;by_cases hin:e.on∈fs.map (·.i)
   ·obtain⟨x,hx,hxe⟩:=List.mem_map.1 hin;rw[<-hxe,zf9 (hR.done x hx).2]
   ·rw[<-zcd (hR.main _ hin)];exact h1
  have hfrom:∀ j oj,ops[j]? = some oj->j ∉ fs.map (·.i)->(∀ e∈oj.after,Region.binds .any e=true->e.on ∉ fs.map (·.i))->j∈Region.ready .any ops lF->j∈Region.ready .any ops listed:=by
   intro j oj hoj hj hno hr;obtain⟨h0,o,ho,ha⟩:=mem_ready.1 hr;obtain rfl:oj=o:=by rw[hoj] at ho;exact Option.some.inj ho
   refine mem_ready.2 ⟨by rw[zcd (hR.main j hj)];exact h0,oj,hoj,λe he hb=>?_⟩;rw[zcd (hR.main _ (hno e he hb))];exact ha e he hb
  have hβ':∀ {i:Nat},∀ j,(∃ b,β j=some b)->(lF.setIfInBounds i true)[j]? = some true:=fun {i} j hj=>by
   have h1:=hβ j hj;by_cases e:i=j
   ·subst e;have:=(Array.getElem?_eq_some_iff.1 h1).1;simp[this]
   ·rw[Array.getElem?_setIfInBounds_ne e];exact h1
  match pl,hm,hpl,htp,h,hal with
  | [],hm,hpl,htp,h,hal=>
   obtain rfl:fs=[]:=by simpa[zcu] using hpl
   have hl:listed=lF:=Array.ext_getElem? λj=>hR.main j (by simp);subst hl;rw[show zbt []+nx [] β+tp.length=tp.length by simp[zbt,nx]];exact zgu tp _ _ _ htp (h w hX hE)
  | (i,0)::rest,hm,hpl,htp,h,hal=>
   obtain⟨o,v,hi,hy,h⟩:=h;simp only[zcu,hi,Bool.and_eq_true,Bool.not_eq_true'] at hpl;obtain⟨⟨⟨⟨⟨⟨h1,h2⟩,h3⟩,h3'⟩,h4⟩,haw⟩,h5⟩:=hpl;have hiF:i ∉ fs.map (·.i):=by simpa using h3'
   have hA:=zip haw;have hx2:∀ x∈fs,x.t ∉ o.looksAt ops∧o.dst≠some x.t∧∀ ox,ops[x.i]? = some ox->o.apart ops ox=true:=λx hx=>by
    obtain⟨ox,g1,_,g3,_⟩:=hok.fl x hx;obtain⟨t,e1,e2,e3,_,e5⟩:=hA.2 x.i (List.mem_map.2 ⟨x,hx,rfl⟩) ox g1;rw[g3] at e1;obtain rfl:=Option.some.inj e1;exact⟨e2,e3,λox' h'=>by rw[g1] at h';obtain rfl:=Option.some.inj h';exact e5⟩
   have key:=ih rest fs bs (listed.setIfInBounds i true) (lF.setIfInBounds i true) β (a.put o.dst v) E w (by simp only[List.length_cons] at hm;omega) (hR.step hiF) (hok.step hsel haw zco) h5 htp hX hst hE hbl hinj hbs hβ' h;rw[zgv λx hx=>(hx2 x hx).2.1] at key;rw[show zbt ((i,0)::rest)+nx fs β+tp.length=(zbt rest+nx fs β+tp.length)+1 by rw[zga (by decide)];omega];refine zlB hi (Region.noSelect_spec hsel) (λc a w=>hQ c a _ _ w) _ _ _ _ ?_ ?_ (hfrom i o hi hiF hA.1 (by simpa using h2)) (zfR (Region.noSelect_spec hsel i o · · hi) hy λx hx=>(hx2 x hx).1) hX key
   ·intro j oj hj hji hun hno;by_cases hin:j∈fs.map (·.i)
    ·obtain⟨x,hx,rfl⟩:=List.mem_map.1 hin;exact(hx2 x hx).2.2 oj hj
    ·exact Region.free_spec hi h1 j oj hj hji (by rw[<-zcd (hR.main j hin)];exact hun) hno
   ·intro j oj hj htj hun;have hjF:j ∉ fs.map (·.i):=λhin=>by
     obtain⟨x,hx,rfl⟩:=List.mem_map.1 hin;obtain⟨_,_,_,_,ht,_⟩:=hok.fl x hx;rw[ht] at htj;cases htj
    have h6:=List.all_eq_true.1 h4 j (by simpa using htj);rw[zcd (hR.main j hjF)] at hun;rw[hj] at h6;simp only[hun,Bool.false_or] at h6;obtain⟨e,he,hb⟩:=Array.any_eq_true'.1 h6;simp only[Bool.and_eq_true] at hb;exact⟨e,he,hb.1,znB hR _ _ hb.2⟩
  | (i,2)::rest,hm,hpl,htp,h,hal=>
   obtain⟨o,v,hi,hy,h⟩:=h;simp only[zcu,hi,Bool.and_eq_true,Bool.not_eq_true'] at hpl;obtain⟨⟨⟨⟨⟨⟨h1,h2⟩,h3⟩,h3'⟩,h4⟩,haw⟩,h5⟩:=hpl;have hiF:i ∉ fs.map (·.i):=by simpa using h3'
   have hA:=zip haw;have hx2:∀ x∈fs,x.t ∉ o.looksAt ops∧o.dst≠some x.t∧∀ ox,ops[x.i]? = some ox->o.apart ops ox=true:=λx hx=>by
    obtain⟨ox,g1,_,g3,_⟩:=hok.fl x hx;obtain⟨t,e1,e2,e3,_,e5⟩:=hA.2 x.i (List.mem_map.2 ⟨x,hx,rfl⟩) ox g1;rw[g3] at e1;obtain rfl:=Option.some.inj e1;exact⟨e2,e3,λox' h'=>by rw[g1] at h';obtain rfl:=Option.some.inj h';exact e5⟩
   have key:=ih rest fs bs (listed.setIfInBounds i true) (lF.setIfInBounds i true) β (a.put o.dst v) E w (by simp only[List.length_cons] at hm;omega) (hR.step hiF) (hok.step hsel haw zco) h5 htp hX hst hE hbl hinj hbs hβ' h;rw[zgv λx hx=>(hx2 x hx).2.1] at key;rw[show zbt ((i,2)::rest)+nx fs β+tp.length=(zbt rest+nx fs β+tp.length)+1 by rw[zga (by decide)];omega];refine zmA hi (Region.noSelect_spec hsel) h4 (λc a w=>hQ c a _ _ w) _ _ _ _ ?_ (hfrom i o hi hiF hA.1 (by simpa using h2)) (zfR (Region.noSelect_spec hsel i o · · hi) hy λx hx=>(hx2 x hx).1) key;intro j oj hj hji hun hno;by_cases hin:j∈fs.map (·.i)
   ·obtain⟨x,hx,rfl⟩:=List.mem_map.1 hin;exact(hx2 x hx).2.2 oj hj
   ·exact Region.free_spec hi h1 j oj hj hji (by rw[<-zcd (hR.main j hin)];exact hun) hno
  | (i,3)::rest,hm,hpl,htp,h,hal=>
   obtain⟨x,fs',hfs,h9⟩:=h;subst hfs;simp only[zcu,List.map_cons,List.head?_cons,List.tail_cons,Bool.and_eq_true,beq_iff_eq,Option.some.injEq,List.all_eq_true] at hpl;obtain⟨⟨h1,h2⟩,h3⟩:=hpl;cases hb:β x.i with
   | some b=>
    obtain⟨g1,g2,g3⟩:=hbl x (by simp) b hb;obtain⟨E',hst',hE',hk⟩:=h9 b g2 g3 hst;have hn:=hok.n1;have hn2:=hok.n2;simp only[List.map_cons,List.nodup_cons,List.mem_map,not_exists,not_and] at hn hn2;have hlt:b<w.heap.size:=by
     rcases Nat.lt_or_ge b w.heap.size with hl | hl
     ·exact hl
     ·rw[Array.getElem?_eq_none hl] at g1;cases g1
    have hok':FgOk P ops tl fs' lF (a.put (some x.t) (x.yv b)):=by
     refine⟨λy hy=>?_,hn.2,hn2.2⟩;obtain⟨oy,k1,k2,k3,k4,k5,k6,k7⟩:=hok.fl y (by simp[hy]);refine⟨oy,k1,(wanted_put oy _ _ _ (λe he=>by obtain rfl:=Option.some.inj he;exact k6 x (by simp))).trans k2,k3,k4,λe he hb'=>⟨(k5 e he hb').1,λhin=>(k5 e he hb').2 (by simp only[List.map_cons,List.mem_cons];exact .inr hin)⟩,λz hz=>k6 z (by simp[hz]),λw=>?_⟩;rw[execOp_put oy (λcs b=>Region.noSelect_spec hsel y.i oy cs b k1) _ _ _ (λe he=>by obtain rfl:=Option.some.inj he;exact k6 x (by simp))];exact k7 w
    have key:=ih rest fs' (b::bs) listed lF β (a.put (some x.t) (x.yv b)) E' w (by
      have:nx fs' β<=nx (x::fs') β:=by unfold nx;rw[List.countP_cons];omega
      simp only[List.length_cons] at hm;omega) (hR.wait (by rw[hb];rfl)) hok' h3 htp hX hst' (hE' w hX hE g1)
     (λy hy b' hyb=>by
      obtain⟨k1,k2,k3⟩:=hbl y (by simp[hy]) b' hyb
      refine⟨k1,k2,λhin=>?_⟩
      rcases List.mem_cons.1 hin with rfl | hin
      ·exact hn.1 y hy (hinj y (by simp[hy]) x (by simp) _ hyb hb)
      ·exact k3 hin)
     (λy hy z hz b' hyb hzb=>hinj y (by simp[hy]) z (by simp[hz]) b' hyb hzb)
     (λb' hb'=>by
      rcases List.mem_cons.1 hb' with rfl | hb'
      ·exact hlt
      ·exact hbs b' hb') hβ hk
    rw[zgv λy hy e=>hn2.1 y hy (Option.some.inj e).symm] at key;rw[show zbt ((i,3)::rest)+nx (x::fs') β+tp.length=zbt rest+nx fs' β+tp.length by rw[ztc];unfold nx;rw[List.countP_cons,hb];rfl];unfold zbJ;rw[hb];exact key
   | none=>
    have hnp:1<=nx (x::fs') β:=by unfold nx;rw[List.countP_cons,hb];simp
    obtain⟨f,hf⟩:∃ f,zbt ((i,3)::rest)+nx (x::fs') β+tp.length=f+1:=⟨zbt ((i,3)::rest)+nx (x::fs') β+tp.length-1,by omega⟩;rw[hf];refine⟨λh0=>(by have:=hfr x (by simp) hb;rw[h0] at this;cases this),λj hj=>?_⟩;by_cases hin:j∈(x::fs').map (·.i)
    ·obtain⟨y,hy,rfl⟩:=List.mem_map.1 hin;exact hal y hy (hfl y hy hj) f hf
    ·exfalso
     have h4:=h2 j (hto j hin hj);obtain⟨_,oj,hoj,ha⟩:=mem_ready.1 hj;rw[hoj] at h4;obtain⟨e,he,hb'⟩:=Array.any_eq_true'.1 h4;simp only[Bool.and_eq_true,beq_iff_eq] at hb';have h5:=ha e he hb'.1;rw[hb'.2,<-h1,zf9 (hR.done x (by simp)).1,hb] at h5;cases h5
  | (i,4)::rest,hm,hpl,htp,h,hal=>
   obtain⟨x,o,rfl,hi,hd,hwa,hrun,h⟩:=h;simp only[zcu,hi,Bool.and_eq_true,Bool.not_eq_true',beq_iff_eq,Array.all_eq_true_iff_forall_mem] at hpl;obtain⟨⟨⟨⟨h1,h2⟩,h3⟩,⟨h5,hself⟩,haw⟩,h6⟩:=hpl;rw[hd] at hself;have hself':x.t ∉ o.looksAt ops:=by simpa using hself
   have hiF:x.i ∉ fs.map (·.i):=by simpa using h3
   have hA:=zip haw;have hbn:β x.i=none:=by
    cases hb:β x.i with
    | none=>rfl
    | some b=>have:=hβ x.i ⟨b,hb⟩;rw[h1] at this;cases this
   have hx2:∀ y∈fs,y.t ∉ o.looksAt ops∧y.t≠x.t∧∀ oy,ops[y.i]? = some oy->x.t ∉ oy.looksAt ops:=λy hy=>by
    obtain⟨oy,g1,_,g3,_⟩:=hok.fl y hy;obtain⟨t,e1,e2,e3,e4,_⟩:=hA.2 y.i (List.mem_map.2 ⟨y,hy,rfl⟩) oy g1;rw[g3] at e1;obtain rfl:=Option.some.inj e1;exact⟨e2,λe=>e3 (by rw[hd,e]),λoy' h'=>by rw[g1] at h';obtain rfl:=Option.some.inj h';exact e4 _ hd⟩
   have hnx:nx (x::fs) β=nx fs β+1:=by unfold nx;rw[List.countP_cons,hbn];simp
   have hokL:FgOk P ops tl (x::fs) (lF.setIfInBounds x.i true) a:=by
    have hup:∀ k:Nat,lF[k]? = some true->(lF.setIfInBounds x.i true)[k]? = some true:=λk hk=>by
     have hne:x.i≠k:=λe=>by rw[e,hk] at h1;cases h1
     rw[Array.getElem?_setIfInBounds_ne hne];exact hk
    have hno:∀ k:Nat,lF[k]? = some true->k ∉ fs.map (·.i)->k ∉ (x::fs).map (·.i):=λk hk hn hin=>by
     simp only[List.map_cons,List.mem_cons] at hin;rcases hin with rfl | hin
     ·rw[hk] at h1;cases h1
     ·exact hn hin
    refine⟨λy hy=>?_,?_,?_⟩
    ·rcases List.mem_cons.1 hy with rfl | hy
     ·refine⟨o,hi,hwa,hd,h2,λe he hb=>?_,λz hz=>?_,hrun⟩
      ·have h7:=h5 e he;rw[hb] at h7;simp only[Bool.not_true,Bool.false_or] at h7;have h8:lF[e.on]? = some true:=by
        cases hg:lF[e.on]? with
        | none=>simp[hg] at h7
        | some c=>simp[hg] at h7;rw[h7]
       exact⟨hup _ h8,hno _ h8 (hA.1 e he hb)⟩
      ·rcases List.mem_cons.1 hz with rfl | hz
       ·exact hself'
       ·exact(hx2 z hz).1
     ·rename_i hy9;have hy8:y∈fs:=by assumption
      obtain⟨oy,k1,k2,k3,k4,k5,k6,k7⟩:=hok.fl y hy8;have hy7:=(hx2 y hy8).2.2 oy k1;refine⟨oy,k1,k2,k3,k4,λe he hb=>⟨hup _ (k5 e he hb).1,hno _ (k5 e he hb).1 (k5 e he hb).2⟩,λz hz=>?_,k7⟩;rcases List.mem_cons.1 hz with rfl | hz
      ·exact hy7
      ·exact k6 z hz
    ·simp only[List.map_cons,List.nodup_cons];exact⟨hiF,hok.n1⟩
    ·simp only[List.map_cons,List.nodup_cons,List.mem_map,not_exists,not_and];exact⟨λy hy e=>(hx2 y hy).2.1 e,hok.n2⟩
   have key:=ih rest (x::fs) bs listed (lF.setIfInBounds x.i true) β a E w (by simp only[List.length_cons] at hm;omega) (hR.launch hiF h1 hbn) hokL h6 htp hX hst hE
    (λy hy b hyb=>by
     rcases List.mem_cons.1 hy with rfl | hy
     ·rw[hbn] at hyb;cases hyb
     ·exact hbl y hy b hyb)
    (λy hy z hz b hyb hzb=>by
     rcases List.mem_cons.1 hy with rfl | hy
     ·rw[hbn] at hyb;cases hyb
     ·rcases List.mem_cons.1 hz with rfl | hz
      ·rw[hbn] at hzb;cases hzb
      ·exact hinj y hy z hz b hyb hzb) hbs hβ' h
   rw[show zbt ((x.i,4)::rest)+nx fs β+tp.length=zbt rest+nx (x::fs) β+tp.length by rw[hnx,zga (by decide)];omega];unfold zbJ at key;rw[hbn] at key;exact key
  | (i,5)::rest,hm,hpl,htp,h,hal=>
   simp only[zcu,Bool.and_eq_true,Bool.not_eq_true',beq_iff_eq] at hpl;obtain⟨⟨⟨⟨⟨h0,h1⟩,h2⟩,h4⟩,haw⟩,h5⟩:=hpl;obtain rfl:fs=[]:=by simpa using h0
   have hiF:i ∉ ([]:List FX).map (·.i):=by simp
   have hir:i∈Region.ready .any ops lF:=by rw[h1];simp
   obtain⟨_,o,hi,_⟩:=mem_ready.1 hir;rw[hi] at haw;have hA:=zip haw;obtain⟨f,hf⟩:∃ f,zbt rest+nx [] β+tp.length=f:=⟨_,rfl⟩;have hf1:∀ k,k≠3->zbt ((i,k)::rest)+nx [] β+tp.length=f+1:=λk hk=>by rw[<-hf,zga hk];omega
   rw[hf1 _ (by omega)];refine⟨λh0=>(by have:=hfrom i o hi hiF hA.1 hir;rw[h0] at this;cases this),λj hj=>?_⟩;have hjr:=hto j (by simp) hj;rw[h1] at hjr;obtain rfl:j=i:=by simpa using hjr
   refine wpOp_mono ?_ (zhc (β:=β) hi (Region.noSelect_spec hsel j o · · hi) hQ' (zkj hi (h w hX hE)) (fs:=[]) (λx hx=>by cases hx));rintro a' w' ⟨a'',rfl,hsm,hXw,hsz,E',hst',hE',hk⟩;have key:=ih rest [] bs (listed.setIfInBounds j true) (lF.setIfInBounds j true) β _ E' w' (by simp only[List.length_cons] at hm;omega) (hR.step hiF) (hok.step hsel haw hsm) h5 htp hXw hst' hE' (λx hx=>by cases hx) (λx hx=>by cases hx) (λb hb=>by have:=hbs b hb;omega) hβ' hk;rw[hf] at key;exact⟨λ_ _=>hXw,key⟩
  | (i,1)::rest,hm,hpl,htp,h,hal | (i,k+6)::rest,hm,hpl,htp,h,hal=>
   simp only[zcu,Bool.and_eq_true,Bool.not_eq_true',beq_iff_eq] at hpl;obtain⟨⟨⟨⟨⟨h1,h2⟩,h3⟩,h4⟩,haw⟩,h5⟩:=hpl;have hiF:i ∉ fs.map (·.i):=by simpa using h3
   have hir:i∈Region.ready .any ops lF:=by rw[h1];simp
   obtain⟨_,o,hi,_⟩:=mem_ready.1 hir;rw[hi] at haw;have hA:=zip haw;have hx2:∀ x∈fs,x.t ∉ o.looksAt ops∧o.dst≠some x.t:=λx hx=>by
    obtain⟨ox,g1,_,g3,_⟩:=hok.fl x hx;obtain⟨t,e1,e2,e3,_,e5⟩:=hA.2 x.i (List.mem_map.2 ⟨x,hx,rfl⟩) ox g1;rw[g3] at e1;obtain rfl:=Option.some.inj e1;exact⟨e2,e3⟩
   obtain⟨f,hf⟩:∃ f,zbt rest+nx fs β+tp.length=f:=⟨_,rfl⟩;have hf1:∀ k,k≠3->zbt ((i,k)::rest)+nx fs β+tp.length=f+1:=λk hk=>by rw[<-hf,zga hk];omega
   rw[hf1 _ (by omega)];refine⟨λh0=>(by have:=hfrom i o hi hiF hA.1 hir;rw[h0] at this;cases this),λj hj=>?_⟩;by_cases hin:j∈fs.map (·.i)
   ·obtain⟨x,hx,rfl⟩:=List.mem_map.1 hin;exact hal x hx (hfl x hx hj) f (hf1 _ (by omega))
   ·have hjr:=hto j hin hj;rw[h1] at hjr;obtain rfl:j=i:=by simpa using hjr
    refine wpOp_mono ?_ (zhc (β:=β) hi (Region.noSelect_spec hsel j o · · hi) hQ' (zkj hi (h w hX hE)) (fs:=fs) hx2);rintro a' w' ⟨a'',rfl,hsm,hXw,E',hst',hE',hk⟩;have key:=ih rest fs bs (listed.setIfInBounds j true) (lF.setIfInBounds j true) β a'' E' w' (by simp only[List.length_cons] at hm;omega) (hR.step hiF) (hok.step hsel haw hsm) h5 htp (hX.trans hXw) hst' hE' ?_ hinj (λb hb=>by have:=hbs b hb;have:=hXw.size;omega) hβ' hk
    ·rw[hf] at key;exact⟨λ_ _=>hX.trans hXw,key⟩
    ·intro y hy b hyb;obtain⟨g1,g2,g3⟩:=hbl y hy b hyb;have hlt:b<w.heap.size:=by
      rcases Nat.lt_or_ge b w.heap.size with hl | hl
      ·exact hl
      ·rw[Array.getElem?_eq_none hl] at g1;cases g1
     exact⟨by rw[hXw.block hlt];exact g1,g2,g3⟩
theorem zby {id:Nat} {a:Act} {w:World} (pl:List (Nat×Nat)) (tp tl pu:List Nat) (hm:P.follows .mixedOrders=true) (hsel:Region.noSelect ops=true)
  (hok:(zcu ops tl pu (Array.replicate ops.size false) [] pl&&zf8 ops tl (zsw (Array.replicate ops.size false) pl) tp&&zbt pl+tp.length==ops.size)=true)
  (hQ:∀ c a d v w,Q (.panic c) (a.put d v) w->Q (.panic c) a w) (hQ':∀ c a d v w,Q (.panic c) a w->Q (.panic c) (a.put d v) w)
  (h:zcp P ops Q w.drew tp pl [] [] a (λ_=>True)):(Code.region id ops true).wp P Q a w:=by
 simp only[Bool.and_eq_true,beq_iff_eq] at hok;obtain⟨⟨h2,h3⟩,h4⟩:=hok;refine wp_region_any hm (ziU (S:=Ext w.drew) (tl:=tl) (pu:=pu) _ _ _ _ ?_);have key:=zoh (P:=P) (Q:=Q) (W0:=w.drew) (tp:=tp) (pu:=pu) (tl:=tl) hsel hQ hQ' (2*pl.length) pl [] [] (Array.replicate ops.size false) _ (λ_=>none) a (λ_=>True) w.drew (by simp[nx]) ⟨rfl,λ_ _=>rfl,λx hx=>(by cases hx)⟩
  ⟨λx hx=>(by cases hx),by simp,by simp⟩ h2 h3 (Ext.refl _) (λ_ _ _ _=>trivial) trivial (λx hx=>by cases hx) (λx hx=>by cases hx) (λb hb=>by cases hb) (λj ⟨b,hb⟩=>by cases hb) h
 rw[show zbt pl+nx [] (λ_=>none)+tp.length=ops.size by rw[<-h4];simp[nx]] at key;exact key
variable {W0:World} {fs:List FX} {bs tp:List Nat} {a:Act} {E:World->Prop} {i:Nat} {rest:List (Nat×Nat)} {o:Oper}
theorem zpG {v:Value} (hi:ops.toList[i]? = some o) (hw:Region.wanted o (yielded ops a.tmps)=true) (h:∀ w,Ext W0 w->(execOp a.eval o).run P w = .ok (.value v) w) (k:zcp P ops Q W0 tp rest fs bs (a.put o.dst v) E) :
  zcp P ops Q W0 tp ((i,0)::rest) fs bs a E:=⟨o,v,by simpa using hi,.inl ⟨hw,h⟩,k⟩
theorem rdG {v:Value} (hi:ops.toList[i]? = some o) (hw:Region.wanted o (yielded ops a.tmps)=true) (h:∀ os d,(execOp a.eval o).run P (more W0 os d) = .ok (.value v) (more W0 os d)) (k:zcp P ops Q W0 tp rest fs bs (a.put o.dst v) E) :
  zcp P ops Q W0 tp ((i,0)::rest) fs bs a E:=zpG hi hw (λw1 h1=>by obtain⟨os,d,rfl⟩:=h1.more;exact h os d) k
theorem zbK {v:Value} (hi:ops.toList[i]? = some o) (hw:Region.wanted o (yielded ops a.tmps)=true) (h:∀ w,(execOp a.eval o).run P w = .ok (.value v) w) (k:zcp P ops Q W0 tp rest fs bs (a.put o.dst v) E) :
  zcp P ops Q W0 tp ((i,2)::rest) fs bs a E:=⟨o,v,by simpa using hi,.inl ⟨hw,λw _=>h w⟩,k⟩
theorem zaX (hi:ops.toList[i]? = some o) (hw:Region.wanted o (yielded ops a.tmps)=true)
  (h:∀ w,Ext W0 w->E w->∀ K:Act->World->Prop,(∀ a' w' (E':World->Prop),Ext w w'->(∀ w1 w2,Ext w1 w2->E' w1->E' w2)->E' w'->zcp P ops Q W0 tp rest fs bs a' E'->K a' w')->o.wp P a w K Q) :
  zcp P ops Q W0 tp ((i,1)::rest) fs bs a E:=by
 have hi':ops[i]? = some o:=by simpa using hi
 intro w hX hE;unfold wpOp;simp only[hi',hw,if_true];exact .inl (h w hX hE _ λa' w' E' h1 h2 h3 h4=>⟨h1,E',h2,h3,h4⟩)
theorem zhd (h:∀ w,Ext W0 w->E w->zhb P ops Q tp a w):zcp P ops Q W0 tp [] fs bs a E:=by
 unfold zcp;exact h
theorem zbH {t:Nat} (ob:Obj) (mk:Nat->Value) (hi:ops.toList[i]? = some o) (hd:o.dst=some t) (hw:Region.wanted o (yielded ops a.tmps)=true) (h:∀ w,(execOp a.eval o).run P w = .ok (.value (mk w.heap.size)) (w.alloc ob)) (k:zcp P ops Q W0 tp rest (⟨i,t,ob,mk⟩::fs) bs a E) :
  zcp P ops Q W0 tp ((i,4)::rest) fs bs a E:=⟨⟨i,t,ob,mk⟩,o,rfl,by simpa using hi,hd,hw,h,k⟩
theorem zoi {W0 w:World} {b:Nat} {ob:Obj} (hX:Ext W0 w) (hb2:w.heap[b]? = some ob) (hb3:W0.heap.size<=b):∃ os1 d1 os2 d2,w=more ((more W0 os1 d1).alloc ob) os2 d2∧b=W0.heap.size+os1.size:=by
 obtain⟨os,d,rfl⟩:=hX.more;obtain⟨k,rfl⟩:∃ k,b=W0.heap.size+k:=⟨b-W0.heap.size,by omega⟩;have hk:os[k]? = some ob:=by
  have:(W0.heap++os)[W0.heap.size+k]? = some ob:=hb2;rw[Array.getElem?_append_right (by omega)] at this;simpa using this
 have hklt:k<os.size:=(Array.getElem?_eq_some_iff.1 hk).1;have hos:os=(os.extract 0 k).push ob++os.extract (k+1) os.size:=by
  apply Array.ext_getElem?
  intro j;have hs:(os.extract 0 k).size=k:=by simp;omega
  rcases Nat.lt_trichotomy j k with hj | rfl | hj
  ·rw[Array.getElem?_append_left (by simp;omega),Array.getElem?_push,if_neg (by omega),Array.getElem?_extract];simp
   omega
  ·rw[Array.getElem?_append_left (by simp;omega),Array.getElem?_push,if_pos (by omega)];exact hk
  ·rw[Array.getElem?_append_right (by simp;omega),Array.getElem?_extract];by_cases h2:j<os.size
   ·rw[if_pos (by simp;omega)];congr 1
    simp
    omega
   ·rw[if_neg (by simp;omega),Array.getElem?_eq_none (by omega)]
 refine⟨os.extract 0 k,d,os.extract (k+1) os.size,d,?_,by simp;omega⟩;simp only[more,World.alloc];congr 1
 conv=>lhs;rw[hos]
 simp
theorem zce {t:Nat} {ob:Obj} (h:∀ os1 d1 os2 d2,E (more ((more W0 os1 d1).alloc ob) os2 d2)->zhb P ops Q tp (a.put (some t) (.pointer (some ⟨W0.heap.size+os1.size,0,none⟩))) (more ((more W0 os1 d1).alloc ob) os2 d2)) :
  zcp P ops Q W0 tp [(i,3)] [⟨i,t,ob,zcH⟩] bs a E:=by
 refine⟨_,[],rfl,λb hb _ hst=>⟨λw=>E w∧w.heap[b]? = some ob,λw1 w2 hx h1=>⟨hst _ _ hx h1.1,?_⟩,λw _ hE h1=>⟨hE,h1⟩,?_⟩⟩
 ·have hlt:b<w1.heap.size:=(Array.getElem?_eq_some_iff.1 h1.2).1;rw[hx.block hlt];exact h1.2
 ·intro w hX hE;obtain⟨os1,d1,os2,d2,rfl,rfl⟩:=zoi hX hE.2 hb;exact h os1 d1 os2 d2 hE.1
end
end Go.Proofs.YtinjdacijiohiaaGreatDoor
namespace Go.Proofs.YtinjdacijiohiaaGreatDoor
open _root_.Go.Proofs.Tryz
open Go.RowKit NM
theorem z64:I64 0:=by unfold I64;omega
theorem ziX (k m ex f k' m' ex' f' t t' b b' w y) (hy:zbO ⟨k,m,ex,t,b,f⟩ ⟨k',m',ex',t',b',f'⟩=y) :
  Tl prog 231 #[VV k m ex t b f,VV k' m' ex' t' b' f'] w (VV y.kind y.mant y.exp y.text y.truth y.fault):=by
 by_cases h0:k=0
 ·have q0:(k != 0)=false:=by simp[h0]
  by_cases h1:k'=1∨k'=2∨k'=3
  ·have e:y=Val.only k':=by rw[<-hy];simp[zbO,h0,h1]
   subst e;clear hy;rcases h1 with rfl | rfl | rfl
   ·go_enter func231,ntmps231;go_wp2_with fail;exact rc1 (v:=VV 1 0 0 ⟨#[]⟩ false 0) rfl rfl (by simp[go_sem]) ⟨rfl,by simp[go_sem]⟩
   ·go_enter func231,ntmps231;go_wp2_with fail;exact rc1 (v:=VV 2 0 0 ⟨#[]⟩ false 0) rfl rfl (by simp[go_sem]) ⟨rfl,by simp[go_sem]⟩
   ·go_enter func231,ntmps231;go_wp2_with fail;exact rc1 (v:=VV 3 0 0 ⟨#[]⟩ false 0) rfl rfl (by simp[go_sem]) ⟨rfl,by simp[go_sem]⟩
  ·have e:y=⟨k,m,ex,t,b,f⟩:=by rw[<-hy];simp[zbO,h0,h1]
   subst e;have q1:(k'==1)=false:=by simp;omega
   have q2:(k'==2)=false:=by simp;omega
   have q3:(k'==3)=false:=by simp;omega
   subst h0;clear hy h1;go_enter func231,ntmps231;go_wp2_with fail;exact rc1 rfl rfl (by simp[go_sem]) ⟨rfl,by simp[go_sem]⟩
 ·have e:y=⟨k,m,ex,t,b,f⟩:=by rw[<-hy];simp[zbO,h0]
  subst e;have q0:(k != 0)=true:=by simp[h0]
  clear hy;go_enter func231,ntmps231;go_wp2_with fail;exact rc1 rfl rfl (by simp[go_sem]) ⟨rfl,by simp[go_sem]⟩
theorem zjI (a b w) :
  Tl prog 233 #[.bool a,.bool b] w (.int .i64 (sgB a b)):=by
 cases a <;> cases b
 all_goals
  go_enter func233,ntmps233;go_wp2_with fail;go_ret;exact⟨rfl,Ext.refl _⟩
theorem zmB (a b w) :
  Tl prog 232 #[.string a,.string b] w (.int .i64 (Lib.compareBytes (tl a) (tl b))):=
 (Tryz.strings_Compare a b w).mono λe w' ⟨h1,h2⟩=>⟨h1,by rw[h2];exact Ext.refl _⟩
theorem zdI (a b w) (ha:a.ok) (hb:b.ok) :
  Tl prog 208 #[VV a.kind a.mant a.exp a.text a.truth a.fault,VV b.kind b.mant b.exp b.text b.truth b.fault] w (.int .i64 (zaB a b)):=by
 have hA:(zbO a b).ok:=by
  unfold zbO;split
  ·exact ha
  ·split
   ·exact⟨hb.1,z64,z64,Nat.zero_le _,z64⟩
   ·exact ha
 have hB:(zbO b a).ok:=by
  unfold zbO;split
  ·exact hb
  ·split
   ·exact⟨ha.1,z64,z64,Nat.zero_le _,z64⟩
   ·exact hb
 have h1:=λW=>ziX a.kind a.mant a.exp a.fault b.kind b.mant b.exp b.fault a.text b.text a.truth b.truth W (zbO a b) rfl;have h2:=λW=>ziX b.kind b.mant b.exp b.fault a.kind a.mant a.exp a.fault b.text a.text b.truth a.truth W (zbO b a) rfl;obtain⟨Z,hZ⟩:∃ Z,zaB a b=Z:=⟨_,rfl⟩;rw[hZ];unfold zaB at hZ;generalize zbO a b=A at *;generalize zbO b a=B at *;obtain⟨k,m,ex,t,u,f⟩:=A;obtain⟨k',m',ex',t',u',f'⟩:=B;obtain⟨_,hm,_,ht,_⟩:=hA;obtain⟨_,hm',_,ht',_⟩:=hB;unfold zjy at hZ;simp only at h1 h2 hm ht hm' ht' hZ;have HZ:=Lib.hid hZ;clear ha hb hZ;go_enter func208,ntmps208;go_upto_region 1 with fail;refine zby [(0,0),(1,0),(3,0),(4,0),(2,1),(5,1)] [6,7] [6,7] [] (by kernel_rfl) (by kernel_rfl) (by kernel_rfl) (λ_ _ d _ _ h=>by cases d <;> exact h) (λ_ _ d _ _ h=>by cases d <;> exact h) ?_;iterate 4(apply rdG rfl rfl;(intros;go_simp;first | done | rfl);try simp only[zq])
 (refine zaX rfl ?_ (λwf hXf hE K hK=>?_);rfl;obtain⟨osf,df,rfl⟩:=hXf.more;go_simp;refine(h1 _).mono ?_;rintro e w' ⟨rfl,hb⟩;refine hK _ _ (λ_=>True) (by(try simp only[zh,zc]);exact hb) (λ_ _ _ _=>trivial) trivial ?_)
 try simp only[zq]
 (refine zaX rfl ?_ (λwf hXf hE K hK=>?_);rfl;obtain⟨osf,df,rfl⟩:=hXf.more;go_simp;refine(h2 _).mono ?_;rintro e w' ⟨rfl,hb⟩;refine hK _ _ (λ_=>True) (by(try simp only[zh,zc]);exact hb) (λ_ _ _ _=>trivial) trivial ?_)
 try simp only[zq]
 (refine zhd λwz hXz hE=>?_;obtain⟨osa,da,rfl⟩:=hXz.more)
 try simp only[zq]
 (refine zaz rfl ?_ (λK hK=>?_);rfl;go_simp;refine hK _ _ ?_)
 try simp only[zq]
 (refine zaz rfl ?_ (λK hK=>?_);rfl;go_simp;refine hK _ _ ?_)
 try simp only[zq]
 refine zbS ?_;have hz:=HZ.out;clear HZ hE h1 h2;by_cases hk:k=k'
 ·subst hk;rw[if_neg (show ¬ (k≠k) from λh=>h rfl)] at hz;have q0:(k != k)=false:=by simp
  by_cases k2:k=2
  ·subst k2;rw[if_neg (by decide),if_pos rfl] at hz;go_upto_region 10 with fail;refine plP [(0,0),(1,0),(3,0),(4,0),(2,1),(5,1),(6,1),(7,0)] [] (by kernel_rfl) (λ_ _ d _ _ h=>by cases d <;> exact h) ?_;iterate 4(apply rdP rfl rfl;(intros;go_simp;first | done | rfl);try simp only[zq])
   (refine zg rfl ?_ (λK hK=>?_);rfl;go_simp;refine aM (zgt _ _ (by assumption)) λos5 d5=>?_;refine hK _ _ ?_ ?_;(simp[go_sem]))
   try simp only[zq]
   (refine zg rfl ?_ (λK hK=>?_);rfl;go_simp;refine aM (zgt _ _ (by assumption)) λos6 d6=>?_;refine hK _ _ ?_ ?_;(simp[go_sem]))
   try simp only[zq]
   (refine zg rfl ?_ (λK hK=>?_);rfl;go_simp;refine aM (zmB _ _ _) λos7 d7=>?_;refine hK _ _ ?_ ?_;(simp[go_sem]))
   try simp only[zq]
   (apply rdP rfl rfl;(intros;go_simp;first | done | rfl))
   try simp only[zq]
   refine zi ?_
   (subst hz;go_wp2_with fail;go_ret;exact⟨rfl,by simp[go_sem]⟩)
  by_cases k1:k=1
  ·subst k1;rw[if_pos rfl] at hz;go_wp2_with (go_at_call 44;refine aM (ze0 _ _ _ _ _ (by assumption) (by assumption)) λos5 d5=>?_)
   (subst hz;go_wp2_with fail;go_ret;exact⟨rfl,by simp[go_sem]⟩)
  rw[if_neg k1,if_neg k2] at hz;by_cases k3:k=3
  ·subst k3;rw[if_pos rfl] at hz;go_wp2_with (go_at_call 233;refine aM (zjI _ _ _) λos5 d5=>?_)
   (subst hz;go_wp2_with fail;go_ret;exact⟨rfl,by simp[go_sem]⟩)
  rw[if_neg k3] at hz;by_cases k4:k=4
  ·subst k4;rw[if_pos rfl] at hz;unfold sgI at hz;by_cases hl:f<f'
   ·rw[if_pos hl] at hz
    (subst hz;go_wp2_with fail;go_ret;exact⟨rfl,by simp[go_sem]⟩)
   rw[if_neg hl] at hz;by_cases hg:f'<f
   ·rw[if_pos hg] at hz
    (subst hz;go_wp2_with fail;go_ret;exact⟨rfl,by simp[go_sem]⟩)
   rw[if_neg hg] at hz
   (subst hz;go_wp2_with fail;go_ret;exact⟨rfl,by simp[go_sem]⟩)
  rw[if_neg k4] at hz;have q1:(k==1)=false:=by simp[k1]
  have q2:(k==2)=false:=by simp[k2]
  have q3:(k==3)=false:=by simp[k3]
  have q4:(k==4)=false:=by simp[k4]
  clear k1 k2 k3 k4
  (subst hz;go_wp2_with fail;go_ret;exact⟨rfl,by simp[go_sem]⟩)
 ·rw[if_pos (show k≠k' from hk)] at hz;have q0:(k != k')=true:=by simpa using hk
  by_cases hl:k<k'
  ·rw[if_pos hl] at hz
   (subst hz;go_wp2_with fail;go_ret;exact⟨rfl,by simp[go_sem]⟩)
  rw[if_neg hl] at hz
  (subst hz;go_wp2_with fail;go_ret;exact⟨rfl,by simp[go_sem]⟩)
abbrev tnV (x:Val):Value:=.tuple #[NV (tnP x).1 (tnP x).2,.int .i64 (tnF x)]
abbrev ttV (x:Val):Value:=.tuple #[.string (ttS x),.int .i64 (ttF x)]
theorem zlE:tnV (Val.only 0) = .tuple #[NV 0 0,.int .i64 0]:=rfl
theorem zpH (m e):tnV ⟨1,m,e,⟨#[]⟩,false,0⟩ = .tuple #[NV m e,.int .i64 0]:=rfl
theorem znC:tnV (zW true) = .tuple #[NV 1 0,.int .i64 0]:=rfl
theorem zlF:tnV (zW false) = .tuple #[NV 0 0,.int .i64 0]:=rfl
theorem zpI (f):tnV (zz f) = .tuple #[NV 0 0,.int .i64 f]:=rfl
theorem ziY {t} (h:zbR t=none):tnV ⟨2,0,0,t,false,0⟩ = .tuple #[NV 0 0,.int .i64 2]:=by unfold tnV tnP tnF;simp[h]
theorem zhW {t} {p:Int×Int} (h:zbR t=some p):tnV ⟨2,0,0,t,false,0⟩ = .tuple #[NV p.1 p.2,.int .i64 0]:=by unfold tnV tnP tnF;simp[h]
theorem zt5 (t):(if 255<t.size then none else zlq (bl t))=zbR t:=by
 unfold zbR;by_cases h:255<t.size
 ·rw[if_pos h,if_pos h]
 ·rw[if_neg h,if_neg h,zj9 _ (by rw[zbI];omega)]
theorem zdg (x w) (hx:x.right) :
  Tl prog 111 #[VV x.kind x.mant x.exp x.text x.truth x.fault] w (tnV x):=by
 rcases hx.form with rfl | ⟨m,e,rfl,hr⟩ | ⟨t,rfl,ht⟩ | ⟨b,rfl⟩ | ⟨f,rfl,hf⟩
 ·rw[zlE];simp only[Val.only];go_enter func111,ntmps111;go_wp2_with fail;exact rct rfl rfl (by simp[go_sem]) ⟨rfl,by simp[go_sem]⟩
 ·rw[zpH];clear hx hr;simp only;go_enter func111,ntmps111;go_wp2_with fail;exact rct rfl rfl (by simp[go_sem]) ⟨rfl,by simp[go_sem]⟩
 ·have hp:=λW=>zkc t W (by omega);simp only;cases h:zbR t with
  | none=>
   rw[ziY h];rw[h] at hp;simp only[rnV,rm,re,Option.getD_none,Option.isSome_none] at hp;clear h hx;go_enter func111,ntmps111;go_wp2_with (go_at_call 174;with_reducible refine aM (hp _) λos d=>?_);exact rct rfl rfl (by simp[go_sem]) ⟨rfl,by simp[go_sem]⟩
  | some p=>
   rw[zhW h];rw[h] at hp;simp only[rnV,rm,re,Option.getD_some,Option.isSome_some] at hp;clear h hx;go_enter func111,ntmps111;go_wp2_with (go_at_call 174;with_reducible refine aM (hp _) λos d=>?_);exact rct rfl rfl (by simp[go_sem]) ⟨rfl,by simp[go_sem]⟩
 ·cases b
  ·rw[zlF];simp only[zW];clear hx;go_enter func111,ntmps111;go_wp2_with fail;exact rct rfl rfl (by simp[go_sem]) ⟨rfl,by simp[go_sem]⟩
  ·rw[znC];simp only[zW];clear hx;go_enter func111,ntmps111;go_wp2_with fail;exact rct rfl rfl (by simp[go_sem]) ⟨rfl,by simp[go_sem]⟩
 ·rw[zpI];simp only[zz];clear hx hf;go_enter func111,ntmps111;go_upto_region 13 with fail;go_region
  all_goals
   go_wp2_with fail;exact rct rfl rfl (by simp[go_sem]) ⟨rfl,by simp[go_sem]⟩
theorem zaS (x w) (hx:x.right) :
  Tl prog 64 #[VV x.kind x.mant x.exp x.text x.truth x.fault] w (tnV x):=by
 rcases hx.form with rfl | ⟨m,e,rfl,hr⟩ | ⟨t,rfl,ht⟩ | ⟨b,rfl⟩ | ⟨f,rfl,hf⟩
 ·rw[zlE];simp only[Val.only];go_enter func64,ntmps64;go_wp2_with fail;exact rct rfl rfl (by simp[go_sem]) ⟨rfl,by simp[go_sem]⟩
 ·rw[zpH];clear hx hr;simp only;go_enter func64,ntmps64;go_wp2_with fail;exact rct rfl rfl (by simp[go_sem]) ⟨rfl,by simp[go_sem]⟩
 ·have hp:=λW=>ziO t W (by omega);rw[zt5] at hp;simp only;cases h:zbR t with
  | none=>
   rw[ziY h];rw[h] at hp;simp only[rnV,rm,re,Option.getD_none,Option.isSome_none] at hp;clear h hx;go_enter func64,ntmps64;go_wp2_with (go_at_call 136;with_reducible refine aM (hp _) λos d=>?_);exact rct rfl rfl (by simp[go_sem]) ⟨rfl,by simp[go_sem]⟩
  | some p=>
   rw[zhW h];rw[h] at hp;simp only[rnV,rm,re,Option.getD_some,Option.isSome_some] at hp;clear h hx;go_enter func64,ntmps64;go_wp2_with (go_at_call 136;with_reducible refine aM (hp _) λos d=>?_);exact rct rfl rfl (by simp[go_sem]) ⟨rfl,by simp[go_sem]⟩
 ·cases b
  ·rw[zlF];simp only[zW];clear hx;go_enter func64,ntmps64;go_wp2_with fail;exact rct rfl rfl (by simp[go_sem]) ⟨rfl,by simp[go_sem]⟩
  ·rw[znC];simp only[zW];clear hx;go_enter func64,ntmps64;go_wp2_with fail;exact rct rfl rfl (by simp[go_sem]) ⟨rfl,by simp[go_sem]⟩
 ·rw[zpI];simp only[zz];clear hx hf;go_enter func64,ntmps64;go_upto_region 2 with fail;go_region
  all_goals
   go_wp2_with fail;exact rct rfl rfl (by simp[go_sem]) ⟨rfl,by simp[go_sem]⟩
theorem zlG:ttV (Val.only 0) = .tuple #[.string ⟨#[]⟩,.int .i64 0]:=rfl
theorem zpJ (m e):ttV ⟨1,m,e,⟨#[]⟩,false,0⟩ = .tuple #[.string (zd4 m e),.int .i64 0]:=rfl
theorem znD (t):ttV ⟨2,0,0,t,false,0⟩ = .tuple #[.string t,.int .i64 0]:=rfl
theorem znE:ttV (zW true) = .tuple #[.string zsv,.int .i64 0]:=rfl
theorem zlH:ttV (zW false) = .tuple #[.string zpy,.int .i64 0]:=rfl
theorem zpK (f):ttV (zz f) = .tuple #[.string ⟨#[]⟩,.int .i64 f]:=rfl
theorem ziZ (x w) (htab:Tab w) (hx:x.right) :
  Tl prog 240 #[VV x.kind x.mant x.exp x.text x.truth x.fault] w (ttV x):=by
 rcases hx.form with rfl | ⟨m,e,rfl,hr⟩ | ⟨t,rfl,ht⟩ | ⟨b,rfl⟩ | ⟨f,rfl,hf⟩
 ·rw[zlG];simp only[Val.only];go_enter func240,ntmps240;go_wp2_with fail;exact rt2 rfl rfl ⟨rfl,by simp[go_sem]⟩
 ·rw[zpJ];have hm:=(zR hr).1;have htx:=λW hW=>zpf m e W hW hm;have HT:=Lib.hid htab;clear htab;clear hx hr;simp only;generalize zd4 m e=T at *;go_enter func240,ntmps240;go_wp2_with (go_at_call 249;with_reducible refine aM (htx _ (HT.out.ext (by simp[go_sem]))) λos d=>?_);exact rt2 rfl rfl ⟨rfl,by simp[go_sem]⟩
 ·rw[znD];simp only;clear hx;go_enter func240,ntmps240;go_wp2_with fail;exact rt2 rfl rfl ⟨rfl,by simp[go_sem]⟩
 ·cases b
  ·rw[zlH];simp only[zW];clear hx;go_enter func240,ntmps240;go_wp2_with fail;exact rt2 rfl rfl ⟨rfl,by simp[go_sem]⟩
  ·rw[znE];simp only[zW];clear hx;go_enter func240,ntmps240;go_wp2_with fail;exact rt2 rfl rfl ⟨rfl,by simp[go_sem]⟩
 ·rw[zpK];simp only[zz];clear hx hf;go_enter func240,ntmps240;go_upto_region 11 with fail;go_region
  all_goals
   go_wp2_with fail;exact rt2 rfl rfl ⟨rfl,by simp[go_sem]⟩
theorem zhX (x w) (hx:x.right) :
  Tl prog 127 #[VV x.kind x.mant x.exp x.text x.truth x.fault] w (ttV x):=by
 rcases hx.form with rfl | ⟨m,e,rfl,hr⟩ | ⟨t,rfl,ht⟩ | ⟨b,rfl⟩ | ⟨f,rfl,hf⟩
 ·rw[zlG];simp only[Val.only];go_enter func127,ntmps127;go_wp2_with fail;exact rt2 rfl rfl ⟨rfl,by simp[go_sem]⟩
 ·rw[zpJ];have hm:=(zR hr).1;have htx:=λW=>zpr m e W hm;clear hx hr;simp only;generalize zd4 m e=T at *;go_enter func127,ntmps127;go_wp2_with (go_at_call 184;with_reducible refine aM (htx _) λos d=>?_);exact rt2 rfl rfl ⟨rfl,by simp[go_sem]⟩
 ·rw[znD];simp only;clear hx;go_enter func127,ntmps127;go_wp2_with fail;exact rt2 rfl rfl ⟨rfl,by simp[go_sem]⟩
 ·cases b
  ·rw[zlH];simp only[zW];clear hx;go_enter func127,ntmps127;go_wp2_with fail;exact rt2 rfl rfl ⟨rfl,by simp[go_sem]⟩
  ·rw[znE];simp only[zW];clear hx;go_enter func127,ntmps127;go_wp2_with fail;exact rt2 rfl rfl ⟨rfl,by simp[go_sem]⟩
 ·rw[zpK];simp only[zz];clear hx hf;go_enter func127,ntmps127;go_upto_region 2 with fail;go_region
  all_goals
   go_wp2_with fail;exact rt2 rfl rfl ⟨rfl,by simp[go_sem]⟩
theorem zea {m e} (h:Rt m e):rndI m e=some (m,e):=rnd_of_right false h
theorem zi0 (x e i):rndI (x*(T i:Nat)) (e-i)=rndI x e:=by
 unfold rndI;have h0:=T_pos i;have h1:decide (x*((T i:Nat):Int)<0)=decide (x<0):=by
  by_cases hx:x<0
  ·rw[decide_eq_true hx,decide_eq_true (Int.mul_neg_of_neg_of_pos hx (by omega))]
  ·rw[decide_eq_false hx,decide_eq_false (Int.not_lt.2 (Int.mul_nonneg (by omega) (by omega)))]
 rw[h1,Int.natAbs_mul,Int.natAbs_natCast,rnd_scale]
theorem zgb (x) {e} (he:-100<=e):rndI (x*(T (e+100).toNat:Nat)) (-100)=rndI x e:=by
 have:=zi0 x e (e+100).toNat;rw[show e-((e+100).toNat:Int)=-100 by omega] at this;exact this
theorem zhH {m e} (h:Rt m e):-40<=e:=by
 rcases h with⟨_,h⟩ | ⟨_,_,_,h,_⟩ <;> omega
theorem zjJ {m e m' e'} (h:Rt m e) (h':Rt m' e') (hs:sc m e=sc m' e'):m=m'∧e=e':=by
 have h1:=zgb m (show -100<=e by have:=zhH h;omega);have h2:=zgb m' (show -100<=e' by have:=zhH h';omega);unfold sc at hs;rw[hs,h2,zea h,zea h'] at h1;simp only[Option.some.injEq,Prod.mk.injEq] at h1;exact⟨h1.1.symm,h1.2.symm⟩
theorem zvZ {ma ea mb eb} (h1:Rt ma ea) (h2:Rt mb eb):addS ma ea mb eb=rndI (sc ma ea+sc mb eb) (-100):=by
 have e1:=zhH h1;have e2:=zhH h2;unfold addS;rw[if_pos ⟨h1,h2⟩,<-zlo (by omega) (by omega),zgb _ (by omega)]
theorem zvm {ma ea mb eb} (h1:Rt ma ea) (h2:Rt mb eb):subS ma ea mb eb=rndI (sc ma ea-sc mb eb) (-100):=by
 have e1:=zhH h1;have e2:=zhH h2;unfold subS;rw[if_pos ⟨h1,h2⟩];have:=zlo (ma:=ma) (ea:=ea) (mb:=-mb) (eb:=eb) (by omega) (by omega);rw[zpp] at this;rw[Int.sub_eq_add_neg,<-this,zgb _ (by omega)]
theorem zt6 {x e} (hx:x.natAbs<T 15) (h1:-40<=e) (h2:e<=25):∃ m k,rndI x e=some (m,k)∧Rt m k∧sc m k=sc x e∧(m=0↔x=0)∧(x≠0->e<=k):=by
 have hn:nd x.natAbs<=15:=(nd_le_iff _ _).2 hx;have hz:nd x.natAbs-15=0:=by omega
 by_cases h0:x=0
 ·subst h0;refine⟨0,0,?_,zcY,?_,⟨λ_=>rfl,λ_=>rfl⟩,λh=>absurd rfl h⟩
  ·unfold rndI;exact rnd_nought _ _ _
  ·unfold sc;rw[Int.zero_mul,Int.zero_mul]
 ·have hN:x.natAbs≠0:=by omega
  have e1:n1 x.natAbs false=x.natAbs:=by unfold n1;rw[hz,cutN_zero]
  have e2':n2 x.natAbs false e=x.natAbs:=by
   unfold n2;rw[e1,hz,show(-40-(e+((0:Nat):Int))).toNat=0 by omega,cutN_zero]
  have e3:NM.e2 x.natAbs e=e:=by unfold NM.e2;rw[hz];omega
  have hr:rndI x e=some (sg (decide (x<0)) (trim x.natAbs e).1,(trim x.natAbs e).2):=by
   unfold rndI;rw[rnd_fin,e2',e3];unfold fin;rw[if_neg hN,if_neg (by omega)]
  obtain⟨k,g1,g2,g3⟩:=trim_spec x.natAbs e hN;have g4:(trim x.natAbs e).1≠0:=λh=>g3 (by rw[h]);refine⟨_,_,hr,?_,?_,⟨λh=>absurd (sg_zero.1 h) g4,λh=>absurd h h0⟩,λ_=>by rw[g2];omega⟩
  ·have:=hr;unfold rndI at this;exact rnd_right this
  ·have g5:=sc_trim (N:=x.natAbs) (e:=e) hN (by omega);unfold sc;rw[<-sg_mul_nat,g5,sg_mul_nat,sg_nat]
def zl (n:Int):Int×Int:=(rndI n 0).getD (0,0)
theorem zbu {n} (h:n.natAbs<T 15):rndI n 0=some (zl n)∧Rt (zl n).1 (zl n).2∧sc (zl n).1 (zl n).2=sc n 0∧((zl n).1=0↔n=0)∧0<=(zl n).2:=by
 obtain⟨m,k,h1,h2,h3,h4,h5⟩:=zt6 h (e:=0) (by omega) (by omega);have hw:zl n=(m,k):=by unfold zl;rw[h1];rfl
 rw[hw];refine⟨h1,h2,h3,h4,?_⟩;by_cases h0:n=0
 ·have hm:=h4.2 h0;rcases h2 with⟨_,hk⟩ | ⟨hm',_⟩
  ·show 0<=k;omega
  ·exact absurd hm hm'
 ·exact h5 h0
theorem zdU (n):sc n 0=n*(T 100:Nat):=rfl
theorem zpL (n):rndI (n*(T 100:Nat)) (-100)=rndI n 0:=zgb n (e:=0) (by omega)
theorem zpM {a b} (ha:a.natAbs<T 15) (hb:b.natAbs<T 15):subS (zl a).1 (zl a).2 (zl b).1 (zl b).2=rndI (a-b) 0:=by
 obtain⟨_,a1,a2,_⟩:=zbu ha;obtain⟨_,b1,b2,_⟩:=zbu hb;rw[zvm a1 b1,a2,b2,zdU,zdU,<-Int.sub_mul,zpL]
theorem zpN {m e} (h0:m≠0) (h1:m.natAbs<1000000000000000) (h2:m.natAbs%10≠0) (h3:-40<=e) (h4:e<=25):Rt m e:=by
 have hn:nd m.natAbs<=15:=(nd_le_iff _ _).2 (Nat.lt_of_lt_of_le h1 (by decide));exact Or.inr ⟨h0,Nat.lt_of_lt_of_le h1 (by decide),h2,h3,by omega⟩
end Go.Proofs.YtinjdacijiohiaaGreatDoor
namespace Go.Proofs.YtinjdacijiohiaaGreatDoor
open _root_.Go.Proofs.Tryz
open NM
theorem zt7 {neg N E} {r:Int×Int} (hN:N<=T 15) (hE:-40<=E) (h:fin neg N E=some r):Rt r.1 r.2:=by
 unfold fin at h;by_cases h0:N=0
 ·rw[if_pos h0] at h;cases h;exact Or.inl ⟨rfl,rfl⟩
 ·rw[if_neg h0] at h;by_cases h1:40<nd N+E
  ·rw[if_pos h1] at h;cases h
  ·rw[if_neg h1] at h;cases h
   exact(zj5 h0 hN hE).2 (by omega)
theorem zmC {m e p} (h:Rt m e):(p < -40∧z8 m e p=(0,0))∨(-40<=p∧(40<=p∨-p<=e)∧z8 m e p=(m,e))∨(-40<=p∧p<40∧e < -p∧z8 m e p=(fin (decide (m<0)) (zbm m.natAbs (-p-e).toNat) (-p)).getD (m,e)):=by
 unfold z8;by_cases h1:p < -40
 ·left;exact⟨h1,by rw[if_pos (Or.inr h1)]⟩
 ·right
  by_cases h2:40<=p∨-p<=e
  ·left;exact⟨by omega,h2,by rw[if_neg (by rintro(h4 | h4);exact h4 h;omega),if_pos h2]⟩
  ·right;exact⟨by omega,by omega,by omega,by rw[if_neg (by rintro(h4 | h4);exact h4 h;omega),if_neg h2]⟩
theorem ztd {m e k} (h : Rt m e) (hk : 0 < k) : zbm m.natAbs k ≤ T 15 := by
  obtain ⟨b1, _, _⟩ := zac h
  exact zlc (by have : T 15 = 1000000000000000 := (by decide); omega) hk
theorem zrI {m e p} (h:Rt m e):Rt (z8 m e p).1 (z8 m e p).2:=by
 rcases zmC (p:=p) h with⟨_,hr⟩ | ⟨_,_,hr⟩ | ⟨h1,h2,h3,hr⟩
 ·rw[hr];exact Or.inl ⟨rfl,rfl⟩
 ·rw[hr];exact h
 ·rw[hr];cases hf:fin (decide (m<0)) (zbm m.natAbs (-p-e).toNat) (-p) with
  | none=>exact h
  | some r=>exact zt7 (ztd h (by omega)) (by omega) hf
def MX:Nat:=T 140
def GU (U x:Nat):Nat:=(if U<=2*(x%U) then x/U+1 else x/U)*U
def HU (U x:Nat):Nat:=if GU U x<MX then GU U x else x
def HI (U:Nat) (x:Int):Int:=if x<0 then -(HU U x.natAbs:Int) else HU U x.natAbs
theorem zte {m e} : sc m e<0↔m<0:=by
 unfold sc;have hp:(0:Int)<((T (e+100).toNat:Nat):Int):=by have:=T_pos (e+100).toNat;omega
 constructor
 ·intro h;rcases Int.lt_or_le m 0 with h1 | h1
  ·exact h1
  ·have:=Int.mul_nonneg h1 (Int.le_of_lt hp);omega
 ·intro h;exact Int.mul_neg_of_neg_of_pos h hp
theorem zu1 (neg N e):sc (sg neg N) e=sg neg (N*T (e+100).toNat):=by unfold sc;rw[sg_mul_nat]
theorem zpO:sc 0 0=0:=Int.zero_mul _
theorem zpP (b):sg b 0=0:=by cases b <;> rfl
end Go.Proofs.YtinjdacijiohiaaGreatDoor
namespace Go.Proofs.YtinjdacijiohiaaGreatDoor
open _root_.Go.Proofs.Tryz
open Go.RowKit NM
theorem zkk {neg N} (h:nd N<=15):rnd neg N false 0=some (sg neg (trim N 0).1,(trim N 0).2):=by
 rw[zj7 h (by omega)];unfold fin;by_cases h0:N=0
 ·subst h0;rw[if_pos rfl,trim_zero];cases neg <;> rfl
 ·rw[if_neg h0,if_neg (by omega)]
theorem znF (a b):plusN true true a b=(true,a+b):=by simp[plusN]
theorem zoj (m ex) (k:Nat) (w) (h:Rt m ex) (he:ex<0) (hk:-ex=(k:Int)) :
  Tl prog 68 #[NV m ex] w (NV (rm (rnd (decide (m<0)) (zau m k) false 0)) (re (rnd (decide (m<0)) (zau m k) false 0))):=by
 obtain⟨b1,b2,b3⟩:=zac h;have hm:I64 m:=by unfold I64;omega
 have r1:=zD h;have hT15:T 15=1000000000000000:=by decide
 have hnd:nd m.natAbs<=15:=(nd_le_iff _ _).2 (by omega);have hof:=λW=>zdn m ex W hm;have hdl:=dig_length m.natAbs;have hdall:=dig_all m.natAbs;have hval:=take_val hdall (nd m.natAbs-k);rw[val_dig,hdl] at hval;by_cases hneg:m<0
 ·have hfl:zau m k=m.natAbs/T k+1:=by unfold zau;rw[if_pos hneg]
  have hng:decide (m<0)=true:=by simp[hneg]
  rw[hfl,hng];rw[hng] at hof;by_cases hpos:k<nd m.natAbs
  ·have hv:val ((dig m.natAbs).take (nd m.natAbs-k))=m.natAbs/T k:=by rw[hval.1];congr 2;omega
   have hll:((dig m.natAbs).take (nd m.natAbs-k)).length=nd m.natAbs-k:=by rw[List.length_take,hdl];omega
   have hal:=hdall.take (nd m.natAbs-k);have hx1:((nd m.natAbs:Int)+ex)=((nd m.natAbs-k:Nat):Int):=by omega
   obtain⟨x0,hx0⟩:∃ x,(dig m.natAbs)[0]? = some x:=⟨(dig m.natAbs)[0]'(by rw[hdl];omega),by rw[List.getElem?_eq_getElem]⟩;generalize m.natAbs/T k=Q at *;generalize hN:m.natAbs=N at *;have hnd':nd N-k<=15∧0<nd N-k:=by omega
   generalize hn:nd N-k=n at *;have hnN:n<=nd N:=by omega
   generalize hD:dig N=D at *;have HTK:Hid (∀ W A,Rd 0 W A (i6 D)->Rd 0 W A (i6 (D.take n))):=λW A hr=>by have:=Rd.take hr n;rw[<-List.map_take] at this;exact this
   generalize D.take n=hd at *;have hpl:=λA B ca cb W h1 h2=>zic true true A B ca cb hd [1] 0 0 0 0 0 n W h1 h2 (by omega) (by simp) rfl rfl (Or.inl rfl) (by omega) (by omega) hal (AllD.cons (by omega) AllD.nil) (by simp;omega);rw[znF,hll,hv] at hpl;simp only[show T 0=1 from rfl,Nat.mul_one,List.length_singleton,show val [1]=1 from rfl] at hpl;clear hval hv h hn hD hN;generalize hRR:rnd true (Q+1) false 0=R;have HRR:=Lib.hid hRR;clear hRR;go_enter func68,ntmps68;go_wp2_with (first | (go_at_call 125;with_reducible refine aM (zy _ _ _ (by assumption)) λosr dr=>?_) | ((go_at_call 139;(with_reducible refine(hof _).mono ?_);rintro e w' ⟨A,c,rfl,hrd,hcp,hx⟩;obtain⟨os,d,rfl⟩:=hx.more;have hrd:=hrd.mono (Nat.zero_le _);(try rw[zc] at hrd));obtain⟨b,off,rfl,_,_⟩:=Rd.at_ hrd hx0) | (go_at_call 138;(with_reducible refine(hpl _ _ _ _ _ (HTK.out _ _ (Rd.ext hrd (by simp[go_sem]))) (Rd.one_ _ _ (by simp))).mono ?_);rintro e w' ⟨⟨A2,c2,X2,rfl,hrx2,hn2,ha2,hv2,hc2⟩,hx2⟩;obtain⟨os2,d2,rfl⟩:=hx2.more) | (go_at_call 143;with_reducible refine aM (zcm 0 true A2 (n+1) c2 X2 (Q+1) 0 false _ hn2 (Rd.swap hrx2 (by simp) (by simp) (Nat.zero_le _)) hc2 (by omega) ha2 hv2 (by omega) (Nat.zero_le _)) λos3 d3=>?_;rw[HRR.out]));exact rc1 rfl rfl (by simp[go_sem]) ⟨rfl,by simp[go_sem]⟩
  ·have hv:m.natAbs/T k=0:=Nat.div_eq_of_lt ((nd_le_iff _ _).1 (by omega));have hpl:=λA B ca cb W h1 h2=>zic true true A B ca cb [] [1] 0 0 0 0 0 1 W h1 h2 (by simp) (by simp) rfl rfl (Or.inl rfl) (by omega) (by omega) AllD.nil (AllD.cons (by omega) AllD.nil) (by simp);rw[znF] at hpl;simp only[show T 0=1 from rfl,Nat.mul_one,List.length_singleton,List.length_nil,show val [1]=1 from rfl,val_nil] at hpl;rw[hv];clear hval hv h;generalize hRR:rnd true (0+1) false 0=R;have HRR:=Lib.hid hRR;clear hRR;have hx1:¬ (0<(nd m.natAbs:Int)+ex):=by omega
   generalize nd m.natAbs=n at *;go_enter func68,ntmps68;go_wp2_with (first | (go_at_call 125;with_reducible refine aM (zy _ _ _ (by assumption)) λosr dr=>?_) | ((go_at_call 139;(with_reducible refine(hof _).mono ?_);rintro e w' ⟨A,c,rfl,hrd,hcp,hx⟩;obtain⟨os,d,rfl⟩:=hx.more;have hrd:=hrd.mono (Nat.zero_le _);(try rw[zc] at hrd))) | (go_at_call 138;(with_reducible refine(hpl _ _ _ _ _ (Rd.nil _ _ _) (Rd.one_ _ _ (by simp))).mono ?_);rintro e w' ⟨⟨A2,c2,X2,rfl,hrx2,hn2,ha2,hv2,hc2⟩,hx2⟩;obtain⟨os2,d2,rfl⟩:=hx2.more) | (go_at_call 143;with_reducible refine aM (zcm 0 true A2 (1+1) c2 X2 (0+1) 0 false _ hn2 (Rd.swap hrx2 (by simp) (by simp) (Nat.zero_le _)) hc2 (by omega) ha2 hv2 (by omega) (Nat.zero_le _)) λos3 d3=>?_;rw[HRR.out]));exact rc1 rfl rfl (by simp[go_sem]) ⟨rfl,by simp[go_sem]⟩
 ·have hfl:zau m k=m.natAbs/T k:=by unfold zau;rw[if_neg hneg]
  have hng:decide (m<0)=false:=by simp[hneg]
  rw[hfl,hng];rw[hng] at hof;by_cases hpos:k<nd m.natAbs
  ·have hv:val ((dig m.natAbs).take (nd m.natAbs-k))=m.natAbs/T k:=by rw[hval.1];congr 2;omega
   have hll:((dig m.natAbs).take (nd m.natAbs-k)).length=nd m.natAbs-k:=by rw[List.length_take,hdl];omega
   have hal:=hdall.take (nd m.natAbs-k);have hx1:((nd m.natAbs:Int)+ex)=((nd m.natAbs-k:Nat):Int):=by omega
   obtain⟨x0,hx0⟩:∃ x,(dig m.natAbs)[0]? = some x:=⟨(dig m.natAbs)[0]'(by rw[hdl];omega),by rw[List.getElem?_eq_getElem]⟩;generalize m.natAbs/T k=Q at *;generalize hN:m.natAbs=N at *;have hnd':nd N-k<=15∧0<nd N-k:=by omega
   generalize hn:nd N-k=n at *;have hnN:n<=nd N:=by omega
   generalize hD:dig N=D at *;have HTK:Hid (∀ W A,Rd 0 W A (i6 D)->Rd 0 W A (i6 (D.take n))):=λW A hr=>by have:=Rd.take hr n;rw[<-List.map_take] at this;exact this
   generalize D.take n=hd at *;clear hval h hn hD hN;generalize hRR:rnd false Q false 0=R;have HRR:=Lib.hid hRR;clear hRR;have hng':¬ m<0:=hneg;go_enter func68,ntmps68;go_wp2_with (first | (go_at_call 125;with_reducible refine aM (zy _ _ _ (by assumption)) λosr dr=>?_) | ((go_at_call 139;(with_reducible refine(hof _).mono ?_);rintro e w' ⟨A,c,rfl,hrd,hcp,hx⟩;obtain⟨os,d,rfl⟩:=hx.more;have hrd:=hrd.mono (Nat.zero_le _);(try rw[zc] at hrd));obtain⟨b,off,rfl,_,_⟩:=Rd.at_ hrd hx0) | (go_at_call 143;with_reducible refine aM (zcm 0 false _ n c hd Q 0 false _ hll (HTK.out _ _ (Rd.ext hrd (by simp[go_sem]))) (by omega) (by omega) hal hv (by omega) (Nat.zero_le _)) λos3 d3=>?_;rw[HRR.out]));exact rc1 rfl rfl (by simp[go_sem]) ⟨rfl,by simp[go_sem]⟩
  ·have hv:m.natAbs/T k=0:=Nat.div_eq_of_lt ((nd_le_iff _ _).1 (by omega));rw[hv];clear hval hv h;generalize hRR:rnd false 0 false 0=R;have HRR:=Lib.hid hRR;clear hRR;have hx1:¬ (0<(nd m.natAbs:Int)+ex):=by omega
   generalize nd m.natAbs=n at *;go_enter func68,ntmps68;go_wp2_with (first | (go_at_call 125;with_reducible refine aM (zy _ _ _ (by assumption)) λosr dr=>?_) | ((go_at_call 139;(with_reducible refine(hof _).mono ?_);rintro e w' ⟨A,c,rfl,hrd,hcp,hx⟩;obtain⟨os,d,rfl⟩:=hx.more;have hrd:=hrd.mono (Nat.zero_le _);(try rw[zc] at hrd))) | (go_at_call 143;with_reducible refine aM (zcm 0 false none 0 0 [] 0 0 false _ rfl (Rd.nil _ _ _) (by omega) (by omega) AllD.nil rfl (by omega) (Nat.zero_le _)) λos3 d3=>?_;rw[HRR.out]));exact rc1 rfl rfl (by simp[go_sem]) ⟨rfl,by simp[go_sem]⟩
theorem zkl {m e k} (h:Rt m e) (hk:0<k):nd (zau m k)<=15:=by
 obtain⟨b1,_,_⟩:=zac h;have hT15:T 15=1000000000000000:=by decide
 have h1:m.natAbs/T k<=m.natAbs/T 1:=Nat.div_le_div_left (T_mono hk) (T_pos 1);have h2:T 1=10:=by decide
 rw[h2] at h1;rw[nd_le_iff];unfold zau;split <;> omega
theorem zgw (m ex w) (hm:I64 m) :
  Tl prog 68 #[NV m ex] w (NV (zB m ex).1 (zB m ex).2):=by
 have hz:=λW=>zrs m ex W hm;by_cases h:Rt m ex
 ·rw[if_pos h,if_pos h] at hz;by_cases h0:0<=ex
  ·have hs:zB m ex=(m,ex):=by unfold zB;rw[if_neg (by simpa using h),if_pos h0]
   rw[hs];have r1:=zD h;clear h hs;go_enter func68,ntmps68;go_wp2_with (first | (go_at_call 125;with_reducible refine aM (zy _ _ _ (by assumption)) λosr dr=>?_) | (go_at_call 142;with_reducible refine aM (hz _) λos3 d3=>?_));exact rc1 rfl rfl (by simp[go_sem]) ⟨rfl,by simp[go_sem]⟩
  ·obtain⟨k,hk⟩:∃ k:Nat,-ex=(k:Int):=⟨(-ex).toNat,by omega⟩;have hs:zB m ex=(rm (rnd (decide (m<0)) (zau m k) false 0),re (rnd (decide (m<0)) (zau m k) false 0)):=by
    unfold zB;rw[if_neg (by simpa using h),if_neg h0,hk,zkk (zkl h (by omega))];rfl
   rw[hs];exact zoj m ex k w h (by omega) hk
 ·rw[if_neg h,if_neg h] at hz;have hs:zB m ex=(0,0):=by unfold zB;rw[if_pos h]
  rw[hs];have r1:=zae h;clear h hs;go_enter func68,ntmps68;go_wp2_with (first | (go_at_call 125;with_reducible refine aM (zy _ _ _ (by assumption)) λosr dr=>?_) | (go_at_call 142;with_reducible refine aM (hz _) λos3 d3=>?_));exact rc1 rfl rfl (by simp[go_sem]) ⟨rfl,by simp[go_sem]⟩
def HX:Int:=((T 100:Nat):Int)
theorem zlI:0<HX:=by have:=T_pos 100;unfold HX;omega
theorem zrJ {neg N} (h:nd N<=15):Rt (sg neg (trim N 0).1) (trim N 0).2∧sc (sg neg (trim N 0).1) (trim N 0).2=sg neg N*HX∧0<=(trim N 0).2:=by
 have h1:=zkk (neg:=neg) h;refine⟨rnd_right h1,?_,?_⟩
 ·rw[zu1];by_cases h0:N=0
  ·rw[h0,trim_zero,Nat.zero_mul,zpP,Int.zero_mul]
  ·rw[sc_trim h0 (by omega),sg_mul_nat];rfl
 ·by_cases h0:N=0
  ·rw[h0,trim_zero];exact Int.le_refl _
  ·obtain⟨k,_,hb,_⟩:=trim_spec N 0 h0;rw[hb];omega
theorem zcI {m e} (h:Rt m e):Rt (zB m e).1 (zB m e).2∧0<=(zB m e).2∧sc (zB m e).1 (zB m e).2<=sc m e∧sc m e<sc (zB m e).1 (zB m e).2+HX:=by
 have hH:=zlI;unfold zB;rw[if_neg (by simpa using h)];by_cases h0:0<=e
 ·rw[if_pos h0];exact⟨h,h0,Int.le_refl _,by show sc m e<sc m e+HX;omega⟩
 ·rw[if_neg h0];obtain⟨b1,b2,b3⟩:=zac h;obtain⟨k,hk⟩:∃ k:Nat,-e=(k:Int):=⟨(-e).toNat,by omega⟩;rw[hk,Int.toNat_natCast];have hk0:0<k:=by omega
  have hk100:k<=100:=by omega
  obtain⟨w1,w2,w3⟩:=zrJ (neg:=decide (m<0)) (zkl h hk0);refine⟨w1,w3,?_⟩;show sc (sg (decide (m<0)) (trim (zau m k) 0).1) (trim (zau m k) 0).2<=sc m e∧sc m e<sc (sg (decide (m<0)) (trim (zau m k) 0).1) (trim (zau m k) 0).2+HX;rw[w2];have hdm:=Nat.div_add_mod m.natAbs (T k);have hml:=Nat.mod_lt m.natAbs (T_pos k);have hsc:sc m e=m*((T (100-k):Nat):Int):=by unfold sc;congr 3;omega
  have hHX:HX=((T k:Nat):Int)*((T (100-k):Nat):Int):=by unfold HX;rw[<-zeL];congr 2;omega
  have hr0:m<0->m.natAbs%T k≠0:=by
   intro hm;rcases h with⟨h1,_⟩ | ⟨_,_,h3,_,_⟩
   ·omega
   ·exact zld h3 hk0
  have ht:=T_pos (100-k);unfold zau;rw[hsc,hHX];generalize T (100-k)=t at *;generalize m.natAbs/T k=q at *;generalize m.natAbs%T k=r at *;generalize T k=u at *;have htI:(0:Int)<(t:Int):=by omega
  have hrt:(r:Int)*(t:Int)<(u:Int)*(t:Int):=Int.mul_lt_mul_of_pos_right (by omega) htI;have hrp:0<=(r:Int)*(t:Int):=Int.mul_nonneg (by omega) (by omega);by_cases hm:m<0
  ·have hmr:m=-((u:Int)*(q:Int)+(r:Int)):=by rw[<-Int.natCast_mul];omega
   have hr1:0<(r:Int)*(t:Int):=Int.mul_pos (by have:=hr0 hm;omega) htI;rw[if_pos hm,decide_eq_true hm];have e1:sg true (q+1)*((u:Int)*(t:Int))=-((q:Int)*((u:Int)*(t:Int)))-(u:Int)*(t:Int):=by
    simp only[sg,if_true];rw[Int.neg_mul,Int.natCast_add,Int.add_mul];simp;omega
   have e2:m*(t:Int)=-((q:Int)*((u:Int)*(t:Int)))-(r:Int)*(t:Int):=by
    rw[hmr,Int.neg_mul,Int.add_mul,Int.mul_comm (u:Int) (q:Int),Int.mul_assoc];omega
   rw[e1,e2];omega
  ·have hmr:m=(u:Int)*(q:Int)+(r:Int):=by rw[<-Int.natCast_mul];omega
   rw[if_neg hm,show decide (m<0)=false by simp[hm]];have e1:sg false q*((u:Int)*(t:Int))=(q:Int)*((u:Int)*(t:Int)):=by simp[sg]
   have e2:m*(t:Int)=(q:Int)*((u:Int)*(t:Int))+(r:Int)*(t:Int):=by
    rw[hmr,Int.add_mul,Int.mul_comm (u:Int) (q:Int),Int.mul_assoc]
   rw[e1,e2];omega
theorem zlJ {m e} (h:0<=e):sc m e=m*(T e.toNat:Nat)*HX:=by
 unfold sc HX;rw[Int.mul_assoc,<-zeL];congr 3;omega
theorem zF {m e} (h:Rt m e):I64 m:=by
 obtain⟨h1,h2,h3⟩:=zac h;unfold I64;omega
def zdJ (n:Int):Val:=⟨1,(zl n).1,(zl n).2,⟨#[]⟩,false,0⟩
def zal (v:Val):Int×Int:=if tnF v=0 then((zbo (zB (tnP v).1 (tnP v).2).1 (zB (tnP v).1 (tnP v).2).2).getD 0,if(zbo (zB (tnP v).1 (tnP v).2).1 (zB (tnP v).1 (tnP v).2).2).isSome then 0 else 5) else(0,tnF v)
structure GA where
 r:Int
 c:Int
 A:Option Addr
 n:Nat
 cap:Nat
 l:List Val
def GA.cells (g:GA):List Value:=[.int .i64 g.r,.int .i64 g.c,.slice g.A g.n g.cap]
def zeb (gs:List GA):List Value:=gs.flatMap GA.cells
def GA.right (g:GA):Bool:=zA g.r g.c g.l
def Ar.toG (a:Ar):GA:=⟨a.x.R,a.x.C,a.A,a.n,a.cap,a.x.l⟩
def GAt (w:World) (b o:Nat) (g:GA):Prop:=
 w.cell? ⟨b,o,none⟩=some (.int .i64 g.r)∧w.cell? ⟨b,o+1,none⟩=some (.int .i64 g.c)∧w.cell? ⟨b,o+2,none⟩=some (.slice g.A g.n g.cap)
theorem zhe:∀ (gs:List GA) (i:Nat) (g:GA),gs[i]? = some g->∀ j,j<3->(zeb gs)[i*3+j]? = g.cells[j]?
 | [],i,x,h,j,hj=>by simp at h
 | y::l,0,x,h,j,hj=>by
  obtain rfl:y=x:=by simpa using h
  rw[zeb,List.flatMap_cons,List.getElem?_append_left (by simp[GA.cells];omega)];simp
 | y::l,i+1,x,h,j,hj=>by
  rw[zeb,List.flatMap_cons,List.getElem?_append_right (by simp[GA.cells];omega)];rw[show(i+1)*3+j-y.cells.length=i*3+j by simp[GA.cells];omega];exact zhe l i x (by simpa using h) j hj
structure ArgsG (w:World) (A:Option Addr) (n cap:Nat) (gs:List GA):Prop where
 rd:Rd 0 w A (zeb gs)
 len:gs.length=n
 cap:n<=cap
 small:n<=9223372036854775807
 all:∀ g∈gs,ArrIn w g.A g.n g.cap g.l
theorem ArgsG.ext {w w' A n cap gs} (h:ArgsG w A n cap gs) (hx:Ext w w'):ArgsG w' A n cap gs:=
 ⟨h.rd.ext hx,h.len,h.cap,h.small,λg hg=>(h.all g hg).ext hx⟩
theorem ArgsG.get {w A n cap gs} (h:ArgsG w A n cap gs) {k g} (hk:gs[k]? = some g) :
  ∃ b off,A=some ⟨b,off,none⟩∧GAt w b (off+k*3) g∧ArrIn w g.A g.n g.cap g.l:=by
 have hc:∀ j,j<3->(zeb gs)[k*3+j]? = g.cells[j]?:=zhe gs k g hk;obtain⟨b,off,rfl,_,h0⟩:=h.rd (k*3+0) (.int .i64 g.r) (by rw[hc 0 (by omega)];rfl);refine⟨b,off,rfl,?_,h.all g (List.mem_of_getElem? hk)⟩;have hg:∀ j u,j<3->g.cells[j]? = some u->w.cell? ⟨b,off+k*3+j,none⟩=some u:=λj u hj hu=>by
  obtain⟨b',off',he,_,h1⟩:=h.rd (k*3+j) u (by rw[hc j hj];exact hu);obtain⟨rfl,rfl⟩:=aI he;rw[<-h1];congr 2;omega
 exact⟨hg 0 _ (by omega) rfl,hg 1 _ (by omega) rfl,hg 2 _ (by omega) rfl⟩
theorem ArgsG.at {w A n cap gs} (h:ArgsG w A n cap gs) {k} (hk:k<n) :
  ∃ g b off,gs[k]? = some g∧A=some ⟨b,off,none⟩∧GAt w b (off+k*3) g∧ArrIn w g.A g.n g.cap g.l:=by
 have hl:k<gs.length:=by rw[h.len];exact hk
 obtain⟨b,off,e,h1,h2⟩:=h.get (List.getElem?_eq_getElem hl);exact⟨_,b,off,List.getElem?_eq_getElem hl,e,h1,h2⟩
theorem zlK {r c l} (h:zA r c l=true):∃ R C:Nat,r=(R:Int)∧c=(C:Int):=by
 unfold zA at h;simp only[Bool.and_eq_true] at h;have:=zfd h.1.1;exact⟨r.toNat,c.toNat,by omega,by omega⟩
theorem zgx:∀ xs:List Ar,zeb (xs.map Ar.toG)=zcR xs
 | []=>rfl
 | a::xs=>by
  show GA.cells (Ar.toG a)++zeb (xs.map Ar.toG)=Ar.cells a++zcR xs;rw[zgx xs];rfl
theorem ArgsG.toIn {w A n cap xs} (h:ArgsG w A n cap (xs.map Ar.toG)) (hr:∀ a∈xs,a.x.right):ArgsIn w A n cap xs:=
 ⟨by rw[<-zgx];exact h.rd,by rw[<-h.len,List.length_map],h.cap,h.small,λa ha=>⟨h.all a.toG (List.mem_map.2 ⟨a,ha,rfl⟩),hr a ha⟩⟩
theorem ArgsIn.toG {w A n cap xs} (h:ArgsIn w A n cap xs):ArgsG w A n cap (xs.map Ar.toG):=
 ⟨by rw[zgx];exact h.rd,by rw[List.length_map];exact h.len,h.cap,h.small,λg hg=>by obtain⟨a,ha,rfl⟩:=List.mem_map.1 hg;exact(h.all a ha).arr⟩
def zS (lo hi:Nat) (gs:List GA) (F:NA):NA:=
 if gs.length<lo∨hi<gs.length then zT 2 else if gs.all GA.right then F else zT 9
end Go.Proofs.YtinjdacijiohiaaGreatDoor
namespace Go.Proofs.YtinjdacijiohiaaGreatDoor
open _root_.Go.Proofs.Tryz
open Go.RowKit
theorem zjK {l t} (h:t<l.length):zaI l t=l[t]:=by simp[zaI,List.getElem?_eq_getElem h]
theorem zok {C t:Nat} : t/C*C+t%C=t:=by rw[Nat.mul_comm];exact Nat.div_add_mod t C
theorem zpQ (R C l) (h:l.length=R*C):zbX (λi j=>zaI l (i*C+j)) C (R*C)=l:=by
 apply List.ext_getElem
 ·rw[zhU,h]
 ·intro t h1 h2;simp only[zbX,List.getElem_map,List.getElem_range];rw[zok,zjK h2]
theorem zrK {P:Val->Prop} {l k} (h:∀ x∈l,P x) (hk:k<l.length):P (zaI l k):=h _ (zim hk)
theorem zeD {P} (w) {o:Oper} {a} {K:Act->World->Prop} {Q} (s x t) (ho:o.op = .call { callee:=.builtin .append,args:=#[s,x],argTypes:=#[t,t] }) (base e i z size bytes) (ht:P.underlying t=some (.slice e)) (hi:P.info? e=some i) (hz:i.zero=some z) (hsize:i.size=size) (hby:i.bytes=bytes) (hzs:z.cells.size=size) (hsz:0<size) (v n xs) (hs:a.eval s=v) (hown:w.ownsRow base e size v n xs) (ad m c news) (hx:a.eval x = .slice (some ad) m c) (hl:news.length=m*size) (hnews:∀ j u,news[j]? = some u->w.cell? (ad.add j)=some u) (h1:∀ u∈news,u.oneCell'=true) (b1:n+m<=maxLen) (b2:(n+m)*bytes<=140737488355328) (hbase:base<=w.heap.size) (h:∀ v' w',w'.ownsRow base e size v' (n+m) (xs++news)->w.grownBy w' v.ownBlock->K (a.put o.dst v') w'):o.wp P a w K Q:=by
 obtain⟨v',w',hr,h2,h3,_⟩:=run_append_own (P:=P) w base t o.type e i z size bytes ht hi hz hsize hby hzs hsz v n xs hown ad m c news hl hnews h1 b1 b2 hbase;unfold Oper.wp execOp;simp only[ho,resolve,invoke,builtin,Sem.run_bind,Sem.run_pure,Result.andThen_ok,List.map_toArray,List.map_cons,List.map_nil,hs,hx,hr];exact h v' w' h2 h3
theorem zap (w:World) (n) (cs:List Value) {C} (hn:n=w.heap.size) (hC:C=cs.toArray) (ty):∀ j u,cs[j]? = some u->(w.alloc (.cells C ty)).cell? ((⟨n,0,none⟩:Addr).add j)=some u:=by
 subst hn hC;exact zkf w cs ty
theorem zpR {w:World} {base e size n v xs} (h:w.ownsRow base e size v n xs):∃ A c,v = .slice A n c:=by
 rcases h.2 with⟨rfl,rfl⟩ | ⟨g,cap,cur,rfl,_⟩
 ·exact⟨_,_,rfl⟩
 ·exact⟨_,_,rfl⟩
theorem zL {w w1 base e size n v xs} (h:w.ownsRow base e size v n xs) (hx:Ext w w1):w1.ownsRow base e size v n xs:=by
 refine⟨h.1,?_⟩;rcases h.2 with h2 | ⟨g,cap,cur,hv,hg,hh,r⟩
 ·exact .inl h2
 ·refine .inr ⟨g,cap,cur,hv,hg,?_,r⟩;rw[hx.block ?_];exact hh;rcases Nat.lt_or_ge g w.heap.size with hl | hl
  ·exact hl
  ·rw[Array.getElem?_eq_none hl] at hh;cases hh
theorem zfz {w:World} {base e size n v xs} (h:w.ownsRow base e size v n xs):∀ k,v.ownBlock=some k->base<=k:=by
 intro k hk;rcases h.2 with⟨rfl,_⟩ | ⟨g,cap,cur,rfl,hg,_⟩
 ·cases hk
 ·simp only[Value.ownBlock,Option.some.injEq] at hk;omega
structure Acc (w0:World) (s0:Nat) (r c:Int) (A:Option Addr) (cap k:Nat) (l:List Val) (wr:World):Prop where
 ext:Ext w0 wr
 hi:w0.heap.size<=s0
 row:wr.heap[s0]? = some (.cells #[.int .i64 r,.int .i64 c,.slice A k cap] 27)
 own:wr.ownsRow (s0+1) 38 6 (.slice A k cap) k (zJ l)
theorem zG {w:World} {b o} (h:w.heap[b]? = some o):b<w.heap.size:=by
 rcases Nat.lt_or_ge b w.heap.size with hl | hl
 ·exact hl
 ·rw[Array.getElem?_eq_none hl] at h;cases h
def zrL (w0:World) (s0:Nat) (r c:Int) (A:Option Addr) (cap k:Nat) (W:World):Prop:=Ext w0 W∧W.heap[s0]? = some (.cells #[.int .i64 r,.int .i64 c,.slice A k cap] 27)
section
variable {w0:World} {s0:Nat} {r c:Int} {A:Option Addr} {cap k:Nat} {l:List Val} {wr:World}
theorem Acc.lt (h:Acc w0 s0 r c A cap k l wr):s0<wr.heap.size:=zG h.row
theorem Acc.of_ext (h:Acc w0 s0 r c A cap k l wr) {w1:World} (hx:Ext wr w1):Acc w0 s0 r c A cap k l w1:=
 ⟨h.ext.trans hx,h.hi,by rw[hx.block h.lt];exact h.row,zL h.own hx⟩
theorem Acc.start (w0:World) (r c:Int):Acc w0 w0.heap.size r c none 0 0 [] (w0.alloc (.cells #[.int .i64 r,.int .i64 c,.slice none 0 0] 27)):=
 ⟨(Ext.refl _).alloc _,Nat.le_refl _,heap_alloc_new _ _,World.ownsRow_nil _ _ _ _⟩
theorem Acc.rd (h:Acc w0 s0 r c A cap k l wr):SlV (s0+1) wr A l∧k<=cap:=by
 obtain⟨A',c',e,hr,hc⟩:=Rd.of_own h.own;simp only[Value.slice.injEq,true_and] at e;obtain⟨rfl,rfl⟩:=e;exact⟨hr,hc⟩
theorem Acc.step (h:Acc w0 s0 r c A cap k l wr) {x:Val} {v':Value} {w1 w3:World} {ty:TypeId} (hx:Ext wr w1)
  (hg:(w1.alloc (.cells x.cells.toArray ty)).grownBy w3 (Value.slice A k cap).ownBlock) (ho:w3.ownsRow (s0+1) 38 6 v' (k+1) (zJ l++x.cells)) :
  ∃ A' cap',v' = .slice A' (k+1) cap'∧w3.heap[s0]? = some (.cells #[.int .i64 r,.int .i64 c,.slice A k cap] 27)∧Ext w0 w3∧Acc w0 s0 r c A' cap' (k+1) (l++[x]) (w3.setCell ⟨s0,2,none⟩ v'):=by
 obtain⟨A',cap',rfl⟩:=zpR ho;have h1:=h.of_ext hx;have hlt:=h1.lt;have hnb:some s0≠(Value.slice A k cap).ownBlock:=λe=>by have:=zfz h.own _ e.symm;omega
 have hrow:w3.heap[s0]? = some (.cells #[.int .i64 r,.int .i64 c,.slice A k cap] 27):=by
  rw[hg.block _ (by simp;omega) hnb,Below.heap_alloc _ _ _ hlt];exact h1.row
 have hex:Ext w0 w3:=by
  have h2:Ext w0 (w1.alloc (.cells x.cells.toArray ty)):=h1.ext.alloc _;exact⟨hg.os.trans h2.os,hg.tape.trans h2.tape,hg.output.trans h2.output,Nat.le_trans h2.size hg.size,λb hb=>(hg.block b (Nat.lt_of_lt_of_le hb h2.size) (λe=>by have:=zfz h.own _ e.symm;have:=h.hi;omega)).trans (h2.block hb)⟩
 refine⟨A',cap',rfl,hrow,hex,Ext.set hex _ h.hi,h.hi,?_,?_⟩
 ·simp[World.setCell,Array.getElem?_modify,hrow]
 ·have:zJ (l++[x])=zJ l++x.cells:=by simp[zJ]
  rw[this];refine ho.kept (row:=some s0) ⟨rfl,rfl,rfl,by simp[World.setCell],λb hb hne=>Below.heap_setCell _ _ _ _ (λe=>hne (by simp[e]))⟩ ?_;right
  intro e;have:=zfz ho s0 e;omega
end
theorem zol (R C i j A n cap l w) (h:ArrIn w A n cap l) (hn:n=R*C) (hN:n<=4096) (hi:i<R) (hj:j<C) (x) (hx:zaI l (i*C+j)=x) :
  Tl prog 82 #[AV R C (.slice A n cap),.int .i64 i,.int .i64 j] w (VV x.kind x.mant x.exp x.text x.truth x.fault):=by
 subst hn;obtain⟨hk,hk2⟩:=zcA R hi hj hN;obtain⟨b,off,rfl,hv,ho⟩:=h.get hk;rw[hx] at hv;clear hx ho;obtain⟨v0,v1,v2,v3,v4,v5⟩:=hv;have hbl:b<w.heap.size:=za v0;have w1:IntKind.i64.wrap ((i:Int)*(C:Int))=((i*C:Nat):Int):=by rw[IntKind.wrap_i64,Int.natCast_mul];omega
 generalize hjc:i*C=jc at *;generalize hrc:R*C=rc at *;clear hjc hrc;go_enter func82,ntmps82;go_wp2;exact rc1 rfl rfl (by simp[go_sem]) ⟨rfl,by simp[go_sem]⟩
theorem zi1 (r c i j s w) (_hs:s.oneCell'=true) :
  Tl prog 81 #[AV r c s,.int .i64 i,.int .i64 j] w (.bool (zeC r c i j)):=by
 have e:zeC r c i j=(decide (0<=i)&&decide (0<=j)&&decide (i<r)&&decide (j<c)):=by
  unfold zeC;cases decide (0<=i) <;> cases decide (i<r) <;> cases decide (0<=j) <;> rfl
 rw[e];clear e;go_enter func81,ntmps81;go_upto_region 1 with(fail);refine wp_region_lit ?_;iterate 19((first | refine zaH rfl rfl rfl rfl rfl ?_ | refine zaY rfl rfl rfl rfl rfl ?_ | (refine zbE (v:=?_) rfl ?_ ?_;rotate_left 1;(go_simp;first | done | rfl)) | (refine zbk (v:=?_) (c:=?_) rfl rfl rfl ?_ (λhc=>?_) ?_;rotate_left 2;(first | exact zaO _ | exact zaP _ | exact zaq _ _ | exact zar _ _);((try simp only[zv hc]);(try(have hc1:=zO hc;(try simp only[zv hc1]);(try(have hc2:=zO hc1;(try simp only[zv hc2])))));go_simp;first | done | rfl)));try simp only[zq])
 refine wpList_nil ?_;try go_simp
 go_wp2;go_ret;exact⟨rfl,by simp[go_sem]⟩
end Go.Proofs.YtinjdacijiohiaaGreatDoor
namespace Go.Proofs.YtinjdacijiohiaaGreatDoor
open _root_.Go.Proofs.Tryz
open Go.RowKit NM
theorem zpS (w:World) (o):(w.alloc o).heap[w.heap.size]? = some o:=Array.getElem?_push_size
def zeo (x:NA) (D:Option Addr) (m c:Nat):Ar:=⟨x,D,m,c⟩
theorem ztf (w o osa osb da db):(more ((more w osa da).alloc o) osb db).heap[w.heap.size+osa.size]? = some o:=by
 have h:=zpS (more w osa da) o;rw[show(more w osa da).heap.size=w.heap.size+osa.size by simp] at h;have x0:Ext ((more w osa da).alloc o) (more ((more w osa da).alloc o) osb db):=by simp[go_sem]
 rw[x0.block (b:=w.heap.size+osa.size) (by simp)];exact h
theorem zpT (w o o' osa osb da db) {b} (hb:b≠w.heap.size+osa.size) :
  (more ((more w osa da).alloc o') osb db).heap[b]? = (more ((more w osa da).alloc o) osb db).heap[b]?:=by
 simp only[more,World.alloc,Array.getElem?_append,Array.getElem?_push,Array.size_push,Array.size_append];by_cases h:b<w.heap.size+osa.size+1
 ·rw[if_pos h,if_pos h,if_neg hb,if_neg hb]
 ·rw[if_neg h,if_neg h]
theorem zt8 {base w osa osb da db p q r} (u v x) {t A l} (h:SlV base (more ((more w osa da).alloc (.cells #[p,q,r] t)) osb db) A l):SlV base (more ((more w osa da).alloc (.cells #[u,v,x] t)) osb db) A l:=by
 intro j y hu;obtain⟨b',off,hA,hl,hc⟩:=h j y hu;refine⟨b',off,hA,hl,?_⟩;have hne:b'≠w.heap.size+osa.size:=by
  intro e;cases l with
  | nil=>simp[zJ] at hu
  | cons z l=>
   obtain⟨b2,off2,hA',_,hc3⟩:=h 3 (.string z.text) (by simp[zJ,Val.cells]);rw[hA] at hA';simp only[Option.some.injEq,Addr.mk.injEq,and_true] at hA';obtain⟨rfl,rfl⟩:=hA';subst e;have hv:=ztf w (.cells #[p,q,r] t) osa osb da db;simp[World.cell?,hv] at hc3
 rw[<-hc];exact World.cell?_of_block (a:=⟨b',off+j,none⟩) (zpT w _ _ osa osb da db hne)
abbrev Nm:=Int×Int
def nV (p:Nm):Val:=⟨1,p.1,p.2,⟨#[]⟩,false,0⟩
def zN (l:List Nm):List Value:=l.flatMap λp=>[.int .i64 p.1,.int .i64 p.2]
def NRt (l:List Nm):Prop:=∀ p∈l,Rt p.1 p.2
theorem za0 (l l'):zN (l++l')=zN l++zN l':=by simp[zN]
theorem zfS (p l):zN (p::l)=[.int .i64 p.1,.int .i64 p.2]++zN l:=by simp[zN]
theorem zcS:∀ l:List Nm,(zN l).length=l.length*2
 | []=>rfl
 | p::l=>by rw[zfS,List.length_append,zcS l];simp;omega
theorem zfA:∀ (l:List Nm) (i:Nat) (p:Nm),l[i]? = some p->(zN l)[i*2]? = some (.int .i64 p.1)∧(zN l)[i*2+1]? = some (.int .i64 p.2)
 | [],i,p,h=>by simp at h
 | q::l,0,p,h=>by
  obtain rfl:q=p:=by simpa using h
  rw[zfS];exact⟨rfl,rfl⟩
 | q::l,i+1,p,h=>by
  have ih:=zfA l i p (by simpa using h);rw[zfS,show(i+1)*2=i*2+2 by omega];exact⟨ih.1,ih.2⟩
def ffL:List Val->Int
 | []=>0
 | v::l=>if v.kind=4 then v.fault else ffL l
def zu:List Val->List Nm
 | []=>[]
 | v::l=>if v.kind=1 then(v.mant,v.exp)::zu l else zu l
def zs (xs:List Ar):List Val:=xs.flatMap λa=>a.x.l
def zbC:Nm->List Nm->Option Nm
 | t,[]=>some t
 | t,n::l=>(addS t.1 t.2 n.1 n.2).bind λu=>zbC u l
def zbD:Nm->List Nm->Option Nm
 | t,[]=>some t
 | t,n::l=>(mulS t.1 t.2 n.1 n.2).bind λu=>zbD u l
def sumV (l:List Nm):Val:=zo (zbC (0,0) l)
def prodV (l:List Nm):Val:=if l.length=0 then nV (0,0) else zo (zbD (1,0) l)
def zcw (side:Int):Nm->List Nm->Nm
 | f,[]=>f
 | f,n::l=>zcw side (if zat n.1 n.2 f.1 f.2=side then n else f) l
def zbL (side:Int):List Nm->Val
 | []=>nV (0,0)
 | n::l=>nV (zcw side n (n::l))
def zec (l:List Nm) (n:Int):Val:=match zbC (0,0) l with
 | none=>zz 5
 | some t=>zo (divS t.1 t.2 (zl n).1 (zl n).2)
def averV (l:List Nm):Val:=if l.length=0 then zz 1 else zec l l.length
def zbx (F:List Nm->Val) (xs:List Ar):NA:=if ffL (zs xs)=0 then zaj (F (zu (zs xs))) else zT (ffL (zs xs))
def zdh (p:Val->Bool) (l:List Val):NA:=zaj (zdJ ((l.filter p).length:Int))
def zcJ (f:Nm->Nm) (v:Val):Val:=if tnF v=0 then nV (f (tnP v)) else zx (tnF v)
def zed (p:Nm):Nm:=if p.1<0 then(-p.1,p.2) else p
def zeO (p:Nm):Nm:=zl (zat p.1 p.2 0 0)
def zjL (p:Nm):Nm:=zB p.1 p.2
def zhI (f:Nm->Nm) (x:NA):NA:=⟨x.R,x.C,x.l.map λv=>zcJ f v⟩
def zee (x y:Val):Val:=if tnF x≠0 then zx (tnF x) else if(zal y).2≠0 then zx (zal y).2 else nV (z8 (tnP x).1 (tnP x).2 (zal y).1)
def zhf (a b:Nm):Val:=if b.1=0 then zz 1 else match divS a.1 a.2 b.1 b.2 with
 | none=>zz 5
 | some q=>match mulS b.1 b.2 (zB q.1 q.2).1 (zB q.1 q.2).2 with
  | none=>zz 5
  | some p=>zo (subS a.1 a.2 p.1 p.2)
def modV (x y:Val):Val:=if tnF x≠0 then zx (tnF x) else if tnF y≠0 then zx (tnF y) else zhf (tnP x) (tnP y)
inductive CS where
 | ge | le | ne | gt | lt | eq
 deriving DecidableEq
def CS.key:CS->List UInt8
 | .ge=>[62,61] | .le=>[60,61] | .ne=>[60,62] | .gt=>[62] | .lt=>[60] | .eq=>[61]
def CS.holds:CS->Int->Bool
 | .ge,n=>decide (0<=n)
 | .le,n=>decide (n<=0)
 | .ne,n=>n != 0
 | .gt,n=>decide (0<n)
 | .lt,n=>decide (n<0)
 | .eq,n=>n==0
def zbQ (c:CS) (s x:Val):Bool:=if x.kind=s.kind then c.holds (zaB x s) else c = .ne
def zdV:List ByteArray:=[⟨#[]⟩,⟨#[35,68,73,86,47,48,33]⟩,⟨#[35,86,65,76,85,69,33]⟩,⟨#[35,82,69,70,33]⟩,⟨#[35,78,65,77,69,63]⟩,⟨#[35,78,85,77,33]⟩,⟨#[35,78,47,65]⟩,⟨#[35,83,80,73,76,76,33]⟩,⟨#[35,67,73,82,67,33]⟩,⟨#[35,67,65,76,67,33]⟩]
def zef (k:Nat):ByteArray:=zdV.getD k ⟨#[]⟩
def zbz (X:ByteArray):Nat->Nat->Int
 | 0,_=>0
 | n+1,k=>if X.toList==(zef k).toList then(k:Int) else zbz X n (k+1)
def zcT (X:ByteArray):Int:=zbz X 9 1
theorem zhg (X:ByteArray):∀ n k:Nat,1<=k->k+n<=10->0<=zbz X n k∧zbz X n k<=9
 | 0,_,_,_=>by unfold zbz;omega
 | n+1,k,h1,h2=>by
  unfold zbz;split
  ·omega
  ·exact zhg X n (k+1) (by omega) (by omega)
theorem zhh (X):0<=zcT X∧zcT X<=9:=zhg X 9 1 (by omega) (by omega)
def zbT (w : World) : Prop := w.var? prog "counterpane/value.faultTexts" = some (zdV.map Value.string).toArray
theorem zbT.low {w w'} (h:zbT w) (hx:∀ b,b<w.heap.size->w'.heap[b]? = w.heap[b]?):zbT w':=by
 unfold zbT World.var? at *; cases hg : Tryz.prog.globalNamed "counterpane/value.faultTexts" with
 | none=>simp[hg] at h
 | some g=>
  simp only[hg,Option.bind_some] at h⊢;have hlt:g<w.heap.size:=by
   rcases Nat.lt_or_ge g w.heap.size with h' | h'
   ·exact h'
   ·rw[Array.getElem?_eq_none h'] at h;simp at h
  rw[hx g hlt];exact h
theorem zbT.ext {w w'} (h:zbT w) (hx:Ext w w'):zbT w':=h.low λ_ hb=>hx.block hb
theorem znG : Tryz.prog.globalNamed "counterpane/value.faultTexts" = some 2 := by kernel_rfl
theorem zom (k) (hk:k<10):zdV[k]? = some (zef k):=by
 have:zdV.length=10:=rfl;unfold zef;rw[List.getD_eq_getElem?_getD,List.getElem?_eq_getElem (by omega)];rfl
theorem zbT.cell {w} (h:zbT w) {k} (hk:k<10):w.cell? ⟨2,k,none⟩=some (.string (zef k)):=by
 unfold zbT World.var? at h;rw[znG,Option.bind_some] at h;unfold World.cell?;have e:=zom k hk;split at h
 ·rename_i cs _ _ hh;obtain rfl:=Option.some.inj h;simp only[hh];simp[e]
 ·cases h
theorem zmD (s w) (hs:s.size<=9223372036854775807) (hft:zbT w) :
  Tl prog 207 #[.string s] w (.int .i64 (zcT (zam s))):=by
 have hF:=λW=>zgt s W hs;have HT:=Lib.hid hft;obtain⟨r,hr⟩:∃ r,zcT (zam s)=r:=⟨_,rfl⟩;rw[hr];unfold zcT at hr;have HR:=Lib.hid hr;clear hft hr;generalize zam s=X at *;go_enter func207,ntmps207;go_upto_region 3 with(go_at_call 206;with_reducible refine aM (hF _) λos d=>?_);go_loopw [3] (λi wr=>∃ k:Nat,1<=k∧k<=10∧i = .int .i64 (k:Int)∧wr=more w os d∧Hid (zbz X (10-k) k=r)) (λi _=>10-(intOf i).toNat)
 case atStart=>exact⟨1,by omega,by omega,rfl,rfl,HR.out⟩
 case round=>
  obtain⟨k,h1,h2,rfl,rfl,HK⟩:=hrel;by_cases hlt:k<=9
  ·have hc:=(HT.out.ext (zao w os d)).cell (k:=k) (by omega);have hl:=za hc;have hk:=HK.out;rw[show 10-k=(9-k)+1 by omega] at hk;unfold zbz at hk;have hlt':(k:Int)<=9:=by omega
   have hlt2:(k:Int)<10:=by omega
   generalize zef k=Y at *;cases hq:X.toList==Y.toList with
   | true=>
    rw[hq,if_pos rfl] at hk;subst hk;clear HK HR;go_wp2_with fail;go_ret;exact⟨rfl,by simp[go_sem]⟩
   | false=>
    rw[hq,if_neg (by simp)] at hk;have HK2:=Lib.hid hk;clear hk HK;go_wp2_with fail;refine⟨⟨k+1,by omega,by omega,by go_num,(by first | rfl | trivial),?_⟩,by simp[intOf];omega⟩;rw[show 10-(k+1)=9-k by omega];exact HK2
  ·obtain rfl:k=10:=by omega
   have hk:=HK.out;unfold zbz at hk;simp only[Nat.sub_self] at hk;subst hk;clear HK HR;go_wp2_with fail;go_ret;exact⟨rfl,by simp[go_sem]⟩
def zbn (s:ByteArray):Val:=
 if s.toList == [] then Val.only 0
 else if(zbR s).isSome then nV ((zbR s).getD (0,0))
 else if(zam s).toList == [84,82,85,69] then zW true
 else if(zam s).toList == [70,65,76,83,69] then zW false
 else if zcT (zam s)≠0 then zz (zcT (zam s))
 else zQ s
theorem zon (s):(zbn s).right:=by
 unfold zbn;split
 ·exact show valRight (Val.only 0)=true from rfl
 ·split
  ·rename_i h;obtain⟨p,hp⟩:=Option.isSome_iff_exists.1 h;rw[hp];exact zaN (zpA hp)
  ·split
   ·exact zfQ _
   ·split
    ·exact zfQ _
    ·split
     ·have:=zhh (zam s);exact za1 ⟨by omega,by omega⟩
     ·exact zgr _
theorem zpU (s w) (hs:s.size<=1000) (hft:zbT w) :
  Tl prog 168 #[.string s] w (VV (zbn s).kind (zbn s).mant (zbn s).exp (zbn s).text (zbn s).truth (zbn s).fault):=by
 have hF:=λW=>zgt s W (by omega);have hP:=λW=>zkc s W hs;have hO:=λW h=>zmD s W (by omega) h;have hX:=λW=>zij s W (by omega);have HT:=Lib.hid hft;unfold zbn;clear hft;cases h0:s.toList == [] with
 | true=>
  rw[if_pos rfl];show Calls _ _ _ w λe w'=>e = .returned (VV 0 0 0 ⟨#[]⟩ false 0)∧Ext w w';go_enter func168,ntmps168;go_wp2_with fail;exact rc1 rfl rfl (by simp[go_sem]) ⟨rfl,by simp[go_sem]⟩
 | false=>
  rw[if_neg (by simp)];cases hp:zbR s with
  | some p=>
   rw[hp] at hP;obtain⟨m,ex⟩:=p;simp only[rnV,rm,re,Option.getD_some,Option.isSome_some,if_true] at hP⊢;show Calls _ _ _ w λe w'=>e = .returned (VV 1 m ex ⟨#[]⟩ false 0)∧Ext w w';clear hp;go_enter func168,ntmps168;go_wp2_with (first | (go_at_call 174;with_reducible refine aM (hP _) λos1 d1=>?_) | (go_at_call 93;with_reducible refine aM (zcQ _ _ _) λos2 d2=>?_));exact rc1 rfl rfl (by simp[go_sem]) ⟨rfl,by simp[go_sem]⟩
  | none=>
   rw[hp] at hP;simp only[rnV,rm,re,Option.getD_none,Option.isSome_none,Bool.false_eq_true,if_false] at hP⊢;clear hp;generalize zam s=X at *;cases h1:X.toList == [84,82,85,69] with
   | true=>
    rw[if_pos rfl];show Calls _ _ _ w λe w'=>e = .returned (VV 3 0 0 ⟨#[]⟩ true 0)∧Ext w w';go_enter func168,ntmps168;go_wp2_with (first | (go_at_call 174;with_reducible refine aM (hP _) λos1 d1=>?_) | (go_at_call 206;with_reducible refine aM (hF _) λos2 d2=>?_) | (go_at_call 124;with_reducible refine aM (zcb _ _) λos3 d3=>?_));exact rc1 rfl rfl (by simp[go_sem]) ⟨rfl,by simp[go_sem]⟩
   | false=>
    rw[if_neg (by simp)];cases h2:X.toList == [70,65,76,83,69] with
    | true=>
     rw[if_pos rfl];show Calls _ _ _ w λe w'=>e = .returned (VV 3 0 0 ⟨#[]⟩ false 0)∧Ext w w';go_enter func168,ntmps168;go_wp2_with (first | (go_at_call 174;with_reducible refine aM (hP _) λos1 d1=>?_) | (go_at_call 206;with_reducible refine aM (hF _) λos2 d2=>?_) | (go_at_call 124;with_reducible refine aM (zcb _ _) λos3 d3=>?_));exact rc1 rfl rfl (by simp[go_sem]) ⟨rfl,by simp[go_sem]⟩
    | false=>
     rw[if_neg (by simp)];have hfb:=zhh X;generalize zcT X=g at *;by_cases hg:g=0
     ·subst hg;rw[if_neg (by simp)];have ht0:(zQ s).mant=0∧(zQ s).exp=0∧(zQ s).truth=false:=by unfold zQ;split <;> exact⟨rfl,rfl,rfl⟩
      rw[ht0.1,ht0.2.1,ht0.2.2];generalize (zQ s).kind=yk at *;generalize (zQ s).text=yt at *;generalize (zQ s).fault=yf at *;clear ht0;go_enter func168,ntmps168;go_wp2_with (first | (go_at_call 174;with_reducible refine aM (hP _) λos1 d1=>?_) | (go_at_call 206;with_reducible refine aM (hF _) λos2 d2=>?_) | (go_at_call 207;with_reducible refine aM (hO _ (HT.out.ext (by simp[go_sem]))) λos3 d3=>?_) | (go_at_call 123;with_reducible refine aM (hX _) λos4 d4=>?_));exact rc1 rfl rfl (by simp[go_sem]) ⟨rfl,by simp[go_sem]⟩
     ·rw[if_pos hg];have hg':(g != 0)=true:=by simpa using hg
      have hB:=λW=>zV g W;rw[show zE g=g by unfold zE;rw[if_neg (by omega)]] at hB;show Calls _ _ _ w λe w'=>e = .returned (VV 4 0 0 ⟨#[]⟩ false g)∧Ext w w';clear hg hfb;go_enter func168,ntmps168;go_wp2_with (first | (go_at_call 174;with_reducible refine aM (hP _) λos1 d1=>?_) | (go_at_call 206;with_reducible refine aM (hF _) λos2 d2=>?_) | (go_at_call 207;with_reducible refine aM (hO _ (HT.out.ext (by simp[go_sem]))) λos3 d3=>?_) | (go_at_call 57;with_reducible refine aM (hB _) λos4 d4=>?_));exact rc1 rfl rfl (by simp[go_sem]) ⟨rfl,by simp[go_sem]⟩
theorem zpV {a b} (h:a.kind=b.kind):zjy a b=if a.kind=1 then zat a.mant a.exp b.mant b.exp else if a.kind=2 then zg7 a.text b.text else if a.kind=3 then sgB a.truth b.truth else if a.kind=4 then sgI a.fault b.fault else 0:=by
 unfold zjy;rw[if_neg (λh'=>h' h)]
def Tri (n:Int):Prop:=n=-1∨n=0∨n=1
theorem ztg (a b):Tri (sgI a b):=by
 unfold sgI Tri;split
 ·exact Or.inl rfl
 ·split
  ·exact Or.inr (Or.inr rfl)
  ·exact Or.inr (Or.inl rfl)
theorem zlL (a b c d):Tri (zat a b c d):=by
 have:=ztX a b c d;unfold Tri;omega
theorem zrM (a b):Tri (zjy a b):=by
 by_cases h:a.kind=b.kind
 ·rw[zpV h];by_cases h1:a.kind=1
  ·rw[if_pos h1];exact zlL _ _ _ _
  ·rw[if_neg h1];by_cases h2:a.kind=2
   ·rw[if_pos h2];exact zjz _ _
   ·rw[if_neg h2];by_cases h3:a.kind=3
    ·rw[if_pos h3];cases a.truth <;> cases b.truth <;> (unfold Tri sgB;simp)
    ·rw[if_neg h3];by_cases h4:a.kind=4
     ·rw[if_pos h4];exact ztg _ _
     ·rw[if_neg h4];exact Or.inr (Or.inl rfl)
 ·unfold zjy;rw[if_pos h];split
  ·exact Or.inl rfl
  ·exact Or.inr (Or.inr rfl)
theorem zlM (a b):Tri (zaB a b):=zrM _ _
theorem zaT (f w):Calls prog 16 #[.int .i64 f] w λe w'=>zbB w (zT f) e w':=by
 go_enter func16,ntmps16;go_wp2_with (go_at_call 57;with_reducible refine aM (zV _ _) λos d=>?_);go_at_call 56
 refine(zdT (zx f) _ (zpC f) (zag f)).mono ?_;rintro e w' ⟨D,m,cc,rfl,hD,hb⟩;obtain⟨os2,d2,rfl⟩:=hb.more;clear hb;have hDr:=hD.rd;go_wp2_with fail;exact rc1 (v:=AV (zaj (zx f)).R (zaj (zx f)).C (.slice D m cc)) rfl rfl (by simp[go_sem]) (by(try simp only[zc,zj,zh,Array.append_assoc] at hDr);exact raS hDr hD (by simp <;> omega) (by simp[go_sem]))
abbrev zb3 (lo hi:Int) (f:Value):Value:=.agg #[.int .i64 lo,.int .i64 hi,f]
abbrev kbx (t:TypeId) (fid:FuncId):Obj:=.cells #[fn0 fid] t
def zfg (p : Nat → Nat) : Tab1 :=
  [([83, 85, 77], zb3 1 32 (fn1 88 (p 0))),
   ([80, 82, 79, 68, 85, 67, 84], zb3 1 32 (fn1 88 (p 1))),
   ([77, 73, 78], zb3 1 32 (fn1 88 (p 2))),
   ([77, 65, 88], zb3 1 32 (fn1 88 (p 3))),
   ([67, 79, 85, 78, 84], zb3 1 32 (fn1 95 (p 4))),
   ([67, 79, 85, 78, 84, 65], zb3 1 32 (fn1 95 (p 5))),
   ([65, 86, 69, 82, 65, 71, 69], zb3 1 32 (fn1 88 (p 6))),
   ([77, 69, 68, 73, 65, 78], zb3 1 32 (fn1 88 (p 7))),
   ([83, 85, 77, 80, 82, 79, 68, 85, 67, 84], zb3 1 32 (fn0 41)),
   ([76, 65, 82, 71, 69], zb3 2 2 (fn1 102 (p 8))),
   ([83, 77, 65, 76, 76], zb3 2 2 (fn1 102 (p 9))),
   ([67, 79, 85, 78, 84, 73, 70], zb3 2 2 (fn0 46)),
   ([83, 85, 77, 73, 70], zb3 2 3 (fn0 47)),
   ([65, 66, 83], zb3 1 1 (fn1 108 (p 10))),
   ([83, 73, 71, 78], zb3 1 1 (fn1 108 (p 11))),
   ([73, 78, 84], zb3 1 1 (fn1 108 (p 12))),
   ([82, 79, 85, 78, 68], zb3 2 2 (fn1 116 (p 13))),
   ([77, 79, 68], zb3 2 2 (fn1 116 (p 14))),
   ([80, 79, 87, 69, 82], zb3 2 2 (fn0 55))]
def zbv (p:Nat->Nat):List (Nat×Obj):=
 [(p 0,kbx 61 31),(p 1,kbx 61 32),(p 2,kbx 61 33),(p 3,kbx 61 35),(p 4,kbx 65 37),(p 5,kbx 65 38),(p 6,kbx 61 39),(p 7,kbx 61 40),(p 8,kbx 67 43),(p 9,kbx 67 45),(p 10,kbx 69 49),(p 11,kbx 69 50),(p 12,kbx 69 51),(p 13,kbx 71 53),(p 14,kbx 71 54)]
theorem zeP (p:Nat->Nat):(zfg p).Pairwise (λp q=>p.1≠q.1):=by simp[zfg]
theorem zgy (w):(zeroValue 43).run prog w = .ok (.agg #[.int .i64 0,.int .i64 0,.nilFunc]) w:=by kernel_rfl
theorem zaU (w:World) (o):(w.alloc o).heap[w.heap.size]? = some o:=Array.getElem?_push_size
theorem zkG (fid capt w) :
  Calls prog 30 #[.func (.func fid) #[] capt] w λe w'=>e = .returned (fn1 88 w.heap.size)∧w'=w.alloc (.cells #[.func (.func fid) #[] capt] 61):=by
 go_enter func30,ntmps30;go_wp2_with fail;go_ret;exact⟨rfl,rfl⟩
theorem zhY (fid capt w) :
  Calls prog 36 #[.func (.func fid) #[] capt] w λe w'=>e = .returned (fn1 95 w.heap.size)∧w'=w.alloc (.cells #[.func (.func fid) #[] capt] 65):=by
 go_enter func36,ntmps36;go_wp2_with fail;go_ret;exact⟨rfl,rfl⟩
theorem zoo (fid capt w) :
  Calls prog 42 #[.func (.func fid) #[] capt] w λe w'=>e = .returned (fn1 102 w.heap.size)∧w'=w.alloc (.cells #[.func (.func fid) #[] capt] 67):=by
 go_enter func42,ntmps42;go_wp2_with fail;go_ret;exact⟨rfl,rfl⟩
theorem zop (fid capt w) :
  Calls prog 48 #[.func (.func fid) #[] capt] w λe w'=>e = .returned (fn1 108 w.heap.size)∧w'=w.alloc (.cells #[.func (.func fid) #[] capt] 69):=by
 go_enter func48,ntmps48;go_wp2_with fail;go_ret;exact⟨rfl,rfl⟩
theorem zoq (fid capt w) :
  Calls prog 52 #[.func (.func fid) #[] capt] w λe w'=>e = .returned (fn1 116 w.heap.size)∧w'=w.alloc (.cells #[.func (.func fid) #[] capt] 71):=by
 go_enter func52,ntmps52;go_wp2_with fail;go_ret;exact⟨rfl,rfl⟩
def kP (l:List Nat) (i:Nat):Nat:=l.getD i 0
theorem zdx (w) :
  Calls prog 15 #[] w λe w'=>∃ b,e = .returned (.map (some b))∧∃ p,TabS prog 9 w b (zfg p) (zbv p) w':=by
 have hmm:=@run_makeMap prog;have hT:=TabS.start w prog 9;go_enter func15,ntmps15;go_wp2_with (first | (go_at_call 30;(with_reducible refine(zkG _ _ _).mono ?_);rintro e w' ⟨rfl,hw⟩;have hT:=hT.new (W':=w') (by rw[hw];exact(Ext.refl _).alloc _) (by rw[hw];exact zaU _ _);clear hw;(try(rw[show(w.alloc (Obj.map #[] 0)).heap.size=w.heap.size+1 by simp] at hT))) | (go_at_call 36;(with_reducible refine(zhY _ _ _).mono ?_);rintro e w' ⟨rfl,hw⟩;have hT:=hT.new (W':=w') (by rw[hw];exact(Ext.refl _).alloc _) (by rw[hw];exact zaU _ _);clear hw;(try(rw[show(w.alloc (Obj.map #[] 0)).heap.size=w.heap.size+1 by simp] at hT))) | (go_at_call 42;(with_reducible refine(zoo _ _ _).mono ?_);rintro e w' ⟨rfl,hw⟩;have hT:=hT.new (W':=w') (by rw[hw];exact(Ext.refl _).alloc _) (by rw[hw];exact zaU _ _);clear hw;(try(rw[show(w.alloc (Obj.map #[] 0)).heap.size=w.heap.size+1 by simp] at hT))) | (go_at_call 48;(with_reducible refine(zop _ _ _).mono ?_);rintro e w' ⟨rfl,hw⟩;have hT:=hT.new (W':=w') (by rw[hw];exact(Ext.refl _).alloc _) (by rw[hw];exact zaU _ _);clear hw;(try(rw[show(w.alloc (Obj.map #[] 0)).heap.size=w.heap.size+1 by simp] at hT))) | (go_at_call 52;(with_reducible refine(zoq _ _ _).mono ?_);rintro e w' ⟨rfl,hw⟩;have hT:=hT.new (W':=w') (by rw[hw];exact(Ext.refl _).alloc _) (by rw[hw];exact zaU _ _);clear hw;(try(rw[show(w.alloc (Obj.map #[] 0)).heap.size=w.heap.size+1 by simp] at hT))) | (refine ziR rfl _ _ _ _ rfl 9 43 Tryz.underlying9 Tryz.underlying45 _ _ rfl hT.tab (by simp only[List.length_append,List.length_nil,List.length_cons,maxLen];omega) _ rfl (by simp only[maxLen,ByteArray.size,List.size_toArray,List.length_cons,List.length_nil];omega) _ rfl ?_;intro w1 ht1 hg1;have hT:=hT.put ht1 hg1;clear ht1 hg1));go_ret;exact⟨w.heap.size,rfl,kP [_,_,_,_,_,_,_,_,_,_,_,_,_,_,_],hT⟩
def CS.str (c:CS):ByteArray:=⟨c.key.toArray⟩
theorem zpW (c:CS) (x s w) (hx:x.right) (hs:s.right) :
  Tl prog 170 #[VV x.kind x.mant x.exp x.text x.truth x.fault,.string c.str,VV s.kind s.mant s.exp s.text s.truth s.fault] w (.bool (zbQ c s x)):=by
 have hc:=λW=>zdI x s W hx.ok hs.ok;have htri:=zlM x s;unfold zbQ;by_cases hk:x.kind=s.kind
 ·rw[if_pos hk];have hk':(x.kind != s.kind)=false:=by simpa using hk
  clear hk hx hs;generalize zaB x s=n at *;cases c <;> (rcases htri with rfl | rfl | rfl) <;> (simp only[CS.str,CS.key];go_enter func170,ntmps170;go_wp2_with (first | (go_at_call 208;with_reducible refine aM (hc _) λos d=>?_));go_ret;exact⟨rfl,by simp[go_sem]⟩)
 ·rw[if_neg hk];have hk':(x.kind != s.kind)=true:=by simpa using hk
  clear hk hx hs hc htri;cases c <;> (simp only[CS.str,CS.key];go_enter func170,ntmps170;go_wp2_with fail;go_ret;exact⟨rfl,by simp[go_sem]⟩)
def csL:List CS:=[.ge,.le,.ne,.gt,.lt,.eq]
def ziq (s:ByteArray):Option CS:=csL.find? λc=>Lib.hasPrefix s.data.toList c.key
def zaf (v:Val):CS×Val:=if v.kind=2 then match ziq v.text with
 | some c=>(c,zbn ⟨(Lib.trimPrefix v.text.data.toList c.key).toArray⟩)
 | none=>(.eq,v) else(.eq,v)
theorem znH {s} {k:Nat} {c:CS} (h:∀ j c',j<k->csL[j]? = some c'->Lib.hasPrefix s.data.toList c'.key=false) (hc:csL[k]? = some c) (hp:Lib.hasPrefix s.data.toList c.key=true):ziq s=some c:=by
 unfold ziq;generalize csL=L at *;induction L generalizing k with
 | nil=>simp at hc
 | cons a L ih=>
  cases k with
  | zero=>
   obtain rfl:a=c:=by simpa using hc
   rw[List.find?_cons_of_pos (by exact hp)]
  | succ k=>
   rw[List.find?_cons_of_neg (by rw[h 0 a (by omega) rfl];simp)];exact ih (k:=k) (λj c' hj hc'=>h (j+1) c' (by omega) (by simpa using hc')) (by simpa using hc)
theorem zkm {s} (h:∀ j c',j<6->csL[j]? = some c'->Lib.hasPrefix s.data.toList c'.key=false):ziq s=none:=by
 unfold ziq;rw[List.find?_eq_none];intro c hc;obtain⟨j,hj,rfl⟩:=List.mem_iff_getElem.1 hc;rw[h j _ (by simpa[csL] using hj) (List.getElem?_eq_getElem hj)];simp
theorem zpX (s:ByteArray) (p):(ByteArray.mk (Lib.trimPrefix s.data.toList p).toArray).size<=s.size:=by
 show(Lib.trimPrefix s.data.toList p).toArray.size<=s.data.size;rw[List.size_toArray];unfold Lib.trimPrefix;split
 ·rw[List.length_drop,Array.length_toList];omega
 ·rw[Array.length_toList];omega
theorem zkH (s p w) :
  Tl prog 167 #[.string s,.string p] w (.tuple #[.string ⟨(Lib.trimPrefix s.data.toList p.data.toList).toArray⟩,.bool (Lib.hasPrefix s.data.toList p.data.toList)]):=
 (Tryz.strings_CutPrefix s p w).mono λe w' ⟨h1,h2⟩=>⟨h1,by rw[h2];exact Ext.refl _⟩
structure CritAt (w:World) (p1 p2:Nat) (c:CS) (s:Val):Prop where
 sign:w.cell? ⟨p1,0,none⟩=some (.string c.str)
 val:zb7 w p2 0 s
theorem CritAt.ext {w w' p1 p2} {c:CS} {s} (h:CritAt w p1 p2 c s) (hx:Ext w w'):CritAt w' p1 p2 c s:=⟨hx.cell_some h.sign,h.val.ext hx⟩
theorem zgS (x:Val) (w) (h4:x.kind=4) :
  Tl prog 107 #[VV x.kind x.mant x.exp x.text x.truth x.fault] w (.tuple #[.nilFunc,.int .i64 x.fault]):=by
 obtain⟨xk,xm,xe,xt,xb,xf⟩:=x;simp only at h4;subst h4;simp only;go_enter func107,ntmps107;go_upto_region 2 with fail;go_region
 all_goals
  go_wp2_with fail;exact rt2 rfl rfl ⟨rfl,by simp[go_sem]⟩
theorem zdy (x w) (hx:x.right) (h4:x.kind≠4) (hft:zbT w) :
  Calls prog 107 #[VV x.kind x.mant x.exp x.text x.truth x.fault] w λe w'=>∃ p1 p2,e = .returned (.tuple #[.func (.func 169) #[] #[.pointer (some ⟨p1,0,none⟩),.pointer (some ⟨p2,0,none⟩)],.int .i64 0])∧CritAt w' p1 p2 (zaf x).1 (zaf x).2∧w.heap.size<=p1∧w.heap.size<=p2∧Ext w w':=by
 have h4':(x.kind==4)=false:=by simpa using h4
 have hts:x.kind=2->x.text.size<=255:=(zbG hx).2.2.1;have HT:=Lib.hid hft;obtain⟨X,hX⟩:∃ X,zaf x=X:=⟨_,rfl⟩;rw[hX];have HX:=Lib.hid hX;obtain⟨xk,xm,xe,xt,xb,xf⟩:=x;simp only at h4' hts;clear hx h4 hft hX;go_enter func107,ntmps107;go_upto_region 3 with fail;go_cut [4,5] (λs4 s5 wx=>∃ pa pb:Nat,s4 = .pointer (some ⟨pa,0,none⟩)∧s5 = .pointer (some ⟨pb,0,none⟩)∧Ext w wx∧w.heap.size<pa∧w.heap.size<pb∧pa≠pb∧wx.cell? ⟨pa,0,none⟩=some (.string ⟨#[61]⟩)∧wx.frozen? ⟨pa,0,none⟩=false∧VS pb xk xm xe xt xb xf wx∧(∀ j,j<6->wx.frozen? ⟨pb,j,none⟩=false)∧VS w.heap.size xk xm xe xt xb xf wx)
 case first=>
  go_region
  ·go_wp2_with fail;go_meet;refine⟨_,_,rfl,rfl,by simp[go_sem],?_,?_,?_,?_,?_,?_,?_,?_⟩;all_goals first | (simp;done) | (simp;omega) | (simp[go_sem];done) | (refine⟨by first | (simp;done) | (simp;omega),?_,?_,?_,?_,?_,?_⟩ <;> (simp[go_sem];done)) | (intro j hj;simp[go_sem];done)
  ·go_wp2_with fail;go_meet;refine⟨_,_,rfl,rfl,by simp[go_sem],?_,?_,?_,?_,?_,?_,?_,?_⟩;all_goals first | (simp;done) | (simp;omega) | (simp[go_sem];done) | (refine⟨by first | (simp;done) | (simp;omega),?_,?_,?_,?_,?_,?_⟩ <;> (simp[go_sem];done)) | (intro j hj;simp[go_sem];done)
 case rest=>
 obtain⟨pa,pb,rfl,rfl,hxU,ha,hb,hne,c0,f0,⟨lb,e0,e1,e2,e3,e4,e5⟩,fb,⟨lw,g0,g1,g2,g3,g4,g5⟩⟩:=hcut;have la:=za c0;have fb0:=fb 0 (by omega);have fb1:=fb 1 (by omega);have fb2:=fb 2 (by omega);have fb3:=fb 3 (by omega);have fb4:=fb 4 (by omega);have fb5:=fb 5 (by omega);have hne':=Ne.symm hne;by_cases k2:xk=2
 ·subst k2;have hts2:=hts rfl;have hXo:=HX.out;unfold zaf at hXo;rw[if_pos rfl] at hXo;simp only at hXo;have HXo:=Lib.hid hXo;clear hts HX hXo fb;go_upto_region 6 with fail;refine zH λU hU=>?_;have hx0:Ext wc U:=by rw[hU];exact(by simp[go_sem])
  have hrow:U.heap[wc.heap.size]? = some (.cells (csL.map λc=>Value.string c.str).toArray 9):=by rw[hU];exact zaU _ _
  have hrd:=Rd.of_row hrow 0 (Nat.zero_le _);have hbs:=z7 hrow;have HLA:=Lib.hid la;have HLB:=Lib.hid lb;generalize wc.heap.size=bs at hrow hrd hbs la lb lw⊢;clear hU hrow;go_loopw [21] (λi wr=>∃ k:Nat,k<=6∧i = .int .i64 (k:Int)∧Hid (∀ j c',j<k->csL[j]? = some c'->Lib.hasPrefix xt.data.toList c'.key=false)∧Ext U wr) (λi _=>6-(intOf i).toNat)
  case atStart=>exact⟨0,by omega,rfl,λj c' hj=>absurd hj (by omega),Ext.refl _⟩
  case round=>
   obtain⟨k,hk,rfl,HN,hxr⟩:=hrel;have hx1:Ext wc wr:=hx0.trans hxr;replace f0:wr.frozen? ⟨pa,0,none⟩=false:=by rw[hx1.frozen (p:=⟨pa,0,none⟩) HLA.out];exact f0
   replace fb0:wr.frozen? ⟨pb,0,none⟩=false:=by rw[hx1.frozen (p:=⟨pb,0,none⟩) HLB.out];exact fb0
   replace fb1:wr.frozen? ⟨pb,1,none⟩=false:=by rw[hx1.frozen (p:=⟨pb,1,none⟩) HLB.out];exact fb1
   replace fb2:wr.frozen? ⟨pb,2,none⟩=false:=by rw[hx1.frozen (p:=⟨pb,2,none⟩) HLB.out];exact fb2
   replace fb3:wr.frozen? ⟨pb,3,none⟩=false:=by rw[hx1.frozen (p:=⟨pb,3,none⟩) HLB.out];exact fb3
   replace fb4:wr.frozen? ⟨pb,4,none⟩=false:=by rw[hx1.frozen (p:=⟨pb,4,none⟩) HLB.out];exact fb4
   replace fb5:wr.frozen? ⟨pb,5,none⟩=false:=by rw[hx1.frozen (p:=⟨pb,5,none⟩) HLB.out];exact fb5
   replace c0:=hx1.cell_some c0;replace e0:=hx1.cell_some e0;replace e1:=hx1.cell_some e1;replace e2:=hx1.cell_some e2;replace e3:=hx1.cell_some e3;replace e4:=hx1.cell_some e4;replace e5:=hx1.cell_some e5;replace g2:=hx1.cell_some g3;clear g0 g1 g3 g4 g5;replace la:=za c0;replace lb:=za e0;replace lw:=za g2;replace hbs:=Nat.lt_of_lt_of_le hbs hxr.size;have HT2:=Lib.hid ((HT.out.ext hxU).ext hx1);by_cases hlt:k<6
   ·have hc:csL[k]? = some (csL[k]'(by simpa[csL] using hlt)):=List.getElem?_eq_getElem _;generalize csL[k]'(by simpa[csL] using hlt)=c at hc;obtain⟨b',off',he,_,qk⟩:=hrd k (.string c.str) (by simp[hc]);obtain⟨rfl,rfl⟩:=aI he;rw[Nat.zero_add] at qk;replace qk:=hxr.cell_some qk;have hcp:=λW=>zkH xt c.str W;rw[show c.str.data.toList=c.key from rfl] at hcp;have hts3:=zpX xt c.key;generalize hr:(ByteArray.mk (Lib.trimPrefix xt.data.toList c.key).toArray)=rest at *;have HX2:=HXo.out;cases hp:Lib.hasPrefix xt.data.toList c.key with
    | true=>
     rw[znH HN.out hc hp] at HX2;simp only[hr] at HX2;rw[hp] at hcp;have hrdv:=λW h=>zpU rest W (by omega) h;have HX3:=Lib.hid HX2;generalize zbn rest=y at *;generalize hcs:c.str=cs at *;have HCS:=Lib.hid hcs;clear hcs;clear HN hc hp HX2 hr hrd HXo;go_wp2_with (first | (go_at_call 167;with_reducible refine aM (hcp _) λos1 d1=>?_) | (go_at_call 168;with_reducible refine aM (hrdv _ (HT2.out.ext (by simp[go_sem]))) λos2 d2=>?_));refine bodyPost_ret (v:=.tuple #[.func (.func 169) #[] #[.pointer (some ⟨pa,0,none⟩),.pointer (some ⟨pb,0,none⟩)],.int .i64 0]) (by simp[results,results107,go_sem]) rfl ⟨pa,pb,rfl,?_,by omega,by omega,Ext.more_ (Ext.set (Ext.set (Ext.set (Ext.set (Ext.set (Ext.set (Ext.set (hxU.trans hx1) _ (by first | omega | (simp;omega))) _ (by first | omega | (simp;omega))) _ (by first | omega | (simp;omega))) _ (by first | omega | (simp;omega))) _ (by first | omega | (simp;omega))) _ (by first | omega | (simp;omega))) _ (by first | omega | (simp;omega))) _ _⟩;rw[<-HX3.out];refine⟨?_,?_,?_,?_,?_,?_,?_⟩
     ·rw[HCS.out];go_simp
     all_goals go_simp
    | false=>
     rw[hp] at hcp;have HN2:Hid (∀ j c',j<k+1->csL[j]? = some c'->Lib.hasPrefix xt.data.toList c'.key=false):=λj c' hj hc'=>by
      by_cases e:j=k
      ·subst e;rw[hc] at hc';obtain rfl:=Option.some.inj hc';exact hp
      ·exact HN.out j c' (by omega) hc'
     clear HN hc hp HX2 hr hrd HXo;generalize c.str=cs at *;go_wp2_with (first | (go_at_call 167;with_reducible refine aM (hcp _) λos1 d1=>?_));exact⟨⟨k+1,by omega,by go_num,HN2,hxr.trans (by simp[go_sem])⟩,by simp[intOf];omega⟩
   ·obtain rfl:k=6:=by omega
    have HX2:=HXo.out;rw[zkm HN.out] at HX2;simp only at HX2;clear hrd HN HXo;go_wp2_with fail;exact rt2 rfl rfl ⟨pa,pb,rfl,by rw[<-HX2];exact⟨c0,e0,e1,e2,e3,e4,e5⟩,by omega,by omega,hxU.trans hx1⟩
 ·have k2':(xk==2)=false:=by simpa using k2
  have hXo:(CS.eq,(⟨xk,xm,xe,xt,xb,xf⟩:Val))=X:=by rw[<-HX.out];unfold zaf;rw[if_neg k2]
  clear hts HX fb k2;go_wp2_with fail;exact rt2 rfl rfl ⟨pa,pb,rfl,by rw[<-hXo];exact⟨c0,e0,e1,e2,e3,e4,e5⟩,by omega,by omega,hxU⟩
abbrev zbh (w:World) (X:NA):Ending->World->Prop:=λe w'=>∃ D m cc,e = .returned (.tuple #[AV X.R X.C (.slice D m cc),.bool true])∧ArrN w.heap.size w' D m cc X.l∧Ext w w'
theorem zt9 {gs:List GA} (h:∀ j g,j<gs.length->gs[j]? = some g->g.right=true):∀ g∈gs,g.right=true:=by
 intro g hg;obtain⟨j,hj,rfl⟩:=List.mem_iff_getElem.1 hg;exact h j _ hj (List.getElem?_eq_getElem hj)
@[go_sem] theorem zuV (r c s w):(Instr.field 27 (AV r c s) 2).run prog w = .ok s w:=by
 first | rfl | kernel_rfl
def zlN (xs:List Ar) (k:Nat):Bool:=match xs[k]? with
 | none=>false
 | some a=>!(a.x.R==1&&a.x.C==1&&(zaI a.x.l 0).kind==0)
def zaR (xs:List Ar) (k:Nat):Val:=match xs[k]? with
 | none=>Val.zero
 | some a=>zaI a.x.l 0
def zI (xs:List Ar) (k:Nat):NA:=match xs[k]? with
 | none=>⟨0,0,[]⟩
 | some a=>a.x
theorem ArgsIn.first {w A n cap xs} (h:ArgsIn w A n cap xs) {k} (hk:k<n) :
  ∃ (R C:Nat) (l:List Val) (b1 off1 n1 cap1 b off:Nat) (x:Val),xs[k]? = some ⟨⟨R,C,l⟩,some ⟨b1,off1,none⟩,n1,cap1⟩∧A=some ⟨b,off,none⟩∧zio w b (off+k*3) ⟨⟨R,C,l⟩,some ⟨b1,off1,none⟩,n1,cap1⟩∧0<n1∧n1<=cap1∧zb7 w b1 off1 x∧zaI l 0=x∧x.right∧b<w.heap.size∧b1<w.heap.size∧zaR xs k=x∧zlN xs k = !(R==1&&C==1&&x.kind==0)∧ArrIn w (some ⟨b1,off1,none⟩) n1 cap1 l∧l[0]? = some x:=by
 obtain⟨⟨⟨R,C,l⟩,A1,n1,cap1⟩,b,off,ha,rfl,hat,hok⟩:=h.at hk;obtain⟨r1,r2,r3,r4,r5⟩:=zC.1 hok.right;have hl:l.length=n1:=hok.arr.len;have hn1:0<n1:=by rw[<-hl,r4];exact Nat.mul_pos r1 r2
 obtain⟨x,b1,off1,hx,_,hA,hv⟩:=hok.arr.at hn1;rw[Nat.zero_mul,Nat.add_zero] at hv;have hA':A1=some ⟨b1,off1,none⟩:=hA;subst hA';have hgv:zaI l 0=x:=by unfold zaI;rw[hx];rfl
 have hxr:x.right:=r5 x (List.mem_of_getElem? hx);have hav:zaR xs k=x:=by unfold zaR;rw[ha];exact hgv
 have hgb:zlN xs k = !(R==1&&C==1&&x.kind==0):=by unfold zlN;rw[ha,<-hgv]
 exact⟨R,C,l,b1,off1,n1,cap1,b,off,x,ha,rfl,hat,hn1,hok.arr.cap,hv,hgv,hxr,za hat.1,za hv.1,hav,hgb,hok.arr,hx⟩
theorem zua {n} (h:n.natAbs<T 15):(zdJ n).ok:=(zaN (zbu h).2.1).ok
theorem zfT {n} (h:n.natAbs<T 15):(zdJ n).right:=zaN (zbu h).2.1
theorem za2 {X W w3 ty size n v xs} (hx:Ext X W) (ho:W.ownsRow X.heap.size ty size v n xs) (hg:W.grownBy w3 v.ownBlock):Ext X w3:=
 ⟨hg.os.trans hx.os,hg.tape.trans hx.tape,hg.output.trans hx.output,Nat.le_trans hx.size hg.size,λb hb=>(hg.block b (Nat.lt_of_lt_of_le hb hx.size) (λe=>by have:=zfz ho _ e.symm;omega)).trans (hx.block hb)⟩
theorem zdK:(Tryz.prog.info? 36).map (λi=>(i.zero,i.size,i.bytes))=some (some (NV 0 0),2,16):=by kernel_rfl
theorem zeg (n w) (htab:Tab w) (hn:n.natAbs<T 15) :
  Tl prog 96 #[.int .i64 n] w (NV (zl n).1 (zl n).2):=by
 have hi:I64 n:=by have:T 15=1000000000000000:=(by decide);unfold I64;omega
 have hm:=λW h=>zre n 0 W h hi (by unfold I64;omega);rw[show rnd (decide (n<0)) n.natAbs false 0=some (zl n) from(zbu hn).1] at hm;simp only[rnV,rm,re,Option.getD_some,Option.isSome_some] at hm;have HT:=Lib.hid htab;clear htab hn hi;generalize (zl n).1=m1 at *;generalize (zl n).2=m2 at *;go_enter func96,ntmps96;go_wp2_with (first | (go_at_call 158;with_reducible refine aM (hm _ (HT.out.ext (by simp[go_sem]))) λos d=>?_));exact rc1 rfl rfl (by simp[go_sem]) ⟨rfl,by simp[go_sem]⟩
theorem zeA (r:Option Nm) (w) :
  Tl prog 91 #[NV (rm r) (re r),.bool r.isSome] w (VV (zo r).kind (zo r).mant (zo r).exp (zo r).text (zo r).truth (zo r).fault):=by
 cases r with
 | none=>
  show Calls _ _ #[NV 0 0,.bool false] w λe w'=>e = .returned (VV 4 0 0 ⟨#[]⟩ false 5)∧Ext w w';have hb:=λW=>zV 5 W;simp only[show zE 5=5 by decide] at hb;go_enter func91,ntmps91;go_wp2_with (first | (go_at_call 57;with_reducible refine aM (hb _) λos d=>?_));exact rc1 rfl rfl (by simp[go_sem]) ⟨rfl,by simp[go_sem]⟩
 | some p=>
  obtain⟨m,e⟩:=p;show Calls _ _ #[NV m e,.bool true] w λe' w'=>e' = .returned (VV 1 m e ⟨#[]⟩ false 0)∧Ext w w';go_enter func91,ntmps91;go_wp2_with (first | (go_at_call 93;with_reducible refine aM (zcQ _ _ _) λos d=>?_));exact rc1 rfl rfl (by simp[go_sem]) ⟨rfl,by simp[go_sem]⟩
def Nms (base:Nat) (w:World) (v:Value) (l:List Nm):Prop:=w.ownsRow base 36 2 v l.length (zN l)
theorem zcf (l):∀ u∈zN l,u.oneCell'=true:=by
 intro u hu;simp only[zN,List.mem_flatMap] at hu;obtain⟨p,_,hp⟩:=hu;simp only[List.mem_cons,List.not_mem_nil,or_false] at hp;rcases hp with rfl | rfl <;> rfl
def noF (l:List Val):Prop:=∀ x∈l,x.kind≠4
theorem zpY {l} (h:noF l):ffL l=0:=by
 induction l with
 | nil=>rfl
 | cons v l ih=>unfold ffL;rw[if_neg (h v (by simp))];exact ih λx hx=>h x (by simp[hx])
theorem zpZ {l k x} (h:noF (l.take k)) (hx:l[k]? = some x) (h4:x.kind=4):ffL l=x.fault:=by
 induction l generalizing k with
 | nil=>simp at hx
 | cons v l ih=>
  cases k with
  | zero=>
   obtain rfl:v=x:=by simpa using hx
   unfold ffL;rw[if_pos h4]
  | succ k=>
   unfold ffL;rw[if_neg (h v (by simp))];exact ih (λy hy=>h y (by rw[List.take_succ_cons];exact List.mem_cons_of_mem _ hy)) (by simpa using hx)
theorem zlO {l:List Val} {k x} (h:noF (l.take k)) (hx:l[k]? = some x) (h4:x.kind≠4):noF (l.take (k+1)):=by
 intro y hy;rw[List.take_add_one,hx] at hy;rcases List.mem_append.1 hy with hy | hy
 ·exact h y hy
 ·obtain rfl:y=x:=by simpa using hy
  exact h4
theorem zhi {l} (hr:∀ x∈l,x.right) (h:ffL l=0):noF l:=by
 induction l with
 | nil=>intro x hx;cases hx
 | cons v l ih=>
  have hv:v.kind≠4:=by
   intro h4;unfold ffL at h;rw[if_pos h4] at h;have:=(zbG (hr v (by simp))).2.2.2 h4;omega
  unfold ffL at h;rw[if_neg hv] at h;intro x hx;rcases List.mem_cons.1 hx with rfl | hx
  ·exact hv
  ·exact ih (λy hy=>hr y (by simp[hy])) h x hx
theorem zlP (l l'):zu (l++l')=zu l++zu l':=by
 induction l with
 | nil=>rfl
 | cons v l ih=>simp only[List.cons_append,zu];split <;> simp[ih]
theorem zi2 {l:List Val} {k x} (hx:l[k]? = some x):zu (l.take (k+1))=zu (l.take k)++(if x.kind=1 then[(x.mant,x.exp)] else[]):=by
 rw[List.take_add_one,hx,zlP];congr 1
theorem zbf (l):(zu l).length<=l.length:=by
 induction l with
 | nil=>simp[zu]
 | cons v l ih=>unfold zu;split <;> simp <;> omega
theorem zav (A n cap l w) (h:ArrIn w A n cap l) (hn:n<=1000000) :
  Calls prog 89 #[.slice A n cap] w λe w'=>∃ v,e = .returned (.tuple #[v,.int .i64 (ffL l)])∧(noF l->Nms w.heap.size w' v (zu l))∧Ext w w':=by
 obtain⟨i0,hi0,hz0,hz1,hz2⟩:=info_parts zdK;have hlen:=h.len;have H:=Lib.hid h;have HL:=Lib.hid hlen;clear h hlen;generalize hFF:ffL l=F at *;have HF:=Lib.hid hFF;clear hFF;go_enter func89,ntmps89;go_wp2_with fail;go_loopw [4,9] (λv i wr=>∃ k:Nat,k<=n∧i = .int .i64 (k:Int)∧Hid (noF (l.take k))∧Hid (Nms w.heap.size wr v (zu (l.take k)))∧Ext w wr) (λ_ i _=>n-(intOf i).toNat)
 case atStart=>exact⟨0,Nat.zero_le _,rfl,λx hx=>by simp at hx,World.ownsRow_nil _ _ _ _,Ext.refl _⟩
 case round=>
  obtain⟨k,hk,rfl,HN,HW,hxr⟩:=hrel;have hsz:=hxr.size;by_cases hlt:k<n
  ·obtain⟨x,b,off,hx,hxo,rfl,hat⟩:=H.out.at hlt;have hcap:=H.out.cap;obtain⟨v0,v1,v2,v3,v4,v5⟩:=hat.ext hxr;have hbl:=za v0;obtain⟨xk,xm,xe,xt,xb,xf⟩:=x;simp only at v0 v1 v2 v3 v4 v5;by_cases h4:xk=4
   ·subst h4;have hf:=zpZ HN.out hx rfl;rw[HF.out] at hf;simp only at hf;subst hf;clear HN HW hat;go_upto_region 7 with fail;go_region
    all_goals
     go_wp2_with fail;exact rt2 rfl rfl ⟨_,rfl,λhno=>absurd rfl (hno _ (List.mem_of_getElem? hx)),hxr.trans (by simp[go_sem])⟩
   ·have h4':(xk==4)=false:=by simpa using h4
    have HN2:Hid (noF (l.take (k+1))):=Lib.hid (zlO HN.out hx h4);have HS:=Lib.hid (zi2 hx);by_cases h1:xk=1
    ·subst h1;have hle:(zu (l.take k)).length<=1000000:=by have:=zbf (l.take k);rw[List.length_take] at this;omega
     clear hx hat HN h4;go_wp2_with (at_builtin;refine wpList_append_own _ rfl _ _ _ rfl w.heap.size 36 i0 (NV 0 0) 2 16 Tryz.underlying62 hi0 hz0 hz1 hz2 rfl (by decide) _ (zu (l.take k)).length (zN (zu (l.take k))) rfl (zL HW.out (by simp[go_sem])) _ 1 1 [.int .i64 xm,.int .i64 xe] rfl rfl (zap _ _ _ (by first | rfl | (simp;done)) rfl _) (zcf [(xm,xe)]) (by simp only[maxLen];omega) (by omega) (by simp;omega) ?_;intro v4 w4 ho4 hg4 _);have hx4:=za2 (hxr.trans (by simp[go_sem])) (zL HW.out (by simp[go_sem])) hg4;refine⟨⟨k+1,by omega,by go_num,HN2,?_,hx4⟩,by simp[intOf];omega⟩;show World.ownsRow _ _ _ _ _ _ _;rw[HS.out,if_pos rfl,za0,List.length_append];exact ho4
    ·have h1':(xk==1)=false:=by simpa using h1
     clear hx hat HN h4;go_wp2_with fail;refine⟨⟨k+1,by omega,by go_num,HN2,?_,hxr.trans (by simp[go_sem])⟩,by simp[intOf];omega⟩;show World.ownsRow _ _ _ _ _ _ _;rw[HS.out,if_neg h1,List.append_nil];exact zL HW.out (by simp[go_sem])
  ·obtain rfl:k=n:=by omega
   go_wp2_with fail;have htk:l.take k=l:=by rw[<-HL.out];exact List.take_length
   refine bodyPost_ret (v:=.tuple #[u4,.int .i64 0]) (by simp[results,results89,go_sem]) rfl ⟨u4,?_,λ_=>?_,hxr⟩
   ·rw[<-HF.out,zpY (by have:=HN.out;rwa[htk] at this)]
   ·have:=HW.out;rwa[htk] at this
end Go.Proofs.YtinjdacijiohiaaGreatDoor
namespace Go.Proofs.YtinjdacijiohiaaGreatDoor
open _root_.Go.Proofs.Tryz
open Go.RowKit
theorem zp0 (R C i j A n cap l w) (h:ArrIn w A n cap l) (hn:n=R*C) (hN:n<=4096) (hi:i<R) (hj:j<C) (x) (hx:zaI l (i*C+j)=x) (i' j':Int) (ei:i'=i) (ej:j'=j) :
  Tl prog 82 #[AV R C (.slice A n cap),.int .i64 i',.int .i64 j'] w (VV x.kind x.mant x.exp x.text x.truth x.fault):=by
 subst ei ej;exact zol R C i j A n cap l w h hn hN hi hj x hx
structure Still (lo pa:Nat) (W0 W W':World):Prop where
 os:W'.os=W.os
 tape:W'.tape=W.tape
 output:W'.output=W.output
 size:W.heap.size<=W'.heap.size
 block:∀ b,b<W.heap.size->(b<lo∧b≠pa)∨W0.heap.size<=b->W'.heap[b]? = W.heap[b]?
theorem Still.of_ext {lo pa W0 W W'} (h:Ext W W'):Still lo pa W0 W W':=⟨h.os,h.tape,h.output,h.size,λ_ hb _=>h.block hb⟩
theorem Still.trans {lo pa W0 a b c} (h:Still lo pa W0 a b) (k:Still lo pa W0 b c):Still lo pa W0 a c:=
 ⟨k.os.trans h.os,k.tape.trans h.tape,k.output.trans h.output,Nat.le_trans h.size k.size,λi hi hc=>(k.block i (Nat.lt_of_lt_of_le hi h.size) hc).trans (h.block i hi hc)⟩
theorem zub {w:World} {base e size n v xs} (h:w.ownsRow base e size v n xs):∀ k,v.ownBlock=some k->k<w.heap.size:=by
 intro k hk;rcases h.2 with⟨rfl,_⟩ | ⟨g,cap,cur,rfl,hg,hh,_⟩
 ·cases hk
 ·simp only[Value.ownBlock,Option.some.injEq] at hk;subst hk;exact zG hh
theorem Still.set {lo pa W0 W W'} (h:Still lo pa W0 W W') {p} (v) (hp:W.heap.size<=p.block):Still lo pa W0 W (W'.setCell p v):=
 ⟨h.os,h.tape,h.output,by simp only[World.setCell,Array.size_modify];exact h.size,λb hb hc=>(Below.heap_setCell _ _ _ _ (by omega)).trans (h.block b hb hc)⟩
structure Aside (lo hi:Nat) (W W':World):Prop where
 os:W'.os=W.os
 tape:W'.tape=W.tape
 output:W'.output=W.output
 size:W.heap.size<=W'.heap.size
 block:∀ b,b<W.heap.size->¬ (lo<=b∧b<hi)->W'.heap[b]? = W.heap[b]?
theorem Aside.of_ext {lo hi W W'} (h:Ext W W'):Aside lo hi W W':=⟨h.os,h.tape,h.output,h.size,λ_ hb _=>h.block hb⟩
theorem Aside.trans {lo hi a b c} (h:Aside lo hi a b) (k:Aside lo hi b c):Aside lo hi a c:=
 ⟨k.os.trans h.os,k.tape.trans h.tape,k.output.trans h.output,Nat.le_trans h.size k.size,λi hi' hc=>(k.block i (Nat.lt_of_lt_of_le hi' h.size) hc).trans (h.block i hi' hc)⟩
theorem Aside.set {lo hi} (W) {p} (v) (h1:lo<=p.block) (h2:p.block<hi):Aside lo hi W (W.setCell p v):=
 ⟨rfl,rfl,rfl,by simp[World.setCell],λb hb hc=>Below.heap_setCell _ _ _ _ (by omega)⟩
structure FSpec (fid:FuncId) (capt:Array Value) (t:Val->Val) (base lo pa:Nat) (J:List Val->World->Prop):Prop where
 ext:∀ L W W',Ext W W'->J L W->J L W'
 keep:∀ L W W',Keep (lo-3) W W'->J L W->J L W'
 call:∀ L x W0 W,J L W0->Ext W0 W->lo<=W0.heap.size->x.ok->valRight x=true->L.length<4096 ->
  Calls prog fid (#[VV x.kind x.mant x.exp x.text x.truth x.fault]++capt) W λe W'=>e = .returned (VV (t x).kind (t x).mant (t x).exp (t x).text (t x).truth (t x).fault)∧(∀ W'',Aside W0.heap.size W.heap.size W' W''->J (L++[x]) W'')∧Still lo pa W0 W W'
 ok:∀ x,x.ok->valRight x=true->(t x).ok
 far:∀ L W (p:Addr) v,base<=p.block->p.block<lo->J L W->J L (W.setCell p v)
theorem zrN (fid capt W):(binOp .eql 104 (.func (.func fid) #[] capt) .nilFunc).run prog W = .ok (.bool false) W:=by
 first
 | kernel_rfl
 | rfl
def zev (pf px b off:Nat) (F:Value) (r c:Int) (A:Option Addr) (n cap:Nat) (x:Val) (W:World):Prop:=
 W.heap[pf]? = some (.cells #[F] 104)∧W.heap[px]? = some (.cells #[.int .i64 r,.int .i64 c,.slice A n cap] 27)∧zb7 W b off x
theorem zb7.block {w w' b o x} (h:zb7 w b o x) (hb:w'.heap[b]? = w.heap[b]?):zb7 w' b o x:=by
 unfold zb7 at *;rw[World.cell?_of_block (a:=⟨b,o,none⟩) hb,World.cell?_of_block (a:=⟨b,o+1,none⟩) hb,World.cell?_of_block (a:=⟨b,o+2,none⟩) hb,World.cell?_of_block (a:=⟨b,o+3,none⟩) hb,World.cell?_of_block (a:=⟨b,o+4,none⟩) hb,World.cell?_of_block (a:=⟨b,o+5,none⟩) hb];exact h
theorem zev.blocks {pf px b off F r c A n cap x W W'} (h:zev pf px b off F r c A n cap x W) (h1:W'.heap[pf]? = W.heap[pf]?) (h2:W'.heap[px]? = W.heap[px]?) (h3:W'.heap[b]? = W.heap[b]?):zev pf px b off F r c A n cap x W':=
 ⟨h1.trans h.1,h2.trans h.2.1,h.2.2.block h3⟩
theorem zev.ext {pf px b off F r c A n cap x W W'} (h:zev pf px b off F r c A n cap x W) (hx:Ext W W'):zev pf px b off F r c A n cap x W':=
 h.blocks (hx.block (zG h.1)) (hx.block (zG h.2.1)) (hx.block h.2.2.lt)
theorem zp1 (fid capt) (t:Val->Val) (base s0 pa) (J:List Val->World->Prop) (spec:FSpec fid capt t base (s0+3) pa J) (hent:∀ (args:Array Value) (W:World),(callFunc fid args).run prog W = .ok (.enter fid args) W) (R C i j n cap pf px b off:Nat) (x L W) (hJ:J L W) (hs:s0+3<=W.heap.size) (hL:L.length<4096) (hE:zev pf px b (off+(i*C+j)*6) (.func (.func fid) #[] capt) R C (some ⟨b,off,none⟩) n cap x W) (hpf:pf<s0) (hpx:px<s0) (hb:b<s0) (npf:pf≠pa) (npx:px≠pa) (nb:b≠pa) (hxo:x.ok) (hxr:valRight x=true) (hn:n=R*C) (hN:n<=4096) (hi:i<R) (hj:j<C) :
  Calls prog 172 #[.int .i64 i,.int .i64 j,.pointer (some ⟨pf,0,none⟩),.pointer (some ⟨px,0,none⟩)] W λe W'=>e = .returned (VV (zaQ (t x)).kind (zaQ (t x)).mant (zaQ (t x)).exp (zaQ (t x)).text (zaQ (t x)).truth (zaQ (t x)).fault)∧J (L++[x]) W'∧Still (s0+3) pa W W W':=by
 obtain⟨hk,hk2⟩:=zcA R hi hj (by omega);have hkn:i*C+j<n:=by omega
 have w1:IntKind.i64.wrap ((i:Int)*(C:Int))=((i*C:Nat):Int):=by rw[IntKind.wrap_i64,Int.natCast_mul];omega
 have w2:IntKind.i64.wrap (((i*C:Nat):Int)+(j:Int))=((i*C+j:Nat):Int):=by rw[IntKind.wrap_i64];omega
 have HE:=Lib.hid hE;have k0:=cell_of_row _ _ 0 _ _ _ hE.1;have z0:=zG hE.1;generalize hjc:i*C=jc at *;clear hjc hn hk hE;have e1:(0:Int)<=(jc:Int)+(j:Int):=by omega
 have e2:(jc:Int)+(j:Int)<(n:Int):=by omega
 have e3:((jc:Int)+(j:Int)).toNat=jc+j:=by omega
 have hfn:=zrN fid capt;have HC:=Lib.hid (spec.call L x W);have hok:=spec.ok x hxo hxr;generalize hy:zaQ (t x)=y;have HY:=Lib.hid hy;clear hy;go_enter func172,ntmps172;go_wp2;clear k0;refine zdN (S:=zev pf px b (off+(jc+j)*6) (.func (.func fid) #[] capt) R C (some ⟨b,off,none⟩) n cap x) [(0,0),(1,0),(2,0),(3,0),(4,0),(5,0),(6,0),(7,0),(8,0),(9,0),(10,0),(11,1),(12,1),(13,2)] [13] (by kernel_rfl) (by kernel_rfl) (by kernel_rfl) (λ_ _ d _ _ h=>by cases d <;> exact h) (HE.out.ext (by simp[go_sem, *])) ?_
 (refine zn (v:=?_) rfl ?_ (λw1 h1=>?_) ?_;rotate_left 1;rfl;(obtain⟨g1,g2,g3⟩:=h1;have k0:=cell_of_row _ _ 0 _ _ _ g1;have a1:=cell_of_row _ _ 1 _ _ _ g2;have a2:=cell_of_row _ _ 2 _ _ _ g2;obtain⟨v0,v1,v2,v3,v4,v5⟩:=g3;clear g1 g2;go_simp;first | done | rfl))
 try simp only[zq]
 (refine zn (v:=?_) rfl ?_ (λw1 h1=>?_) ?_;rotate_left 1;rfl;(obtain⟨g1,g2,g3⟩:=h1;have k0:=cell_of_row _ _ 0 _ _ _ g1;have a1:=cell_of_row _ _ 1 _ _ _ g2;have a2:=cell_of_row _ _ 2 _ _ _ g2;obtain⟨v0,v1,v2,v3,v4,v5⟩:=g3;clear g1 g2;go_simp;first | done | rfl))
 try simp only[zq]
 (refine zn (v:=?_) rfl ?_ (λw1 h1=>?_) ?_;rotate_left 1;rfl;(obtain⟨g1,g2,g3⟩:=h1;have k0:=cell_of_row _ _ 0 _ _ _ g1;have a1:=cell_of_row _ _ 1 _ _ _ g2;have a2:=cell_of_row _ _ 2 _ _ _ g2;obtain⟨v0,v1,v2,v3,v4,v5⟩:=g3;clear g1 g2;go_simp;first | done | rfl))
 try simp only[zq]
 (refine zn (v:=?_) rfl ?_ (λw1 h1=>?_) ?_;rotate_left 1;rfl;(obtain⟨g1,g2,g3⟩:=h1;have k0:=cell_of_row _ _ 0 _ _ _ g1;have a1:=cell_of_row _ _ 1 _ _ _ g2;have a2:=cell_of_row _ _ 2 _ _ _ g2;obtain⟨v0,v1,v2,v3,v4,v5⟩:=g3;clear g1 g2;go_simp;first | done | rfl))
 try simp only[zq]
 (refine zn (v:=?_) rfl ?_ (λw1 h1=>?_) ?_;rotate_left 1;rfl;(obtain⟨g1,g2,g3⟩:=h1;have k0:=cell_of_row _ _ 0 _ _ _ g1;have a1:=cell_of_row _ _ 1 _ _ _ g2;have a2:=cell_of_row _ _ 2 _ _ _ g2;obtain⟨v0,v1,v2,v3,v4,v5⟩:=g3;clear g1 g2;go_simp;first | done | rfl))
 try simp only[zq]
 (refine zn (v:=?_) rfl ?_ (λw1 h1=>?_) ?_;rotate_left 1;rfl;(obtain⟨g1,g2,g3⟩:=h1;have k0:=cell_of_row _ _ 0 _ _ _ g1;have a1:=cell_of_row _ _ 1 _ _ _ g2;have a2:=cell_of_row _ _ 2 _ _ _ g2;obtain⟨v0,v1,v2,v3,v4,v5⟩:=g3;clear g1 g2;go_simp;first | done | rfl))
 try simp only[zq]
 (refine zn (v:=?_) rfl ?_ (λw1 h1=>?_) ?_;rotate_left 1;rfl;(obtain⟨g1,g2,g3⟩:=h1;have k0:=cell_of_row _ _ 0 _ _ _ g1;have a1:=cell_of_row _ _ 1 _ _ _ g2;have a2:=cell_of_row _ _ 2 _ _ _ g2;obtain⟨v0,v1,v2,v3,v4,v5⟩:=g3;clear g1 g2;go_simp;first | done | rfl))
 try simp only[zq]
 (refine zn (v:=?_) rfl ?_ (λw1 h1=>?_) ?_;rotate_left 1;rfl;(obtain⟨g1,g2,g3⟩:=h1;have k0:=cell_of_row _ _ 0 _ _ _ g1;have a1:=cell_of_row _ _ 1 _ _ _ g2;have a2:=cell_of_row _ _ 2 _ _ _ g2;obtain⟨v0,v1,v2,v3,v4,v5⟩:=g3;clear g1 g2;go_simp;first | done | rfl))
 try simp only[zq]
 (refine zn (v:=?_) rfl ?_ (λw1 h1=>?_) ?_;rotate_left 1;rfl;(obtain⟨g1,g2,g3⟩:=h1;have k0:=cell_of_row _ _ 0 _ _ _ g1;have a1:=cell_of_row _ _ 1 _ _ _ g2;have a2:=cell_of_row _ _ 2 _ _ _ g2;obtain⟨v0,v1,v2,v3,v4,v5⟩:=g3;clear g1 g2;go_simp;first | done | rfl))
 try simp only[zq]
 (refine zn (v:=?_) rfl ?_ (λw1 h1=>?_) ?_;rotate_left 1;rfl;(obtain⟨g1,g2,g3⟩:=h1;have k0:=cell_of_row _ _ 0 _ _ _ g1;have a1:=cell_of_row _ _ 1 _ _ _ g2;have a2:=cell_of_row _ _ 2 _ _ _ g2;obtain⟨v0,v1,v2,v3,v4,v5⟩:=g3;clear g1 g2;go_simp;first | done | rfl))
 try simp only[zq]
 (refine zn (v:=?_) rfl ?_ (λw1 h1=>?_) ?_;rotate_left 1;rfl;(obtain⟨g1,g2,g3⟩:=h1;have k0:=cell_of_row _ _ 0 _ _ _ g1;have a1:=cell_of_row _ _ 1 _ _ _ g2;have a2:=cell_of_row _ _ 2 _ _ _ g2;obtain⟨v0,v1,v2,v3,v4,v5⟩:=g3;clear g1 g2;go_simp;first | done | rfl))
 try simp only[zq]
 (refine zg rfl ?_ (λK hK=>?_);rfl;go_simp)
 refine(HC.out _ hJ (by simp[go_sem, *]) hs hxo hxr hL).mono ?_;rintro e w1' ⟨rfl,hJ1,hst⟩;have hr:w1'.heap[W.heap.size]? = some (.cells #[.int .i64 0,.int .i64 0,.int .i64 0,.string ⟨#[]⟩,.bool false,.int .i64 0] 38):=by
  rw[hst.block W.heap.size (by simp) (.inr (Nat.le_refl _))];exact heap_alloc_new _ _
 have HS1:Hid (zev pf px b (off+(jc+j)*6) (.func (.func fid) #[] capt) R C (some ⟨b,off,none⟩) n cap x w1'):=by
  refine(HE.out.ext (W':=(W.alloc (.cells #[.int .i64 0,.int .i64 0,.int .i64 0,.string ⟨#[]⟩,.bool false,.int .i64 0] 38)).drew) (by simp[go_sem, *])).blocks ?_ ?_ ?_
  ·exact hst.block pf (by simp;omega) (.inl ⟨by omega,npf⟩)
  ·exact hst.block px (by simp;omega) (.inl ⟨by omega,npx⟩)
  ·exact hst.block b (by simp;omega) (.inl ⟨by omega,nb⟩)
 refine hK _ _ HS1.out ?_;try simp only[zq]
 (refine zg rfl ?_ (λK hK=>?_);rfl;go_simp)
 refine(zke _ _ _ _ _ _ _ hok.2.1 hok.2.2.2.1 y HY.out).mono ?_;rintro e w' ⟨rfl,hb⟩;obtain⟨os5,d5,rfl⟩:=hb.more;clear hb;refine hK _ _ (HS1.out.ext (by simp[go_sem, *])) ?_;try simp only[zq]
 have hsz:=hst.size;have hz:W.heap.size<w1'.heap.size:=by simp at hsz;omega
 have q0:=cell_of_row _ _ 0 _ _ _ hr;have q1:=cell_of_row _ _ 1 _ _ _ hr;have q2:=cell_of_row _ _ 2 _ _ _ hr;have q3:=cell_of_row _ _ 3 _ _ _ hr;have q4:=cell_of_row _ _ 4 _ _ _ hr;have q5:=cell_of_row _ _ 5 _ _ _ hr;have f0:=frozen_of_row _ _ 0 _ _ hr;have f1:=frozen_of_row _ _ 1 _ _ hr;have f2:=frozen_of_row _ _ 2 _ _ hr;have f3:=frozen_of_row _ _ 3 _ _ hr;have f4:=frozen_of_row _ _ 4 _ _ hr;have f5:=frozen_of_row _ _ 5 _ _ hr
 (refine zU rfl ?_ (λK hK=>?_);rfl;go_simp)
 refine hK _ _ ?_;try simp only[zq]
 refine zi ?_;go_wp2;refine bodyPost_ret (v:=VV y.kind y.mant y.exp y.text y.truth y.fault) (by simp[results,results172,go_sem,q0,q1,q2,q3,q4,q5,hz]) rfl ⟨rfl,?_,?_⟩
 ·have h1:W.heap.size<=W.heap.size:=Nat.le_refl _;have h2:W.heap.size<((W.alloc (.cells #[.int .i64 0,.int .i64 0,.int .i64 0,.string ⟨#[]⟩,.bool false,.int .i64 0] 38)).drew).heap.size:=by simp
  exact hJ1 _ (((((((Aside.set _ _ h1 h2).trans (Aside.set _ _ h1 h2)).trans (Aside.set _ _ h1 h2)).trans (Aside.set _ _ h1 h2)).trans (Aside.set _ _ h1 h2)).trans (Aside.set _ _ h1 h2)).trans (Aside.of_ext (by repeat(first | (with_reducible (first | exact Ext.refl _ | exact hX | exact zcD _ _ _ _ | exact za9 _ _ _ _ _)) | ((with_reducible refine zaF ⟨_,?_⟩);(try simp only[Array.append_assoc]);rfl) | (with_reducible (first | apply Ext.drew | apply Ext.alloc | apply Ext.more_))))))
 ·have hq:W.heap.size<=W.heap.size:=Nat.le_refl _;exact(((((((Still.trans (Still.of_ext (by repeat(first | (with_reducible (first | exact Ext.refl _ | exact hX | exact zcD _ _ _ _ | exact za9 _ _ _ _ _)) | ((with_reducible refine zaF ⟨_,?_⟩);(try simp only[Array.append_assoc]);rfl) | (with_reducible (first | apply Ext.drew | apply Ext.alloc | apply Ext.more_))))) hst).set _ hq).set _ hq).set _ hq).set _ hq).set _ hq).set _ hq).trans (Still.of_ext (by repeat(first | (with_reducible (first | exact Ext.refl _ | exact hX | exact zcD _ _ _ _ | exact za9 _ _ _ _ _)) | ((with_reducible refine zaF ⟨_,?_⟩);(try simp only[Array.append_assoc]);rfl) | (with_reducible (first | apply Ext.drew | apply Ext.alloc | apply Ext.more_)))))
structure ExtBut (pa:Nat) (W W':World):Prop where
 os:W'.os=W.os
 tape:W'.tape=W.tape
 output:W'.output=W.output
 size:W.heap.size<=W'.heap.size
 block:∀ b,b<W.heap.size->b≠pa->W'.heap[b]? = W.heap[b]?
theorem ExtBut.of_ext {pa W W'} (h:Ext W W'):ExtBut pa W W':=⟨h.os,h.tape,h.output,h.size,λ_ hb _=>h.block hb⟩
theorem ExtBut.trans {pa a b c} (h:ExtBut pa a b) (k:ExtBut pa b c):ExtBut pa a c:=
 ⟨k.os.trans h.os,k.tape.trans h.tape,k.output.trans h.output,Nat.le_trans h.size k.size,λi hi hc=>(k.block i (Nat.lt_of_lt_of_le hi h.size) hc).trans (h.block i hi hc)⟩
theorem ExtBut.set {pa W W'} (h:ExtBut pa W W') {p} (v) (hp:W.heap.size<=p.block):ExtBut pa W (W'.setCell p v):=
 ⟨h.os,h.tape,h.output,by simp only[World.setCell,Array.size_modify];exact h.size,λb hb hc=>(Below.heap_setCell _ _ _ _ (by omega)).trans (h.block b hb hc)⟩
theorem ArrIn.but {pa W W' A n cap l} (h:ArrIn W A n cap l) (hk:ExtBut pa W W') (hA:∀ b off,A=some ⟨b,off,none⟩->b≠pa):ArrIn W' A n cap l:=by
 refine⟨λj u hu=>?_,h.len,h.cap,h.small,h.ok⟩;obtain⟨b,off,e,hb,hc⟩:=h.rd j u hu;refine⟨b,off,e,hb,?_⟩;rw[World.cell?_of_block (a:=⟨b,off+j,none⟩) (hk.block b (za hc) (hA b off e))];exact hc
theorem zrO (f:Val->Val) (R C l) (h:l.length=R*C):zbX (λi j=>f (zaI l (i*C+j))) C (R*C)=l.map f:=by
 conv=>rhs;rw[<-zpQ R C l h]
 unfold zbX;rw[List.map_map];rfl
theorem zp2 {l k} (h:k<l.length):l.take (k+1)=l.take k++[zaI l k]:=by
 rw[List.take_succ_eq_append_getElem h,zjK h]
theorem zrP (R C n cap pa:Nat) (A l fid capt) (t:Val->Val) (Js:Nat->List Val->World->Prop) (w) (h:ArrIn w A n cap l) (hr:zA R C l=true) (hpa:pa<w.heap.size) (hA:∀ b off,A=some ⟨b,off,none⟩->b≠pa) (hent:∀ (args:Array Value) (W:World),(callFunc fid args).run prog W = .ok (.enter fid args) W) (spec:∀ s0,w.heap.size<=s0->FSpec fid capt t w.heap.size (s0+3) pa (Js s0)) (hJ0:∀ s0,w.heap.size<=s0->Js s0 [] w) :
  Calls prog 109 #[AV R C (.slice A n cap),.func (.func fid) #[] capt] w λe w'=>∃ D c s0,e = .returned (AV R C (.slice D n c))∧SlV w.heap.size w' D (l.map λx=>zaQ (t x))∧n<=c∧w.heap.size<=s0∧Js s0 l w'∧ExtBut pa w w':=by
 obtain⟨r1,r2,r3,r4,r5,r6⟩:=za5 hr;have HRR:=Lib.hid (zC.1 hr).2.2.2.2;have hln:=h.len;have HN:=Lib.hid (show n=R*C by omega);have HL:=Lib.hid r4;have hN:n<=4096:=by omega
 clear r4 hln;have HS:=Lib.hid spec;have HJ:=Lib.hid hJ0;have HA:=Lib.hid hA;clear spec hJ0 hA;go_enter func109,ntmps109;go_wp2_with fail;refine(zbl _ _ _ _ _ _ _ (h.ext (by simp[go_sem, *]))).mono ?_;rintro e w' ⟨rfl,hb⟩;obtain⟨os1,d1,rfl⟩:=hb.more;clear hb;go_wp2_with fail;refine zfO λW hW=>?_;have hX:Ext w W:=by rw[hW];exact by simp[go_sem, *]
 have hbx:W.heap[w.heap.size]? = some (.cells #[.int .i64 R,.int .i64 C,.slice A n cap] 27):=by
  rw[hW,(zao _ _ _).block (by simp;omega),Below.heap_alloc _ _ _ (by simp;omega),Below.heap_alloc _ _ _ (by simp)];exact heap_alloc_new _ _
 have hfx:W.heap[w.heap.size+1]? = some (.cells #[.func (.func fid) #[] capt] 104):=by
  rw[hW,(zao _ _ _).block (by simp),Below.heap_alloc _ _ _ (by simp)];have:=heap_alloc_new (w.alloc (.cells #[.int .i64 R,.int .i64 C,.slice A n cap] 27)) (.cells #[.func (.func fid) #[] capt] 104);simpa using this
 have hrx:W.heap[w.heap.size+1+1]? = some (.cells #[.int .i64 0,.int .i64 0,.slice none 0 0] 27):=by
  rw[hW,(zao _ _ _).block (by simp)];have:=heap_alloc_new ((w.alloc (.cells #[.int .i64 R,.int .i64 C,.slice A n cap] 27)).alloc (.cells #[.func (.func fid) #[] capt] 104)) (.cells #[.int .i64 0,.int .i64 0,.slice none 0 0] 27);simpa using this
 clear hW;have hws:=hX.size;have sp:=HS.out W.heap.size hws;have z0:=zG hrx;have hl1:l.length=R*C:=HL.out;refine(zkg R C 172 #[.pointer (some ⟨w.heap.size+1,0,none⟩),.pointer (some ⟨w.heap.size,0,none⟩)] (λi j=>zaQ (t (zaI l (i*C+j)))) W (λk V=>Js W.heap.size (l.take k) V∧ExtBut pa W V) r1 r2 r3 r5 r6 (λ_ _=>by kernel_rfl) ⟨?_,?_⟩ ?_ ?_).mono ?_
 ·rw[List.take_zero];exact sp.ext _ _ _ hX (HJ.out _ hws)
 ·exact ExtBut.of_ext (Ext.refl _)
 ·rintro k V V' hk ⟨g1,g2⟩;refine⟨sp.keep _ _ _ (by simpa using hk) g1,hk.os.trans g2.os,hk.tape.trans g2.tape,hk.output.trans g2.output,Nat.le_trans g2.size hk.size,λb hb hne=>?_⟩;exact(hk.block b (Nat.lt_of_lt_of_le hb g2.size) (by omega) (by omega) (by omega)).trans (g2.block b hb hne)
 ·rintro i j V hi hj ⟨g1,g2⟩ hsz;have hkk:=zcA R hi hj r3;obtain⟨b,off,hAe,hv,hxo⟩:=h.get (k:=i*C+j) (by have:=HN.out;omega);have hbl:=hv.lt;have hba:=HA.out b off hAe;subst hAe;have hE:zev (w.heap.size+1) w.heap.size b (off+(i*C+j)*6) (.func (.func fid) #[] capt) R C (some ⟨b,off,none⟩) n cap (zaI l (i*C+j)) V:=
   ⟨(g2.block _ (by omega) (by omega)).trans hfx,(g2.block _ (by omega) (by omega)).trans hbx,(hv.ext hX).block (g2.block b (by omega) hba)⟩
  refine(zp1 fid capt t w.heap.size W.heap.size pa (Js W.heap.size) sp hent R C i j n cap (w.heap.size+1) w.heap.size b off (zaI l (i*C+j)) (l.take (i*C+j)) V g1 hsz (by rw[List.length_take];omega) hE (by omega) (by omega) (by omega) (by omega) (by omega) hba hxo (HRR.out _ (zim (by omega))) HN.out hN hi hj).mono ?_;rintro e V' ⟨he,hJ1,hst⟩;refine⟨he,⟨by rw[zp2 (by omega)];exact hJ1,⟨hst.os.trans g2.os,hst.tape.trans g2.tape,hst.output.trans g2.output,Nat.le_trans g2.size hst.size,λb' hb' hne=>(hst.block b' (Nat.lt_of_lt_of_le hb' g2.size) (.inl ⟨by omega,hne⟩)).trans (g2.block b' hb' hne)⟩⟩,?_⟩;exact⟨hst.size,hst.block _ (by omega) (.inl ⟨by omega,by omega⟩),hst.block _ (by omega) (.inl ⟨by omega,by omega⟩),hst.block _ (by omega) (.inl ⟨by omega,by omega⟩)⟩
 rintro e w' ⟨D,c,he,hs,hc,g1,g2⟩;rw[zrO (λx=>zaQ (t x)) R C l hl1] at hs;rw[List.take_of_length_le (by omega)] at g1;rw[<-HN.out] at he hc;subst he;have hr':w'.heap[w.heap.size+1+1]? = some (.cells #[.int .i64 0,.int .i64 0,.slice none 0 0] 27):=(g2.block _ (by omega) (by omega)).trans hrx;have q0:=cell_of_row _ _ 0 _ _ _ hr';have q1:=cell_of_row _ _ 1 _ _ _ hr';have q2:=cell_of_row _ _ 2 _ _ _ hr';have f0:=frozen_of_row _ _ 0 _ _ hr';have f1:=frozen_of_row _ _ 1 _ _ hr';have f2:=frozen_of_row _ _ 2 _ _ hr';have hg2:=Lib.hid g2;clear g2 hbx hfx hrx;go_wp2;refine bodyPost_ret (v:=AV R C (.slice D n c)) (by simp[results,results109,go_sem,q0,q1,q2]) rfl ⟨D,c,W.heap.size,rfl,?_,hc,hws,?_,?_⟩
 ·exact Rd.mono (((hs.set_far _ (by simp;omega)).set_far _ (by simp;omega)).set_far _ (by simp;omega)) (by omega)
 ·exact sp.far _ _ _ _ (by simp only;omega) (by simp only;omega) (sp.far _ _ _ _ (by simp only;omega) (by simp only;omega) (sp.far _ _ _ _ (by simp only;omega) (by simp only;omega) g1))
 ·exact((((ExtBut.of_ext hX).trans hg2.out).set _ (by simp only;omega)).set _ (by simp only;omega)).set _ (by simp only;omega)
theorem zth (r c A n cap l fid capt w) (h:ArrIn w A n cap l) (hr:zA r c l=false) :
  Calls prog 109 #[AV r c (.slice A n cap),.func (.func fid) #[] capt] w λe w'=>zdH w.heap.size w' e 1 1 [bad9]∧Ext w w':=by
 go_enter func109,ntmps109;go_wp2_with fail;refine aM (zbl _ _ _ _ _ _ _ (h.ext (by simp[go_sem, *]))) λos1 d1=>?_;go_wp2_with fail;refine(zeN _).mono ?_;rintro e w' ⟨⟨D,c,rfl,hs,hc⟩,hb⟩;obtain⟨os2,d2,rfl⟩:=hb.more;clear hb;go_wp2;exact rc1 (v:=AV 1 1 (.slice D 1 c)) rfl rfl (by simp[go_sem]) ⟨⟨_,_,rfl,(by(try simp only[zc,zj,zh,Array.append_assoc] at hs);exact hs.sw (by simp <;> omega)),hc⟩,by simp[go_sem, *]⟩
def Low (w W:World):Prop:=∀ b,b<w.heap.size->W.heap[b]? = w.heap[b]?
theorem Low.refl (w):Low w w:=λ_ _=>rfl
theorem Low.lt {w W} (h:Low w W) {b} (hb:b<w.heap.size):b<W.heap.size:=by
 have h1:=h b hb;rw[Array.getElem?_eq_getElem hb] at h1;exact zG h1
theorem Low.ext {w W W'} (h:Low w W) (hx:Ext W W'):Low w W':=λb hb=>(hx.block (h.lt hb)).trans (h b hb)
theorem zp3 {fid capt} {t:Val->Val} {w} (hsp:∀ x W,Low w W->x.ok->valRight x=true->Calls prog fid (#[VV x.kind x.mant x.exp x.text x.truth x.fault]++capt) W λe W'=>e = .returned (VV (t x).kind (t x).mant (t x).exp (t x).text (t x).truth (t x).fault)∧Ext W W') (hok:∀ x,x.ok->valRight x=true->(t x).ok) (s0 pa) (hs:w.heap.size<=s0) :
  FSpec fid capt t w.heap.size (s0+3) pa (λ_ W=>Low w W):=by
 refine⟨λ_ W W' hx h=>h.ext hx,λ_ W W' hk h b hb=>?_,λL x W0 W h hx hlo hxo hxr hL=>?_,hok,λ_ W p v h1 _ h b hb=>?_⟩
 ·rw[Nat.add_sub_cancel] at hk;rw[hk.block b (h.lt hb) (by omega) (by omega) (by omega)];exact h b hb
 ·have h1:=h.ext hx;refine(hsp x W h1 hxo hxr).mono ?_;rintro e W' ⟨he,hX⟩;refine⟨he,λW'' hk' b hb=>?_,Still.of_ext hX⟩;have h2:=h1.ext hX;rw[hk'.block b (h2.lt hb) (by have:=h.lt hb;omega)];exact h2 b hb
 ·rw[Below.heap_setCell _ _ _ _ (by omega)];exact h b hb
def zgc (t:Val->Val) (r c:Int) (l:List Val):NA:=if zA r c l then⟨r.toNat,c.toNat,l.map λx=>zaQ (t x)⟩ else⟨1,1,[bad9]⟩
theorem zrQ {fid capt} {t:Val->Val} (w pa) (hpa:pa<w.heap.size) (hsp:∀ x W,Low w W->x.ok->valRight x=true->Calls prog fid (#[VV x.kind x.mant x.exp x.text x.truth x.fault]++capt) W λe W'=>e = .returned (VV (t x).kind (t x).mant (t x).exp (t x).text (t x).truth (t x).fault)∧Ext W W') (hok:∀ x,x.ok->valRight x=true->(t x).ok) (hent:∀ (args:Array Value) (W:World),(callFunc fid args).run prog W = .ok (.enter fid args) W) (r c A n cap l) (h:ArrIn w A n cap l) (hA:0<n->∀ b off,A=some ⟨b,off,none⟩->b≠pa) (x) (hx:zgc t r c l=x) :
  Calls prog 109 #[AV r c (.slice A n cap),.func (.func fid) #[] capt] w λe w'=>∃ D m cc,e = .returned (AV x.R x.C (.slice D m cc))∧ArrN w.heap.size w' D m cc x.l∧Ext w w':=by
 cases hr:zA r c l with
 | false=>
  obtain rfl:x=⟨1,1,[bad9]⟩:=by rw[<-hx];simp[zgc,hr]
  refine(zth r c A n cap l fid _ w h hr).mono ?_;rintro e w' ⟨⟨D,cc,rfl,hs,hc⟩,hX⟩;exact⟨D,1,cc,rfl,⟨hs,rfl,hc,by omega,by simpa using zf6⟩,hX⟩
 | true=>
  have hr2:=hr;obtain⟨R,C,rfl,rfl,_⟩:=zcZ hr;obtain rfl:x=⟨R,C,l.map λx=>zaQ (t x)⟩:=by rw[<-hx];simp[zgc,hr]
  obtain⟨q1,q2,_,q4,_,_⟩:=za5 hr;have e1:0<n:=by
   have:=Nat.mul_le_mul q1 q2;have:=h.len;omega
  refine(zrP R C n cap pa A l fid capt t (λ_ _ W=>Low w W) w h hr2 hpa (hA e1) hent (λs0 hs=>zp3 hsp hok s0 pa hs) (λ_ _=>Low.refl w)).mono ?_;rintro e w' ⟨D,cc,s0,rfl,hs,hc,hs0,hJ,hbut⟩;exact⟨D,_,cc,rfl,⟨hs,by rw[List.length_map];exact h.len,hc,h.small,λy hy=>by
   obtain⟨z,hz,rfl⟩:=List.mem_map.1 hy
   exact znw (hok z (h.ok z hz) ((zC.1 hr2).2.2.2.2 z hz)) _ (by simp)⟩,⟨hbut.os,hbut.tape,hbut.output,hbut.size,λb hb=>hJ b hb⟩⟩
end Go.Proofs.YtinjdacijiohiaaGreatDoor
