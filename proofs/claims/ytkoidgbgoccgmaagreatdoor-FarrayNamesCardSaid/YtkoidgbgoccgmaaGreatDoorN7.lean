/- What the rows' proofs lean on: the contracts of the functions that they reach, and plain facts (part N7). -/
import Derived.Sort.OwnSortedInts
import Derived.Sort.KeysCollected
import Derived.Test.YtkoidgbgoccgmaaGreatDoorRows
import Derived.Test.YtkoidgbgoccgmaaGreatDoorCards
import Derived.Test.YtkoidgbgoccgmaaGreatDoorTie
import Derived.ProofKit
import Derived.LaidMore
import Derived.OpenShut
import Derived.ShutString
import Derived.ChangeOld
import Derived.Stop.Joined
import Derived.Deep.Slices
import Derived.SevenTiedAt
import Derived.Test.YtkoidgbgoccgmaaGreatDoorN6
set_option linter.unusedSimpArgs false
set_option linter.unusedVariables false
set_option maxRecDepth 100000
set_option maxHeartbeats 8000000
namespace Go.Proofs.YtkoidgbgoccgmaaGreatDoor
open _root_.Go.Proofs.Tryz
open Go.RowKit
theorem zkY {a m b:Nat} (h1:a≤m) (h2:m≤b):List.range' a (b - a)=List.range' a (m - a)++List.range' m (b - m):=by
 have:=List.range'_append_1 (s:=a) (m:=m - a) (n:=b - m)
 rw [show a+(m - a)=m by omega,show m - a+(b - m)=b - a by omega] at this
 exact this.symm
theorem Srt.mem {lt:Nat→Nat→Bool} {D:List Nat} {a b x:Nat} (h:Srt lt D a b) (hx:x∈seg D a b):a≤x∧x < b:=by
 have:=h.1.mem_iff.1 hx
 rw [List.mem_range'_1] at this
 omega
theorem Srt.keep_lo {lt:Nat→Nat→Bool} {D D':List Nat} {a b lo hi:Nat} (h:Srt lt D lo hi) (hp:Part a b D D') (hh:hi≤a):Srt lt D' lo hi:=by
 unfold Srt;rw [hp.seg_lo hh];exact h
theorem Srt.keep_hi {lt:Nat→Nat→Bool} {D D':List Nat} {a b lo hi:Nat} (h:Srt lt D lo hi) (hp:Part a b D D') (hh:b≤lo):Srt lt D' lo hi:=by
 unfold Srt;rw [hp.seg_hi hh];exact h
theorem Srt.merged {lt:Nat→Nat→Bool} {D D':List Nat} {a m b:Nat} (h1:a≤m) (h2:m≤b) (hX:Srt lt D a m) (hY:Srt lt D m b) (hm:Mrg lt a b D D'):Srt lt D' a b:=by
 refine ⟨hm.perm.trans ?_,hm.sorted⟩
 rw [zav h1 h2,zkY h1 h2]
 exact hX.1.append hY.1
theorem Srt.cross {lt:Nat→Nat→Bool} {D:List Nat} {a m b:Nat} (hX:Srt lt D a m) (hY:Srt lt D m b):∀ x∈seg D a m,∀ y∈seg D m b,x < y:=fun x hx y hy=>by
 have:=hX.mem hx;have:=hY.mem hy;omega
def ze6 (lt:Nat→Nat→Bool) (n bs:Nat) (D:List Nat):Prop:=∀ q,q * bs < n→Srt lt D (q * bs) (min (q * bs+bs) n)
structure Ins (lt:Nat→Nat→Bool) (n q:Nat) (D:List Nat):Prop where
 len:D.length=n
 done:∀ p,p < q→Srt lt D (p * 20) (p * 20+20)
 rest:∀ j,q * 20≤j→j < n→D[j]? = some j
theorem Ins.start (lt:Nat→Nat→Bool) (n:Nat):Ins lt n 0 (List.range n):=⟨by simp,fun p hp=>absurd hp (by omega),fun j _ hj=>by simp [hj]⟩
theorem zqi {a b j:Nat} {D D':List Nat} (h:Part a b D D') (hj:b≤j):D'[j]? = D[j]?:=by
 have h1:(D'.drop b)[j - b]? = (D.drop b)[j - b]?:=by rw [h.hi]
 rw [List.getElem?_drop,List.getElem?_drop,show b+(j - b)=j by omega] at h1
 exact h1
theorem Ins.step {lt:Nat→Nat→Bool} {n q:Nat} {D D':List Nat} (h:Ins lt n q D) (hp:Part (q * 20) (q * 20+20) D D') (hs:Srt lt D' (q * 20) (q * 20+20)):Ins lt n (q+1) D':=by
 refine ⟨hp.len.trans h.len,fun p hpq=>?_,fun j hj hn=>?_⟩
 ·by_cases e:p=q
  ·subst e;exact hs
  ·exact (h.done p (by omega)).keep_lo hp (by omega)
 ·rw [zqi hp (by omega)];exact h.rest j (by omega) hn
theorem Ins.seg {lt:Nat→Nat→Bool} {n q b:Nat} {D:List Nat} (h:Ins lt n q D) (hb:b≤n):seg D (q * 20) b=List.range' (q * 20) (b - q * 20):=by
 refine List.ext_getElem? fun i=>?_
 unfold Go.Proofs.YtkoidgbgoccgmaaGreatDoor.seg
 rw [List.getElem?_drop,List.getElem?_take]
 split
 ·rw [h.rest _ (by omega) (by omega),List.getElem?_range' (by omega),Nat.one_mul]
 ·rw [List.getElem?_eq_none];simp;omega
theorem Ins.all {lt:Nat→Nat→Bool} {n q:Nat} {D D':List Nat} (h:Ins lt n q D) (hq:q * 20≤n) (hn:n < q * 20+20) (hp:Part (q * 20) n D D') (hs:Srt lt D' (q * 20) n):ze6 lt n 20 D':=by
 intro p hpn
 by_cases e:p < q
 ·rw [Nat.min_eq_left (by omega)]
  exact (h.done p e).keep_lo hp (by omega)
 ·obtain rfl:p=q:=by omega
  rw [Nat.min_eq_right (by omega)];exact hs
structure Mrs (lt:Nat→Nat→Bool) (n bs q:Nat) (D:List Nat):Prop where
 len:D.length=n
 done:∀ p,p < q→Srt lt D (p * (2 * bs)) (p * (2 * bs)+2 * bs)
 rest:∀ p,2 * q≤p→p * bs < n→Srt lt D (p * bs) (min (p * bs+bs) n)
theorem Mrs.start {lt:Nat→Nat→Bool} {n bs:Nat} {D:List Nat} (hl:D.length=n) (h:ze6 lt n bs D):Mrs lt n bs 0 D:=⟨hl,fun p hp=>absurd hp (by omega),fun p _ hp=>h p hp⟩
theorem zcU (q bs:Nat):q * (2 * bs)=2 * q * bs:=by rw [← Nat.mul_assoc,Nat.mul_comm q 2]
theorem ziI {p q bs:Nat} (h:p < q):p * bs+bs≤q * bs:=by
 have:=Nat.mul_le_mul_right bs (show p+1≤q from h)
 rw [Nat.add_mul,Nat.one_mul] at this;exact this
theorem Mrs.two {lt:Nat→Nat→Bool} {n bs q b:Nat} {D:List Nat} (h:Mrs lt n bs q D) (hm:q * (2 * bs)+bs < n) (hb:b=min (q * (2 * bs)+2 * bs) n) (hbs:0 < bs) :
  Srt lt D (q * (2 * bs)) (q * (2 * bs)+bs)∧Srt lt D (q * (2 * bs)+bs) b:=by
 have h1:=h.rest (2 * q) (Nat.le_refl _) (by rw [← zcU];omega)
 have h2:=h.rest (2 * q+1) (by omega) (by rw [Nat.add_mul,Nat.one_mul,← zcU];exact hm)
 rw [← zcU,Nat.min_eq_left (by omega)] at h1
 rw [Nat.add_mul,Nat.one_mul,← zcU] at h2
 refine ⟨h1,?_⟩
 rw [hb,show q * (2 * bs)+2 * bs=q * (2 * bs)+bs+bs by omega];exact h2
theorem Mrs.step {lt:Nat→Nat→Bool} {n bs q:Nat} {D D':List Nat} (h:Mrs lt n bs q D) (hp:Part (q * (2 * bs)) (q * (2 * bs)+2 * bs) D D') (hs:Srt lt D' (q * (2 * bs)) (q * (2 * bs)+2 * bs)):Mrs lt n bs (q+1) D':=by
 refine ⟨hp.len.trans h.len,fun p hpq=>?_,fun p hp1 hp2=>?_⟩
 ·by_cases e:p=q
  ·subst e;exact hs
  ·exact (h.done p (by omega)).keep_lo hp (ziI (by omega))
 ·refine (h.rest p (by omega) hp2).keep_hi hp ?_
  have:=Nat.mul_le_mul_right bs (show 2 * q+2≤p by omega)
  rw [Nat.add_mul,← zcU] at this
  omega
theorem Mrs.last {lt:Nat→Nat→Bool} {n bs q:Nat} {D D':List Nat} (h:Mrs lt n bs q D) (hq:q * (2 * bs)≤n) (hn:n < q * (2 * bs)+2 * bs) (hp:Part (q * (2 * bs)) n D D') (hs:q * (2 * bs) < n→Srt lt D' (q * (2 * bs)) n):ze6 lt n (2 * bs) D':=by
 intro p hpn
 by_cases e:p < q
 ·have:=ziI (bs:=2 * bs) e
  rw [Nat.min_eq_left (by omega)]
  exact (h.done p e).keep_lo hp this
 ·have hpq:p=q:=by
   rcases Nat.lt_or_ge q p with h1 | h1
   ·have:=ziI (bs:=2 * bs) h1;omega
   ·omega
  subst hpq
  rw [Nat.min_eq_right (by omega)];exact hs hpn
theorem Mrs.none {lt:Nat→Nat→Bool} {n bs q:Nat} {D:List Nat} (h:Mrs lt n bs q D) (hm:¬ q * (2 * bs)+bs < n) (hq:q * (2 * bs) < n):Srt lt D (q * (2 * bs)) n:=by
 have h1:=h.rest (2 * q) (Nat.le_refl _) (by rw [← zcU];exact hq)
 rw [← zcU,Nat.min_eq_right (by omega)] at h1
 exact h1
theorem ze6.whole {lt:Nat→Nat→Bool} (h:Swo lt) {n bs:Nat} {D:List Nat} (hl:D.length=n) (hb:n≤bs) (ha:ze6 lt n bs D):D=zY lt n:=by
 by_cases hn:n=0
 ·subst hn
  rw [List.eq_nil_of_length_eq_zero hl];rfl
 ·have h0:=ha 0 (by omega)
  rw [Nat.zero_mul,Nat.zero_add,Nat.min_eq_right hb] at h0
  have e:seg D 0 n=D:=by unfold seg;rw [List.drop_zero,List.take_of_length_le (by omega)]
  unfold Srt at h0
  rw [e] at h0
  refine zjm h ?_ h0.2
  rw [List.range_eq_range'];exact h0.1
end Go.Proofs.YtkoidgbgoccgmaaGreatDoor
namespace Go.Proofs.YtkoidgbgoccgmaaGreatDoor
open _root_.Go.Proofs.Tryz
open Go.RowKit NM
abbrev Wr (base:Nat) (w:World) (A:Option Addr) (cap:Nat) (l:List Nat):Prop:=Dg .i64 3 base w A cap l
theorem Wr.bel {base:Nat} {a w:World} (h:Below base a w) {b off cap i:Nat} {l:List Nat} (hd:Wr base w (some ⟨b,off,none⟩) cap l) (hl:i < l.length) (v:Value):Below base a (w.setCell ⟨b,off+i,none⟩ v):=by
 rcases hd.2 with h0 | ⟨b',off',cur,h1,h2,h3,h4⟩
 ·subst h0;simp at hl
 ·simp only [Option.some.injEq,Addr.mk.injEq,and_true] at h1
  obtain ⟨rfl,rfl⟩:=h1
  exact h.setCell h2 _
theorem Wr.drew {base:Nat} {w:World} {A:Option Addr} {cap:Nat} {l:List Nat} (h:Wr base w A cap l):Wr base w.drew A cap l:=Dg.ext h ((Ext.refl _).drew)
theorem Wr.sw {base:Nat} {w:World} {b off cap i j x y:Nat} {l:List Nat} (h:Wr base w (some ⟨b,off,none⟩) cap l) (hx:l[i]? = some x) (hy:l[j]? = some y) :
  Wr base ((w.setCell ⟨b,off+i,none⟩ (.int .i64 (y:Int))).setCell ⟨b,off+j,none⟩ (.int .i64 (x:Int))) (some ⟨b,off,none⟩) cap (sw1 l i j):=by
 have hi:=(List.getElem?_eq_some_iff.1 hx).1
 have hj:=(List.getElem?_eq_some_iff.1 hy).1
 have h1:l.getD i 0=x:=by simp [List.getD,hx]
 have h2:l.getD j 0=y:=by simp [List.getD,hy]
 unfold sw1
 rw [h1,h2]
 exact Dg.set (Dg.set h hi) (by simpa using hj)
theorem zqj (D:List Nat) (a b k:Nat):swp D a b (k+1)=sw1 (swp D a b k) (a+k) (b+k):=rfl
theorem zjA (base:Nat) (A:Option Addr) (cap:Nat) (D:List Nat) (a b n:Nat) (cf:Value) (w:World) (h:Wr base w A cap D) (hs:D.length≤100000) (h1:a+n≤D.length) (h2:b+n≤D.length) :
  Calls prog 214 #[.slice A D.length cap,.int .i64 (a:Int),.int .i64 (b:Int),.int .i64 (n:Int),cf] w fun e w'=>e = .returned (.tuple #[])∧Wr base w' A cap (swp D a b n)∧Below base w w':=by
 have hcap:=h.1
 have hn:n≤100000:=by omega
 go_enter func214,ntmps214
 go_wp2_with fail
 go_loopw [10] (fun i wr=>∃ k:Nat,k≤n∧i = .int .i64 (k:Int)∧Hid (Wr base wr A cap (swp D a b k))∧Below base w wr) (fun i _=>n - (intOf i).toNat)
 case atStart=>exact ⟨0,Nat.zero_le _,rfl,h,Below.refl _ _⟩
 case round =>
  obtain ⟨k,hk,rfl,HW,hX⟩:=hrel
  by_cases hlt:k < n
  ·have hl:(swp D a b k).length=D.length:=zh9 _ _ _ _
   have hst:=zqj D a b k
   generalize swp D a b k=E at *
   obtain ⟨x,hx⟩:∃ x,E[a+k]? = some x:=⟨_,List.getElem?_eq_getElem (by omega)⟩
   obtain ⟨y,hy⟩:∃ y,E[b+k]? = some y:=⟨_,List.getElem?_eq_getElem (by omega)⟩
   obtain ⟨bl,off,rfl,hb1,cx,fx⟩:=HW.out.at hx
   obtain ⟨bl',off',e,hb2,cy,fy⟩:=HW.out.at hy
   obtain ⟨rfl,rfl⟩:=aI e
   have hb:bl < wr.heap.size:=zg cx
   have e1:IntKind.i64.wrap ((a:Int)+(k:Int))=((a+k:Nat):Int):=by rw [IntKind.wrap_i64];omega
   have e2:IntKind.i64.wrap ((b:Int)+(k:Int))=((b+k:Nat):Int):=by rw [IntKind.wrap_i64];omega
   have l1:a+k < D.length:=by omega
   have l2:b+k < D.length:=by omega
   obtain ⟨z,hz⟩:∃ z,(E.set (a+k) y)[b+k]? = some z:=⟨_,List.getElem?_eq_getElem (by rw [List.length_set];omega)⟩
   obtain ⟨bl',off',e,_,cz,fz⟩:=(Dg.set (d:=y) HW.out (show a+k < E.length by omega)).at hz
   obtain ⟨rfl,rfl⟩:=aI e
   have hX2:=(Wr.bel (Wr.bel hX HW.out (show a+k < E.length by omega) (.int .i64 (y:Int))) (Dg.set (d:=y) HW.out (show a+k < E.length by omega)) (show b+k < (E.set (a+k) y).length by rw [List.length_set];omega) (.int .i64 (x:Int)))
   have HX:=Lib.hid hx
   have HY:=Lib.hid hy
   have HS:=Lib.hid hst
   have HL:=Lib.hid hl
   generalize hp:a+k=p at *
   generalize hq:b+k=q at *
   clear h h1 h2 hst hx hy hz hl hp hq
   go_wp2_with fail
   go_region
   go_wp2_with fail
   refine ⟨⟨k+1,by omega,by go_num,?_,hX2.drew⟩,by simp [intOf];omega⟩
   show Wr _ _ _ _ (swp D a b (k+1))
   rw [HS.out]
   exact (Wr.sw HW.out HX.out HY.out).drew
  ·obtain rfl:k=n:=by omega
   go_wp2_with fail
   exact bodyPost_end (v:=.tuple #[]) (by simp [results,results214,go_sem]) rfl ⟨rfl,HW.out,hX⟩
theorem zdO (base:Nat) (A:Option Addr) (cap N:Nat) (pre P M Q post:List Nat) (a b n:Int) (cf:Value) (w:World) (h:Wr base w A cap (pre++(P++(M++(Q++post))))) (hN:(pre++(P++(M++(Q++post)))).length=N) (hs:N≤100000)
  (hP:(P.length:Int)=n) (hQ:Q.length=P.length) (ha:(pre.length:Int)=a) (hb:((pre.length+P.length+M.length:Nat):Int)=b) :
  Calls prog 214 #[.slice A N cap,.int .i64 a,.int .i64 b,.int .i64 n,cf] w fun e w'=>e = .returned (.tuple #[])∧Wr base w' A cap (pre++(Q++(M++(P++post))))∧Below base w w':=by
 have hl:(pre++(P++(M++(Q++post)))).length=pre.length+P.length+M.length+Q.length+post.length:=by simp only [List.length_append];omega
 have:=zjA base A cap _ pre.length (pre.length+P.length+M.length) P.length cf w h (by omega) (by omega) (by omega)
 rw [zmq P.length pre P M Q post rfl hQ rfl rfl,hN,hP,ha,hb] at this
 exact this
theorem znr (base:Nat) (A:Option Addr) (cap N:Nat) (pre U V post:List Nat) (a m b:Int) (cf:Value) (w:World) (h:Wr base w A cap (pre++(U++(V++post)))) (hN:(pre++(U++(V++post))).length=N) (hs:N≤100000)
  (ha:(pre.length:Int)=a) (hm:((pre.length+U.length:Nat):Int)=m) (hb:((pre.length+U.length+V.length:Nat):Int)=b) (hU:0 < U.length) (hV:0 < V.length) :
  Calls prog 206 #[.slice A N cap,.int .i64 a,.int .i64 m,.int .i64 b,cf] w fun e w'=>e = .returned (.tuple #[])∧Wr base w' A cap (pre++(V++(U++post)))∧Below base w w':=by
 have hl:(pre++(U++(V++post))).length=pre.length+U.length+V.length+post.length:=by simp only [List.length_append];omega
 have e1:IntKind.i64.wrap (m - a)=(U.length:Int):=by rw [IntKind.wrap_i64];omega
 have e2:IntKind.i64.wrap (b - m)=(V.length:Int):=by rw [IntKind.wrap_i64];omega
 have hm4:m≤100000∧0≤m:=by omega
 obtain ⟨R,hR⟩:∃ R,pre++(V++(U++post))=R:=⟨_,rfl⟩
 rw [hR]
 obtain ⟨x0,hx⟩:∃ x,U.length=x:=⟨_,rfl⟩
 obtain ⟨y0,hy⟩:∃ y,V.length=y:=⟨_,rfl⟩
 rw [hx] at e1
 rw [hy] at e2
 have H0:Hid (∃ pre' U' V' post':List Nat,U'.length=x0∧V'.length=y0∧((pre'.length+U'.length:Nat):Int)=m∧(pre'++(U'++(V'++post'))).length=N∧pre'++(V'++(U'++post'))=R∧Wr base w A cap (pre'++(U'++(V'++post')))):=⟨pre,U,V,post,hx,hy,hm,hN,hR,h⟩
 have hx0:0 < x0∧x0≤100000:=by omega
 have hy0:0 < y0∧y0≤100000:=by omega
 clear h hN ha hm hb hU hV hl hR hx hy
 go_enter func206,ntmps206
 go_wp2_with fail
 go_loopw [10,11] (fun i j wr=>∃ x y:Nat,0 < x∧x≤100000∧0 < y∧y≤100000∧i = .int .i64 (x:Int)∧j = .int .i64 (y:Int)∧Hid (∃ pre' U' V' post':List Nat,U'.length=x∧V'.length=y∧((pre'.length+U'.length:Nat):Int)=m∧(pre'++(U'++(V'++post'))).length=N∧pre'++(V'++(U'++post'))=R∧Wr base wr A cap (pre'++(U'++(V'++post'))))∧Below base w wr) (fun i j _=>(intOf i).toNat+(intOf j).toNat)
 case atStart=>exact ⟨x0,y0,hx0.1,hx0.2,hy0.1,hy0.2,rfl,rfl,H0,Below.refl _ _⟩
 case round =>
  clear H0 hx0 hy0 e1 e2
  obtain ⟨x,y,x1,x2,y1,y2,rfl,rfl,HW,hX⟩:=hrel
  obtain ⟨pre',U',V',post',hx,hy,hm,hN,hR,hW⟩:=HW.out
  clear HW
  have hl:(pre'++(U'++(V'++post'))).length=pre'.length+U'.length+V'.length+post'.length:=by simp only [List.length_append];omega
  have e3:IntKind.i64.wrap (m - (x:Int))=m - (x:Int):=by rw [IntKind.wrap_i64];omega
  by_cases hne:x=y
  ·subst hne
   have hsw:=zdO base A cap N pre' U' [] V' post' (m - (x:Int)) m (x:Int) cf wr hW hN hs (by omega) (by omega) (by omega) (by simp only [List.length_nil];omega)
   rw [List.nil_append,hR] at hsw
   clear hN hW hR hm hx hy hl
   go_wp2_with (go_at_call 214;refine hsw.mono ?_;rintro e w' ⟨rfl,hW,hb⟩)
   exact bodyPost_end (v:=.tuple #[]) (by simp [results,results206,go_sem]) rfl ⟨rfl,hW,hX.trans hb⟩
  ·have hne':((x:Int) != (y:Int))=true:=by simp;omega
   by_cases hgt:y < x
   ·obtain ⟨U1,U2,rfl,hU1⟩:∃ U1 U2,U'=U1++U2∧U1.length=y:=⟨U'.take y,U'.drop y,(List.take_append_drop _ _).symm,by rw [List.length_take];omega⟩
    have hU2:U2.length=x - y:=by rw [List.length_append] at hx;omega
    have hsw:=zdO base A cap N pre' U1 U2 V' post' (m - (x:Int)) m (y:Int) cf wr (by simpa using hW) (by simpa using hN) hs (by omega) (by omega) (by rw [List.length_append] at hm;omega) (by rw [List.length_append] at hm;omega)
    have e4:IntKind.i64.wrap ((x:Int) - (y:Int))=((x - y:Nat):Int):=by rw [IntKind.wrap_i64];omega
    have HF:=Lib.hid (show ((pre'++V').length+U2.length:Nat)=m∧((pre'++V')++(U2++(U1++post'))).length=N∧(pre'++V')++(U1++(U2++post'))=R∧U2.length=x - y∧U1.length=y from ⟨by simp only [List.length_append] at hm ⊢;omega,by simp only [List.length_append] at hN ⊢;omega,by rw [← hR];simp,hU2,hU1⟩)
    clear hN hW hR hm hx hy hl hU1 hU2 hne
    go_wp2_with (go_at_call 214;refine hsw.mono ?_;rintro e w' ⟨rfl,hW,hb⟩)
    refine ⟨⟨x - y,y,by omega,by omega,y1,y2,rfl,rfl,?_,hX.trans hb⟩,by simp [intOf];omega⟩
    obtain ⟨f1,f2,f3,f4,f5⟩:=HF.out
    exact ⟨pre'++V',U2,U1,post',f4,f5,f1,f2,f3,by simpa using hW⟩
   ·obtain ⟨V1,V2,rfl,hV1⟩:∃ V1 V2,V'=V1++V2∧V1.length=y - x:=⟨V'.take (y - x),V'.drop (y - x),(List.take_append_drop _ _).symm,by rw [List.length_take];omega⟩
    have hV2:V2.length=x:=by rw [List.length_append] at hy;omega
    have hxy:x < y:=by omega
    have e5:IntKind.i64.wrap (m+(y:Int))=m+(y:Int):=by rw [IntKind.wrap_i64];omega
    have e6:IntKind.i64.wrap (m+(y:Int) - (x:Int))=m+(y:Int) - (x:Int):=by rw [IntKind.wrap_i64];omega
    have hsw:=zdO base A cap N pre' U' V1 V2 post' (m - (x:Int)) (m+(y:Int) - (x:Int)) (x:Int) cf wr (by simpa using hW) (by simpa using hN) hs (by omega) (by omega) (by omega) (by omega)
    have e4:IntKind.i64.wrap ((y:Int) - (x:Int))=((y - x:Nat):Int):=by rw [IntKind.wrap_i64];omega
    have HF:=Lib.hid (show (pre'.length+V2.length:Nat)=m∧(pre'++(V2++(V1++(U'++post')))).length=N∧pre'++(V1++(V2++(U'++post')))=R∧V2.length=x∧V1.length=y - x from ⟨by omega,by simp only [List.length_append] at hN ⊢;omega,by rw [← hR];simp,hV2,hV1⟩)
    clear hN hW hR hm hx hy hl hV1 hV2 hne
    go_wp2_with (go_at_call 214;refine hsw.mono ?_;rintro e w' ⟨rfl,hW,hb⟩)
    refine ⟨⟨x,y - x,by omega,by omega,by omega,by omega,rfl,rfl,?_,hX.trans hb⟩,by simp [intOf];omega⟩
    obtain ⟨f1,f2,f3,f4,f5⟩:=HF.out
    exact ⟨pre',V2,V1,U'++post',f4,f5,f1,f2,f3,hW⟩
end Go.Proofs.YtkoidgbgoccgmaaGreatDoor
namespace Go.Proofs.YtkoidgbgoccgmaaGreatDoor
open _root_.Go.Proofs.Tryz
open Go.RowKit
theorem zqk {D:List Nat} {i j:Nat} (h:i≠j):sw1 D i j=sw1 D j i:=by unfold sw1;exact List.set_comm _ _ h
theorem zqz (p r:List Nat) (x y:Nat) {i j:Nat} (hi:i=p.length) (hj:j=p.length+1):sw1 (p++x::y::r) i j=p++y::x::r:=by
 have:=zmp p [] r x y (i:=i) (j:=j) hi (by simp;omega)
 simpa using this
theorem zqD (p r:List Nat) (l x:Nat) {i j:Nat} (hi:i=p.length+1) (hj:j=p.length):sw1 (p++l::x::r) i j=p++x::l::r:=by
 rw [zqk (by omega)];exact zqz p r l x hj hi
def InI (lt:Nat→Nat→Bool) (pre X0 rest:List Nat) (x k:Nat) (E:List Nat):Prop :=
 ∃ X1 Y,X1++Y=X0∧E=pre++(X1++x::(Y++rest))∧X1.length=k∧∀ f,Y.head? = some f→lt x f=true
section
variable {lt:Nat→Nat→Bool} {pre X0 rest E:List Nat} {x k:Nat}
theorem InI.start (lt:Nat→Nat→Bool) (pre X0 rest:List Nat) (x:Nat):InI lt pre X0 rest x X0.length (pre++(X0++x::rest)) :=
 ⟨X0,[],by simp,by simp,rfl,fun f hf=>by cases hf⟩
theorem InI.len (h:InI lt pre X0 rest x k E):E.length=pre.length+X0.length+1+rest.length:=by
 obtain ⟨X1,Y,rfl,rfl,_,_⟩:=h
 simp only [List.length_append,List.length_cons];omega
theorem InI.at (h:InI lt pre X0 rest x k E):E[pre.length+k]? = some x:=by
 obtain ⟨X1,Y,rfl,rfl,rfl,_⟩:=h
 rw [← List.append_assoc,← List.length_append,List.getElem?_append_right (Nat.le_refl _),Nat.sub_self];rfl
theorem InI.prev (h:InI lt pre X0 rest x (k+1) E):∃ l,l∈X0∧E[pre.length+k]? = some l:=by
 obtain ⟨X1,Y,rfl,rfl,hk,_⟩:=h
 obtain ⟨X2,l,rfl⟩:∃ X2 l,X1=X2++[l]:=⟨X1.dropLast,X1.getLast (by intro e;subst e;simp at hk),(List.dropLast_concat_getLast _).symm⟩
 have hk:X2.length=k:=by simpa using hk
 subst hk
 refine ⟨l,by simp,?_⟩
 rw [← List.append_assoc,← List.append_assoc,← List.length_append,List.append_assoc,List.getElem?_append_right (Nat.le_refl _),Nat.sub_self];rfl
theorem InI.step (h:InI lt pre X0 rest x (k+1) E) {l:Nat} (hl:E[pre.length+k]? = some l) (hlt:lt x l=true) {i j:Nat} (hi:i=pre.length+(k+1)) (hj:j=pre.length+k):InI lt pre X0 rest x k (sw1 E i j):=by
 obtain ⟨X1,Y,rfl,rfl,hk,_⟩:=h
 obtain ⟨X2,l2,rfl⟩:∃ X2 l,X1=X2++[l]:=⟨X1.dropLast,X1.getLast (by intro e;subst e;simp at hk),(List.dropLast_concat_getLast _).symm⟩
 have hk:X2.length=k:=by simpa using hk
 subst hk
 have e1:pre++(X2++[l2]++x::(Y++rest))=(pre++X2)++l2::x::(Y++rest):=by simp
 rw [e1] at hl ⊢
 rw [← List.length_append,List.getElem?_append_right (Nat.le_refl _),Nat.sub_self] at hl
 obtain rfl:l2=l:=by simpa using hl
 rw [zqD _ _ _ _ (by simp;omega) (by simp;omega)]
 exact ⟨X2,l2::Y,by simp,by simp,rfl,fun f hf=>by
  have hq:l2=f:=Option.some.inj hf
  rw [← hq];exact hlt⟩
theorem InI.done (h:Swo lt) (hI:InI lt pre X0 rest x k E) (hs:X0.Pairwise (Lx lt)) (hb:∀ y∈X0,y < x) (hk:k=0∨∃ j l,k=j+1∧E[pre.length+j]? = some l∧lt x l=false) :
  ∃ X',X'.Perm (x::X0)∧X'.Pairwise (Lx lt)∧E=pre++(X'++rest):=by
 obtain ⟨X1,Y,rfl,rfl,rfl,hf⟩:=hI
 refine ⟨X1++x::Y,List.perm_middle,zeJ h hs ?_ (fun f e=>Or.inl (hf f e)),by simp⟩
 intro l hl
 rcases hk with hk | ⟨j,l',hk,hl',hlt⟩
 ·rw [List.eq_nil_of_length_eq_zero hk] at hl;cases hl
 ·have hl2:X1[j]? = some l:=by rw [List.getLast?_eq_getElem?,hk] at hl;simpa using hl
  rw [List.getElem?_append_right (by omega),show pre.length+j - pre.length=j by omega,List.getElem?_append_left (by omega),hl2] at hl'
  obtain rfl:l=l':=by simpa using hl'
  exact Lx.of_not (hb _ (List.mem_append_left _ (List.mem_of_getElem? hl2))) hlt
end
def up1 (D:List Nat) (a:Nat):Nat→List Nat
 | 0=>D
 | t+1=>sw1 (up1 D a t) (a+t) (a+t+1)
def dn1 (D:List Nat) (m:Nat):Nat→List Nat
 | 0=>D
 | t+1=>sw1 (dn1 D m t) (m - t) (m - t - 1)
theorem zie (D:List Nat) (a:Nat):∀ t,(up1 D a t).length=D.length
 | 0=>rfl
 | t+1=>by rw [up1,zfN,zie]
theorem zif (D:List Nat) (a:Nat):∀ t,(dn1 D a t).length=D.length
 | 0=>rfl
 | t+1=>by rw [dn1,zfN,zif]
theorem zmt:∀ (t:Nat) (pre Y post:List Nat) (x:Nat) {a:Nat},Y.length=t→a=pre.length→up1 (pre++x::(Y++post)) a t=pre++(Y++x::post)
 | 0,pre,Y,post,x,a,hY,ha=>by rw [List.eq_nil_of_length_eq_zero hY];rfl
 | t+1,pre,Y,post,x,a,hY,ha=>by
  obtain ⟨Y',y,rfl⟩:∃ P' p,Y=P'++[p]:=⟨Y.dropLast,Y.getLast (by intro e;subst e;simp at hY),(List.dropLast_concat_getLast _).symm⟩
  simp only [List.length_append,List.length_singleton,Nat.add_right_cancel_iff] at hY
  have h:=zmt t pre Y' (y::post) x (a:=a) hY ha
  rw [up1,show pre++x::(Y'++[y]++post)=pre++x::(Y'++y::post) by simp,h]
  have e:pre++(Y'++x::y::post)=(pre++Y')++x::y::post:=by simp
  rw [e,zqz _ _ _ _ (by simp;omega) (by simp;omega)]
  simp
theorem zmu:∀ (t:Nat) (pre Y post:List Nat) (x:Nat) {m:Nat},Y.length=t→m=pre.length+t→dn1 (pre++(Y++x::post)) m t=pre++x::(Y++post)
 | 0,pre,Y,post,x,m,hY,hm=>by rw [List.eq_nil_of_length_eq_zero hY];rfl
 | t+1,pre,[],post,x,m,hY,hm=>by cases hY
 | t+1,pre,y::Y,post,x,m,hY,hm=>by
  simp only [List.length_cons,Nat.add_right_cancel_iff] at hY
  have h:=zmu t (pre++[y]) Y post x (m:=m) hY (by simp;omega)
  rw [dn1,show pre++(y::Y++x::post)=pre++[y]++(Y++x::post) by simp,h]
  have e:pre++[y]++x::(Y++post)=pre++y::x::(Y++post):=by simp
  rw [e,zqD _ _ _ _ (by omega) (by omega)]
  simp
theorem zfk {D:List Nat} {a x:Nat} (h:D[a]? = some x):seg D a (a+1)=[x]:=by
 have ha:=(List.getElem?_eq_some_iff.1 h).1
 refine List.ext_getElem? fun i=>?_
 unfold seg
 rw [List.getElem?_drop,List.getElem?_take]
 match i with
 | 0=>rw [if_pos (by omega)];simpa using h
 | i+1=>rw [if_neg (by omega)];rfl
theorem zcV {D:List Nat} {i b:Nat} (h:i≤b):D.drop i=seg D i b++D.drop b:=by
 unfold seg
 rw [List.drop_take]
 conv=>lhs;rw [← List.take_append_drop (b - i) (D.drop i)]
 rw [List.drop_drop,show i+(b - i)=b by omega]
theorem zkZ {D:List Nat} {a i:Nat} (h:a≤i):D.take i=D.take a++seg D a i:=by
 unfold seg
 conv=>lhs;rw [← List.take_append_drop a (D.take i)]
 rw [List.take_take,Nat.min_eq_left h]
section
variable {lt:Nat→Nat→Bool} (h:Swo lt)
include h
theorem zns {D : List Nat} {a i b x : Nat} (hx : D[a]? = some x) (h1 : a + 1 ≤ i) (h2 : i ≤ b) (h3 : b ≤ D.length) (hY : (seg D (a + 1) b).Pairwise (Lx lt)) (hxy : ∀ y ∈ seg D (a + 1) b, x < y)
    (c1 : i = a + 1 ∨ ∃ u, D[i - 1]? = some u ∧ lt u x = true) (c2 : i = b ∨ ∃ u, D[i]? = some u ∧ lt u x = false) : Mrg lt a b D (up1 D a (i - 1 - a)) := by
  have la : (D.take a).length = a := by rw [List.length_take]; omega
  have l2 : (seg D (a + 1) i).length = i - 1 - a := by rw [zbb (by omega)]; omega
  have l3 : (seg D i b).length = b - i := zbb h3
  have e0 : seg D (a + 1) b = seg D (a + 1) i ++ seg D i b := zav h1 h2
  have e1 : D = D.take a ++ ((x :: (seg D (a + 1) i ++ seg D i b)) ++ D.drop b) := by
    conv => lhs; rw [← List.take_append_drop a D, zcV (show a ≤ a + 1 by omega), zfk hx, zcV h1, zcV h2]
    simp
  have e2 : up1 D a (i - 1 - a) = D.take a ++ ((seg D (a + 1) i ++ x :: seg D i b) ++ D.drop b) := by
    have := zmt (i - 1 - a) (D.take a) (seg D (a + 1) i) (seg D i b ++ D.drop b) x (a := a) l2 la.symm
    rw [show D.take a ++ x :: (seg D (a + 1) i ++ (seg D i b ++ D.drop b)) = D by conv => rhs; rw [e1]
                                                                                  simp] at this
    rw [this]; simp
  have l4 : (seg D (a + 1) i ++ x :: seg D i b).length = b - a := by simp only [List.length_append, List.length_cons]; omega
  have es : seg (up1 D a (i - 1 - a)) a b = seg D (a + 1) i ++ x :: seg D i b := by rw [e2]; exact zgw la.symm (by omega)
  have e3 : seg D a b = x :: (seg D (a + 1) i ++ seg D i b) := by rw [zav (show a ≤ a + 1 by omega) (show a + 1 ≤ b by omega), zfk hx, e0]; rfl
  refine ⟨?_, ?_, ?_⟩
  · have := Part.of_mid (pre := D.take a) (Z := x :: (seg D (a + 1) i ++ seg D i b)) (Z' := seg D (a + 1) i ++ x :: seg D i b) (post := D.drop b) (a := a) (b := b) la.symm (by simp; omega) (by simp only [List.length_cons, List.length_append]; omega)
    rw [← e1, ← e2] at this
    exact this
  · rw [es, e3]; exact List.perm_middle
  · rw [es]
    rw [e0] at hY hxy
    refine zeJ h hY ?_ ?_
    · intro l hl
      rcases c1 with c1 | ⟨u, hu, hlt⟩
      · rw [zaQ (by omega)] at hl; cases hl
      · by_cases hi : i = a + 1
        · rw [zaQ (by omega)] at hl; cases hl
        · rw [zfR (by omega) (by omega), hu] at hl
          obtain rfl : u = l := by simpa using hl
          exact Or.inl hlt
    · intro f hf
      rcases c2 with c2 | ⟨u, hu, hlt⟩
      · rw [zaQ (by omega)] at hf; cases hf
      · by_cases hi : i = b
        · rw [zaQ (by omega)] at hf; cases hf
        · rw [zfS (by omega), hu] at hf
          obtain rfl : u = f := by simpa using hf
          exact Lx.of_not (hxy _ (List.mem_append_right _ (zb9 hu (by omega) (by omega)))) hlt
theorem zlD {D:List Nat} {a i m y:Nat} (hy:D[m]? = some y) (h1:a≤i) (h2:i≤m) (hX:(seg D a m).Pairwise (Lx lt)) (hxy:∀ x∈seg D a m,x < y)
  (c1:i=a∨∃ u,D[i - 1]? = some u∧lt y u=false) (c2:i=m∨∃ u,D[i]? = some u∧lt y u=true):Mrg lt a (m+1) D (dn1 D m (m - i)):=by
 have h3:=(List.getElem?_eq_some_iff.1 hy).1
 have la:(D.take a).length=a:=by rw [List.length_take];omega
 have li:(D.take i).length=i:=by rw [List.length_take];omega
 have l1:(seg D a i).length=i - a:=zbb (by omega)
 have l2:(seg D i m).length=m - i:=zbb (by omega)
 have e0:seg D a m=seg D a i++seg D i m:=zav h1 h2
 have e3:seg D a (m+1)=seg D a i++(seg D i m++[y]):=by rw [zav (show a≤m by omega) (Nat.le_succ m),zfk hy,e0,List.append_assoc]
 have e1:D=D.take a++((seg D a i++(seg D i m++[y]))++D.drop (m+1)):=by
  rw [← e3];exact zeK (by omega)
 have e2:dn1 D m (m - i)=D.take a++((seg D a i++y::seg D i m)++D.drop (m+1)):=by
  have:=zmu (m - i) (D.take i) (seg D i m) (D.drop (m+1)) y (m:=m) l2 (by omega)
  rw [show D.take i++(seg D i m++y::D.drop (m+1))=D by
   conv=>rhs;rw [e1]
   rw [zkZ h1];simp] at this
  rw [this,zkZ h1];simp
 have l4:(seg D a i++y::seg D i m).length=m+1 - a:=by simp only [List.length_append,List.length_cons];omega
 have es:seg (dn1 D m (m - i)) a (m+1)=seg D a i++y::seg D i m:=by rw [e2];exact zgw la.symm (by omega)
 refine ⟨?_,?_,?_⟩
 ·have:=Part.of_mid (pre:=D.take a) (Z:=seg D a i++(seg D i m++[y])) (Z':=seg D a i++y::seg D i m) (post:=D.drop (m+1)) (a:=a) (b:=m+1) la.symm (by simp only [List.length_cons,List.length_append,List.length_nil]) (by simp only [List.length_cons,List.length_append,List.length_nil];omega)
  rw [← e1,← e2] at this
  exact this
 ·rw [es,e3]
  refine List.Perm.append_left _ ?_
  exact (List.perm_append_singleton y _).symm
 ·rw [es]
  rw [e0] at hX hxy
  refine zeJ h hX ?_ ?_
  ·intro l hl
   rcases c1 with c1 | ⟨u,hu,hlt⟩
   ·rw [zaQ (by omega)] at hl;cases hl
   ·by_cases hi:i=a
    ·rw [zaQ (by omega)] at hl;cases hl
    ·rw [zfR (by omega) (by omega),hu] at hl
     obtain rfl:u=l:=by simpa using hl
     exact Lx.of_not (hxy _ (List.mem_append_left _ (zb9 hu (by omega) (by omega)))) hlt
  ·intro f hf
   rcases c2 with c2 | ⟨u,hu,hlt⟩
   ·rw [zaQ (by omega)] at hf;cases hf
   ·by_cases hi:i=m
    ·rw [zaQ (by omega)] at hf;cases hf
    ·rw [zfS (by omega),hu] at hf
     obtain rfl:u=f:=by simpa using hf
     exact Or.inl hlt
structure Turned (lt:Nat→Nat→Bool) (a s mid e b:Nat) (D D1:List Nat):Prop where
 part:Part a b D D1
 perm:(seg D1 a b).Perm (seg D a b)
 cross:∀ u∈seg D1 a mid,∀ v∈seg D1 mid b,Lx lt u v
 p1:(seg D1 a s).Pairwise (Lx lt)
 p2:(seg D1 s mid).Pairwise (Lx lt)
 c1:∀ x∈seg D1 a s,∀ y∈seg D1 s mid,x < y
 p3:(seg D1 mid e).Pairwise (Lx lt)
 p4:(seg D1 e b).Pairwise (Lx lt)
 c2:∀ x∈seg D1 mid e,∀ y∈seg D1 e b,x < y
theorem zoS {D:List Nat} {a m b s e mid:Nat} (h1:a≤s) (h2:s≤m) (h3:m≤e) (h4:e≤b) (h5:b≤D.length) (hmid:mid=s+(e - m))
  (hX:(seg D a m).Pairwise (Lx lt)) (hY:(seg D m b).Pairwise (Lx lt)) (hxy:∀ x∈seg D a m,∀ y∈seg D m b,x < y)
  (b1:s=a∨e=b∨∃ u v,D[e]? = some u∧D[s - 1]? = some v∧lt u v=false)
  (b2:s=m∨e=m∨∃ u v,D[e - 1]? = some u∧D[s]? = some v∧lt u v=true):Turned lt a s mid e b D (D.take s++(seg D m e++(seg D s m++D.drop e))):=by
 obtain ⟨g1,g2,g3,g4,g5,g6⟩:=zlC h h1 h2 h3 h4 h5 hmid hX hY hxy b1 b2 rfl
 generalize D.take s++(seg D m e++(seg D s m++D.drop e))=D1 at *
 have x1:=zav (D:=D) h1 h2
 have y1:=zav (D:=D) h3 h4
 rw [x1] at hX
 rw [y1] at hY
 obtain ⟨xa,xb,_⟩:=List.pairwise_append.1 hX
 obtain ⟨ya,yb,_⟩:=List.pairwise_append.1 hY
 refine ⟨g1,?_,g6,by rw [g2];exact xa,by rw [g3];exact ya,?_,by rw [g4];exact xb,by rw [g5];exact yb,?_⟩
 ·rw [zav h1 (show s≤b by omega),zav (show s≤mid by omega) (show mid≤b by omega),zav (show mid≤e by omega) h4,g2,g3,g4,g5]
  rw [zav h1 (show s≤b by omega),zav h2 (show m≤b by omega),y1]
  refine List.Perm.append_left _ ?_
  rw [← List.append_assoc,← List.append_assoc]
  exact List.Perm.append_right _ List.perm_append_comm
 ·rw [g2,g3]
  intro x hx y hy
  exact hxy x (by rw [x1];exact List.mem_append_left _ hx) y (by rw [y1];exact List.mem_append_left _ hy)
 ·rw [g4,g5]
  intro x hx y hy
  exact hxy x (by rw [x1];exact List.mem_append_right _ hx) y (by rw [y1];exact List.mem_append_right _ hy)
end
theorem zoT {D:List Nat} {m s e:Nat} (h2:s≤m) (h3:m≤e) (hh:s=m∨m=e):D.take s++(seg D m e++(seg D s m++D.drop e))=D:=by
 rcases hh with rfl | rfl
 ·rw [zaQ (Nat.le_refl _),List.nil_append,← zcV h3,List.take_append_drop]
 ·rw [zaQ (Nat.le_refl _),List.nil_append,← zcV h2,List.take_append_drop]
theorem zmv {D:List Nat} {m s e:Nat} (h2:s≤m) (h3:m≤e):D=D.take s++(seg D s m++(seg D m e++D.drop e)):=by
 rw [← zcV h3,← zcV h2,List.take_append_drop]
end Go.Proofs.YtkoidgbgoccgmaaGreatDoor
namespace Go.Proofs.YtkoidgbgoccgmaaGreatDoor
open _root_.Go.Proofs.Tryz
open Go.RowKit NM
structure CmpS (cl:FuncId) (capt:Array Value) (lt:Nat→Nat→Bool) (M base:Nat) (w:World):Prop where
 ent:∀ (args:Array Value) (W:World),(callFunc cl args).run prog W = .ok (.enter cl args) W
 run:∀ (i j:Nat) (W:World),i < M→j < M→Below base w W→Calls prog cl (#[.int .i64 (i:Int),.int .i64 (j:Int)]++capt) W fun e W'=>∃ c:Int,e = .returned (.int .i64 c)∧decide (c < 0)=lt i j∧Ext W W'
theorem CmpS.keep {cl:FuncId} {capt:Array Value} {lt:Nat→Nat→Bool} {M base:Nat} {w w':World} (h:CmpS cl capt lt M base w) (hb:Below base w w'):CmpS cl capt lt M base w' :=
 ⟨h.ent,fun i j W hi hj hW=>h.run i j W hi hj (hb.trans hW)⟩
theorem Wr.of_ext {base:Nat} {w w':World} {A:Option Addr} {cap:Nat} {l:List Nat} (h:Wr base w A cap l) (hx:Ext w w'):Wr base w' A cap l:=Dg.ext h hx
theorem zaP {base:Nat} {w X Y:World} (h:Below base w X) (hb:base≤w.heap.size) (hx:Ext X Y):Below base w Y:=Below.trans h (Below.mono hx (Nat.le_trans hb h.size))
theorem zeN {a k:Nat} {X X':List Nat} (hX:X.Perm (List.range' a k)) (hX':X'.Perm ((a+k)::X)):X'.Perm (List.range' a (k+1)):=by
 rw [List.range'_concat,Nat.one_mul]
 exact hX'.trans ((hX.cons _).trans (List.perm_append_singleton _ _).symm)
theorem zlE {lt:Nat→Nat→Bool} (hlt:Swo lt) (cl:FuncId) (capt:Array Value) (M base:Nat) (A:Option Addr) (cap N a m:Nat) (b:Int) (pre post:List Nat) (w:World) (hc:CmpS cl capt lt M base w) (hbw:base≤w.heap.size)
  (h:Wr base w A cap (pre++(List.range' a m++post))) (ha:pre.length=a) (hN:pre.length+m+post.length=N) (hs:N≤100000) (hM:a+m≤M) (hb:(a:Int)+m=b) :
  Calls prog 191 #[.slice A N cap,.int .i64 (a:Int),.int .i64 b,.func (.func cl) #[] capt] w fun e w'=>e = .returned (.tuple #[])∧(∃ X,X.Perm (List.range' a m)∧X.Pairwise (Lx lt)∧Wr base w' A cap (pre++(X++post)))∧Below base w w':=by
 have ha4:a≤100000:=by omega
 have hm4:a+m≤100000:=by omega
 have e1:IntKind.i64.wrap ((a:Int)+1)=(a:Int)+1:=by rw [IntKind.wrap_i64];omega
 have HC:=Lib.hid hc
 by_cases hm:m=0
 ·subst hm
  have hX:∃ X,X.Perm (List.range' a 0)∧X.Pairwise (Lx lt)∧Wr base w A cap (pre++(X++post)):=⟨[],List.Perm.refl _,List.Pairwise.nil,h⟩
  have HX:=Lib.hid hX
  have hb':¬ (a:Int)+1 < b:=by omega
  clear hX h hb hc
  go_enter func191,ntmps191
  go_wp2_with fail
  go_loopw [8] (fun i wr=>i = .int .i64 ((a:Int)+1)∧wr=w) (fun i _=>0)
  case atStart=>exact ⟨rfl,rfl⟩
  case round =>
   obtain ⟨rfl,rfl⟩:=hrel
   go_wp2_with fail
   exact bodyPost_end (v:=.tuple #[]) (by simp [results,results191,go_sem]) rfl ⟨rfl,HX.out,Below.refl _ _⟩
 ·have H0:Hid (∃ X,X.Perm (List.range' a 1)∧X.Pairwise (Lx lt)∧Wr base w A cap (pre++(X++(List.range' (a+1) (m - 1)++post)))):=by
   refine ⟨[a],List.Perm.refl _,List.pairwise_singleton _ _,?_⟩
   have e:List.range' a m=a::List.range' (a+1) (m - 1):=by rw [show m=(m - 1)+1 by omega,List.range'_succ];rfl
   rw [e] at h
   simpa using h
  clear h hc
  go_enter func191,ntmps191
  go_wp2_with fail
  go_loopw [8] (fun i wr=>∃ k p:Nat,1≤k∧k≤m∧p=a+k∧i = .int .i64 (p:Int)∧Hid (∃ X,X.Perm (List.range' a k)∧X.Pairwise (Lx lt)∧Wr base wr A cap (pre++(X++(List.range' (a+k) (m - k)++post))))∧Below base w wr) (fun i _=>(b - intOf i).toNat)
  case atStart=>exact ⟨1,a+1,Nat.le_refl _,by omega,rfl,by go_num,H0,Below.refl _ _⟩
  case round =>
   clear H0
   obtain ⟨k,p,hk1,hk,hp,rfl,HW,hX⟩:=hrel
   by_cases hkm:k < m
   ·have hpb:(p:Int) < b:=by omega
    have ep:IntKind.i64.wrap ((p:Int)+1)=((p+1:Nat):Int):=by rw [IntKind.wrap_i64];omega
    obtain ⟨X,hXp,hXs,hXw⟩:=HW.out
    have er:List.range' (a+k) (m - k)=(a+k)::List.range' (a+k+1) (m - (k+1)):=by rw [show m - k=(m - (k+1))+1 by omega,List.range'_succ]
    rw [er] at hXw
    obtain ⟨rest,hrest⟩:∃ rest,List.range' (a+k+1) (m - (k+1))++post=rest:=⟨_,rfl⟩
    have hrl:rest.length=m - (k+1)+post.length:=by rw [← hrest];simp
    rw [List.cons_append,hrest] at hXw
    have hXl:X.length=k:=by have:=hXp.length_eq;simpa using this
    have HI0:Hid (InI lt pre X rest p k (pre++(X++p::rest))∧Wr base wr A cap (pre++(X++p::rest))):=by rw [hp];exact ⟨hXl ▸ InI.start lt pre X rest (a+k),hXw⟩
    have HF:=Lib.hid (And.intro hXp (And.intro hXs hrest))
    have HB:Hid (∀ y∈X,y < p):=fun y hy=>by
     have:=hXp.mem_iff.1 hy
     rw [List.mem_range'_1] at this;omega
    have HN:Hid (pre.length+k+1+rest.length=N):=by show _=_;omega
    clear HW hXp hXs hXw er hrest hrl
    have hpM:p < M:=by omega
    have HP:=Lib.hid hp
    have HK:=Lib.hid hX
    have HX0:Hid (X.length=k):=hXl
    clear hp hX hXl
    go_wp2_with fail
    obtain ⟨wo,rfl⟩:∃ wo:World,wo=wr:=⟨_,rfl⟩
    go_loopw [9] (fun j wr=>∃ q s:Nat,s=a+q∧q≤k∧j = .int .i64 (s:Int)∧Hid (∃ E,InI lt pre X rest p q E∧Wr base wr A cap E)∧Below base w wr) (fun j _=>(intOf j - (a:Int)).toNat)
    case atStart=>exact ⟨k,p,HP.out,Nat.le_refl _,rfl,⟨_,HI0.out⟩,HK.out⟩
    case round =>
     clear HI0
     obtain ⟨q,s,hsq,hq,rfl,HE,hX⟩:=hrel
     obtain ⟨E,hI,hE⟩:=HE.out
     have hEl:=hI.len
     by_cases hq0:q=0
     ·obtain ⟨X',x1,x2,x3⟩:=hI.done hlt HF.out.2.1 HB.out (Or.inl hq0)
      have HO:Hid (∃ X,X.Perm (List.range' a (k+1))∧X.Pairwise (Lx lt)∧Wr base wr A cap (pre++(X++(List.range' (a+(k+1)) (m - (k+1))++post)))):=by
       refine ⟨X',zeN HF.out.1 (by rw [← HP.out];exact x1),x2,?_⟩
       rw [show a+(k+1)=a+k+1 by omega,HF.out.2.2,← x3];exact hE
      have hsa:s=a:=by omega
      subst hsa
      clear HE hI hE hEl x1 x2 x3 hsq
      go_upto_region 4 with fail
      refine plP [(0,0),(1,0),(2,0),(3,0),(4,0),(5,0),(6,0),(7,0),(8,0),(9,0),(10,0),(11,0),(12,0),(13,0),(14,1),(15,0),(16,0)] [] (by kernel_rfl) (fun _ _ d _ _ h=>by cases d <;> exact h) ?_
      iterate 14 ((first | refine z8 rfl rfl ?_ | (apply rdP rfl rfl;(intros;go_simp;first | done | rfl)) | (refine zS (v:=?_) (c:=?_) rfl rfl rfl rfl ?_ (fun hc w1 h1=>?_) ?_;rotate_left 2;(first | exact zak _ | exact zal _ | exact zQ _ _ | exact zR _ _);(obtain ⟨os1,d1,rfl⟩:=h1.more;(try simp only [zn hc]);(try (have hc1:=zx hc;(try simp only [zn hc1]);(try (have hc2:=zx hc1;(try simp only [zn hc2])))));go_simp;first | done | rfl)));try simp only [zq])
      (refine za8 rfl ?_ ?_ ?_;(first | with_reducible rfl | rfl | (go_simp;done));(simp [go_sem]))
      try simp only [zq]
      iterate 2 ((first | refine z8 rfl rfl ?_ | refine zat rfl rfl rfl rfl rfl rfl ?_ | refine zaz rfl rfl rfl rfl rfl rfl ?_ | (apply rdP rfl rfl;(intros;go_simp;first | done | rfl)) | (refine zS (v:=?_) (c:=?_) rfl rfl rfl rfl ?_ (fun hc w1 h1=>?_) ?_;rotate_left 2;(first | exact zak _ | exact zal _ | exact zQ _ _ | exact zR _ _);(obtain ⟨os1,d1,rfl⟩:=h1.more;(try simp only [zn hc]);(try (have hc1:=zx hc;(try simp only [zn hc1]);(try (have hc2:=zx hc1;(try simp only [zn hc2])))));go_simp;first | done | rfl)));try simp only [zq])
      refine zj ?_
      go_wp2_with fail
      refine ⟨⟨k+1,p+1,by omega,by omega,by have:=HP.out;omega,by go_num,?_,by first | exact hX | exact hX.drew | exact hX.drew.drew⟩,by simp [intOf];omega⟩
      obtain ⟨X2,y1,y2,y3⟩:=HO.out
      exact ⟨X2,y1,y2,y3.of_ext (by simp [go_sem])⟩
     ·obtain ⟨q',rfl⟩:∃ q',q=q'+1:=⟨q - 1,by omega⟩
      have hat:=hI.at
      obtain ⟨l,hlX,hl⟩:=hI.prev
      have hlM:l < M:=by have:=HB.out l hlX;have:=HP.out;omega
      rw [ha] at hat hl
      rw [← hsq] at hat
      obtain ⟨s',hs'⟩:∃ s',a+q'=s':=⟨_,rfl⟩
      rw [hs'] at hl
      obtain ⟨bl,off,rfl,hb1,cx,fx⟩:=Dg.at hE hat
      obtain ⟨bl',off',e,_,cl',fl⟩:=Dg.at hE hl
      obtain ⟨rfl,rfl⟩:=aI e
      have hblk:bl < wr.heap.size:=zg cx
      have hsa:(a:Int) < (s:Int):=by omega
      have es:IntKind.i64.wrap ((s:Int) - 1)=(s':Int):=by rw [IntKind.wrap_i64];omega
      have hsN:s < N:=by have:=HN.out;have:=HX0.out;omega
      have hs'N:s' < N:=by omega
      have hcap:=hE.1
      have hent:=HC.out.ent
      have hcall:=fun (W:World) (hW:Ext wr W)=>HC.out.run p l W hpM hlM (zaP hX hbw hW)
      cases hlx:lt p l with
      | true =>
       rw [hlx] at hcall
       have HSw:Hid (∃ E',InI lt pre X rest p q' E'∧Wr base ((wr.setCell ⟨bl,off+s,none⟩ (.int .i64 (l:Int))).setCell ⟨bl,off+s',none⟩ (.int .i64 (p:Int))) (some ⟨bl,off,none⟩) cap E'):=by
        refine ⟨sw1 E s s',hI.step (by rw [ha,hs'];exact hl) hlx (by omega) (by omega),?_⟩
        exact Wr.sw hE hat hl
       have hsE:s < E.length:=(List.getElem?_eq_some_iff.1 hat).1
       have hz:(E.set s l)[s']? = some l:=by rw [List.getElem?_set_ne (by omega)];exact hl
       obtain ⟨bl',off',e,_,cz,fz⟩:=Dg.at (Dg.set (d:=l) hE hsE) hz
       obtain ⟨rfl,rfl⟩:=aI e
       have hX2:=Wr.bel (Wr.bel hX hE hsE (.int .i64 (l:Int))) (Dg.set (d:=l) hE hsE) (show s' < (E.set s l).length by rw [List.length_set];omega) (.int .i64 (p:Int))
       have HQ:Hid (s'=a+q'∧q'≤k∧s=a+(q'+1)):=⟨hs'.symm,by omega,hsq⟩
       clear HE hI hE hEl hq0 hsq hs' hlx hX hsE hz hat hl hlX hq
       go_upto_region 4 with fail
       refine plP [(0,0),(1,0),(2,0),(3,0),(4,0),(5,0),(6,0),(7,0),(8,0),(9,0),(10,0),(11,0),(12,0),(13,0),(14,1),(15,0),(16,0)] [] (by kernel_rfl) (fun _ _ d _ _ h=>by cases d <;> exact h) ?_
       iterate 14 ((first | refine z8 rfl rfl ?_ | (apply rdP rfl rfl;(intros;go_simp;first | done | rfl)) | (refine zS (v:=?_) (c:=?_) rfl rfl rfl rfl ?_ (fun hc w1 h1=>?_) ?_;rotate_left 2;(first | exact zak _ | exact zal _ | exact zQ _ _ | exact zR _ _);(obtain ⟨os1,d1,rfl⟩:=h1.more;(try simp only [zn hc]);(try (have hc1:=zx hc;(try simp only [zn hc1]);(try (have hc2:=zx hc1;(try simp only [zn hc2])))));go_simp;first | done | rfl)));try simp only [zq])
       (refine zh rfl ?_ (fun K hK=>?_);(first | with_reducible rfl | rfl | (go_simp;done));go_simp;refine (hcall _ (by simp [go_sem])).mono ?_;rintro e w' ⟨c,rfl,hlc,hb⟩;obtain ⟨os1,d1,rfl⟩:=hb.more;clear hb;refine hK _ _ ?_ ?_;(simp [go_sem]))
       try simp only [zq]
       iterate 2 ((first | refine z8 rfl rfl ?_ | refine zat rfl rfl rfl rfl rfl rfl ?_ | refine zaz rfl rfl rfl rfl rfl rfl ?_ | (apply rdP rfl rfl;(intros;go_simp;first | done | rfl)) | (refine zS (v:=?_) (c:=?_) rfl rfl rfl rfl ?_ (fun hc w1 h1=>?_) ?_;rotate_left 2;(first | exact zak _ | exact zal _ | exact zQ _ _ | exact zR _ _);(obtain ⟨os1,d1,rfl⟩:=h1.more;(try simp only [zn hc]);(try (have hc1:=zx hc;(try simp only [zn hc1]);(try (have hc2:=zx hc1;(try simp only [zn hc2])))));go_simp;first | done | rfl)));try simp only [zq])
       refine zj ?_
       go_upto_region 6 with fail
       go_region
       go_wp2_with fail
       refine ⟨⟨q',s',HQ.out.1,HQ.out.2.1,rfl,?_,?_⟩,by have:=HQ.out;simp [intOf];omega⟩
       ·obtain ⟨E',f1,f2⟩:=HSw.out
        exact ⟨E',f1,f2.of_ext (by simp [go_sem])⟩
       ·exact zaP hX2 hbw (by simp [go_sem])
      | false =>
       rw [hlx] at hcall
       obtain ⟨X',x1,x2,x3⟩:=hI.done hlt HF.out.2.1 HB.out (Or.inr ⟨q',l,rfl,by rw [ha,hs'];exact hl,hlx⟩)
       have HO:Hid (∃ X,X.Perm (List.range' a (k+1))∧X.Pairwise (Lx lt)∧Wr base wr (some ⟨bl,off,none⟩) cap (pre++(X++(List.range' (a+(k+1)) (m - (k+1))++post)))):=by
        refine ⟨X',zeN HF.out.1 (by rw [← HP.out];exact x1),x2,?_⟩
        rw [show a+(k+1)=a+k+1 by omega,HF.out.2.2,← x3];exact hE
       clear HE hI hE hEl hq0 hsq hs' hlx x1 x2 x3 hat hl hlX hq
       go_upto_region 4 with fail
       refine plP [(0,0),(1,0),(2,0),(3,0),(4,0),(5,0),(6,0),(7,0),(8,0),(9,0),(10,0),(11,0),(12,0),(13,0),(14,1),(15,0),(16,0)] [] (by kernel_rfl) (fun _ _ d _ _ h=>by cases d <;> exact h) ?_
       iterate 14 ((first | refine z8 rfl rfl ?_ | (apply rdP rfl rfl;(intros;go_simp;first | done | rfl)) | (refine zS (v:=?_) (c:=?_) rfl rfl rfl rfl ?_ (fun hc w1 h1=>?_) ?_;rotate_left 2;(first | exact zak _ | exact zal _ | exact zQ _ _ | exact zR _ _);(obtain ⟨os1,d1,rfl⟩:=h1.more;(try simp only [zn hc]);(try (have hc1:=zx hc;(try simp only [zn hc1]);(try (have hc2:=zx hc1;(try simp only [zn hc2])))));go_simp;first | done | rfl)));try simp only [zq])
       (refine zh rfl ?_ (fun K hK=>?_);(first | with_reducible rfl | rfl | (go_simp;done));go_simp;refine (hcall _ (by simp [go_sem])).mono ?_;rintro e w' ⟨c,rfl,hlc,hb⟩;obtain ⟨os1,d1,rfl⟩:=hb.more;clear hb;refine hK _ _ ?_ ?_;(simp [go_sem]))
       try simp only [zq]
       iterate 2 ((first | refine z8 rfl rfl ?_ | refine zat rfl rfl rfl rfl rfl rfl ?_ | refine zaz rfl rfl rfl rfl rfl rfl ?_ | (apply rdP rfl rfl;(intros;go_simp;first | done | rfl)) | (refine zS (v:=?_) (c:=?_) rfl rfl rfl rfl ?_ (fun hc w1 h1=>?_) ?_;rotate_left 2;(first | exact zak _ | exact zal _ | exact zQ _ _ | exact zR _ _);(obtain ⟨os1,d1,rfl⟩:=h1.more;(try simp only [zn hc]);(try (have hc1:=zx hc;(try simp only [zn hc1]);(try (have hc2:=zx hc1;(try simp only [zn hc2])))));go_simp;first | done | rfl)));try simp only [zq])
       refine zj ?_
       go_wp2_with fail
       refine ⟨⟨k+1,p+1,by omega,by omega,by have:=HP.out;omega,by go_num,?_,zaP hX hbw (by simp [go_sem])⟩,by simp [intOf];omega⟩
       obtain ⟨X2,y1,y2,y3⟩:=HO.out
       exact ⟨X2,y1,y2,y3.of_ext (by simp [go_sem])⟩
   ·obtain rfl:k=m:=by omega
    have hpb:¬ (p:Int) < b:=by omega
    have HO:Hid (∃ X,X.Perm (List.range' a k)∧X.Pairwise (Lx lt)∧Wr base wr A cap (pre++(X++post))):=by
     obtain ⟨X,x1,x2,x3⟩:=HW.out
     exact ⟨X,x1,x2,by simpa using x3⟩
    clear HW
    go_wp2_with fail
    obtain ⟨X,x1,x2,x3⟩:=HO.out
    exact bodyPost_end (v:=.tuple #[]) (by simp [results,results191,go_sem]) rfl ⟨rfl,⟨X,x1,x2,x3⟩,hX⟩
theorem zeO {i j h:Nat} (hb:i+j≤200000) (hh:(i+j) / 2=h):IntKind.i64.wrap ((i:Int)+(j:Int))=(i:Int)+(j:Int)∧IntKind.u64.wrap ((i:Int)+(j:Int))=(i:Int)+(j:Int)∧((i:Int)+(j:Int)) / 2=(h:Int)∧IntKind.u64.wrap (h:Int)=(h:Int)∧IntKind.i64.wrap (h:Int)=(h:Int):=by
 refine ⟨?_,?_,?_,?_,?_⟩
 ·rw [IntKind.wrap_i64];omega
 ·rw [IntKind.wrap_u64];omega
 ·omega
 ·rw [IntKind.wrap_u64];omega
 ·rw [IntKind.wrap_i64];omega
structure MrgIn (lt:Nat→Nat→Bool) (cl:FuncId) (capt:Array Value) (M base:Nat) (A:Option Addr) (cap N a m b:Nat) (D:List Nat) (w:World):Prop where
 cmp:CmpS cl capt lt M base w
 bw:base≤w.heap.size
 wr:Wr base w A cap D
 len:D.length=N
 small:N≤100000
 am:a < m
 mb:m < b
 bN:b≤N
 lim:∀ x∈seg D a b,x < M
 sx:(seg D a m).Pairwise (Lx lt)
 sy:(seg D m b).Pairwise (Lx lt)
 xy:∀ x∈seg D a m,∀ y∈seg D m b,x < y
theorem zlF {lt:Nat→Nat→Bool} (hlt:Swo lt) (cl:FuncId) (capt:Array Value) (M base:Nat) (A:Option Addr) (cap N a b:Nat) (D:List Nat) (w:World) (h:MrgIn lt cl capt M base A cap N a (a+1) b D w) :
  Calls prog 192 #[.slice A N cap,.int .i64 (a:Int),.int .i64 ((a+1:Nat):Int),.int .i64 (b:Int),.func (.func cl) #[] capt] w fun e w'=>e = .returned (.tuple #[])∧(∃ D',Mrg lt a b D D'∧Wr base w' A cap D')∧Below base w w':=by
 obtain ⟨hc,hbw,hW0,hDl,hs,hamm,hmb,hbN,hlim,hsx,hsy,hxy⟩:=h
 obtain ⟨x,hx⟩:∃ x,D[a]? = some x:=⟨_,List.getElem?_eq_getElem (by omega)⟩
 obtain ⟨m,hm⟩:∃ m,a+1=m:=⟨_,rfl⟩
 have hxM:x < M:=hlim x (zb9 hx (by omega) (by omega))
 have e0:IntKind.i64.wrap ((m:Int) - (a:Int))=1:=by rw [IntKind.wrap_i64];omega
 obtain ⟨bl,off,rfl,hb1,cx,fx⟩:=Dg.at hW0 hx
 have hcap:=hW0.1
 have hblk:bl < w.heap.size:=zg cx
 have HC:=Lib.hid hc
 have hent:=hc.ent
 have HL:=Lib.hid hlim
 have HF:=Lib.hid (And.intro hsy (And.intro (fun y hy=>hxy x (by rw [zfk hx];simp) y hy:∀ y∈seg D (a+1) b,x < y) (And.intro hm hx)))
 have HW0:=Lib.hid hW0
 have hm0:m≤b:=by omega
 have ha0:a < m:=by omega
 rw [hm]
 rw [hDl] at hcap
 clear hc hlim hsx hsy hxy hW0 hx hm cx fx
 go_enter func192,ntmps192
 go_wp2_with fail
 go_loopw [10,11] (fun s t wr=>∃ i j:Nat,m≤i∧i≤j∧j≤b∧s = .int .i64 (i:Int)∧t = .int .i64 (j:Int)∧Hid (i=m∨∃ u,D[i - 1]? = some u∧lt u x=true)∧Hid (j=b∨∃ u,D[j]? = some u∧lt u x=false)∧Wr base wr (some ⟨bl,off,none⟩) cap D∧Below base w wr) (fun s t _=>(intOf t - intOf s).toNat)
 case atStart=>exact ⟨m,b,Nat.le_refl _,hm0,Nat.le_refl _,rfl,rfl,Or.inl rfl,Or.inl rfl,HW0.out,Below.refl _ _⟩
 case round =>
  obtain ⟨i,j,h1,h2,h3,rfl,rfl,H1,H2,hW,hX⟩:=hrel
  by_cases hij:i < j
  ·have hij':(i:Int) < (j:Int):=by omega
   obtain ⟨hh,ehh⟩:∃ hh,(i+j) / 2=hh:=⟨_,rfl⟩
   obtain ⟨w1,w2,w3,w4,w5⟩:=zeO (i:=i) (j:=j) (by omega) ehh
   have g1:i≤hh:=by omega
   have g2:hh < j:=by omega
   obtain ⟨u,hu⟩:∃ u,D[hh]? = some u:=⟨_,List.getElem?_eq_getElem (by omega)⟩
   have huM:u < M:=HL.out u (zb9 hu (by omega) (by omega))
   obtain ⟨bl',off',e,_,cu,fu⟩:=Dg.at hW hu
   obtain ⟨rfl,rfl⟩:=aI e
   obtain ⟨bl',off',e,_,cx,fx⟩:=Dg.at hW HF.out.2.2.2
   obtain ⟨rfl,rfl⟩:=aI e
   have hcall:=fun (W:World) (hW:Ext wr W)=>HC.out.run u x W huM hxM (zaP hX hbw hW)
   have hb2:bl < wr.heap.size:=zg cx
   have HU:=Lib.hid (And.intro hu ehh)
   have hN1:hh < N:=by omega
   have hN2:a < N:=by omega
   have hw5:IntKind.i64.wrap ((hh:Int)+1)=((hh+1:Nat):Int):=by rw [IntKind.wrap_i64];omega
   clear hu ehh HW0
   go_upto_region 5 with fail
   cases hlx:lt u x with
   | true =>
    rw [hlx] at hcall
    have H1':Hid (hh+1=m∨∃ u,D[hh+1 - 1]? = some u∧lt u x=true):=Or.inr ⟨u,HU.out.1,hlx⟩
    clear hlx
    refine plP [(0,0),(1,0),(2,0),(3,0),(4,0),(5,0),(6,0),(7,0),(8,0),(9,1),(10,0)] [] (by kernel_rfl) (fun _ _ d _ _ h=>by cases d <;> exact h) ?_
    iterate 9 (apply rdP rfl rfl;(intros;go_simp;first | done | rfl);try simp only [zq])
    (refine zh rfl ?_ (fun K hK=>?_);rfl;go_simp;refine (hcall _ (by simp [go_sem])).mono ?_;rintro e w' ⟨c,rfl,hlc,hb⟩;obtain ⟨os1,d1,rfl⟩:=hb.more;clear hb;refine hK _ _ ?_ ?_;(simp [go_sem]))
    try simp only [zq]
    (apply rdP rfl rfl;(intros;go_simp;first | done | rfl))
    try simp only [zq]
    refine zj ?_
    go_wp2_with fail
    exact ⟨⟨hh+1,j,by omega,by omega,h3,by go_num,rfl,H1',H2,hW.of_ext (by simp [go_sem]),zaP hX hbw (by simp [go_sem])⟩,by simp [intOf];omega⟩
   | false =>
    rw [hlx] at hcall
    have H2':Hid (hh=b∨∃ u,D[hh]? = some u∧lt u x=false):=Or.inr ⟨u,HU.out.1,hlx⟩
    clear hlx
    refine plP [(0,0),(1,0),(2,0),(3,0),(4,0),(5,0),(6,0),(7,0),(8,0),(9,1),(10,0)] [] (by kernel_rfl) (fun _ _ d _ _ h=>by cases d <;> exact h) ?_
    iterate 9 (apply rdP rfl rfl;(intros;go_simp;first | done | rfl);try simp only [zq])
    (refine zh rfl ?_ (fun K hK=>?_);rfl;go_simp;refine (hcall _ (by simp [go_sem])).mono ?_;rintro e w' ⟨c,rfl,hlc,hb⟩;obtain ⟨os1,d1,rfl⟩:=hb.more;clear hb;refine hK _ _ ?_ ?_;(simp [go_sem]))
    try simp only [zq]
    (apply rdP rfl rfl;(intros;go_simp;first | done | rfl))
    try simp only [zq]
    refine zj ?_
    go_wp2_with fail
    exact ⟨⟨i,hh,h1,by omega,by omega,rfl,rfl,H1,H2',hW.of_ext (by simp [go_sem]),zaP hX hbw (by simp [go_sem])⟩,by simp [intOf];omega⟩
  ·obtain rfl:i=j:=by omega
   have hi1:IntKind.i64.wrap ((i:Int) - 1)=((i - 1:Nat):Int):=by rw [IntKind.wrap_i64];omega
   have HM:Hid (Mrg lt a b D (up1 D a (i - 1 - a))):=by
    obtain ⟨f1,f2,f3,f4⟩:=HF.out
    exact zns hlt f4 (by omega) h3 (by omega) f1 f2 (by rw [f3];exact H1.out) H2.out
   obtain ⟨i',hi'⟩:∃ i',i - 1=i':=⟨_,rfl⟩
   rw [hi'] at hi1 HM
   have hi2:a≤i':=by omega
   have hi3:i' < N:=by omega
   have HX:=Lib.hid hX
   clear H1 H2 h1 h2 hi' hij hX
   have HV:=Lib.hid hW
   clear hW HW0
   go_wp2_with fail
   obtain ⟨wo,hwo⟩:∃ wo:World,wo=wr:=⟨_,rfl⟩
   rw [← hwo] at HX HV
   rw [← hwo]
   clear hwo
   go_loopw [13] (fun k wr=>∃ t p:Nat,p=a+t∧t≤i' - a∧k = .int .i64 (p:Int)∧Hid (Wr base wr (some ⟨bl,off,none⟩) cap (up1 D a t))∧Below base w wr) (fun k _=>((i':Int) - intOf k).toNat)
   case atStart=>exact ⟨0,a,rfl,Nat.zero_le _,rfl,HV.out,HX.out⟩
   case round =>
    obtain ⟨t,p,hp,ht,rfl,HW,hX⟩:=hrel
    by_cases htt:p < i'
    ·have htt':(p:Int) < (i':Int):=by omega
     have hE:=HW.out
     have hEl:(up1 D a t).length=N:=by rw [zie];exact hDl
     obtain ⟨x1,hx1⟩:∃ x,(up1 D a t)[p]? = some x:=⟨_,List.getElem?_eq_getElem (by omega)⟩
     obtain ⟨y1,hy1⟩:∃ x,(up1 D a t)[p+1]? = some x:=⟨_,List.getElem?_eq_getElem (by omega)⟩
     obtain ⟨s',hs'⟩:∃ s',p+1=s':=⟨_,rfl⟩
     rw [hs'] at hy1
     have ep:IntKind.i64.wrap ((p:Int)+1)=(s':Int):=by rw [IntKind.wrap_i64];omega
     obtain ⟨bl',off',e,_,cx,fx⟩:=Dg.at hE hx1
     obtain ⟨rfl,rfl⟩:=aI e
     obtain ⟨bl',off',e,_,cy,fy⟩:=Dg.at hE hy1
     obtain ⟨rfl,rfl⟩:=aI e
     have hb3:bl < wr.heap.size:=zg cx
     have hz:((up1 D a t).set p y1)[s']? = some y1:=by rw [List.getElem?_set_ne (by omega)];exact hy1
     obtain ⟨bl',off',e,_,cz,fz⟩:=Dg.at (Dg.set (d:=y1) hE (show p < (up1 D a t).length by omega)) hz
     obtain ⟨rfl,rfl⟩:=aI e
     have hX2:=Wr.bel (Wr.bel hX hE (show p < (up1 D a t).length by omega) (.int .i64 (y1:Int))) (Dg.set (d:=y1) hE (show p < (up1 D a t).length by omega)) (show s' < ((up1 D a t).set p y1).length by rw [List.length_set];omega) (.int .i64 (x1:Int))
     have HSw:Hid (Wr base ((wr.setCell ⟨bl,off+p,none⟩ (.int .i64 (y1:Int))).setCell ⟨bl,off+s',none⟩ (.int .i64 (x1:Int))) (some ⟨bl,off,none⟩) cap (up1 D a (t+1))):=by
      show Wr _ _ _ _ (sw1 (up1 D a t) (a+t) (a+t+1))
      rw [← hp,hs']
      exact Wr.sw hE hx1 hy1
     have hpN:p < N:=by omega
     have hsN:s' < N:=by omega
     have HQ:Hid (s'=a+(t+1)∧t+1≤i' - a∧s'=p+1):=⟨by omega,by omega,hs'.symm⟩
     clear HW hE hEl hx1 hy1 hs' hz hp ht hX
     go_wp2_with fail
     go_region
     go_wp2_with fail
     exact ⟨⟨t+1,s',HQ.out.1,HQ.out.2.1,by go_num,HSw.out.of_ext (by simp [go_sem]),zaP hX2 hbw (by simp [go_sem])⟩,by have:=HQ.out;simp [intOf];omega⟩
    ·have hti:t=i' - a:=by omega
     have htt':¬ (p:Int) < (i':Int):=by omega
     rw [hti] at HW
     clear hti
     go_wp2_with fail
     exact rt0 rfl rfl ⟨rfl,⟨_,HM.out,HW.out.of_ext (by simp [go_sem])⟩,hX⟩
theorem zk0 {lt:Nat→Nat→Bool} (hlt:Swo lt) (cl:FuncId) (capt:Array Value) (M base:Nat) (A:Option Addr) (cap N a m:Nat) (D:List Nat) (w:World) (h:MrgIn lt cl capt M base A cap N a m (m+1) D w) (hne:m≠a+1) :
  Calls prog 192 #[.slice A N cap,.int .i64 (a:Int),.int .i64 (m:Int),.int .i64 ((m+1:Nat):Int),.func (.func cl) #[] capt] w fun e w'=>e = .returned (.tuple #[])∧(∃ D',Mrg lt a (m+1) D D'∧Wr base w' A cap D')∧Below base w w':=by
 obtain ⟨hc,hbw,hW0,hDl,hs,hamm,hmb,hbN,hlim,hsx,hsy,hxy⟩:=h
 obtain ⟨y,hy⟩:∃ x,D[m]? = some x:=⟨_,List.getElem?_eq_getElem (by omega)⟩
 obtain ⟨b,hb⟩:∃ b,m+1=b:=⟨_,rfl⟩
 have hyM:y < M:=hlim y (zb9 hy (by omega) (by omega))
 have e0:IntKind.i64.wrap ((m:Int) - (a:Int))=(m:Int) - (a:Int):=by rw [IntKind.wrap_i64];omega
 have e1:((m:Int) - (a:Int) == 1)=false:=by simp;omega
 have e2:IntKind.i64.wrap ((b:Int) - (m:Int))=1:=by rw [IntKind.wrap_i64];omega
 obtain ⟨bl,off,rfl,hb1,cx,fx⟩:=Dg.at hW0 hy
 have hcap:=hW0.1
 have hblk:bl < w.heap.size:=zg cx
 have HC:=Lib.hid hc
 have hent:=hc.ent
 have HL:=Lib.hid hlim
 have HF:=Lib.hid (And.intro hsx (And.intro (fun x hx=>hxy x hx y (by rw [zfk hy];simp):∀ x∈seg D a m,x < y) (And.intro hb hy)))
 have HW0:=Lib.hid hW0
 have hm0:m < b:=by omega
 have hm1:m < N:=by omega
 rw [hb]
 rw [hb] at hbN HL
 rw [hDl] at hcap
 clear hc hlim hsx hsy hxy hW0 hy hb hmb cx fx hne
 go_enter func192,ntmps192
 go_wp2_with fail
 go_loopw [14,15] (fun s t wr=>∃ i j:Nat,a≤i∧i≤j∧j≤m∧s = .int .i64 (i:Int)∧t = .int .i64 (j:Int)∧Hid (i=a∨∃ u,D[i - 1]? = some u∧lt y u=false)∧Hid (j=m∨∃ u,D[j]? = some u∧lt y u=true)∧Wr base wr (some ⟨bl,off,none⟩) cap D∧Below base w wr) (fun s t _=>(intOf t - intOf s).toNat)
 case atStart=>exact ⟨a,m,Nat.le_refl _,by omega,Nat.le_refl _,rfl,rfl,Or.inl rfl,Or.inl rfl,HW0.out,Below.refl _ _⟩
 case round =>
  obtain ⟨i,j,h1,h2,h3,rfl,rfl,H1,H2,hW,hX⟩:=hrel
  by_cases hij:i < j
  ·have hij':(i:Int) < (j:Int):=by omega
   obtain ⟨hh,ehh⟩:∃ hh,(i+j) / 2=hh:=⟨_,rfl⟩
   obtain ⟨w1,w2,w3,w4,w5⟩:=zeO (i:=i) (j:=j) (by omega) ehh
   have g1:i≤hh:=by omega
   have g2:hh < j:=by omega
   obtain ⟨u,hu⟩:∃ u,D[hh]? = some u:=⟨_,List.getElem?_eq_getElem (by omega)⟩
   have huM:u < M:=HL.out u (zb9 hu (by omega) (by omega))
   obtain ⟨bl',off',e,_,cu,fu⟩:=Dg.at hW hu
   obtain ⟨rfl,rfl⟩:=aI e
   obtain ⟨bl',off',e,_,cx,fx⟩:=Dg.at hW HF.out.2.2.2
   obtain ⟨rfl,rfl⟩:=aI e
   have hcall:=fun (W:World) (hW:Ext wr W)=>HC.out.run y u W hyM huM (zaP hX hbw hW)
   have hb2:bl < wr.heap.size:=zg cx
   have HU:=Lib.hid (And.intro hu ehh)
   have hN1:hh < N:=by omega
   have hN2:a < N:=by omega
   have hw5:IntKind.i64.wrap ((hh:Int)+1)=((hh+1:Nat):Int):=by rw [IntKind.wrap_i64];omega
   clear hu ehh HW0
   go_upto_region 17 with fail
   cases hlx:lt y u with
   | false =>
    rw [hlx] at hcall
    have H1':Hid (hh+1=a∨∃ u,D[hh+1 - 1]? = some u∧lt y u=false):=Or.inr ⟨u,HU.out.1,hlx⟩
    clear hlx
    refine plP [(0,0),(1,0),(2,0),(3,0),(4,0),(5,0),(6,0),(7,0),(8,0),(9,1),(10,0),(11,0)] [] (by kernel_rfl) (fun _ _ d _ _ h=>by cases d <;> exact h) ?_
    iterate 9 (apply rdP rfl rfl;(intros;go_simp;first | done | rfl);try simp only [zq])
    (refine zh rfl ?_ (fun K hK=>?_);rfl;go_simp;refine (hcall _ (by simp [go_sem])).mono ?_;rintro e w' ⟨c,rfl,hlc,hb⟩;obtain ⟨os1,d1,rfl⟩:=hb.more;clear hb;refine hK _ _ ?_ ?_;(simp [go_sem]))
    try simp only [zq]
    iterate 2 (apply rdP rfl rfl;(intros;go_simp;first | done | rfl);try simp only [zq])
    refine zj ?_
    go_wp2_with fail
    exact ⟨⟨hh+1,j,by omega,by omega,h3,by go_num,rfl,H1',H2,hW.of_ext (by simp [go_sem]),zaP hX hbw (by simp [go_sem])⟩,by simp [intOf];omega⟩
   | true =>
    rw [hlx] at hcall
    have H2':Hid (hh=m∨∃ u,D[hh]? = some u∧lt y u=true):=Or.inr ⟨u,HU.out.1,hlx⟩
    clear hlx
    refine plP [(0,0),(1,0),(2,0),(3,0),(4,0),(5,0),(6,0),(7,0),(8,0),(9,1),(10,0),(11,0)] [] (by kernel_rfl) (fun _ _ d _ _ h=>by cases d <;> exact h) ?_
    iterate 9 (apply rdP rfl rfl;(intros;go_simp;first | done | rfl);try simp only [zq])
    (refine zh rfl ?_ (fun K hK=>?_);rfl;go_simp;refine (hcall _ (by simp [go_sem])).mono ?_;rintro e w' ⟨c,rfl,hlc,hb⟩;obtain ⟨os1,d1,rfl⟩:=hb.more;clear hb;refine hK _ _ ?_ ?_;(simp [go_sem]))
    try simp only [zq]
    iterate 2 (apply rdP rfl rfl;(intros;go_simp;first | done | rfl);try simp only [zq])
    refine zj ?_
    go_wp2_with fail
    exact ⟨⟨i,hh,h1,by omega,by omega,rfl,rfl,H1,H2',hW.of_ext (by simp [go_sem]),zaP hX hbw (by simp [go_sem])⟩,by simp [intOf];omega⟩
  ·obtain rfl:i=j:=by omega
   have HM:Hid (Mrg lt a b D (dn1 D m (m - i))):=by
    obtain ⟨f1,f2,f3,f4⟩:=HF.out
    rw [← f3]
    exact zlD hlt f4 h1 h3 f1 f2 H1.out H2.out
   have HX:=Lib.hid hX
   have HV:=Lib.hid hW
   clear H1 H2 h2 hij hX hW HW0
   go_wp2_with fail
   obtain ⟨wo,hwo⟩:∃ wo:World,wo=wr:=⟨_,rfl⟩
   rw [← hwo] at HX HV
   rw [← hwo]
   clear hwo
   go_loopw [17] (fun k wr=>∃ t p:Nat,p=m - t∧t≤m - i∧k = .int .i64 (p:Int)∧Hid (Wr base wr (some ⟨bl,off,none⟩) cap (dn1 D m t))∧Below base w wr) (fun k _=>(intOf k - (i:Int)).toNat)
   case atStart=>exact ⟨0,m,rfl,Nat.zero_le _,rfl,HV.out,HX.out⟩
   case round =>
    obtain ⟨t,p,hp,ht,rfl,HW,hX⟩:=hrel
    by_cases htt:i < p
    ·have htt':(i:Int) < (p:Int):=by omega
     have hE:=HW.out
     have hEl:(dn1 D m t).length=N:=by rw [zif];exact hDl
     obtain ⟨s',hs'⟩:∃ s',p - 1=s':=⟨_,rfl⟩
     obtain ⟨x1,hx1⟩:∃ x,(dn1 D m t)[p]? = some x:=⟨_,List.getElem?_eq_getElem (by omega)⟩
     obtain ⟨y1,hy1⟩:∃ x,(dn1 D m t)[p - 1]? = some x:=⟨_,List.getElem?_eq_getElem (by omega)⟩
     rw [hs'] at hy1
     have ep:IntKind.i64.wrap ((p:Int) - 1)=(s':Int):=by rw [IntKind.wrap_i64];omega
     obtain ⟨bl',off',e,_,cx,fx⟩:=Dg.at hE hx1
     obtain ⟨rfl,rfl⟩:=aI e
     obtain ⟨bl',off',e,_,cy,fy⟩:=Dg.at hE hy1
     obtain ⟨rfl,rfl⟩:=aI e
     have hb3:bl < wr.heap.size:=zg cx
     have hz:((dn1 D m t).set p y1)[s']? = some y1:=by rw [List.getElem?_set_ne (by omega)];exact hy1
     obtain ⟨bl',off',e,_,cz,fz⟩:=Dg.at (Dg.set (d:=y1) hE (show p < (dn1 D m t).length by omega)) hz
     obtain ⟨rfl,rfl⟩:=aI e
     have hX2:=Wr.bel (Wr.bel hX hE (show p < (dn1 D m t).length by omega) (.int .i64 (y1:Int))) (Dg.set (d:=y1) hE (show p < (dn1 D m t).length by omega)) (show s' < ((dn1 D m t).set p y1).length by rw [List.length_set];omega) (.int .i64 (x1:Int))
     have HSw:Hid (Wr base ((wr.setCell ⟨bl,off+p,none⟩ (.int .i64 (y1:Int))).setCell ⟨bl,off+s',none⟩ (.int .i64 (x1:Int))) (some ⟨bl,off,none⟩) cap (dn1 D m (t+1))):=by
      show Wr _ _ _ _ (sw1 (dn1 D m t) (m - t) (m - t - 1))
      rw [← hp,hs']
      exact Wr.sw hE hx1 hy1
     have hpN:p < N:=by omega
     have hsN:s' < N:=by omega
     have HQ:Hid (s'=m - (t+1)∧t+1≤m - i∧p=s'+1):=⟨by omega,by omega,by omega⟩
     clear HW hE hEl hx1 hy1 hs' hz hp ht hX
     go_wp2_with fail
     go_region
     go_wp2_with fail
     exact ⟨⟨t+1,s',HQ.out.1,HQ.out.2.1,by go_num,HSw.out.of_ext (by simp [go_sem]),zaP hX2 hbw (by simp [go_sem])⟩,by have:=HQ.out;simp [intOf];omega⟩
    ·have hti:t=m - i:=by omega
     have htt':¬ (i:Int) < (p:Int):=by omega
     rw [hti] at HW
     clear hti
     go_wp2_with fail
     exact rt0 rfl rfl ⟨rfl,⟨_,HM.out,HW.out.of_ext (by simp [go_sem])⟩,hX⟩
theorem MrgIn.part1 {lt:Nat→Nat→Bool} {cl:FuncId} {capt:Array Value} {M base cap N a m b s mid e:Nat} {A:Option Addr} {D D1:List Nat} {w w1:World} (h:MrgIn lt cl capt M base A cap N a m b D w) (ht:Turned lt a s mid e b D D1) (hx:Below base w w1) (hw:Wr base w1 A cap D1) (h1:a < s) (h2:s < mid) (h3:mid≤b) :
  MrgIn lt cl capt M base A cap N a s mid D1 w1 :=
 ⟨h.cmp.keep hx,Nat.le_trans h.bw hx.size,hw,ht.part.len.trans h.len,h.small,h1,h2,Nat.le_trans h3 h.bN,fun x hxx=>h.lim x (ht.perm.mem_iff.1 (zgx (Nat.le_refl _) h3 hxx)),ht.p1,ht.p2,ht.c1⟩
theorem MrgIn.part2 {lt:Nat→Nat→Bool} {cl:FuncId} {capt:Array Value} {M base cap N a m b s mid e:Nat} {A:Option Addr} {D D1 D2:List Nat} {w w2:World} (h:MrgIn lt cl capt M base A cap N a m b D w) (ht:Turned lt a s mid e b D D1) (hm:Mrg lt a mid D1 D2) (hx:Below base w w2) (hw:Wr base w2 A cap D2) (h1:mid < e) (h2:e < b) (h3:a≤mid) :
  MrgIn lt cl capt M base A cap N mid e b D2 w2:=by
 have e1:seg D2 mid b=seg D1 mid b:=hm.part.seg_hi (Nat.le_refl _)
 have e2:seg D2 mid e=seg D1 mid e:=hm.part.seg_hi (Nat.le_refl _)
 have e3:seg D2 e b=seg D1 e b:=hm.part.seg_hi (Nat.le_of_lt h1)
 refine ⟨h.cmp.keep hx,Nat.le_trans h.bw hx.size,hw,hm.part.len.trans (ht.part.len.trans h.len),h.small,h1,h2,h.bN,fun x hxx=>?_,by rw [e2];exact ht.p3,by rw [e3];exact ht.p4,by rw [e2,e3];exact ht.c2⟩
 rw [e1] at hxx
 exact h.lim x (ht.perm.mem_iff.1 (zgx h3 (Nat.le_refl _) hxx))
structure Srch (a m b mid lo hi nn N:Nat):Prop where
 am:a < m
 mb:m < b
 bN:b≤N
 small:N≤100000
 amid:a < mid
 midb:mid < b
 alo:a≤lo
 lohi:lo≤hi
 him:hi≤m
 himid:hi≤mid
 nlo:nn≤b+lo
 nhi:m+hi≤nn
 lom:lo < m
 e1:lo=a∨nn=b+lo
 e2:hi=m∨nn=m+hi
 nn:mid+m=nn
theorem zrl {a m b mid lo hi nn N:Nat} (h1:a < m) (h2:m < b) (h3:b≤N) (h4:N≤100000) (hm:(a+b) / 2=mid) (hn:mid+m=nn) (h:(mid < m∧mid+m - b=lo∧hi=mid)∨(m≤mid∧lo=a∧hi=m)):Srch a m b mid lo hi nn N:=by
 constructor <;> omega
theorem znt {a m b mid lo hi nn N i j:Nat} (h:Srch a m b mid lo hi nn N) (h1:lo≤i) (h2:i < j) (h3:j≤hi) :
  ∃ hh q:Nat,(IntKind.i64.wrap ((i:Int)+(j:Int))=(i:Int)+(j:Int)∧IntKind.u64.wrap ((i:Int)+(j:Int))=(i:Int)+(j:Int)∧((i:Int)+(j:Int)) / 2=(hh:Int)∧IntKind.u64.wrap (hh:Int)=(hh:Int)∧IntKind.i64.wrap (hh:Int)=(hh:Int))∧IntKind.i64.wrap (((nn - 1:Nat):Int) - (hh:Int))=(q:Int)∧IntKind.i64.wrap ((hh:Int)+1)=((hh+1:Nat):Int)∧(i≤hh∧hh < j∧a≤hh∧hh < b∧a≤q∧q < b)∧hh < N∧q < N∧nn - (hh+1)=q∧nn - 1 - hh=q:=by
 obtain ⟨g1,g2,g3,g4,g5,g6,g7,g8,g9,g10,g11,g12,g13,g14,g15,g16⟩:=h
 refine ⟨(i+j) / 2,nn - 1 - (i+j) / 2,zeO (by omega) rfl,by rw [IntKind.wrap_i64];omega,by rw [IntKind.wrap_i64];omega,by omega,by omega,by omega,by omega,rfl⟩
structure Ends (a m b mid i e nn N:Nat):Prop where
 ai:a≤i
 im:i≤m
 me:m≤e
 eb:e≤b
 imid:i≤mid
 mide:mid≤e
 kmid:mid=i+(e - m)
 amid:a < mid
 midb:mid < b
 bN:b≤N
 small:N≤100000
 en:nn - i=e
 ei:IntKind.i64.wrap ((nn:Int) - (i:Int))=(e:Int)
theorem zjp {a m b mid lo hi nn N i:Nat} (h:Srch a m b mid lo hi nn N) (h1:lo≤i) (h3:i≤hi):Ends a m b mid i (nn - i) nn N:=by
 obtain ⟨g1,g2,g3,g4,g5,g6,g7,g8,g9,g10,g11,g12,g13,g14,g15,g16⟩:=h
 refine ⟨by omega,by omega,by omega,by omega,by omega,by omega,by omega,by omega,by omega,by omega,by omega,rfl,by rw [IntKind.wrap_i64];omega⟩
theorem zlG {lt:Nat→Nat→Bool} (hlt:Swo lt) {cl:FuncId} {capt:Array Value} {M base cap N a m b mid lo hi nn i:Nat} {A:Option Addr} {D:List Nat} {w:World} (hin:MrgIn lt cl capt M base A cap N a m b D w) (h:Srch a m b mid lo hi nn N) (h1:lo≤i) (h3:i≤hi)
  (H1:i=lo∨∃ u v,D[nn - i]? = some u∧D[i - 1]? = some v∧lt u v=false) (H2:i=hi∨∃ u v,D[nn - 1 - i]? = some u∧D[i]? = some v∧lt u v=true) :
  Turned lt a i mid (nn - i) b D (D.take i++(seg D m (nn - i)++(seg D i m++D.drop (nn - i)))):=by
 have he:=zjp h h1 h3
 have hl:=hin.len
 have hb:=h.bN
 refine zoS hlt he.ai he.im he.me he.eb (by omega) he.kmid hin.sx hin.sy hin.xy ?_ ?_
 ·rcases H1 with H | ⟨u,v,hu,hv,hl⟩
  ·rcases h.e1 with h' | h'
   ·exact Or.inl (by omega)
   ·exact Or.inr (Or.inl (by omega))
  ·exact Or.inr (Or.inr ⟨u,v,hu,hv,hl⟩)
 ·rcases H2 with H | ⟨u,v,hu,hv,hl⟩
  ·rcases h.e2 with h' | h'
   ·exact Or.inl (by omega)
   ·exact Or.inr (Or.inl (by omega))
  ·exact Or.inr (Or.inr ⟨u,v,by rw [Nat.sub_right_comm];exact hu,hv,hl⟩)
theorem zsk {base cap N a m b mid i e nn:Nat} {A:Option Addr} {D D1:List Nat} (cf:Value) (he:Ends a m b mid i e nn N) (hl:D.length=N) (hD1:D.take i++(seg D m e++(seg D i m++D.drop e))=D1) {wr:World} (hW:Wr base wr A cap D) (q1:i < m) (q2:m < e) :
  Calls prog 206 #[.slice A N cap,.int .i64 (i:Int),.int .i64 (m:Int),.int .i64 (e:Int),cf] wr fun e9 w'=>e9 = .returned (.tuple #[])∧Wr base w' A cap D1∧Below base wr w':=by
 obtain ⟨k1,k2,k3,k4,k5,k6,k7,k8,k9,k10,k11,k12,k13⟩:=he
 have l1:(D.take i).length=i:=by rw [List.length_take];omega
 have l2:(seg D i m).length=m - i:=zbb (by omega)
 have l3:(seg D m e).length=e - m:=zbb (by omega)
 have h9:=znr base A cap N (D.take i) (seg D i m) (seg D m e) (D.drop e) (i:Int) (m:Int) (e:Int) cf wr (by rw [← zmv k2 k3];exact hW) (by rw [← zmv k2 k3];exact hl) k11 (by omega) (by omega) (by omega) (by omega) (by omega)
 rw [hD1] at h9
 exact h9
theorem zjB {lt:Nat→Nat→Bool} (hlt:Swo lt) (cl:FuncId) (capt:Array Value) (M base:Nat) (A:Option Addr) (cap N k:Nat) (ih:∀ (a m b:Nat) (D:List Nat) (w:World),b - a≤k→MrgIn lt cl capt M base A cap N a m b D w →
  Calls prog 192 #[.slice A N cap,.int .i64 (a:Int),.int .i64 (m:Int),.int .i64 (b:Int),.func (.func cl) #[] capt] w fun e w'=>e = .returned (.tuple #[])∧(∃ D',Mrg lt a b D D'∧Wr base w' A cap D')∧Below base w w') (a m b:Nat) (D:List Nat) (w:World) (hk:b - a≤k+1) (h:MrgIn lt cl capt M base A cap N a m b D w) :
  Calls prog 192 #[.slice A N cap,.int .i64 (a:Int),.int .i64 (m:Int),.int .i64 (b:Int),.func (.func cl) #[] capt] w fun e w'=>e = .returned (.tuple #[])∧(∃ D',Mrg lt a b D D'∧Wr base w' A cap D')∧Below base w w':=by
  by_cases hl:m=a+1
  ·subst hl;exact zlF hlt cl capt M base A cap N a b D w h
  by_cases hr:b=m+1
  ·subst hr;exact zk0 hlt cl capt M base A cap N a m D w h hl
  have hin:=h
  obtain ⟨hc,hbw,hW0,hDl,hs,hamm,hmb,hbN,hlim,hsx,hsy,hxy⟩:=h
  have e0:IntKind.i64.wrap ((m:Int) - (a:Int))=(m:Int) - (a:Int):=by rw [IntKind.wrap_i64];omega
  have e1:((m:Int) - (a:Int) == 1)=false:=by simp;omega
  have e2:IntKind.i64.wrap ((b:Int) - (m:Int))=(b:Int) - (m:Int):=by rw [IntKind.wrap_i64];omega
  have e3:((b:Int) - (m:Int) == 1)=false:=by simp;omega
  obtain ⟨mid,emid⟩:∃ hh,(a+b) / 2=hh:=⟨_,rfl⟩
  obtain ⟨w1,w2,w3,w4,w5⟩:=zeO (i:=a) (j:=b) (by omega) emid
  obtain ⟨nn,hnn⟩:∃ nn,mid+m=nn:=⟨_,rfl⟩
  have e4:IntKind.i64.wrap ((mid:Int)+(m:Int))=(nn:Int):=by rw [IntKind.wrap_i64];omega
  obtain ⟨pp,hpp⟩:∃ pp,nn - 1=pp:=⟨_,rfl⟩
  have e5:IntKind.i64.wrap ((nn:Int) - 1)=(pp:Int):=by rw [IntKind.wrap_i64];omega
  obtain ⟨y0,hy0⟩:∃ x,D[m]? = some x:=⟨_,List.getElem?_eq_getElem (by omega)⟩
  obtain ⟨bl,off,rfl,hb1,cx,fx⟩:=Dg.at hW0 hy0
  have hcap:=hW0.1
  rw [hDl] at hcap
  have hblk:bl < w.heap.size:=zg cx
  have HC:=Lib.hid hc
  have hent:=hc.ent
  have HIN:=Lib.hid hin
  have HIH:Hid (∀ (a m b:Nat) (D:List Nat) (w:World),b - a≤k→MrgIn lt cl capt M base (some ⟨bl,off,none⟩) cap N a m b D w→Calls prog 192 #[.slice (some ⟨bl,off,none⟩) N cap,.int .i64 (a:Int),.int .i64 (m:Int),.int .i64 (b:Int),.func (.func cl) #[] capt] w fun e w'=>e = .returned (.tuple #[])∧(∃ D',Mrg lt a b D D'∧Wr base w' (some ⟨bl,off,none⟩) cap D')∧Below base w w'):=ih
  have HK:=Lib.hid hk
  have HPP:=Lib.hid hpp
  have HN0:=Lib.hid hnn
  have HBW:=Lib.hid hbw
  have HSW:=Lib.hid hlt
  have hS:=fun lo hi (h:(mid < m∧mid+m - b=lo∧hi=mid)∨(m≤mid∧lo=a∧hi=m))=>zrl (N:=N) hamm hmb hbN hs emid hnn h
  have HS0:=Lib.hid hS
  have HLN:=Lib.hid (And.intro hs (And.intro hbN (And.intro hamm hmb)))
  clear hc hlim hsx hsy hxy hW0 hy0 emid hpp cx fx hl hr ih hin hk hS hbw hlt hDl hb1
  go_enter func192,ntmps192
  by_cases hmm:mid < m
  have hmm':(mid:Int) < (m:Int):=by omega
  obtain ⟨lo,hlo⟩:∃ lo,mid+m - b=lo:=⟨_,rfl⟩
  obtain ⟨hi,hhi⟩:∃ hi,hi=mid:=⟨_,rfl⟩
  have HS:=Lib.hid (HS0.out lo hi (Or.inl ⟨hmm,hlo,hhi⟩))
  have e6:IntKind.i64.wrap ((nn:Int) - (b:Int))=(lo:Int):=by rw [IntKind.wrap_i64];omega
  rotate_left
  have hmm':¬ (mid:Int) < (m:Int):=by omega
  obtain ⟨lo,hlo⟩:∃ lo,lo=a:=⟨_,rfl⟩
  obtain ⟨hi,hhi⟩:∃ hi,hi=m:=⟨_,rfl⟩
  have HS:=Lib.hid (HS0.out lo hi (Or.inr ⟨Nat.le_of_not_lt hmm,hlo,hhi⟩))
  all_goals
   have HLO:=Lib.hid (And.intro hlo hhi)
   have hm0:m < b:=hmb
   have hm1:m < N:=by omega
   clear hlo hhi
   go_wp2_with fail
   clear e0 e1 e2 e3 e4 e5 w1 w2 w3 w4 w5 hmm hmm' hbN hamm hmb hs hnn
   try clear e6
   go_loopw [20,21] (fun s t wr=>∃ i j:Nat,lo≤i∧i≤j∧j≤hi∧s = .int .i64 (i:Int)∧t = .int .i64 (j:Int)∧Hid (i=lo∨∃ u v,D[nn - i]? = some u∧D[i - 1]? = some v∧lt u v=false)∧Hid (j=hi∨∃ u v,D[nn - 1 - j]? = some u∧D[j]? = some v∧lt u v=true)∧Hid (Wr base wr (some ⟨bl,off,none⟩) cap D)∧Below base w wr) (fun s t _=>(intOf t - intOf s).toNat)
   case atStart=>exact ⟨lo,hi,Nat.le_refl _,HS.out.lohi,Nat.le_refl _,(by first | rfl | rw [HLO.out.1]),(by rw [HLO.out.2]),Or.inl rfl,Or.inl rfl,HIN.out.wr,Below.refl _ _⟩
   case round =>
    obtain ⟨i,j,h1,h2,h3,rfl,rfl,H1,H2,hW,hX⟩:=hrel
    by_cases hij:i < j
    ·obtain ⟨hh,q,⟨w1,w2,w3,w4,w5⟩,ep,hw5,⟨g1,g2,g3,g4,g5,g6⟩,hN1,hN2,g7,g8⟩:=znt HS.out h1 hij h3
     rw [HPP.out] at ep
     have hij':(i:Int) < (j:Int):=by omega
     rename_i K0 hK0
     have HK0:=Lib.hid hK0
     clear hK0
     obtain ⟨u,hu⟩:∃ u,D[q]? = some u:=⟨_,List.getElem?_eq_getElem (by rw [HIN.out.len];exact hN2)⟩
     obtain ⟨v,hv⟩:∃ u,D[hh]? = some u:=⟨_,List.getElem?_eq_getElem (by rw [HIN.out.len];exact hN1)⟩
     have huM:u < M:=HIN.out.lim u (zb9 hu g5 g6)
     have hvM:v < M:=HIN.out.lim v (zb9 hv g3 g4)
     obtain ⟨bl',off',e,_,cu,fu⟩:=Dg.at hW.out hu
     obtain ⟨rfl,rfl⟩:=aI e
     obtain ⟨bl',off',e,_,cv,fv⟩:=Dg.at hW.out hv
     obtain ⟨rfl,rfl⟩:=aI e
     have hcall:=fun (W:World) (hW:Ext wr W)=>HC.out.run u v W huM hvM (zaP hX HBW.out hW)
     have hb2:bl < wr.heap.size:=zg cu
     have HX:=Lib.hid hX
     have HU:=Lib.hid (And.intro hu (And.intro hv (And.intro g7 (And.intro g8 (And.intro h1 (And.intro h3 (And.intro g1 g2)))))))
     clear hu hv g1 g2 g3 g4 g5 g6 g7 g8 huM hvM hX h1 h2 h3 hij
     go_upto_region 35 with fail
     cases hlx:lt u v with
     | false =>
      rw [hlx] at hcall
      have H1':Hid (hh+1=lo∨∃ u v,D[nn - (hh+1)]? = some u∧D[hh+1 - 1]? = some v∧lt u v=false):=Or.inr ⟨u,v,by rw [HU.out.2.2.1];exact HU.out.1,HU.out.2.1,hlx⟩
      clear hlx H1
      refine plP [(0,0),(1,0),(2,0),(3,0),(4,0),(5,0),(6,0),(7,0),(8,0),(9,0),(10,0),(11,1),(12,0),(13,0)] [] (by kernel_rfl) (fun _ _ d _ _ h=>by cases d <;> exact h) ?_
      iterate 11 (apply rdP rfl rfl;(intros;go_simp;first | done | rfl);try simp only [zq])
      (refine zh rfl ?_ (fun K hK=>?_);rfl;go_simp;refine (hcall _ (by simp [go_sem])).mono ?_;rintro e w' ⟨c,rfl,hlc,hb⟩;obtain ⟨os1,d1,rfl⟩:=hb.more;clear hb;refine hK _ _ ?_ ?_;(simp [go_sem]))
      try simp only [zq]
      iterate 2 (apply rdP rfl rfl;(intros;go_simp;first | done | rfl);try simp only [zq])
      refine zj ?_
      go_wp2_with fail
      obtain ⟨_,_,_,_,h1,h3,g1,g2⟩:=HU.out
      exact ⟨⟨hh+1,j,by omega,by omega,h3,by go_num,rfl,H1',H2,hW.out.of_ext (by simp [go_sem]),zaP HX.out HBW.out (by simp [go_sem])⟩,by simp [intOf];omega⟩
     | true =>
      rw [hlx] at hcall
      have H2':Hid (hh=hi∨∃ u v,D[nn - 1 - hh]? = some u∧D[hh]? = some v∧lt u v=true):=Or.inr ⟨u,v,by rw [HU.out.2.2.2.1];exact HU.out.1,HU.out.2.1,hlx⟩
      clear hlx H2
      refine plP [(0,0),(1,0),(2,0),(3,0),(4,0),(5,0),(6,0),(7,0),(8,0),(9,0),(10,0),(11,1),(12,0),(13,0)] [] (by kernel_rfl) (fun _ _ d _ _ h=>by cases d <;> exact h) ?_
      iterate 11 (apply rdP rfl rfl;(intros;go_simp;first | done | rfl);try simp only [zq])
      (refine zh rfl ?_ (fun K hK=>?_);rfl;go_simp;refine (hcall _ (by simp [go_sem])).mono ?_;rintro e w' ⟨c,rfl,hlc,hb⟩;obtain ⟨os1,d1,rfl⟩:=hb.more;clear hb;refine hK _ _ ?_ ?_;(simp [go_sem]))
      try simp only [zq]
      iterate 2 (apply rdP rfl rfl;(intros;go_simp;first | done | rfl);try simp only [zq])
      refine zj ?_
      go_wp2_with fail
      obtain ⟨_,_,_,_,h1,h3,g1,g2⟩:=HU.out
      exact ⟨⟨i,hh,h1,g1,by omega,rfl,rfl,H1,H2',hW.out.of_ext (by simp [go_sem]),zaP HX.out HBW.out (by simp [go_sem])⟩,by simp [intOf];omega⟩
    ·obtain rfl:i=j:=by omega
     have hij':¬ (i:Int) < (i:Int):=Int.lt_irrefl _
     have hE:=zjp HS.out h1 h3
     have HT:=Lib.hid (zlG HSW.out HIN.out HS.out h1 h3 H1.out H2.out)
     obtain ⟨e,he⟩:∃ e,nn - i=e:=⟨_,rfl⟩
     rw [he] at hE HT
     obtain ⟨D1,hD1⟩:∃ D1,D.take i++(seg D m e++(seg D i m++D.drop e))=D1:=⟨_,rfl⟩
     rw [hD1] at HT
     have ee:=hE.ei
     have HE:=Lib.hid hE
     have HR1:Hid (i < m→m < e→Calls prog 206 #[.slice (some ⟨bl,off,none⟩) N cap,.int .i64 (i:Int),.int .i64 (m:Int),.int .i64 (e:Int),.func (.func cl) #[] capt] wr fun e9 w'=>e9 = .returned (.tuple #[])∧Wr base w' (some ⟨bl,off,none⟩) cap D1∧Below base wr w'):=fun q1 q2=>zsk _ HE.out HIN.out.len hD1 hW.out q1 q2
     have HRN:Hid ((i=m∨m=e)→Wr base wr (some ⟨bl,off,none⟩) cap D1):=fun q=>by rw [← hD1,zoT HE.out.im HE.out.me q];exact hW.out
     have HX:=Lib.hid hX
     have HI1:Hid (∀ W,Below base w W→Wr base W (some ⟨bl,off,none⟩) cap D1→a < i→i < mid→Calls prog 192 #[.slice (some ⟨bl,off,none⟩) N cap,.int .i64 (a:Int),.int .i64 (i:Int),.int .i64 (mid:Int),.func (.func cl) #[] capt] W fun e9 w'=>e9 = .returned (.tuple #[])∧(∃ D',Mrg lt a mid D1 D'∧Wr base w' (some ⟨bl,off,none⟩) cap D')∧Below base W w'):=fun W hx hw q1 q2=>HIH.out a i mid D1 W (by have:=HK.out;have:=HE.out.midb;omega) (MrgIn.part1 HIN.out HT.out hx hw q1 q2 (Nat.le_of_lt HE.out.midb))
     have HI2:Hid (∀ D2 W,Mrg lt a mid D1 D2→Below base w W→Wr base W (some ⟨bl,off,none⟩) cap D2→mid < e→e < b→Calls prog 192 #[.slice (some ⟨bl,off,none⟩) N cap,.int .i64 (mid:Int),.int .i64 (e:Int),.int .i64 (b:Int),.func (.func cl) #[] capt] W fun e9 w'=>e9 = .returned (.tuple #[])∧(∃ D',Mrg lt mid b D2 D'∧Wr base w' (some ⟨bl,off,none⟩) cap D')∧Below base W w'):=fun D2 W hm hx hw q1 q2=>HIH.out mid e b D2 W (by have:=HK.out;have:=HE.out.amid;omega) (MrgIn.part2 HIN.out HT.out hm hx hw q1 q2 (Nat.le_of_lt HE.out.amid))
     have HS1:Hid (¬ (a < i∧i < mid)→Mrg lt a mid D1 D1):=fun q=>by
      refine Mrg.of_sorted ?_
      have k1:=HE.out.ai
      have k5:=HE.out.imid
      by_cases q1:i=a
      ·have:=HT.out.p2;rw [q1] at this;exact this
      ·have q2:i=mid:=by omega
       have:=HT.out.p1;rw [q2] at this;exact this
     have HS2:Hid (∀ D2,Mrg lt a mid D1 D2→¬ (mid < e∧e < b)→Mrg lt mid b D2 D2):=fun D2 hm q=>by
      refine Mrg.of_sorted ?_
      have k1:=HE.out.mide
      have k5:=HE.out.eb
      rw [hm.part.seg_hi (Nat.le_refl _)]
      by_cases q1:e=mid
      ·have:=HT.out.p4;rw [q1] at this;exact this
      ·have q2:e=b:=by omega
       have:=HT.out.p3;rw [q2] at this;exact this
     have HJ:Hid (∀ D2 D3,Mrg lt a mid D1 D2→Mrg lt mid b D2 D3→Mrg lt a b D D3):=fun D2 D3 m1 m2=>znq (Nat.le_of_lt HE.out.amid) (Nat.le_of_lt HE.out.midb) HT.out.part HT.out.perm HT.out.cross m1 m2
     clear H1 H2 hX HT hD1 HIH HIN he HC hE h1 h2 h3 hij HS HS0 HPP HN0 HBW HSW HK HLN hcap hblk hm0 hm1
     clear hW
     by_cases r1:i < m
     by_cases r2:m < e
     have r1':(i:Int) < (m:Int):=by omega
     have r2':(m:Int) < (e:Int):=by omega
     have hcall:=HR1.out r1 r2
     rotate_left
     have r1':(i:Int) < (m:Int):=by omega
     have r2':¬ (m:Int) < (e:Int):=by omega
     have hW1:=Lib.hid (HRN.out (Or.inr (by have:=HE.out.me;omega)))
     have hX1:=HX
     rotate_left
     have r1':¬ (i:Int) < (m:Int):=by omega
     have hW1:=Lib.hid (HRN.out (Or.inl (by have:=HE.out.im;omega)))
     have hX1:=HX
     all_goals
      go_upto_region 41 with (go_at_call 206;refine hcall.mono ?_;rintro e9 w1 ⟨rfl,hW10,hb1⟩;have hX1:=Lib.hid (Below.trans HX.out hb1);have hW1:=Lib.hid hW10;clear hcall hb1 hW10)
      clear HX HRN
      by_cases s1:a < i
      by_cases s2:i < mid
      have s1':(a:Int) < (i:Int):=by omega
      have s2':(i:Int) < (mid:Int):=by omega
      have hcall:=HI1.out _ hX1.out hW1.out s1 s2
      rotate_left
      have s1':(a:Int) < (i:Int):=by omega
      have s2':¬ (i:Int) < (mid:Int):=by omega
      have hM:=Lib.hid (HS1.out (fun q=>s2 q.2))
      have hW2:=hW1
      have hX2:=hX1
      rotate_left
      have s1':¬ (a:Int) < (i:Int):=by omega
      have hM:=Lib.hid (HS1.out (fun q=>s1 q.1))
      have hW2:=hW1
      have hX2:=hX1
      all_goals
       go_upto_region 43 with (go_at_call 192;refine hcall.mono ?_;rintro e9 w2 ⟨rfl,⟨D2,hM0,hW20⟩,hb2⟩;have hX2:=Lib.hid (Below.trans hX1.out hb2);have hM:=Lib.hid hM0;have hW2:=Lib.hid hW20;clear hcall hb2 hM0 hW20)
       clear hX1 hW1
       by_cases u1:mid < e
       by_cases u2:e < b
       have u1':(mid:Int) < (e:Int):=by omega
       have u2':(e:Int) < (b:Int):=by omega
       have hcall:=HI2.out _ _ hM.out hX2.out hW2.out u1 u2
       rotate_left
       have u1':(mid:Int) < (e:Int):=by omega
       have u2':¬ (e:Int) < (b:Int):=by omega
       have HZ:=Lib.hid (And.intro (HJ.out _ _ hM.out (HS2.out _ hM.out (fun q=>u2 q.2))) (And.intro hW2.out hX2.out))
       rotate_left
       have u1':¬ (mid:Int) < (e:Int):=by omega
       have HZ:=Lib.hid (And.intro (HJ.out _ _ hM.out (HS2.out _ hM.out (fun q=>u1 q.1))) (And.intro hW2.out hX2.out))
       all_goals
        go_wp2_with (go_at_call 192;refine hcall.mono ?_;rintro e9 w3 ⟨rfl,⟨D3,hN,hW3⟩,hb3⟩;have HZ:=Lib.hid (And.intro (HJ.out _ _ hM.out hN) (And.intro hW3 (Below.trans hX2.out hb3)));clear hcall hN hW3 hb3)
        exact bodyPost_end (v:=.tuple #[]) (by simp [results,results192,go_sem]) rfl ⟨rfl,⟨_,HZ.out.1,HZ.out.2.1⟩,HZ.out.2.2⟩
theorem zgy {lt:Nat→Nat→Bool} (hlt:Swo lt) (cl:FuncId) (capt:Array Value) (M base:Nat) (A:Option Addr) (cap N:Nat):∀ (k a m b:Nat) (D:List Nat) (w:World),b - a≤k→MrgIn lt cl capt M base A cap N a m b D w →
  Calls prog 192 #[.slice A N cap,.int .i64 (a:Int),.int .i64 (m:Int),.int .i64 (b:Int),.func (.func cl) #[] capt] w fun e w'=>e = .returned (.tuple #[])∧(∃ D',Mrg lt a b D D'∧Wr base w' A cap D')∧Below base w w'
 | 0,a,m,b,D,w,hk,h=>by have:=h.am;have:=h.mb;omega
 | k+1,a,m,b,D,w,hk,h=>zjB hlt cl capt M base A cap N k (zgy hlt cl capt M base A cap N k) a m b D w hk h
theorem zoU {lt:Nat→Nat→Bool} {D X:List Nat} {a b:Nat} (hab:a≤b) (hbl:b≤D.length) (hX:X.Perm (List.range' a (b - a))) (hs:X.Pairwise (Lx lt)):Part a b D (D.take a++(X++D.drop b))∧Srt lt (D.take a++(X++D.drop b)) a b:=by
 have hl:X.length=b - a:=by simpa using hX.length_eq
 have ha:a=(D.take a).length:=by rw [List.length_take];omega
 constructor
 ·have:=Part.of_mid (a:=a) (b:=b) (pre:=D.take a) (Z:=seg D a b) (Z':=X) (post:=D.drop b) ha (by rw [hl,zbb hbl]) (by rw [zbb hbl];omega)
  rwa [← zeK hab] at this
 ·unfold Srt;rw [zgw ha (by omega)];exact ⟨hX,hs⟩
theorem zgz {lt:Nat→Nat→Bool} (hlt:Swo lt) (cl:FuncId) (capt:Array Value) (M base:Nat) (A:Option Addr) (cap N a b:Nat) (D:List Nat) (w:World) (hc:CmpS cl capt lt M base w) (hbw:base≤w.heap.size)
  (h:Wr base w A cap D) (hl:D.length=N) (hs:N≤100000) (hab:a≤b) (hb:b≤N) (hM:b≤M) (hD:seg D a b=List.range' a (b - a)) :
  Calls prog 191 #[.slice A N cap,.int .i64 (a:Int),.int .i64 (b:Int),.func (.func cl) #[] capt] w fun e w'=>e = .returned (.tuple #[])∧(∃ D',Part a b D D'∧Srt lt D' a b∧Wr base w' A cap D')∧Below base w w':=by
 have e:=zeK (D:=D) hab
 rw [hD] at e
 have h2:Wr base w A cap (D.take a++(List.range' a (b - a)++D.drop b)):=by rw [← e];exact h
 refine (zlE hlt cl capt M base A cap N a (b - a) (b:Int) (D.take a) (D.drop b) w hc hbw h2 (by rw [List.length_take];omega) (by rw [List.length_take,List.length_drop];omega) hs (by omega) (by omega)).mono ?_
 rintro e w' ⟨rfl,⟨X,h1,h2,h3⟩,hb'⟩
 obtain ⟨p1,p2⟩:=zoU (D:=D) hab (by omega) h1 h2
 exact ⟨rfl,⟨_,p1,p2,h3⟩,hb'⟩
theorem zf0 {lt:Nat→Nat→Bool} (hlt:Swo lt) (cl:FuncId) (capt:Array Value) (M base:Nat) (A:Option Addr) (cap N a m b:Nat) (D:List Nat) (w:World) (hc:CmpS cl capt lt M base w) (hbw:base≤w.heap.size)
  (h:Wr base w A cap D) (hl:D.length=N) (hs:N≤100000) (ham:a < m) (hmb:m < b) (hb:b≤N) (hM:b≤M) (hX:Srt lt D a m) (hY:Srt lt D m b) :
  Calls prog 192 #[.slice A N cap,.int .i64 (a:Int),.int .i64 (m:Int),.int .i64 (b:Int),.func (.func cl) #[] capt] w fun e w'=>e = .returned (.tuple #[])∧(∃ D',Part a b D D'∧Srt lt D' a b∧Wr base w' A cap D')∧Below base w w':=by
 refine (zgy hlt cl capt M base A cap N (b - a) a m b D w (Nat.le_refl _) ⟨hc,hbw,h,hl,hs,ham,hmb,hb,fun x hx=>?_,hX.2,hY.2,Srt.cross hX hY⟩).mono ?_
 ·rw [zav (Nat.le_of_lt ham) (Nat.le_of_lt hmb)] at hx
  rcases List.mem_append.1 hx with h | h
  ·have:=hX.mem h;omega
  ·have:=hY.mem h;omega
 ·rintro e w' ⟨rfl,⟨D',hm,hw⟩,hb'⟩
  exact ⟨rfl,⟨D',hm.part,Srt.merged (Nat.le_of_lt ham) (Nat.le_of_lt hmb) hX hY hm,hw⟩,hb'⟩
theorem znu {lt:Nat→Nat→Bool} (hlt:Swo lt) (cl:FuncId) (capt:Array Value) (base:Nat) (A:Option Addr) (cap N:Nat) (w:World) (hc:CmpS cl capt lt N base w) (hbw:base≤w.heap.size) (h:Wr base w A cap (List.range N)) (hs:N≤100000) :
  Calls prog 166 #[.slice A N cap,.int .i64 (N:Int),.func (.func cl) #[] capt] w fun e w'=>e = .returned (.tuple #[])∧Wr base w' A cap (zY lt N)∧Below base w w':=by
 have HC:=Lib.hid hc
 have H0:Hid (∃ D,Ins lt N 0 D∧Wr base w A cap D):=⟨_,Ins.start lt N,h⟩
 have HLT:=Lib.hid hlt
 clear h hc hlt
 go_enter func166,ntmps166
 go_wp2_with fail
 go_loopw [7,8] (fun s7 s8 wr=>∃ q a b:Nat,Hid (a=q * 20)∧Hid (b=a+20)∧a≤N∧s7 = .int .i64 (a:Int)∧s8 = .int .i64 (b:Int)∧Hid (∃ D,Ins lt N q D∧Wr base wr A cap D)∧Below base w wr) (fun s7 _ _=>N - (intOf s7).toNat)
 case atStart=>exact ⟨0,0,20,rfl,rfl,Nat.zero_le _,rfl,rfl,H0,Below.refl _ _⟩
 case round =>
  clear H0
  obtain ⟨q,a,b,HA,HB,haN,rfl,rfl,HW,hX⟩:=hrel
  have hbw2:=Nat.le_trans hbw hX.size
  obtain ⟨D,hI,hW⟩:=HW.out
  have HI:=Lib.hid hI
  by_cases hbn:b≤N
  ·have hbn':(b:Int)≤(N:Int):=by omega
   have eb:IntKind.i64.wrap ((b:Int)+20)=((b+20:Nat):Int):=by rw [IntKind.wrap_i64];omega
   have hcall:=zgz HLT.out cl capt N base A cap N a b D wr (HC.out.keep hX) hbw2 hW hI.len hs (by have:=HB.out;omega) hbn hbn (by rw [HA.out];exact hI.seg hbn)
   clear hI hW HW
   go_wp2_with (go_at_call 191;refine hcall.mono ?_;rintro e w' ⟨rfl,⟨D',hp,hq,hw⟩,hb'⟩;have HN:Hid (∃ D,Ins lt N (q+1) D∧Wr base w' A cap D):=⟨D',HI.out.step (by rw [HB.out,HA.out] at hp;exact hp) (by rw [HB.out,HA.out] at hq;exact hq),hw⟩;clear hp hq hw)
   exact ⟨⟨q+1,b,b+20,(by show b=(q+1) * 20;rw [HB.out,HA.out];omega),rfl,hbn,rfl,by go_num,HN,hX.trans hb'⟩,by have:=HB.out;simp [intOf];omega⟩
  ·have hbn':¬ (b:Int)≤(N:Int):=by omega
   have hcall:=zgz HLT.out cl capt N base A cap N a N D wr (HC.out.keep hX) hbw2 hW hI.len hs haN (Nat.le_refl _) (Nat.le_refl _) (by rw [HA.out];exact hI.seg (Nat.le_refl _))
   clear hI hW HW
   go_wp2_with (go_at_call 191;refine hcall.mono ?_;rintro e w' ⟨rfl,⟨D',hp,hq,hw⟩,hb'⟩;have HN:Hid (∃ D,D.length=N∧ze6 lt N 20 D∧Wr base w' A cap D):=⟨D',hp.len.trans HI.out.len,HI.out.all (by have:=HA.out;omega) (by have:=HA.out;have:=HB.out;omega) (by rw [HA.out] at hp;exact hp) (by rw [HA.out] at hq;exact hq),hw⟩;clear hp hq hw)
   have hX1:=hX.trans hb'
   clear hX hb' hcall HB hbn hbn' hbw2
   go_loopw [6,7,8] (fun s6 s7 s8 wr=>∃ bs:Nat,0 < bs∧bs≤200000∧s6 = .int .i64 (bs:Int)∧(∃ x,s7 = .int .i64 x)∧(∃ x,s8 = .int .i64 x)∧Hid (∃ D,D.length=N∧ze6 lt N bs D∧Wr base wr A cap D)∧Below base w wr) (fun s6 _ _ _=>N - (intOf s6).toNat)
   case atStart=>exact ⟨20,by decide,by decide,rfl,⟨_,rfl⟩,⟨_,rfl⟩,HN,hX1⟩
   case round =>
    clear HN hX1 HI
    obtain ⟨bs,hs0,hs1,rfl,⟨x7,rfl⟩,⟨x8,rfl⟩,HW,hX⟩:=hrel
    by_cases hbn:bs < N
    ·have hbn':(bs:Int) < (N:Int):=by omega
     obtain ⟨b2,hb2⟩:∃ b2,2 * bs=b2:=⟨_,rfl⟩
     have e2:IntKind.i64.wrap (2 * (bs:Int))=(b2:Int):=by rw [IntKind.wrap_i64];omega
     have e3:IntKind.i64.wrap ((bs:Int) * 2)=(b2:Int):=by rw [IntKind.wrap_i64];omega
     have H0:Hid (∃ D,Mrs lt N bs 0 D∧Wr base wr A cap D):=by
      obtain ⟨D,h1,h2,h3⟩:=HW.out
      exact ⟨D,Mrs.start h1 h2,h3⟩
     have hX0:=hX
     clear HW hX
     go_wp2_with fail
     obtain ⟨wo,rfl⟩:∃ wo:World,wo=wr:=⟨_,rfl⟩
     go_loopw [7,8] (fun s7 s8 wr=>∃ q a b:Nat,Hid (a=q * (2 * bs))∧Hid (b=a+b2)∧a≤N∧s7 = .int .i64 (a:Int)∧s8 = .int .i64 (b:Int)∧Hid (∃ D,Mrs lt N bs q D∧Wr base wr A cap D)∧Below base w wr) (fun s7 _ _=>N - (intOf s7).toNat)
     case atStart=>exact ⟨0,0,b2,(Nat.zero_mul _).symm,(Nat.zero_add _).symm,Nat.zero_le _,rfl,rfl,H0,hX0⟩
     case round =>
      clear H0 hX0
      obtain ⟨q,a,b,HA,HB,haN,rfl,rfl,HW,hX⟩:=hrel
      have hbw2:=Nat.le_trans hbw hX.size
      obtain ⟨D,hI,hW⟩:=HW.out
      have HI:=Lib.hid hI
      obtain ⟨mm,hmm⟩:∃ mm,a+bs=mm:=⟨_,rfl⟩
      have em:IntKind.i64.wrap ((a:Int)+(bs:Int))=(mm:Int):=by rw [IntKind.wrap_i64];omega
      by_cases hbn2:b≤N
      ·have hbn2':(b:Int)≤(N:Int):=by omega
       obtain ⟨c,hc⟩:∃ c,b+b2=c:=⟨_,rfl⟩
       have eb:IntKind.i64.wrap ((b:Int)+(b2:Int))=(c:Int):=by rw [IntKind.wrap_i64];omega
       obtain ⟨hY1,hY2⟩:=hI.two (b:=b) (by rw [← HA.out];have:=HB.out;omega) (by rw [← HA.out];have:=HB.out;omega) hs0
       rw [← HA.out,hmm] at hY1 hY2
       have hcall:=zf0 HLT.out cl capt N base A cap N a mm b D wr (HC.out.keep hX) hbw2 hW hI.len hs (by omega) (by have:=HB.out;omega) hbn2 hbn2 hY1 hY2
       clear hI hW HW hY1 hY2
       go_wp2_with (go_at_call 192;refine hcall.mono ?_;rintro e w' ⟨rfl,⟨D',hp,hq,hw⟩,hb'⟩;have HN:Hid (∃ D,Mrs lt N bs (q+1) D∧Wr base w' A cap D):=⟨D',HI.out.step (by rw [HB.out,HA.out,← hb2] at hp;exact hp) (by rw [HB.out,HA.out,← hb2] at hq;exact hq),hw⟩;clear hp hq hw)
       have HA':Hid (b=(q+1) * (2 * bs)):=by show b=_;rw [HB.out,HA.out,← hb2,Nat.add_mul,Nat.one_mul]
       exact ⟨⟨q+1,b,c,HA',hc.symm,hbn2,rfl,rfl,HN,hX.trans hb'⟩,by have:=HB.out;simp [intOf];omega⟩
      ·have hbn2':¬ (b:Int)≤(N:Int):=by omega
       by_cases hmn:mm < N
       ·have hmn':(mm:Int) < (N:Int):=by omega
        obtain ⟨hY1,hY2⟩:=hI.two (b:=N) (by rw [← HA.out];omega) (by rw [← HA.out];have:=HB.out;omega) hs0
        rw [← HA.out,hmm] at hY1 hY2
        have hcall:=zf0 HLT.out cl capt N base A cap N a mm N D wr (HC.out.keep hX) hbw2 hW hI.len hs (by omega) hmn (Nat.le_refl _) (Nat.le_refl _) hY1 hY2
        clear hI hW HW hY1 hY2
        go_wp2_with (go_at_call 192;refine hcall.mono ?_;rintro e w' ⟨rfl,⟨D',hp,hq,hw⟩,hb'⟩;have HN:Hid (∃ D,D.length=N∧ze6 lt N b2 D∧Wr base w' A cap D):=⟨D',hp.len.trans HI.out.len,by rw [← hb2];exact HI.out.last (by rw [← HA.out];exact haN) (by rw [← HA.out];have:=HB.out;omega) (by rw [HA.out] at hp;exact hp) (fun _=>by rw [HA.out] at hq;exact hq),hw⟩;clear hp hq hw)
        exact ⟨⟨b2,by omega,by omega,rfl,⟨_,rfl⟩,⟨_,rfl⟩,HN,hX.trans hb'⟩,by simp [intOf];omega⟩
       ·have hmn':¬ (mm:Int) < (N:Int):=by omega
        have HN:Hid (∃ D,D.length=N∧ze6 lt N b2 D∧Wr base wr A cap D):=⟨D,hI.len,by rw [← hb2];exact hI.last (by rw [← HA.out];exact haN) (by rw [← HA.out];have:=HB.out;omega) (Part.refl _ _ _) (fun h=>hI.none (by rw [← HA.out];omega) h),hW⟩
        clear hI hW HW
        go_wp2_with fail
        exact ⟨⟨b2,by omega,by omega,rfl,⟨_,rfl⟩,⟨_,rfl⟩,HN,hX⟩,by simp [intOf];omega⟩
    ·have hbn':¬ (bs:Int) < (N:Int):=by omega
     have HR:Hid (Wr base wr A cap (zY lt N)):=by
      obtain ⟨D,h1,h2,h3⟩:=HW.out
      show Wr base wr A cap (zY lt N)
      rw [← ze6.whole HLT.out h1 (by omega) h2]
      exact h3
     clear HW
     go_wp2_with fail
     exact bodyPost_end (v:=.tuple #[]) (by simp [results,results166,go_sem]) rfl ⟨rfl,HR.out,hX⟩
theorem ziJ {lt:Nat→Nat→Bool} (hlt:Swo lt) (cl:FuncId) (capt:Array Value) (base:Nat) (A:Option Addr) (cap N:Nat) (w:World) (hc:CmpS cl capt lt N base w) (hbw:base≤w.heap.size) (h:Wr base w A cap (List.range N)) (hs:N≤100000) :
  Calls prog 137 #[.slice A N cap,.func (.func cl) #[] capt] w fun e w'=>e = .returned (.tuple #[])∧Wr base w' A cap (zY lt N)∧Below base w w':=by
 have hcall:=znu hlt cl capt base A cap N w hc hbw h hs
 clear h hc
 go_enter func137,ntmps137
 go_wp2_with (go_at_call 166;refine hcall.mono ?_;rintro e w' ⟨rfl,hw,hb'⟩)
 exact bodyPost_end (v:=.tuple #[]) (by simp [results,results137,go_sem]) rfl ⟨rfl,hw,hb'⟩
theorem zql (n:Nat):rng 0 n=List.range n:=by unfold rng;rw [List.range_eq_range',Nat.sub_zero]
theorem zhd {lt:Nat→Nat→Bool} (hlt:Swo lt) (cl:FuncId) (capt:Array Value) (R:Nat) (w:World) (hR:R≤4096)
  (ent:∀ (args:Array Value) (W:World),(callFunc cl args).run prog W = .ok (.enter cl args) W)
  (run:∀ (i j:Nat) (W:World),i < R→j < R→Ext w W→Calls prog cl (#[.int .i64 (i:Int),.int .i64 (j:Int)]++capt) W fun e W'=>∃ c:Int,e = .returned (.int .i64 c)∧decide (c < 0)=lt i j∧Ext W W') :
  Calls prog 83 #[.int .i64 (R:Int),.func (.func cl) #[] capt] w fun e w'=>(∃ A c,e = .returned (.slice A R c)∧Wr w.heap.size w' A c (zY lt R))∧Ext w w':=by
 have HC:Hid (∀ w1,Ext w w1→CmpS cl capt lt R w.heap.size w1):=fun w1 hx=>⟨ent,fun i j W hi hj hW=>run i j W hi hj (Below.trans hx hW)⟩
 have hrun:=zcC 0 R (by omega) (by omega) w
 rw [zql] at hrun
 clear run ent
 go_enter func83,ntmps83
 go_wp2_with (first | (go_at_call 129;refine hrun.mono ?_;rintro e w1 ⟨v,rfl,hp,hx⟩;obtain ⟨A,c,rfl,hd,_⟩:=Dg.of_own (l:=List.range R) (k:=.i64) hp;have hl:(List.range R).length=R:=List.length_range;rw [hl];clear hp) | (go_at_call 137;refine (ziJ hlt cl capt w.heap.size A c R w1 (HC.out w1 hx) hx.size hd (by omega)).mono ?_;rintro e w2 ⟨rfl,hw,hb2⟩))
 exact rt1 rfl rfl ⟨⟨A,c,rfl,hw⟩,Below.trans hx hb2⟩
theorem zoV (A:Option Addr) (n cap:Nat) (xs:List Ar) (w:World) (h:ArgsIn w A n cap xs) (h1:1≤n) :
  Calls prog 33 #[.slice A n cap] w fun e w'=>zan w (zeM xs) e w':=by
 obtain ⟨R,C,l,b1,off1,n1,cap1,b,off,x0,ha,rfl,⟨v0,v1,v2⟩,_,hc1,_,_,_,hbl,_,_,_,harr,_⟩:=h.first h1
 have hxr:NA.right ⟨R,C,l⟩:=(h.all _ (List.mem_of_getElem? ha)).right
 have hcap:=h.cap
 have hsm:=h.small
 simp only [Nat.zero_mul,Nat.add_zero] at v0 v1 v2
 have hx0:zF xs 0=⟨R,C,l⟩:=by unfold zF;rw [ha]
 obtain ⟨r1,r2,r3,r4,r5⟩:=zi.1 hxr
 simp only at r1 r2 r3 r4
 have hR4:R≤4096:=Nat.le_trans (Nat.le_mul_of_pos_right R r2) r3
 have hC4:C≤4096:=Nat.le_trans (Nat.le_mul_of_pos_left C r1) r3
 have n0:=fun W (hW:ArgsIn W (some ⟨b,off,none⟩) n cap xs)=>zbH _ n cap xs 1 1 W hW _ rfl
 have n2:=fun W (hW:ArgsIn W (some ⟨b,off,none⟩) n cap xs)=>zbH _ n cap xs 2 1 W hW _ rfl
 have i1:I64 (zu xs 1 1).1:=zcA h (by unfold I64;omega)
 have i2:I64 (zu xs 2 1).1:=zcA h (by unfold I64;omega)
 unfold zeM
 rw [hx0]
 generalize zu xs 1 1=mm at *
 generalize zu xs 2 1=kk at *
 obtain ⟨mi,mf⟩:=mm
 obtain ⟨ki,kf⟩:=kk
 simp only [show ((1:Nat):Int)=1 from rfl,show ((2:Nat):Int)=2 from rfl] at n0 n2
 have H:=Lib.hid h
 have HA:=Lib.hid harr
 clear h harr i1 i2 ha hx0 r4 r5
 obtain ⟨X,hX⟩:∃ X,zdl ⟨R,C,l⟩ (mi,mf) (ki,kf)=X:=⟨_,rfl⟩
 rw [hX]
 by_cases hmf:mf=0
 ·subst hmf
  by_cases hkf:kf=0
  ·subst hkf
   obtain ⟨bad,hbad⟩:∃ bad,decide (mi < 1∨(C:Int) < mi∨(ki≠1∧ki ≠ -1))=bad:=⟨_,rfl⟩
   have HX:=Lib.hid hX
   have HB:=Lib.hid hbad
   clear hX
   go_enter func33,ntmps33
   go_upto_region 8 with (first | (go_at_call 68;with_reducible refine aM (n0 _ (H.out.ext (by simp [go_sem]))) fun osa da=>?_) | (go_at_call 68;with_reducible refine aM (n2 _ (H.out.ext (by simp [go_sem]))) fun osb db=>?_))
   go_cut [3,4,6,43] (fun s3 s4 s6 s43 wx=>∃ pa pb pw:Nat,s3 = .pointer (some ⟨pa,0,none⟩)∧s4 = .pointer (some ⟨pb,0,none⟩)∧s6 = .pointer (some ⟨pw,0,none⟩)∧s43 = .bool bad∧Ext w wx∧w.heap.size+1≤wx.heap.size∧wx.cell? ⟨pa,0,none⟩=some (.int .i64 (R:Int))∧wx.cell? ⟨pa,1,none⟩=some (.int .i64 (C:Int))∧wx.cell? ⟨pa,2,none⟩=some (.slice (some ⟨b1,off1,none⟩) n1 cap1)∧wx.cell? ⟨pb,0,none⟩=some (.int .i64 mi)∧wx.cell? ⟨pw,0,none⟩=some (.int .i64 ki)∧Hid (∃ os d,wx=more (w.alloc (Obj.cells #[.int .i64 0,.int .i64 0,.slice none 0 0] 30)) os d))
   case first =>
    by_cases q1:mi < 1
    ·obtain rfl:true=bad:=by rw [← hbad];simp [q1]
     clear hbad
     (go_wp2_with fail;go_meet;refine ⟨_,_,_,rfl,rfl,rfl,rfl,by simp [go_sem],by simp;omega,?_,?_,?_,?_,?_,(show Ext (w.alloc (Obj.cells #[.int .i64 0,.int .i64 0,.slice none 0 0] 30)) _ from (by simp [go_sem])).more⟩;all_goals (simp [go_sem];done))
    ·by_cases q2:(C:Int) < mi
     ·obtain rfl:true=bad:=by rw [← hbad];simp [q2]
      clear hbad
      (go_wp2_with fail;go_meet;refine ⟨_,_,_,rfl,rfl,rfl,rfl,by simp [go_sem],by simp;omega,?_,?_,?_,?_,?_,(show Ext (w.alloc (Obj.cells #[.int .i64 0,.int .i64 0,.slice none 0 0] 30)) _ from (by simp [go_sem])).more⟩;all_goals (simp [go_sem];done))
     ·by_cases q3:ki=1
      ·have q3':(ki != 1)=false:=by simpa using q3
       obtain rfl:false=bad:=by rw [← hbad];simp [q1,q2,q3]
       clear hbad q3
       (go_wp2_with fail;go_meet;refine ⟨_,_,_,rfl,rfl,rfl,rfl,by simp [go_sem],by simp;omega,?_,?_,?_,?_,?_,(show Ext (w.alloc (Obj.cells #[.int .i64 0,.int .i64 0,.slice none 0 0] 30)) _ from (by simp [go_sem])).more⟩;all_goals (simp [go_sem];done))
      ·have q3':(ki != 1)=true:=by simpa using q3
       by_cases q4:ki = -1
       ·have q4':(ki != -1)=false:=by simpa using q4
        obtain rfl:false=bad:=by rw [← hbad];simp [q1,q2,q3,q4]
        clear hbad q3 q4
        (go_wp2_with fail;go_meet;refine ⟨_,_,_,rfl,rfl,rfl,rfl,by simp [go_sem],by simp;omega,?_,?_,?_,?_,?_,(show Ext (w.alloc (Obj.cells #[.int .i64 0,.int .i64 0,.slice none 0 0] 30)) _ from (by simp [go_sem])).more⟩;all_goals (simp [go_sem];done))
       ·have q4':(ki != -1)=true:=by simpa using q4
        obtain rfl:true=bad:=by rw [← hbad];simp [q1,q2,q3,q4]
        clear hbad q3 q4
        (go_wp2_with fail;go_meet;refine ⟨_,_,_,rfl,rfl,rfl,rfl,by simp [go_sem],by simp;omega,?_,?_,?_,?_,?_,(show Ext (w.alloc (Obj.cells #[.int .i64 0,.int .i64 0,.slice none 0 0] 30)) _ from (by simp [go_sem])).more⟩;all_goals (simp [go_sem];done))
   case rest =>
   clear hbad v0 v1 v2 n0 n2
   obtain ⟨pa,pb,pw,rfl,rfl,rfl,rfl,hx,hsz,c0,c1,c2,c3,c4,HU⟩:=hcut
   have la:=zg c0
   have lb:=zg c3
   have lw:=zg c4
   cases bad with
   | true =>
    obtain rfl:zf 2=X:=by
     rw [← HX.out];unfold zdl
     rw [if_neg (by simp),if_neg (by simp),if_pos]
     have:=HB.out
     exact of_decide_eq_true this
    go_wp2_with ((go_at_call 17;with_reducible refine aR (zt _ _) fun D m cc os5 d5 hD=>?_;have hDr:=hD.rd);obtain ⟨osu,du,rfl⟩:=HU.out)
    exact rc1 (v:=AV (zf 2).R (zf 2).C (.slice D m cc)) rfl rfl (by simp [go_sem]) (by (try simp only [ze,za,zc,zb,Array.append_assoc] at hDr);(try simp only [ze,za,zc,zb,Array.append_assoc]);exact raS hDr hD (by simp <;> omega) (by simp [go_sem]))
   | false =>
    have hgood:=of_decide_eq_false HB.out
    obtain ⟨bb,rfl⟩:∃ bb:Nat,mi=bb:=⟨mi.toNat,by omega⟩
    have hb1:1≤bb:=by omega
    have hb2:bb≤C:=by omega
    have hway:ki=1∨ki = -1:=by omega
    have hXe:zL ⟨R,C,l⟩ (zY (ltS ⟨R,C,l⟩ (bb - 1) (decide (ki = -1))) R)=X:=by
     rw [← HX.out];unfold zdl
     rw [if_neg (by simp),if_neg (by simp),if_neg hgood]
     rfl
    have hsw:Swo (ltS ⟨R,C,l⟩ (bb - 1) (decide (ki = -1))):=zfj (zi.1 hxr).2.2.2.2 _ _
    have hl:(zY (ltS ⟨R,C,l⟩ (bb - 1) (decide (ki = -1))) R).length=R:=zbv _ _
    have hPl:PlOk (zY (ltS ⟨R,C,l⟩ (bb - 1) (decide (ki = -1))) R) R:=⟨by omega,by omega,zfQ hsw⟩
    have hio:=fun W (hW:Ext wc W)=>zhd hsw 84 #[.pointer (some ⟨pa,0,none⟩),.pointer (some ⟨pb,0,none⟩),.pointer (some ⟨pw,0,none⟩)] R W hR4 (fun args W=>by go_simp)
     (fun i j W' hi hj hW'=>zqg ⟨R,C,l⟩ (some ⟨b1,off1,none⟩) n1 cap1 pa pb pw bb i j ki W' (HA.out.ext (hx.trans (hW.trans hW'))) hxr hi hj ((hW.trans hW').cell_some c1) ((hW.trans hW').cell_some c2) ((hW.trans hW').cell_some c3) ((hW.trans hW').cell_some c4) hb1 hb2 hway)
    have hro:=fun W B cb (hW:ArrIn W (some ⟨b1,off1,none⟩) n1 cap1 l) hB hcb=>zdM ⟨R,C,l⟩ _ n1 cap1 _ B cb W hW hxr hB hcb hPl
    rw [hXe,hl] at hro
    have HIO:=Lib.hid hio
    have HRO:=Lib.hid hro
    have HL:=Lib.hid hl
    clear hio hro hl hPl hsw hXe hgood hway hb1 hb2 HX HB hxr
    go_upto_region 10 with fail
    refine plP [(0,0),(1,0),(2,0),(3,0),(4,1),(5,1),(6,2)] [6] (by kernel_rfl) (fun _ _ d _ _ h=>by cases d <;> exact h) ?_
    iterate 4 (apply rdP rfl rfl;(intros;go_simp;first | done | rfl);try simp only [zq])
    (refine zh rfl ?_ (fun K hK=>?_);rfl;go_simp;refine (HIO.out _ (by simp [go_sem])).mono ?_;rintro e w' ⟨⟨B1,cb1,rfl,hB1⟩,hb⟩;have hB2:=Rd.mono (Dg.rd hB1) (Nat.zero_le _);have hcb1:=hB1.1;rw [HL.out] at hcb1;obtain ⟨os1,d1,rfl⟩:=hb.more;clear hb hB1;(try simp only [za,zc,zb,Array.append_assoc] at hB2);refine hK _ _ ?_ ?_;(simp [go_sem]))
    try simp only [zq]
    (refine zh rfl ?_ (fun K hK=>?_);rfl;go_simp;refine (HRO.out _ B1 cb1 (HA.out.ext (hx.trans (by simp [go_sem]))) hB2 hcb1).mono ?_;rintro e w' ⟨D,m,cc,rfl,hD,hb⟩;obtain ⟨os4,d4,rfl⟩:=hb.more;clear hb hB2;obtain ⟨osu,du,rfl⟩:=HU.out;have hDr:=hD.rd;refine hK _ _ ?_ ?_;(simp [go_sem]))
    try simp only [zq]
    (refine zaa rfl ?_ (fun K hK=>?_);rfl;go_simp;refine hK _ _ ?_)
    try simp only [Act.put]
    refine zj ?_
    go_wp2_with fail
    exact bodyPost_ret (v:=AV X.R X.C (.slice D m cc)) (by simp [results,results33,go_sem]) rfl ⟨D,m,cc,rfl,⟨(by (try simp only [ze,za] at hDr);(try simp only [ze,za]);(try simp only [zc] at hDr);(try simp only [zb] at hDr);(try simp only [Array.append_assoc] at hDr);(try simp only [Array.append_assoc]);exact Rd.swap hDr (by first | (simp;done) | (simp;omega) | omega) (by first | (simp;done) | (simp;omega) | omega) (by first | (simp;done) | (simp;omega) | omega)),hD.len,hD.cap,hD.small,hD.ok⟩,by with_reducible repeat (first | exact Ext.refl _ | apply Ext.drew | apply Ext.alloc | apply Ext.more_)⟩
  ·obtain rfl:zf kf=X:=by rw [← hX];unfold zdl;rw [if_neg (by simp),if_pos hkf]
   have hf':(kf != 0)=true:=by simpa using hkf
   clear hX hkf
   go_enter func33,ntmps33
   go_wp2_with (first | (first | (go_at_call 68;with_reducible refine aM (n0 _ (H.out.ext (by simp [go_sem]))) fun osa da=>?_) | (go_at_call 68;with_reducible refine aM (n2 _ (H.out.ext (by simp [go_sem]))) fun osb db=>?_)) | (go_at_call 17;with_reducible refine aR (zt _ _) fun D m cc os5 d5 hD=>?_;have hDr:=hD.rd))
   exact bodyPost_ret (v:=AV (zf kf).R (zf kf).C (.slice D m cc)) (by simp [results,results33,go_sem]) rfl ⟨D,m,cc,rfl,⟨(by (try simp only [ze,za] at hDr);(try simp only [ze,za]);(try simp only [zc] at hDr);(try simp only [zb] at hDr);(try simp only [Array.append_assoc] at hDr);(try simp only [Array.append_assoc]);exact Rd.swap hDr (by first | (simp;done) | (simp;omega) | omega) (by first | (simp;done) | (simp;omega) | omega) (by first | (simp;done) | (simp;omega) | omega)),hD.len,hD.cap,hD.small,hD.ok⟩,by with_reducible repeat (first | exact Ext.refl _ | apply Ext.drew | apply Ext.alloc | apply Ext.more_)⟩
 ·obtain rfl:zf mf=X:=by rw [← hX];unfold zdl;rw [if_pos hmf]
  have hf':(mf != 0)=true:=by simpa using hmf
  clear hX hmf
  go_enter func33,ntmps33
  go_wp2_with (first | (go_at_call 68;with_reducible refine aM (n0 _ (H.out.ext (by simp [go_sem]))) fun osa da=>?_) | (go_at_call 17;with_reducible refine aR (zt _ _) fun D m cc os5 d5 hD=>?_;have hDr:=hD.rd))
  exact bodyPost_ret (v:=AV (zf mf).R (zf mf).C (.slice D m cc)) (by simp [results,results33,go_sem]) rfl ⟨D,m,cc,rfl,⟨(by (try simp only [ze,za] at hDr);(try simp only [ze,za]);(try simp only [zc] at hDr);(try simp only [zb] at hDr);(try simp only [Array.append_assoc] at hDr);(try simp only [Array.append_assoc]);exact Rd.swap hDr (by first | (simp;done) | (simp;omega) | omega) (by first | (simp;done) | (simp;omega) | omega) (by first | (simp;done) | (simp;omega) | omega)),hD.len,hD.cap,hD.small,hD.ok⟩,by with_reducible repeat (first | exact Ext.refl _ | apply Ext.drew | apply Ext.alloc | apply Ext.more_)⟩
end Go.Proofs.YtkoidgbgoccgmaaGreatDoor
namespace Go.Proofs
open Go.Shelf
def Tryz.laysSlM5_f89_ren:Go.Shelf.Ren:=⟨fun | 5=>89 | 8=>64 | 7=>139 | 19=>122 | 20=>123 | 10=>171 | 11=>172 | 12=>173 | 13=>174 | 14=>175 | 15=>176 | 16=>177 | 17=>178 | 18=>179 | 30=>196 | 31=>152 | 32=>153 | 33=>197 | 34=>198 | 35=>199 | 40=>208 | n=>n,fun | 23=>71 | 25=>3 | 3=>3 | 32=>78 | 22=>71 | 0=>0 | 44=>120 | 46=>122 | 4=>4 | 36=>113 | 35=>112 | 41=>89 | 5=>5 | 9=>9 | 53=>140 | 57=>144 | 63=>171 | 64=>62 | n=>n,fun | n=>n⟩
theorem Tryz.laysSlM5_f89:Go.Proofs.SlLaysM.n5 prog Tryz.laysSlM5_f89_ren:={
 mixed:=by kernel_rfl
 f5:=⟨Tryz.f89.name,by decide,Tryz.func89.trans (congrArg some (by kernel_rfl))⟩
 f7:=⟨Tryz.f139.name,by decide,Tryz.func139.trans (congrArg some (by kernel_rfl))⟩
 f8:=Tryz.func64.trans (congrArg some (by kernel_rfl))
 f10:=⟨Tryz.f171.name,by decide,Tryz.func171.trans (congrArg some (by kernel_rfl))⟩
 f11:=⟨Tryz.f172.name,by decide,Tryz.func172.trans (congrArg some (by kernel_rfl))⟩
 f12:=⟨Tryz.f173.name,by decide,Tryz.func173.trans (congrArg some (by kernel_rfl))⟩
 f13:=⟨Tryz.f174.name,by decide,Tryz.func174.trans (congrArg some (by kernel_rfl))⟩
 f14:=⟨Tryz.f175.name,by decide,Tryz.func175.trans (congrArg some (by kernel_rfl))⟩
 f15:=⟨Tryz.f176.name,by decide,Tryz.func176.trans (congrArg some (by kernel_rfl))⟩
 f16:=⟨Tryz.f177.name,by decide,Tryz.func177.trans (congrArg some (by kernel_rfl))⟩
 f17:=⟨Tryz.f178.name,by decide,Tryz.func178.trans (congrArg some (by kernel_rfl))⟩
 f18:=⟨Tryz.f179.name,by decide,Tryz.func179.trans (congrArg some (by kernel_rfl))⟩
 f19:=Tryz.func122.trans (congrArg some (by kernel_rfl))
 f20:=Tryz.func123.trans (congrArg some (by kernel_rfl))
 f30:=⟨Tryz.f196.name,by decide,Tryz.func196.trans (congrArg some (by kernel_rfl))⟩
 f31:=Tryz.func152.trans (congrArg some (by kernel_rfl))
 f32:=Tryz.func153.trans (congrArg some (by kernel_rfl))
 f33:=⟨Tryz.f197.name,by decide,Tryz.func197.trans (congrArg some (by kernel_rfl))⟩
 f34:=⟨Tryz.f198.name,by decide,Tryz.func198.trans (congrArg some (by kernel_rfl))⟩
 f35:=⟨Tryz.f199.name,by decide,Tryz.func199.trans (congrArg some (by kernel_rfl))⟩
 f40:=⟨Tryz.f208.name,by decide,Tryz.func208.trans (congrArg some (by kernel_rfl))⟩
 t0:=Tryz.underlying0
 a0:=Tryz.isAgg0
 z0:=Tryz.sizeOf0
 v0:=Tryz.zeroValue0
 t3:=Tryz.underlying3
 a3:=Tryz.isAgg3
 z3:=Tryz.sizeOf3
 v3:=Tryz.zeroValue3
 t4:=Tryz.underlying4
 a4:=Tryz.isAgg4
 z4:=Tryz.sizeOf4
 v4:=Tryz.zeroValue4
 t5:=Tryz.underlying5
 a5:=Tryz.isAgg5
 z5:=Tryz.sizeOf5
 v5:=Tryz.zeroValue5
 t9:=Tryz.underlying9
 a9:=Tryz.isAgg9
 z9:=Tryz.sizeOf9
 v9:=Tryz.zeroValue9
 t22:=Tryz.underlying71
 a22:=Tryz.isAgg71
 z22:=Tryz.sizeOf71
 v22:=Tryz.zeroValue71
 t23:=Tryz.underlying71
 a23:=Tryz.isAgg71
 z23:=Tryz.sizeOf71
 v23:=Tryz.zeroValue71
 t25:=Tryz.underlying3
 a25:=Tryz.isAgg3
 z25:=Tryz.sizeOf3
 v25:=Tryz.zeroValue3
 t32:=Tryz.underlying78
 a32:=Tryz.isAgg78
 z32:=Tryz.sizeOf78
 v32:=Tryz.zeroValue78
 t35:=Tryz.underlying112
 a35:=Tryz.isAgg112
 z35:=Tryz.sizeOf112
 v35:=Tryz.zeroValue112
 t36:=Tryz.underlying113
 a36:=Tryz.isAgg113
 z36:=Tryz.sizeOf113
 v36:=Tryz.zeroValue113
 t41:=Tryz.underlying89
 a41:=Tryz.isAgg89
 z41:=Tryz.sizeOf89
 v41:=Tryz.zeroValue89
 t44:=Tryz.underlying120
 a44:=Tryz.isAgg120
 z44:=Tryz.sizeOf120
 v44:=Tryz.zeroValue120
 t46:=Tryz.underlying122
 a46:=Tryz.isAgg122
 z46:=Tryz.sizeOf122
 v46:=Tryz.zeroValue122
 t53:=Tryz.underlying140
 a53:=Tryz.isAgg140
 z53:=Tryz.sizeOf140
 v53:=Tryz.zeroValue140
 t57:=Tryz.underlying144
 a57:=Tryz.isAgg144
 z57:=Tryz.sizeOf144
 v57:=Tryz.zeroValue144
 t63:=Tryz.underlying171
 a63:=Tryz.isAgg171
 z63:=Tryz.sizeOf171
 v63:=Tryz.zeroValue171
 t64:=Tryz.underlying62
 a64:=Tryz.isAgg62
 z64:=Tryz.sizeOf62
 v64:=Tryz.zeroValue62 }
open Go.Sort Go.RowKit in
theorem Tryz.slices_Sort_int (blk off cap:Nat) (zs:List Int) (w:World) (hH:Holds (Value.int .i64) w blk off zs.toArray) (hblk:blk < w.heap.size) (hsz:zs.length < 4611686018427387904) :
  Calls prog 89 #[.slice (some ⟨blk,off,none⟩) zs.length cap] w fun e w' =>
   e = .returned (.tuple #[])∧∃ n os,w'=grow (putRow (Value.int .i64) (Sort.ahead w n) blk off (zs.mergeSort fun x y=>decide (x≤y)).toArray) os:=AnyM.slices_Sort_int Tryz.laysSlM5_f89 blk off cap zs w hH hblk hsz
end Go.Proofs
namespace Go.Proofs.YtkoidgbgoccgmaaGreatDoor
open _root_.Go.Proofs.Tryz
open Go.RowKit NM
theorem zjC {cur:Array Value} {S:List Nat} {off j x:Nat} {y:Value} (h:S[j]? = some x) (hc:cur[off+j]? = some y):(Go.Sort.putCells (Value.int .i64) off (S.map fun d:Nat=>(d:Int)).toArray cur)[off+j]? = some (.int .i64 (x:Int)):=by
 have hj:j < S.length:=(List.getElem?_eq_some_iff.1 h).1
 have hx:S[j]=x:=(List.getElem?_eq_some_iff.1 h).2
 simp only [Go.Sort.putCells,Array.getElem?_mapIdx,hc,Option.map_some]
 rw [if_pos ⟨by omega,by simp;omega⟩,Nat.add_sub_cancel_left]
 simp [hj,hx]
theorem zlH {w:World} {g off n:Nat} {os:Array Obj} {cur:Array Value} {e:TypeId} (d:Array Int) (hb:w.heap[g]? = some (.cells cur e (0,0))) :
  (Go.Sort.grow (Go.Sort.putRow (Value.int .i64) (Go.Sort.ahead w n) g off d) os).heap[g]? = some (.cells (Go.Sort.putCells (Value.int .i64) off d cur) e (0,0)):=by
 have hg:g < w.heap.size:=zH hb
 rw [Go.Sort.heap_grow_old _ _ (by simpa using hg)]
 simp [Go.Sort.putRow,Go.Sort.mapBlock,Go.Sort.ahead,Array.getElem?_modify,hb,Go.Sort.onCells]
theorem zk1 {base:Nat} {w:World} {g off n:Nat} {os:Array Obj} (d:Array Int) (hb:base≤g) (hw:base≤w.heap.size):Below base w (Go.Sort.grow (Go.Sort.putRow (Value.int .i64) (Go.Sort.ahead w n) g off d) os):=by
 refine ⟨rfl,rfl,rfl,by simp,fun k hk=>?_⟩
 rw [Go.Sort.heap_grow_old _ _ (by simp;omega)]
 simp [Go.Sort.putRow,Go.Sort.mapBlock,Go.Sort.ahead,Array.getElem?_modify,show g≠k by omega]
theorem zlI (base:Nat) (A:Option Addr) (cap:Nat) (l:List Nat) (w:World) (h:Wr base w A cap l) (hs:l.length≤100000) (h0:l≠[]) :
  Calls prog 89 #[.slice A l.length cap] w fun e w'=>e = .returned (.tuple #[])∧(∃ S:List Nat,S.Perm l∧S.Pairwise (· ≤ ·)∧Wr base w' A cap S)∧Below base w w':=by
 obtain ⟨hc,h1 | ⟨b,off,cur,rfl,hb,hh,hcells⟩⟩:=h
 ·exact absurd h1 h0
 have hH:Go.Sort.Holds (Value.int .i64) w b off (l.map fun d:Nat=>(d:Int)).toArray:=by
  intro j hj
  have hj':j < l.length:=by simpa using hj
  have hx:=hcells j l[j] (List.getElem?_eq_getElem hj')
  refine ⟨?_,by simp [World.frozen?,hh]⟩
  simp [World.cell?,hh,hx,hj']
 have hlb:=zH hh
 have hcall:=Tryz.slices_Sort_int b off cap (l.map fun d:Nat=>(d:Int)) w hH hlb (by simp;omega)
 rw [List.length_map] at hcall
 refine hcall.mono ?_
 rintro e w' ⟨rfl,n,os,rfl⟩
 have hm:((l.map fun d:Nat=>(d:Int)).mergeSort fun x y=>decide (x≤y))=(l.mergeSort fun x y=>decide (x≤y)).map fun d:Nat=>(d:Int) :=
  (List.map_mergeSort (fun a _ b _=>by rw [decide_eq_decide];exact Int.ofNat_le.symm)).symm
 rw [hm]
 have hp:(l.mergeSort fun x y=>decide (x≤y)).Perm l:=List.mergeSort_perm _ _
 have hsd:(l.mergeSort fun x y=>decide (x≤y)).Pairwise (· ≤ ·):=by
  have:=List.pairwise_mergeSort (le:=fun x y:Nat=>decide (x≤y)) (by intro a b c;simp;omega) (by intro a b;simp;omega) l
  exact this.imp fun h=>by simpa using h
 generalize (l.mergeSort fun x y=>decide (x≤y))=S at *
 have hl:=hp.length_eq
 refine ⟨rfl,⟨S,hp,hsd,by rw [hl];exact hc,Or.inr ⟨b,off,_,rfl,hb,zlH _ hh,fun j d hd=>?_⟩⟩,zk1 _ hb (Nat.le_trans hb (Nat.le_of_lt hlb))⟩
 have hj:j < l.length:=by rw [← hl];exact (List.getElem?_eq_some_iff.1 hd).1
 exact zjC hd (hcells j l[j] (List.getElem?_eq_getElem hj))
def neU (a:NA) (i j:Nat):Bool:=decide (zaJ (zG a i) (zG a j)≠0)
theorem zsl (a:NA) (i j:Nat):neU a i j=(ltU a i j || ltU a j i):=by
 unfold neU ltU
 rw [zcE (zG a i) (zG a j)]
 rcases Int.lt_trichotomy (zaJ (zG a i) (zG a j)) 0 with h | h | h <;> simp [h] <;> omega
def ziK (base:Nat) (w:World) (v:Value) (A:Option Addr) (p:Nat) (F:List Nat):Prop:=(v = .slice A 1 1∧F=[p])∨w.ownsRow base 3 1 v F.length (i6 F)
theorem ziK.ext {base:Nat} {w w':World} {v:Value} {A:Option Addr} {p:Nat} {F:List Nat} (h:ziK base w v A p F) (hx:Ext w w'):ziK base w' v A p F:=h.imp id fun h=>zw h hx
theorem ziK.wr {base base':Nat} {w:World} {v:Value} {A:Option Addr} {c p:Nat} {F l:List Nat} (h:ziK base w v A p F) (hb:base'≤base) (hl:Wr base' w A c l) (hp:l[0]? = some p):∃ B cb,v = .slice B F.length cb∧Wr base' w B cb F:=by
 rcases h with ⟨rfl,rfl⟩ | h
 ·refine ⟨A,1,rfl,?_⟩
  have h1:=Dg.take hl 1 1 (Nat.le_refl _)
  have e:l.take 1=[p]:=by cases l with
   | nil=>simp at hp
   | cons x l=>simp at hp;simp [hp]
  rwa [e] at h1
 ·obtain ⟨B,cb,rfl,hd,_⟩:=Dg.of_own (l:=F) (k:=.i64) h
  exact ⟨B,cb,rfl,Dg.mono hd hb⟩
theorem zmw {w:World} {base base' size n:Nat} {ty:TypeId} {v:Value} {xs:List Value} (h:w.ownsRow base ty size v n xs) (hb:base'≤base):w.ownsRow base' ty size v n xs :=
 ⟨h.1,h.2.imp id fun ⟨g,cap,cur,hv,hg,r⟩=>⟨g,cap,cur,hv,Nat.le_trans hb hg,r⟩⟩
theorem zlJ (A : Option Addr) (n cap : Nat) (xs : List Ar) (w : World) (h : ArgsIn w A n cap xs) (h1 : 1 ≤ n) :
    Calls prog 41 #[.slice A n cap] w fun e w' => zan w (zdv xs) e w' := by
  obtain ⟨R, C, l, b1, off1, n1, cap1, b, off, x0, ha, rfl, ⟨v0, v1, v2⟩, _, hc1, _, _, _, hbl, _, _, _, harr, _⟩ := h.first h1
  have hxr : NA.right ⟨R, C, l⟩ := (h.all _ (List.mem_of_getElem? ha)).right
  have hcap := h.cap
  have hsm := h.small
  simp only [Nat.zero_mul, Nat.add_zero] at v0 v1 v2
  have hx0 : zF xs 0 = ⟨R, C, l⟩ := by unfold zF; rw [ha]
  obtain ⟨r1, r2, r3, r4, r5⟩ := zi.1 hxr
  simp only at r1 r2 r3 r4
  have hR4 : R ≤ 4096 := Nat.le_trans (Nat.le_mul_of_pos_right R r2) r3
  unfold zdv
  rw [hx0]
  have HA := Lib.hid harr
  obtain ⟨X, hX⟩ : ∃ X, zd5 ⟨R, C, l⟩ = X := ⟨_, rfl⟩
  rw [hX]
  have HX := Lib.hid hX
  obtain ⟨ps, hps⟩ : ∃ ps, zY (ltU ⟨R, C, l⟩) R = ps := ⟨_, rfl⟩
  have hsw : Swo (ltU ⟨R, C, l⟩) := zrj (zi.1 hxr).2.2.2.2
  have hpl : ps.length = R := by rw [← hps]; exact zbv _ _
  have hplt : ∀ r ∈ ps, r < R := by rw [← hps]; exact zfQ hsw
  have HPS := Lib.hid hps
  have HLT := Lib.hid hplt
  have HSW := Lib.hid hsw
  obtain ⟨i0, hi0, hz0, hz1, hz2⟩ := info_parts zbq
  clear h harr ha hx0 r4 r5 hX hps hplt hsw r3
  go_enter func41, ntmps41
  go_upto_region 3 with fail
  refine zz fun U hU => ?_
  have hx : Ext w U := by rw [hU]; exact (by simp [go_sem])
  have hz : Ext (w.alloc (Obj.cells #[.int .i64 0, .int .i64 0, .slice none 0 0] 30)) U := by rw [hU]; exact (by simp [go_sem])
  have c0 : U.cell? ⟨w.heap.size + 1, 0, none⟩ = some (.int .i64 (R : Int)) := by rw [hU]; go_simp
  have c1 : U.cell? ⟨w.heap.size + 1, 1, none⟩ = some (.int .i64 (C : Int)) := by rw [hU]; go_simp
  have c2 : U.cell? ⟨w.heap.size + 1, 2, none⟩ = some (.slice (some ⟨b1, off1, none⟩) n1 cap1) := by rw [hU]; go_simp
  have la := zg c0
  have HZ := Lib.hid hz
  clear hU v0 v1 v2 hz
  have hcl := fun (i j : Nat) (W : World) (hi : i < R) (hj : j < R) (hW : Ext U W) => zqh ⟨R, C, l⟩ (some ⟨b1, off1, none⟩) n1 cap1 (w.heap.size + 1) i j W (HA.out.ext (hx.trans hW)) hxr hi hj (hW.cell_some c1) (hW.cell_some c2)
  have hent : ∀ (args : Array Value) (W : World), (callFunc 88 args).run prog W = .ok (.enter 88 args) W := fun args W => by go_simp
  have hio := zhd HSW.out 88 #[.pointer (some ⟨w.heap.size + 1, 0, none⟩)] R U hR4 hent (fun i j W hi hj hW => (hcl i j W hi hj hW).mono (fun e W' hh => ⟨_, hh.1, rfl, hh.2⟩))
  rw [HPS.out] at hio
  have HCL := Lib.hid hcl
  have HXR := Lib.hid hxr
  clear hcl hxr
  go_upto_region 4 with (go_at_call 83; refine hio.mono ?_; rintro e w1 ⟨⟨A1, k1, rfl, hW1⟩, hx1⟩)
  clear hio
  obtain ⟨p0, hp0⟩ : ∃ p, ps[0]? = some p := ⟨_, List.getElem?_eq_getElem (by omega)⟩
  obtain ⟨bl, ol, rfl, hbl1, cp0, _⟩ := Dg.at hW1 hp0
  have hk1 : R ≤ k1 := by have := hW1.1; omega
  have hk2 : 1 ≤ k1 := by omega
  have hblw : bl < w1.heap.size := zg cp0
  have HW1 := Lib.hid hW1
  have HX1 := Lib.hid hx1
  have HP0 := Lib.hid hp0
  have HPL := Lib.hid hpl
  have HC12 := Lib.hid (And.intro c1 c2)
  have hc0 := hx1.cell_some c0
  have hla := zg hc0
  clear hW1 hx1 hp0 hpl cp0 c1 c2 hbl1
  go_wp2_with fail
  go_loopw [6, 7] (fun s6 s7 wr => ∃ (k : Nat) (F : List Nat), 1 ≤ k ∧ k ≤ R ∧ F.length ≤ k ∧ s7 = .int .i64 (k : Int) ∧ Hid (F = zb4 (neU ⟨R, C, l⟩) ps (k - 1)) ∧ Hid (ziK w1.heap.size wr s6 (some ⟨bl, ol, none⟩) p0 F) ∧ Ext w1 wr) (fun _ s7 _ => R - (intOf s7).toNat)
  case atStart =>
    refine ⟨1, [p0], Nat.le_refl _, r1, Nat.le_refl _, rfl, ?_, Or.inl ⟨rfl, rfl⟩, Ext.refl _⟩
    show [p0] = ps.take 1
    have := HP0.out
    cases ps with
    | nil => simp at this
    | cons x ps => simp at this; simp [this]
  case round =>
    obtain ⟨k, F, hk, hkR, hFk, rfl, HF, HV, hxr⟩ := hrel
    by_cases hlt : k < R
    · have hlt' : (k : Int) < (R : Int) := by omega
      obtain ⟨k', hk'⟩ : ∃ k', k - 1 = k' := ⟨_, rfl⟩
      have ek : IntKind.i64.wrap ((k : Int) - 1) = (k' : Int) := by rw [IntKind.wrap_i64]; omega
      have hpl := HPL.out
      obtain ⟨x, hx0⟩ : ∃ x, ps[k']? = some x := ⟨_, List.getElem?_eq_getElem (by omega)⟩
      obtain ⟨y, hy0⟩ : ∃ x, ps[k]? = some x := ⟨_, List.getElem?_eq_getElem (by omega)⟩
      have hxR : x < R := HLT.out x (List.mem_of_getElem? hx0)
      have hyR : y < R := HLT.out y (List.mem_of_getElem? hy0)
      have hWr := HW1.out.of_ext hxr
      obtain ⟨bl', ol', e, _, cx, _⟩ := Dg.at hWr hx0
      obtain ⟨rfl, rfl⟩ := aI e
      obtain ⟨bl', ol', e, _, cy, _⟩ := Dg.at hWr hy0
      obtain ⟨rfl, rfl⟩ := aI e
      have hb2 : bl < wr.heap.size := zg cx
      have hkk : k' < R := by omega
      have hcall := fun (W : World) (hW : Ext wr W) => HCL.out x y W hxR hyR (HX1.out.trans (hxr.trans hW))
      have hstep : zb4 (neU ⟨R, C, l⟩) ps k = zb4 (neU ⟨R, C, l⟩) ps k' ++ if neU ⟨R, C, l⟩ x y then [y] else [] := by
        have e : k = k' + 1 := by omega
        rw [e] at hy0 ⊢
        show zb4 _ _ _ ++ (if neU _ (ps.getD k' 0) (ps.getD (k' + 1) 0) then [ps.getD (k' + 1) 0] else []) = _
        simp [List.getD, hx0, hy0]
      have hFe : F = zb4 (neU ⟨R, C, l⟩) ps k' := by rw [← hk']; exact HF.out
      by_cases hzz : zaJ (zG ⟨R, C, l⟩ x) (zG ⟨R, C, l⟩ y) = 0
      · have HF2 : Hid (F = zb4 (neU ⟨R, C, l⟩) ps (k + 1 - 1)) := by
          show F = _
          rw [Nat.add_sub_cancel, hstep, hFe]
          simp [neU, hzz]
        rw [hzz] at hcall
        clear hzz hstep hFe hx0 hy0 hk' hpl hxR hyR hWr
        go_upto_region 8 with fail
        refine plP [(0, 0), (1, 0), (2, 0), (3, 0), (4, 0), (5, 0), (6, 0), (7, 0), (8, 0), (9, 0), (10, 1), (11, 0)] [] (by kernel_rfl) (fun _ _ d _ _ h => by cases d <;> exact h) ?_
        iterate 10 (apply rdP rfl rfl; (intros; go_simp; first | done | rfl); try simp only [zq])
        (refine zh rfl ?_ (fun K hK => ?_); rfl; go_simp; refine aM (hcall _ (by simp [go_sem])) fun os1 d1 => ?_; refine hK _ _ ?_ ?_; (simp [go_sem]))
        try simp only [zq]
        (apply rdP rfl rfl; (intros; go_simp; first | done | rfl))
        try simp only [zq]
        refine zj ?_
        go_wp2_with fail
        exact ⟨⟨k + 1, F, by omega, by omega, by omega, by go_num, HF2, HV.out.ext (by simp [go_sem]), hxr.trans (by simp [go_sem])⟩, by simp [intOf]; omega⟩
      · have HF2 : Hid (F ++ [y] = zb4 (neU ⟨R, C, l⟩) ps (k + 1 - 1)) := by
          show _ = _
          rw [Nat.add_sub_cancel, hstep, hFe]
          simp [neU, hzz]
        have hzz' : (zaJ (zG ⟨R, C, l⟩ x) (zG ⟨R, C, l⟩ y) != 0) = true := by simpa using hzz
        generalize zaJ (zG ⟨R, C, l⟩ x) (zG ⟨R, C, l⟩ y) = z at *
        clear hzz hstep hFe hx0 hy0 hk' hpl hxR hyR hWr
        have hsz := hxr.size
        rcases HV.out with ⟨rfl, rfl⟩ | ho
        · have hcp : w1.cell? ⟨bl, ol, none⟩ = some (.int .i64 (p0 : Int)) := by
            obtain ⟨bl', ol', e, _, cq, _⟩ := Dg.at HW1.out HP0.out
            obtain ⟨rfl, rfl⟩ := aI e
            simpa using cq
          have hrd : Hid (Rd 0 wr (some ⟨bl, ol, none⟩) [.int .i64 (p0 : Int)]) := fun j u hu => by
            cases j with
            | zero => obtain rfl : Value.int .i64 (p0 : Int) = u := by simpa using hu
                      exact ⟨bl, ol, rfl, Nat.zero_le _, hxr.cell_some hcp⟩
            | succ j => simp at hu
          clear hcp
          go_upto_region 8 with fail
          refine plP [(0, 0), (1, 0), (2, 0), (3, 0), (4, 0), (5, 0), (6, 0), (7, 0), (8, 0), (9, 0), (10, 1), (11, 0)] [] (by kernel_rfl) (fun _ _ d _ _ h => by cases d <;> exact h) ?_
          iterate 10 (apply rdP rfl rfl; (intros; go_simp; first | done | rfl); try simp only [zq])
          (refine zh rfl ?_ (fun K hK => ?_); rfl; go_simp; refine aM (hcall _ (by simp [go_sem])) fun os1 d1 => ?_; refine hK _ _ ?_ ?_; (simp [go_sem]))
          try simp only [zq]
          (apply rdP rfl rfl; (intros; go_simp; first | done | rfl))
          try simp only [zq]
          refine zj ?_
          go_wp2_with (at_builtin; refine zdD _ rfl _ _ _ rfl 3 i0 (.int .i64 0) 1 8 Tryz.underlying71 hi0 hz0 hz1 hz2 rfl (by decide) ⟨bl, ol, none⟩ 1 1 [.int .i64 (p0 : Int)] rfl rfl (Rd.ext hrd.out (by simp [go_sem])) _ 1 1 [.int .i64 (y : Int)] rfl rfl (Rd.one_ _ _ (by first | rfl | (simp; done))) (by omega) (Nat.le_refl _) (by simp [maxLen]) (by omega) ?_; intro v4 os4 d4 ho4)
          have ho5 := zmw (base' := w1.heap.size) ho4 (by simp; omega)
          exact ⟨⟨k + 1, [p0] ++ [y], by omega, by omega, by simp; omega, by go_num, HF2, Or.inr ho5, hxr.trans (by simp [go_sem])⟩, by simp [intOf]; omega⟩
        · have HO := Lib.hid ho
          clear ho
          go_upto_region 8 with fail
          refine plP [(0, 0), (1, 0), (2, 0), (3, 0), (4, 0), (5, 0), (6, 0), (7, 0), (8, 0), (9, 0), (10, 1), (11, 0)] [] (by kernel_rfl) (fun _ _ d _ _ h => by cases d <;> exact h) ?_
          iterate 10 (apply rdP rfl rfl; (intros; go_simp; first | done | rfl); try simp only [zq])
          (refine zh rfl ?_ (fun K hK => ?_); rfl; go_simp; refine aM (hcall _ (by simp [go_sem])) fun os1 d1 => ?_; refine hK _ _ ?_ ?_; (simp [go_sem]))
          try simp only [zq]
          (apply rdP rfl rfl; (intros; go_simp; first | done | rfl))
          try simp only [zq]
          refine zj ?_
          go_wp2_with (at_builtin; refine wpList_append_own _ rfl _ _ _ rfl w1.heap.size 3 i0 (.int .i64 0) 1 8 Tryz.underlying71 hi0 hz0 hz1 hz2 rfl (by decide) _ F.length (i6 F) rfl (zw HO.out (by simp [go_sem])) _ 1 1 [.int .i64 (y : Int)] rfl rfl (Rd.one_ _ _ (by first | rfl | (simp; done))).add (zcr [y]) (by simp [maxLen]; omega) (by omega) (by simp; omega) ?_; intro v4 w4 ho4 hg4 _)
          have hx4 : Ext w1 w4 := zba (n := F.length) (ty := 3) (size := 1) (xs := i6 F) (hxr.trans (by simp [go_sem])) (zw HO.out (by simp [go_sem])) hg4
          refine ⟨⟨k + 1, F ++ [y], by omega, by omega, by simp; omega, by go_num, HF2, Or.inr ?_, hx4⟩, by simp [intOf]; omega⟩
          unfold i6; rw [List.map_append, List.length_append]
          exact ho4
    · obtain rfl : k = R := by omega
      have hlt' : ¬ (k : Int) < (k : Int) := Int.lt_irrefl _
      obtain ⟨B, cb, rfl, hB⟩ := HV.out.wr HX1.out.size (HW1.out.of_ext hxr) HP0.out
      have hFe := HF.out
      have hpos : 0 < k := r1
      have hmemL := zlB (neU ⟨k, C, l⟩) (l := ps) (k := k - 1) (by rw [HPL.out]; omega)
      rw [← hFe] at hmemL
      have hne : F ≠ [] := fun e => by rw [e] at hmemL; simp at hmemL
      have hso := zlI U.heap.size B cb F wr hB (by omega) hne
      have HU : Hid (∀ S : List Nat, S.Perm F → S.Pairwise (· ≤ ·) → zL ⟨k, C, l⟩ S = X ∧ PlOk S k ∧ S.length = F.length) := fun S hp hs => by
        have e1 : S = zbF (ltU ⟨k, C, l⟩) k := zqe HSW.out (zsl ⟨k, C, l⟩) hpos hs (by rw [HPS.out, ← hFe]; exact hp)
        exact ⟨by rw [← HX.out, e1]; rfl, ⟨by rw [e1]; exact zkT hpos, by rw [e1]; exact zrk _ _, by rw [e1]; exact zms⟩, hp.length_eq⟩
      have HRO := Lib.hid (fun W S B cb (hW : ArrIn W (some ⟨b1, off1, none⟩) n1 cap1 l) hB hcb hPl => zdM ⟨k, C, l⟩ _ n1 cap1 S B cb W hW HXR.out hB hcb hPl)
      have hc1' := hxr.cell_some hc0
      have HXRR := Lib.hid hxr
      clear HF HV hFe hmemL hne hB HCL HW1 HLT HPS HP0 HPL HX
      go_upto_region 11 with (go_at_call 89; refine hso.mono ?_; rintro e w5 ⟨rfl, ⟨S, hS1, hS2, hW5⟩, hb5⟩)
      obtain ⟨g1, g2, g3⟩ := HU.out S hS1 hS2
      have hx5 : Ext U w5 := Below.trans (Below.mono (HX1.out.trans HXRR.out) (Nat.le_refl _)) hb5
      have hrd := Rd.mono (Dg.rd hW5) (Nat.zero_le _)
      have hcb := hW5.1
      have hro := fun W (hW : Ext w5 W) => HRO.out W S B cb (HA.out.ext (hx.trans (hx5.trans hW))) (hrd.ext hW) hcb g2
      simp only [g1, g3] at hro
      have ca0 := hx5.cell_some c0
      have ca1 := hx5.cell_some HC12.out.1
      have ca2 := hx5.cell_some HC12.out.2
      have lca := zg ca0
      have hz5 := Ext.trans HZ.out hx5
      clear hb5 hW5 hrd hcb hx5 hso HU HRO
      obtain ⟨os8, d8, rfl⟩ := hz5.more
      clear hz5
      go_wp2_with ((go_at_call 71; with_reducible refine aR (hro _ (by simp [go_sem])) fun D m cc os5 d5 hD => ?_; have hDr := hD.rd))
      exact rc1 (v := AV X.R X.C (.slice D m cc)) rfl rfl (by simp [go_sem]) (by (try simp only [ze, za, zc, zb, Array.append_assoc] at hDr); (try simp only [ze, za, zc, zb, Array.append_assoc]); exact raS hDr hD (by simp <;> omega) (by simp [go_sem]))
def zhu (a:NA) (k j:Nat):Bool:=(List.range j).any fun t=>decide (zaJ (zG a k) (zG a t)=0)
theorem zoW (a:NA) (k j:Nat):zhu a k (j+1)=(zhu a k j || decide (zaJ (zG a k) (zG a j)=0)):=by unfold zhu;rw [List.range_succ,List.any_append];simp
theorem znv (a:NA) (k:Nat):zdk (ltU a) k = !zhu a k k:=by
 cases hb:zdk (ltU a) k with
 | false =>
  obtain ⟨j,hj,h1,h2⟩:=zib.1 hb
  have:zhu a k k=true:=List.any_eq_true.2 ⟨j,List.mem_range.2 hj,decide_eq_true ((zqy a k j).2 ⟨h1,h2⟩)⟩
  rw [this];rfl
 | true =>
  cases ho:zhu a k k with
  | false=>rfl
  | true =>
   obtain ⟨j,hj,h1⟩:=List.any_eq_true.1 ho
   obtain ⟨h2,h3⟩:=(zqy a k j).1 (of_decide_eq_true h1)
   rw [zib.2 ⟨j,List.mem_range.1 hj,h2,h3⟩] at hb
   cases hb
theorem zoX (R C:Nat) (l:List Val) (b off n cap:Nat) (w:World) (h:ArrIn w (some ⟨b,off,none⟩) n cap l) (hr:NA.right ⟨R,C,l⟩) :
  Calls prog 54 #[AV R C (.slice (some ⟨b,off,none⟩) n cap)] w fun e w'=>zan w (zd5 ⟨R,C,l⟩) e w':=by
 obtain ⟨r1,r2,r3,r4,r5⟩:=zi.1 hr
 simp only at r1 r2 r3 r4 r5
 have hln:=h.len
 have hcap:=h.cap
 have hR4:R≤4096:=Nat.le_trans (Nat.le_mul_of_pos_right R r2) r3
 obtain ⟨X,hX⟩:∃ X,zd5 ⟨R,C,l⟩=X:=⟨_,rfl⟩
 rw [hX]
 have HX:=Lib.hid hX
 have HA:=Lib.hid h
 have HR:=Lib.hid hr
 have HLC:=Lib.hid (show R * C≤cap by omega)
 obtain ⟨i0,hi0,hz0,hz1,hz2⟩:=info_parts zbq
 clear h hr hX r3 r4 r5 hln hcap
 go_enter func54,ntmps54
 go_upto_region 1 with fail
 refine zz fun wc hU=>?_
 have hx:Ext w wc:=by rw [hU];exact (by simp [go_sem])
 have c0:wc.cell? ⟨w.heap.size,0,none⟩=some (.int .i64 (R:Int)):=by rw [hU];go_simp
 have c1:wc.cell? ⟨w.heap.size,1,none⟩=some (.int .i64 (C:Int)):=by rw [hU];go_simp
 have c2:wc.cell? ⟨w.heap.size,2,none⟩=some (.slice (some ⟨b,off,none⟩) n cap):=by rw [hU];go_simp
 have HU:Hid (∃ os d,wc=more ((w.alloc (Obj.cells #[.int .i64 (R:Int),.int .i64 (C:Int),.slice (some ⟨b,off,none⟩) n cap] 30)).alloc (Obj.cells #[.int .i64 0,.int .i64 0,.slice none 0 0] 30)) os d):=Lib.hid ((show Ext ((w.alloc (Obj.cells #[.int .i64 (R:Int),.int .i64 (C:Int),.slice (some ⟨b,off,none⟩) n cap] 30)).alloc (Obj.cells #[.int .i64 0,.int .i64 0,.slice none 0 0] 30)) wc by rw [hU];exact (by simp [go_sem])).more)
 clear hU
 have la:=zg c0
 go_wp2_with fail
 go_loopw [3,4] (fun v i wr=>∃ (k:Nat) (ps:List Nat),k≤R∧i = .int .i64 (k:Int)∧ps.length≤k∧Hid (ps=zbF (ltU ⟨R,C,l⟩) k)∧Hid (wr.ownsRow wc.heap.size 3 1 v ps.length (i6 ps))∧Ext wc wr) (fun _ i _=>R - (intOf i).toNat)
 case atStart=>exact ⟨0,[],Nat.zero_le _,rfl,Nat.le_refl _,rfl,zgt rfl rfl,(Ext.refl _).alloc _⟩
 case round =>
  obtain ⟨k,ps,hk,rfl,hpk,HP,HO,hxr⟩:=hrel
  obtain ⟨os,d,rfl⟩:=hxr.more
  clear hxr
  by_cases hlt:k < R
  ·have hlt':(k:Int) < (R:Int):=by omega
   go_wp2_with fail
   go_loopw [5,6] (fun s i wr=>∃ (j:Nat) (ob:Bool),j≤k∧i = .int .i64 (j:Int)∧s = .bool ob∧Hid (zhu ⟨R,C,l⟩ k j=ob)∧Ext (more wc os d) wr) (fun _ i _=>k - (intOf i).toNat)
   case atStart=>exact ⟨0,false,Nat.zero_le _,rfl,rfl,rfl,by simp [go_sem]⟩
   case round =>
    obtain ⟨j,ob,hj,rfl,rfl,HB,hxr⟩:=hrel
    obtain ⟨os2,d2,rfl⟩:=hxr.more
    clear hxr
    by_cases hlj:j < k
    ·have hlj':(j:Int) < (k:Int):=by omega
     have hs:=zoW ⟨R,C,l⟩ k j
     rw [HB.out] at hs
     have hkc:k * C+C≤cap:=by have:=HLC.out;have:=Nat.mul_le_mul_right C (show k+1≤R by omega);rw [Nat.add_mul,Nat.one_mul] at this;omega
     have hjc:j * C+C≤cap:=by have:=Nat.mul_le_mul_right C (show j≤k by omega);omega
     have hw1:=fun W (hW:Ext wc W)=>zem R C l b off n cap k W ((HA.out.ext hx).ext hW) HR.out hlt
     have hw2:=fun W (hW:Ext wc W)=>zem R C l b off n cap j W ((HA.out.ext hx).ext hW) HR.out (by omega)
     have hw3:=fun W (hW:Ext wc W)=>zoR ⟨R,C,l⟩ b off n cap k j (cap - k * C) (cap - j * C) W ((HA.out.ext hx).ext hW) HR.out hlt (show j < R by omega) (show C≤cap - k * C by omega) (show C≤cap - j * C by omega)
     simp only at hw3
     generalize decide (zaJ (zG ⟨R,C,l⟩ k) (zG ⟨R,C,l⟩ j)=0)=q at *
     generalize off+k * C * 6=ok at *
     generalize off+j * C * 6=oj at *
     generalize cap - k * C=ck at *
     generalize cap - j * C=cj at *
     have HS:=Lib.hid hs
     clear hs hkc hjc HB
     cases ob with
     | true =>
      go_upto_region 9 with fail
      refine plP [(0,0),(1,0),(2,0),(3,0),(5,0),(6,0),(4,1),(7,1),(8,1),(9,0),(10,0)] [] (by kernel_rfl) (fun _ _ d _ _ h=>by cases d <;> exact h) ?_
      iterate 6 ((first | refine z8 rfl rfl ?_ | (apply rdP rfl rfl;(intros;go_simp;first | done | rfl)) | (refine zS (v:=?_) (c:=?_) rfl rfl rfl rfl ?_ (fun hc w1 h1=>?_) ?_;rotate_left 2;(first | exact zak _ | exact zal _ | exact zQ _ _ | exact zR _ _);(obtain ⟨os1,d1,rfl⟩:=h1.more;(try simp only [zn hc]);(try (have hc1:=zx hc;(try simp only [zn hc1]);(try (have hc2:=zx hc1;(try simp only [zn hc2])))));go_simp;first | done | rfl)));try simp only [zq])
      (refine za8 rfl ?_ ?_ ?_;(first | with_reducible rfl | rfl | (go_simp;done));(simp [go_sem]))
      try simp only [zq]
      (refine za8 rfl ?_ ?_ ?_;(first | with_reducible rfl | rfl | (go_simp;done));(simp [go_sem]))
      try simp only [zq]
      (refine za8 rfl ?_ ?_ ?_;(first | with_reducible rfl | rfl | (go_simp;done));(simp [go_sem]))
      try simp only [zq]
      iterate 2 ((first | refine zat rfl rfl rfl rfl rfl rfl ?_ | refine zaz rfl rfl rfl rfl rfl rfl ?_ | (apply rdP rfl rfl;(intros;go_simp;first | done | rfl)));try simp only [zq])
      refine zj ?_
      go_wp2_with fail
      exact ⟨⟨j+1,true,by omega,by go_num,rfl,HS,by simp [go_sem]⟩,by simp [intOf];omega⟩
     | false =>
      go_upto_region 9 with fail
      refine plP [(0,0),(1,0),(2,0),(3,0),(5,0),(6,0),(4,1),(7,1),(8,1),(9,0),(10,0)] [] (by kernel_rfl) (fun _ _ d _ _ h=>by cases d <;> exact h) ?_
      iterate 6 ((first | refine z8 rfl rfl ?_ | (apply rdP rfl rfl;(intros;go_simp;first | done | rfl)) | (refine zS (v:=?_) (c:=?_) rfl rfl rfl rfl ?_ (fun hc w1 h1=>?_) ?_;rotate_left 2;(first | exact zak _ | exact zal _ | exact zQ _ _ | exact zR _ _);(obtain ⟨os1,d1,rfl⟩:=h1.more;(try simp only [zn hc]);(try (have hc1:=zx hc;(try simp only [zn hc1]);(try (have hc2:=zx hc1;(try simp only [zn hc2])))));go_simp;first | done | rfl)));try simp only [zq])
      (refine zh rfl ?_ (fun K hK=>?_);(first | with_reducible rfl | rfl | (go_simp;done));go_simp;refine aM (hw1 _ (by simp [go_sem])) fun os3 d3=>?_;refine hK _ _ ?_ ?_;(simp [go_sem]))
      try simp only [zq]
      (refine zh rfl ?_ (fun K hK=>?_);(first | with_reducible rfl | rfl | (go_simp;done));go_simp;refine aM (hw2 _ (by simp [go_sem])) fun os4 d4=>?_;refine hK _ _ ?_ ?_;(simp [go_sem]))
      try simp only [zq]
      (refine zh rfl ?_ (fun K hK=>?_);(first | with_reducible rfl | rfl | (go_simp;done));go_simp;refine aM (hw3 _ (by simp [go_sem])) fun os5 d5=>?_;refine hK _ _ ?_ ?_;(simp [go_sem]))
      try simp only [zq]
      iterate 2 ((first | refine zat rfl rfl rfl rfl rfl rfl ?_ | refine zaz rfl rfl rfl rfl rfl rfl ?_ | (apply rdP rfl rfl;(intros;go_simp;first | done | rfl)));try simp only [zq])
      refine zj ?_
      go_wp2_with fail
      exact ⟨⟨j+1,q,by omega,by go_num,rfl,HS,by simp [go_sem]⟩,by simp [intOf];omega⟩
    ·obtain rfl:j=k:=by omega
     have hu:=znn (ltU ⟨R,C,l⟩) j
     rw [znv,HB.out,← HP.out] at hu
     clear HB HP
     cases ob with
     | true =>
      have HU2:Hid (ps=zbF (ltU ⟨R,C,l⟩) (j+1)):=by show _=_;rw [hu];simp
      clear hu
      go_wp2_with fail
      exact ⟨⟨j+1,ps,by omega,by go_num,by omega,HU2,zw HO.out (by simp [go_sem]),by simp [go_sem]⟩,by simp [intOf];omega⟩
     | false =>
      have HU2:Hid (ps++[j]=zbF (ltU ⟨R,C,l⟩) (j+1)):=by show _=_;rw [hu];simp
      clear hu
      go_wp2_with (at_builtin;refine wpList_append_own _ rfl _ _ _ rfl wc.heap.size 3 i0 (.int .i64 0) 1 8 Tryz.underlying71 hi0 hz0 hz1 hz2 rfl (by decide) _ ps.length (i6 ps) rfl (zw HO.out (by simp [go_sem])) _ 1 1 [.int .i64 j] rfl rfl (Rd.one_ _ _ (by first | rfl | (simp;done))).add (zcr [j]) (by simp [maxLen];omega) (by omega) (by simp;omega) ?_;intro v4 w4 ho4 hg4 _)
      have hx4:=zbr (X:=wc) (by simp [go_sem]) (zw HO.out (by simp [go_sem])) hg4
      refine ⟨⟨j+1,ps++[j],by omega,by go_num,by simp;omega,HU2,?_,hx4⟩,by simp [intOf];omega⟩
      show World.ownsRow _ _ _ _ _ _ _
      unfold i6;rw [List.map_append,List.length_append]
      exact ho4
  ·obtain rfl:k=R:=by omega
   have hlt':¬ (k:Int) < (k:Int):=Int.lt_irrefl _
   obtain ⟨B1,cb1,rfl,hB1,hcb1⟩:=Rd.of_own HO.out
   have hB2:=Rd.mono hB1 (Nat.zero_le _)
   have hXe:zL ⟨k,C,l⟩ ps=X:=by rw [HP.out];exact HX.out
   have hPl:PlOk ps k:=⟨by rw [HP.out];exact zkT r1,by omega,fun i hi=>by rw [HP.out] at hi;exact zms i hi⟩
   have hr1:=fun W (hW:ArrIn W (some ⟨b,off,none⟩) n cap l) hB=>zeH k C l _ n cap ps B1 cb1 W hW HR.out hB hcb1 hPl
   rw [hXe] at hr1
   have HR1:=Lib.hid hr1
   have HB1:=Lib.hid hB2
   clear hXe hr1 hB1 hB2 HO HP hPl HX
   go_wp2_with (first | ((go_at_call 103;with_reducible refine aR (HR1.out _ ((HA.out.ext hx).ext (by simp [go_sem])) (HB1.out.ext (by simp [go_sem]))) fun D m cc os5 d5 hD=>?_;have hDr:=hD.rd);obtain ⟨osu,du,rfl⟩:=HU.out))
   exact bodyPost_ret (v:=AV X.R X.C (.slice D m cc)) (by simp [results,results54,go_sem]) rfl ⟨D,m,cc,rfl,⟨(by (try simp only [ze,za] at hDr);(try simp only [ze,za]);(try simp only [zc] at hDr);(try simp only [zb] at hDr);(try simp only [Array.append_assoc] at hDr);(try simp only [Array.append_assoc]);exact Rd.swap hDr (by first | (simp;done) | (simp;omega) | omega) (by first | (simp;done) | (simp;omega) | omega) (by first | (simp;done) | (simp;omega) | omega)),hD.len,hD.cap,hD.small,hD.ok⟩,by with_reducible repeat (first | exact Ext.refl _ | apply Ext.drew | apply Ext.alloc | apply Ext.more_)⟩
theorem zjD {P:Program} (w:World) {o:Oper} {a:Act} {K:Act→World→Prop} {Q:Exit→Act→World→Prop} (s x:Operand) (t:TypeId)
  (ho:o.op = .call { callee:=.builtin .append,args:=#[s,x],argTypes:=#[t,t] })
  (base:Nat) (e:TypeId) (i:TypeInfo) (z:Value) (bytes:Nat) (ht:P.underlying t=some (.slice e)) (hi:P.info? e=some i) (hz:i.zero=some z)
  (hsize:i.size=1) (hby:i.bytes=bytes) (hzs:z.cells.size=1)
  (q:Nat) (hs:a.eval s = .slice (some ⟨q,0,none⟩) 0 0) (hq:w.heap[q]? = some (.cells #[] e (0,0))) (hbq:base≤q)
  (B:Option Addr) (m c:Nat) (news:List Value) (hx:a.eval x = .slice B m c) (hln:news.length=m) (hB:Rd 0 w B news)
  (b1:m≤maxLen) (b2:m * bytes≤140737488355328)
  (h:∀ v' os d,(more w os d).ownsRow base e 1 v' m news→K (a.put o.dst v') (more w os d)):o.wp P a w K Q:=by
 have hlt:q < w.heap.size:=zH hq
 by_cases hm:m=0
 ·subst hm
  obtain rfl:news=[]:=List.eq_nil_of_length_eq_zero hln
  have hr:=zeQ (P:=P) w t o.type e i ht hi (some ⟨q,0,none⟩) 0 0 B c (Nat.le_refl _)
  unfold Oper.wp execOp
  simp only [ho,resolve,invoke,builtin,Sem.run_bind,Sem.run_pure,Result.andThen_ok,List.map_toArray,List.map_cons,List.map_nil,hs,hx,hr]
  have hw:more w #[] w.drawn=w:=by simp [more]
  have h':=h (.slice (some ⟨q,0,none⟩) 0 0) #[] w.drawn (by rw [hw];exact ⟨rfl,Or.inr ⟨q,0,#[],rfl,hbq,hq,Nat.le_refl _,by decide,rfl,rfl⟩⟩)
  rw [hw] at h'
  exact h'
 ·refine ze7 w s x t ho e i z 1 bytes ht hi hz hsize hby hzs (by decide) ⟨q,0,none⟩ 0 0 [] hs rfl (fun j u hu=>by simp at hu) B m c news hx (by omega) hB (by omega) (Nat.le_refl _) (by rw [Nat.zero_add];exact b1) (by rw [Nat.zero_add];exact b2) fun v' os d ho'=>?_
  rw [Nat.zero_add,List.nil_append] at ho'
  exact h v' os d ⟨ho'.1,ho'.2.imp id fun ⟨g,cap,cur,h1,h2,h3⟩=>⟨g,cap,cur,h1,by omega,h3⟩⟩
theorem zsm {w:World} {base n:Nat} {ty:TypeId} {v:Value} {xs:List Value} (h:w.ownsRow base ty 1 v n xs) (hn:0 < n):∃ g c,v = .slice (some ⟨g,0,none⟩) n c:=by
 rcases h.2 with ⟨_,h0⟩ | ⟨g,c,_,h0,_⟩
 ·omega
 ·exact ⟨g,c,h0⟩
theorem zqm {w : World} {q : Nat} {u : Value} (h : w.cell? ⟨q, 0, none⟩ = some u) : ∀ t v, [u][t]? = some v → w.cell? ((⟨q, 0, none⟩ : Addr).add t) = some v := by
  intro t v hv
  cases t with
  | zero => obtain rfl : u = v := by simpa using hv
            rw [Addr.add_mid]; exact h
  | succ t => simp at hv
theorem zsn (a b:List Nat) (k:Nat):i6 a++[.int .i64 (k:Int)]++i6 b=i6 (a++k::b):=by simp [i6]
theorem zoY {w:World} {base g k c:Nat} {ty:TypeId} {S:List Nat} (h:w.ownsRow base ty 1 (.slice (some ⟨g,0,none⟩) k c) k (i6 S)) {t:Nat} {u:Value} (hu:(i6 S)[t]? = some u):w.cell? ⟨g,t,none⟩=some u:=by
 have:=h.cells (g:=g) rfl t u hu
 rw [Addr.add_mid] at this
 simpa using this
theorem zrm {w:World} {base g k c:Nat} {ty:TypeId} {S:List Nat} (h:w.ownsRow base ty 1 (.slice (some ⟨g,0,none⟩) k c) k (i6 S)) (j:Nat):Rd 0 w (some ⟨g,0,none⟩) (i6 (S.take j)):=fun t u hu=>by
 refine ⟨g,0,rfl,Nat.zero_le _,?_⟩
 rw [Nat.zero_add]
 refine zoY h ?_
 unfold i6 at *
 rw [List.getElem?_map] at *
 rw [List.getElem?_take] at hu
 split at hu
 ·exact hu
 ·cases hu
theorem zrn {w:World} {base g k c j o:Nat} {ty:TypeId} {S:List Nat} (h:w.ownsRow base ty 1 (.slice (some ⟨g,0,none⟩) k c) k (i6 S)) (hk:k≤c) (hl:S.length=k) (ho:(if c=j then (some ⟨g,0,none⟩:Option Addr) else some ⟨g,j,none⟩)=some ⟨g,o,none⟩):Rd 0 w (some ⟨g,o,none⟩) (i6 (S.drop j)):=fun t u hu=>by
 unfold i6 at hu
 rw [List.getElem?_map,List.getElem?_drop] at hu
 split at ho
 ·rw [List.getElem?_eq_none (by omega)] at hu;cases hu
 ·simp only [Option.some.injEq,Addr.mk.injEq,and_true,true_and] at ho
  subst ho
  refine ⟨g,j,rfl,Nat.zero_le _,zoY h ?_⟩
  unfold i6;rw [List.getElem?_map];exact hu
theorem zlK (A:Option Addr) (n cap:Nat) (xs:List Ar) (w:World) (h:ArgsIn w A n cap xs) (h1:1≤n) :
  Calls prog 53 #[.slice A n cap] w fun e w'=>zan w (zeM xs) e w':=by
 obtain ⟨R,C,l,b1,off1,n1,cap1,b,off,x0,ha,rfl,⟨v0,v1,v2⟩,_,hc1,_,_,_,hbl,_,_,_,harr,_⟩:=h.first h1
 have hxr:NA.right ⟨R,C,l⟩:=(h.all _ (List.mem_of_getElem? ha)).right
 have hcap:=h.cap
 have hsm:=h.small
 simp only [Nat.zero_mul,Nat.add_zero] at v0 v1 v2
 have hx0:zF xs 0=⟨R,C,l⟩:=by unfold zF;rw [ha]
 obtain ⟨r1,r2,r3,r4,r5⟩:=zi.1 hxr
 simp only at r1 r2 r3 r4
 have hR4:R≤4096:=Nat.le_trans (Nat.le_mul_of_pos_right R r2) r3
 have hC4:C≤4096:=Nat.le_trans (Nat.le_mul_of_pos_left C r1) r3
 have n0:=fun W (hW:ArgsIn W (some ⟨b,off,none⟩) n cap xs)=>zbR _ n cap xs 1 1 W hW _ rfl
 have n2:=fun W (hW:ArgsIn W (some ⟨b,off,none⟩) n cap xs)=>zbR _ n cap xs 2 1 W hW _ rfl
 have f1:=zd2 (k:=1) (l:=1) h
 have f2:=zd2 (k:=2) (l:=1) h
 unfold zeM
 rw [hx0]
 generalize zu xs 1 1=mm at *
 generalize zu xs 2 1=kk at *
 obtain ⟨mi,mf⟩:=mm
 obtain ⟨ki,kf⟩:=kk
 simp only [show ((1:Nat):Int)=1 from rfl,show ((2:Nat):Int)=2 from rfl] at n0 n2 f1 f2
 have H:=Lib.hid h
 have HA:=Lib.hid harr
 have HXR:=Lib.hid hxr
 clear h harr ha hx0 r4 r5
 obtain ⟨X,hX⟩:∃ X,zdl ⟨R,C,l⟩ (mi,mf) (ki,kf)=X:=⟨_,rfl⟩
 rw [hX]
 by_cases hmf:mf=0
 ·subst hmf
  by_cases hkf:kf=0
  ·subst hkf
   obtain ⟨bad,hbad⟩:∃ bad,decide (mi < 1∨(C:Int) < mi∨(ki≠1∧ki ≠ -1))=bad:=⟨_,rfl⟩
   have HX:=Lib.hid hX
   have HB:=Lib.hid hbad
   clear hX f1 f2 hxr
   go_enter func53,ntmps53
   go_upto_region 8 with (first | (go_at_call 95;with_reducible refine aM (n0 _ (H.out.ext (by simp [go_sem]))) fun osa da=>?_) | (go_at_call 95;with_reducible refine aM (n2 _ (H.out.ext (by simp [go_sem]))) fun osb db=>?_))
   refine zz fun wc hU=>?_
   have hx:Ext w wc:=by rw [hU];exact (by simp [go_sem])
   have c0:wc.cell? ⟨w.heap.size+1,0,none⟩=some (.int .i64 (R:Int)):=by rw [hU];go_simp
   have c1:wc.cell? ⟨w.heap.size+1,1,none⟩=some (.int .i64 (C:Int)):=by rw [hU];go_simp
   have c2:wc.cell? ⟨w.heap.size+1,2,none⟩=some (.slice (some ⟨b1,off1,none⟩) n1 cap1):=by rw [hU];go_simp
   have HU:Hid (∃ os d,wc=more (w.alloc (Obj.cells #[.int .i64 0,.int .i64 0,.slice none 0 0] 30)) os d):=Lib.hid ((show Ext (w.alloc (Obj.cells #[.int .i64 0,.int .i64 0,.slice none 0 0] 30)) wc by rw [hU];exact (by simp [go_sem])).more)
   clear hU
   generalize w.heap.size+1=pa at *
   have la:=zg c0
   clear v0 v1 v2
   go_cut [47] (fun s wx=>s = .bool bad∧wx=wc)
   case first =>
    by_cases q1:mi < 1
    ·obtain rfl:true=bad:=by rw [← hbad];simp [q1]
     clear hbad
     (go_wp2_with fail;go_meet;exact ⟨rfl,rfl⟩)
    ·by_cases q2:(C:Int) < mi
     ·obtain rfl:true=bad:=by rw [← hbad];simp [q2]
      clear hbad
      (go_wp2_with fail;go_meet;exact ⟨rfl,rfl⟩)
     ·by_cases q3:ki=1
      ·have q3':(ki != 1)=false:=by simpa using q3
       obtain rfl:false=bad:=by rw [← hbad];simp [q1,q2,q3]
       clear hbad q3
       (go_wp2_with fail;go_meet;exact ⟨rfl,rfl⟩)
      ·have q3':(ki != 1)=true:=by simpa using q3
       by_cases q4:ki = -1
       ·have q4':(ki != -1)=false:=by simpa using q4
        obtain rfl:false=bad:=by rw [← hbad];simp [q1,q2,q3,q4]
        clear hbad q3 q4
        (go_wp2_with fail;go_meet;exact ⟨rfl,rfl⟩)
       ·have q4':(ki != -1)=true:=by simpa using q4
        obtain rfl:true=bad:=by rw [← hbad];simp [q1,q2,q3,q4]
        clear hbad q3 q4
        (go_wp2_with fail;go_meet;exact ⟨rfl,rfl⟩)
   case rest =>
   obtain ⟨rfl,rfl⟩:=hcut
   clear hbad
   cases bad with
   | true =>
    obtain rfl:zf 2=X:=by
     rw [← HX.out];unfold zdl
     rw [if_neg (by simp),if_neg (by simp),if_pos]
     have:=HB.out
     exact of_decide_eq_true this
    go_wp2_with ((go_at_call 44;with_reducible refine aR (zE 2 (by omega) _) fun D m cc os5 d5 hD=>?_;have hDr:=hD.rd);obtain ⟨osu,du,rfl⟩:=HU.out)
    exact rc1 (v:=AV (zf 2).R (zf 2).C (.slice D m cc)) rfl rfl (by simp [go_sem]) (by (try simp only [ze,za,zc,zb,Array.append_assoc] at hDr);(try simp only [ze,za,zc,zb,Array.append_assoc]);exact raS hDr hD (by simp <;> omega) (by simp [go_sem]))
   | false =>
    have hgood:=of_decide_eq_false HB.out
    obtain ⟨bb,rfl⟩:∃ bb:Nat,mi=bb:=⟨mi.toNat,by omega⟩
    obtain ⟨cc,hcc⟩:∃ cc,bb - 1=cc:=⟨_,rfl⟩
    have hcC:cc < C:=by omega
    have ebb:IntKind.i64.wrap ((bb:Int) - 1)=(cc:Int):=by rw [IntKind.wrap_i64];omega
    obtain ⟨dn,hdn⟩:∃ dn,decide (ki = -1)=dn:=⟨_,rfl⟩
    have hk1:(ki == -1)=dn:=by rw [← hdn];rfl
    have hXe:zL ⟨R,C,l⟩ (zY (ltS ⟨R,C,l⟩ cc dn) R)=X:=by
     rw [← HX.out];unfold zdl
     rw [if_neg (by simp),if_neg (by simp),if_neg hgood,← hcc,← hdn]
     rfl
    have HXE:=Lib.hid hXe
    have HS0:Hid (zY (ltS ⟨R,C,l⟩ cc dn) 0=[]):=rfl
    obtain ⟨i0,hi0,hz0,hz1,hz2⟩:=info_parts zbq
    have hcp1:=HA.out.cap
    have hln1:=HA.out.len
    have HSZ:=Lib.hid (show R * C≤cap1 by have:=(zi.1 HXR.out).2.2.2.1;simp only at this;omega)
    clear hgood hXe hcc hdn HX HB n0 n2 hln1
    go_wp2_with fail
    go_loopw [8,9] (fun v i wr=>∃ (k g cg:Nat),k≤R∧i = .int .i64 (k:Int)∧v = .slice (some ⟨g,0,none⟩) k cg∧Hid (wr.ownsRow wc.heap.size 3 1 (.slice (some ⟨g,0,none⟩) k cg) k (i6 (zY (ltS ⟨R,C,l⟩ cc dn) k)))∧Ext wc wr) (fun _ i _=>R - (intOf i).toNat)
    case atStart=>exact ⟨0,wc.heap.size,0,Nat.zero_le _,rfl,rfl,zgt rfl rfl,(Ext.refl _).alloc _⟩
    case round =>
     obtain ⟨k,g,cg,hk,rfl,rfl,HO,hxr⟩:=hrel
     obtain ⟨os,d,rfl⟩:=hxr.more
     clear hxr
     by_cases hlt:k < R
     ·have hlt':(k:Int) < (R:Int):=by omega
      obtain ⟨S,hS⟩:∃ S,zY (ltS ⟨R,C,l⟩ cc dn) k=S:=⟨_,rfl⟩
      have HSk:=Lib.hid hS
      rw [hS] at HO
      have hkc:k≤cg:=by
       rcases HO.out.2 with ⟨h0,_⟩ | ⟨_,_,_,h0,_,_,h1,_⟩
       ·cases h0
       ·simp only [Value.slice.injEq,Option.some.injEq] at h0;omega
      have hlS:S.length=k:=by rw [← hS];exact zbv _ _
      have HLS:=Lib.hid hlS
      clear hS hlS HS0
      go_wp2_with fail
      go_loopw [10] (fun s wr=>∃ j:Nat,j≤k∧s = .int .i64 (j:Int)∧Hid (j=k∨∃ f,S[j]? = some f∧ltS ⟨R,C,l⟩ cc dn k f=true)∧Ext (more wc os d) wr) (fun s _=>(intOf s).toNat)
      case atStart=>exact ⟨k,Nat.le_refl _,rfl,Or.inl rfl,Ext.refl _⟩
      case round =>
       obtain ⟨j,hj,rfl,HD,hxr⟩:=hrel
       have hxw:Ext wc wr:=(zP _ _ _).trans hxr
       replace c0:=hxw.cell_some c0
       replace c1:=hxw.cell_some c1
       replace c2:=hxw.cell_some c2
       replace la:=zg c0
       by_cases hj0:j=0
       focus
        have hjn:¬ 0 < j:=by omega
        have HT:Hid (S.take j++k::S.drop j=zY (ltS ⟨R,C,l⟩ cc dn) (k+1)):=by
         show _=_
         rw [← HSk.out]
         exact zkS (zfj (zi.1 HXR.out).2.2.2.2 _ _) hj (by rw [HSk.out];exact HD.out) (Or.inl hj0)
        clear hj0
        go_upto_region 15 with fail
        refine plP [(0,0),(1,0),(2,0),(3,0),(4,0),(6,0),(7,0),(10,0),(11,0),(12,0),(13,0),(14,0),(15,0),(17,0),(18,0),(21,0),(22,0),(5,1),(8,0),(9,0),(16,1),(19,0),(20,0),(23,1),(24,0)] [] (by kernel_rfl) (fun _ _ d _ _ h=>by cases d <;> exact h) ?_
        iterate 17 ((first | refine z8 rfl rfl ?_ | (apply rdP rfl rfl;(intros;go_simp;first | done | rfl)) | (refine zS (v:=?_) (c:=?_) rfl rfl rfl rfl ?_ (fun hc w1 h1=>?_) ?_;rotate_left 2;(first | exact zak _ | exact zal _ | exact zQ _ _ | exact zR _ _);(obtain ⟨os1,d1,rfl⟩:=h1.more;(try simp only [zn hc]);(try (have hc1:=zx hc;(try simp only [zn hc1]);(try (have hc2:=zx hc1;(try simp only [zn hc2])))));go_simp;first | done | rfl)));try simp only [zq])
        (refine za8 rfl ?_ ?_ ?_;(first | with_reducible rfl | rfl | (go_simp;done));(simp [go_sem]))
        try simp only [zq]
        iterate 2 ((first | refine z8 rfl rfl ?_ | (apply rdP rfl rfl;(intros;go_simp;first | done | rfl)) | (refine zS (v:=?_) (c:=?_) rfl rfl rfl rfl ?_ (fun hc w1 h1=>?_) ?_;rotate_left 2;(first | exact zak _ | exact zal _ | exact zQ _ _ | exact zR _ _);(obtain ⟨os1,d1,rfl⟩:=h1.more;(try simp only [zn hc]);(try (have hc1:=zx hc;(try simp only [zn hc1]);(try (have hc2:=zx hc1;(try simp only [zn hc2])))));go_simp;first | done | rfl)));try simp only [zq])
        (refine za8 rfl ?_ ?_ ?_;(first | with_reducible rfl | rfl | (go_simp;done));(simp [go_sem]))
        try simp only [zq]
        iterate 2 ((first | refine z8 rfl rfl ?_ | (apply rdP rfl rfl;(intros;go_simp;first | done | rfl)) | (refine zS (v:=?_) (c:=?_) rfl rfl rfl rfl ?_ (fun hc w1 h1=>?_) ?_;rotate_left 2;(first | exact zak _ | exact zal _ | exact zQ _ _ | exact zR _ _);(obtain ⟨os1,d1,rfl⟩:=h1.more;(try simp only [zn hc]);(try (have hc1:=zx hc;(try simp only [zn hc1]);(try (have hc2:=zx hc1;(try simp only [zn hc2])))));go_simp;first | done | rfl)));try simp only [zq])
        (refine za8 rfl ?_ ?_ ?_;(first | with_reducible rfl | rfl | (go_simp;done));(simp [go_sem]))
        try simp only [zq]
        first | (refine zat rfl rfl rfl rfl rfl rfl ?_) | (refine zaz rfl rfl rfl rfl rfl rfl ?_) | (apply rdP rfl rfl;(intros;go_simp;first | done | rfl))
        try simp only [zq]
        refine zj ?_
       rotate_left
       focus
        have hjn:0 < j:=by omega
        obtain ⟨j',hjj⟩:∃ j',j - 1=j':=⟨_,rfl⟩
        have ej:IntKind.i64.wrap ((j:Int) - 1)=(j':Int):=by rw [IntKind.wrap_i64];omega
        have hj'k:j' < k:=by omega
        obtain ⟨y,hy⟩:∃ y,S[j']? = some y:=⟨_,List.getElem?_eq_getElem (by rw [HLS.out];omega)⟩
        have hyk:y < k:=zfQ (zfj (zi.1 HXR.out).2.2.2.2 _ _) y (by rw [HSk.out];exact List.mem_of_getElem? hy)
        have cy:wr.cell? ⟨g,j',none⟩=some (.int .i64 (y:Int)):=by
         have:=(zw HO.out hxr).cells (g:=g) rfl j' (.int .i64 (y:Int)) (by unfold i6;rw [List.getElem?_map,hy];rfl)
         rw [Addr.add_mid] at this;simpa using this
        have lg:g < wr.heap.size:=zg cy
        obtain ⟨t1,t2,t3,t4,t5⟩:=zcN HXR.out HA.out hlt hcC
        obtain ⟨s1,s2,s3,s4,s5⟩:=zcN HXR.out HA.out (show y < R by omega) hcC
        simp only at t1 s1
        have hwf:=(zi.1 HXR.out).2.2.2.2
        obtain ⟨xv,bx,ox,hxx,hxo,e,hxat⟩:=HA.out.at t1
        obtain ⟨rfl,rfl⟩:=aI e
        obtain ⟨yv,b',off',hyy,hyo,e,hyat⟩:=HA.out.at s1
        obtain ⟨rfl,rfl⟩:=aI e
        have hxr':xv.right:=hwf xv (List.mem_of_getElem? hxx)
        have hyr':yv.right:=hwf yv (List.mem_of_getElem? hyy)
        have hw1:=fun W (hW:Ext wr W)=>zem R C l b1 off1 n1 cap1 k W (HA.out.ext (hx.trans (hxw.trans hW))) HXR.out hlt
        have hw2:=fun W (hW:Ext wr W)=>zem R C l b1 off1 n1 cap1 y W (HA.out.ext (hx.trans (hxw.trans hW))) HXR.out (by omega)
        have hah:=fun W=>zno xv yv dn W hxr' hyr'
        have hlq:ltS ⟨R,C,l⟩ cc dn k y=zaT dn xv yv:=by
         unfold ltS
         have gx:zk l (k * C+cc)=xv:=by unfold zk;rw [hxx];rfl
         have gy:zk l (y * C+cc)=yv:=by unfold zk;rw [hyy];rfl
         show zaT dn (zk l (k * C+cc)) (zk l (y * C+cc))=_
         rw [gx,gy]
        have ex:off1+(k * C+cc) * 6=off1+k * C * 6+cc * 6:=by rw [Nat.add_mul];omega
        have ey:off1+(y * C+cc) * 6=off1+y * C * 6+cc * 6:=by rw [Nat.add_mul];omega
        replace hxat:=hxat.ext (hx.trans hxw)
        replace hyat:=hyat.ext (hx.trans hxw)
        rw [ex] at hxat
        rw [ey] at hyat
        generalize off1+k * C * 6=u at *
        generalize off1+y * C * 6=v at *
        generalize cap1 - k * C=ck at *
        generalize cap1 - y * C=cq at *
        obtain ⟨x0,x1,x2,x3,x4,x5⟩:=hxat
        obtain ⟨y0,y1,y2,y3,y4,y5⟩:=hyat
        have lb:=zg x0
        generalize zaT dn xv yv=q at *
        have HQ:=Lib.hid (And.intro hy hlq)
        clear hy hlq hxx hyy hxo hyo hwf hxr' hyr' ex ey t1 t2 t3 t4 t5 s1 s2 s3 s4 s5
        go_upto_region 15 with fail
        refine plP [(0,0),(1,0),(2,0),(3,0),(4,0),(6,0),(7,0),(10,0),(11,0),(12,0),(13,0),(14,0),(15,0),(17,0),(18,0),(21,0),(22,0),(5,1),(8,0),(9,0),(16,1),(19,0),(20,0),(23,1),(24,0)] [] (by kernel_rfl) (fun _ _ d _ _ h=>by cases d <;> exact h) ?_
        iterate 17 ((first | refine z8 rfl rfl ?_ | (apply rdP rfl rfl;(intros;go_simp;first | done | rfl)) | (refine zS (v:=?_) (c:=?_) rfl rfl rfl rfl ?_ (fun hc w1 h1=>?_) ?_;rotate_left 2;(first | exact zak _ | exact zal _ | exact zQ _ _ | exact zR _ _);(obtain ⟨os1,d1,rfl⟩:=h1.more;(try simp only [zn hc]);(try (have hc1:=zx hc;(try simp only [zn hc1]);(try (have hc2:=zx hc1;(try simp only [zn hc2])))));go_simp;first | done | rfl)));try simp only [zq])
        (refine zh rfl ?_ (fun K hK=>?_);(first | with_reducible rfl | rfl | (go_simp;done));go_simp;refine aM (hw1 _ (by simp [go_sem])) fun os3 d3=>?_;refine hK _ _ ?_ ?_;(simp [go_sem]))
        try simp only [zq]
        iterate 2 ((first | refine z8 rfl rfl ?_ | (apply rdP rfl rfl;(intros;go_simp;first | done | rfl)) | (refine zS (v:=?_) (c:=?_) rfl rfl rfl rfl ?_ (fun hc w1 h1=>?_) ?_;rotate_left 2;(first | exact zak _ | exact zal _ | exact zQ _ _ | exact zR _ _);(obtain ⟨os1,d1,rfl⟩:=h1.more;(try simp only [zn hc]);(try (have hc1:=zx hc;(try simp only [zn hc1]);(try (have hc2:=zx hc1;(try simp only [zn hc2])))));go_simp;first | done | rfl)));try simp only [zq])
        (refine zh rfl ?_ (fun K hK=>?_);(first | with_reducible rfl | rfl | (go_simp;done));go_simp;refine aM (hw2 _ (by simp [go_sem])) fun os4 d4=>?_;refine hK _ _ ?_ ?_;(simp [go_sem]))
        try simp only [zq]
        iterate 2 ((first | refine z8 rfl rfl ?_ | (apply rdP rfl rfl;(intros;go_simp;first | done | rfl)) | (refine zS (v:=?_) (c:=?_) rfl rfl rfl rfl ?_ (fun hc w1 h1=>?_) ?_;rotate_left 2;(first | exact zak _ | exact zal _ | exact zQ _ _ | exact zR _ _);(obtain ⟨os1,d1,rfl⟩:=h1.more;(try simp only [zn hc]);(try (have hc1:=zx hc;(try simp only [zn hc1]);(try (have hc2:=zx hc1;(try simp only [zn hc2])))));go_simp;first | done | rfl)));try simp only [zq])
        (refine zh rfl ?_ (fun K hK=>?_);(first | with_reducible rfl | rfl | (go_simp;done));go_simp;refine aM (hah _) fun os5 d5=>?_;refine hK _ _ ?_ ?_;(simp [go_sem]))
        try simp only [zq]
        first | (refine zat rfl rfl rfl rfl rfl rfl ?_) | (refine zaz rfl rfl rfl rfl rfl rfl ?_) | (apply rdP rfl rfl;(intros;go_simp;first | done | rfl))
        try simp only [zq]
        refine zj ?_
        cases q
        rotate_left
        focus
         go_wp2_with fail
         exact ⟨⟨j',by omega,by go_num,Or.inr ⟨y,HQ.out.1,HQ.out.2⟩,hxr.trans (by simp [go_sem])⟩,by simp [intOf];omega⟩
        have HT:Hid (S.take j++k::S.drop j=zY (ltS ⟨R,C,l⟩ cc dn) (k+1)):=by
         show _=_
         rw [← HSk.out]
         exact zkS (zfj (zi.1 HXR.out).2.2.2.2 _ _) hj (by rw [HSk.out];exact HD.out) (Or.inr ⟨y,by rw [HSk.out,hjj];exact HQ.out.1,HQ.out.2⟩)
        clear x0 x1 x2 x3 x4 x5 y0 y1 y2 y3 y4 y5 hw1 hw2 hah hjj ej
       all_goals
        go_upto_region 17 with fail;refine zz fun U hU=>?_;(have hxU:Ext wr U:=by rw [hU];exact (by simp [go_sem]));clear hU;(have HOU:=Lib.hid (zw HO.out (hxr.trans hxU)));(have hwU:Ext wc U:=hxw.trans hxU);(have hjc:j≤cg:=by omega);obtain ⟨go,hgo⟩:∃ o,(if cg=j then (some ⟨g,0,none⟩:Option Addr) else some ⟨g,j,none⟩)=some ⟨g,o,none⟩:=(by split <;> exact ⟨_,rfl⟩);(have HRd:=Lib.hid (zrn HOU.out hkc HLS.out hgo));(have hlt4:(S.take j).length=j:=by rw [List.length_take,HLS.out];omega);(have hld4:(S.drop j).length=k - j:=by rw [List.length_drop,HLS.out]);(have HL4:=Lib.hid (And.intro hlt4 hld4));(have hn6:j+1+(k - j)=k+1:=by omega);(have HN6:=Lib.hid hn6);clear hlt4 hld4 hn6;refine zaB [(1,0),(2,0),(3,0),(5,0),(8,0),(9,0),(10,0),(6,4),(0,4),(0,3),(4,1),(6,3),(7,5),(11,5),(12,0)] [] [] [] (by kernel_rfl) (by kernel_rfl) (by kernel_rfl) (fun _ _ d _ _ h=>by cases d <;> exact h) (fun _ _ d _ _ h=>by cases d <;> exact h) ?_;(apply rdG rfl rfl;(intros;go_simp;first | done | rfl));(try simp only [zq]);(apply rdG rfl rfl;(intros;go_simp;first | done | rfl));(try simp only [zq]);(apply rdG rfl rfl;(intros;go_simp;first | done | rfl));(try simp only [zq]);(apply rdG rfl rfl;(intros;go_simp;first | done | rfl));(try simp only [zq]);(apply rdG rfl rfl;(intros;go_simp;first | done | rfl));(try simp only [zq]);(apply rdG rfl rfl;(intros;go_simp;first | done | rfl));(try simp only [zq]);(apply rdG rfl rfl;(intros;go_simp;first | done | rfl));(try simp only [zq]);(refine zaD (t:=91) ?_ (fun b=>.slice (some ⟨b,0,none⟩) 1 1) rfl rfl rfl (fun w1=>?_) ?_;rotate_left 1;(go_simp;first | done | rfl));(refine zaD (t:=85) ?_ (fun b=>.slice (some ⟨b,0,none⟩) 0 0) rfl rfl rfl (fun w1=>?_) ?_;rotate_left 1;(go_simp;first | done | rfl));refine zeu fun q1 g1 n1 _=>?_;refine ⟨fun W=>W.heap[q1]? = some (.cells #[] 3),fun w1 w2 hx h=>(hx.block (zbn h)).trans h,fun W _ hE h1=>h1,?_⟩;(try simp only [zq]);(refine zag rfl ?_ (fun wf hXf hE K hK=>?_);rfl);refine zjD _ _ _ _ rfl U.heap.size 3 i0 (.int .i64 0) 8 Tryz.underlying71 hi0 hz0 hz1 hz2 rfl q1 rfl hE g1 _ j _ (i6 (S.take j)) rfl (by unfold i6;rw [List.length_map];exact HL4.out.1) (Rd.ext (zrm HOU.out j) (((Ext.refl _).drew).trans hXf)) (by simp only [maxLen];omega) (by omega) ?_;intro v4 os4 d4 ho4;obtain ⟨G4,c4,rfl⟩:=za5 ho4;refine hK _ _ (fun W=>W.ownsRow U.heap.size 3 1 (.slice G4 j c4) j (i6 (S.take j))) (zP _ _ _) (fun _ _ hx h=>zw h hx) ho4 ?_;(try simp only [zq]);refine zeu fun q2 g2 n2 _=>?_;refine ⟨fun W=>W.ownsRow U.heap.size 3 1 (.slice G4 j c4) j (i6 (S.take j))∧W.cell? ⟨q2,0,none⟩=some (.int .i64 (k:Int)),fun w1 w2 hx h=>⟨zw h.1 hx,hx.cell_some h.2⟩,fun W _ hE h1=>⟨hE,cell_of_row _ _ 0 _ _ _ h1⟩,?_⟩;(try simp only [zq]);(refine zfz rfl ?_ (fun wf hXf hE K hK=>?_);rfl);refine zcH _ _ _ _ rfl U.heap.size 3 i0 (.int .i64 0) 1 8 Tryz.underlying71 hi0 hz0 hz1 hz2 rfl (by decide) _ j _ rfl hE.1 _ 1 1 [.int .i64 (k:Int)] rfl rfl (zqm hE.2) (ziv _) (by simp only [maxLen];omega) (by omega) hXf.size ?_;intro v5 w5 ho5 hg5;obtain ⟨G5,c5,rfl⟩:=za5 ho5;refine hK _ _ (fun W=>W.ownsRow U.heap.size 3 1 (.slice G5 (j+1) c5) (j+1) (i6 (S.take j)++[.int .i64 (k:Int)])) (zbr (X:=U.drew) hXf hE.1 hg5) hg5.size (fun _ _ hx h=>zw h hx) ho5 ?_;(try simp only [zq]);(refine zfz rfl ?_ (fun wf hXf hE K hK=>?_);rfl);refine zcH _ _ _ _ rfl U.heap.size 3 i0 (.int .i64 0) 1 8 Tryz.underlying71 hi0 hz0 hz1 hz2 rfl (by decide) _ (j+1) _ rfl hE ⟨g,go,none⟩ (k - j) (cg - j) (i6 (S.drop j)) rfl (by unfold i6;rw [List.length_map,Nat.mul_one];exact HL4.out.2) (Rd.add (Rd.ext HRd.out (((Ext.refl _).drew).trans hXf))) (zcr _) (by simp only [maxLen];omega) (by omega) hXf.size ?_;intro v6 w6 ho6 hg6;rw [HN6.out] at ho6;obtain ⟨g6,c6,rfl⟩:=zsm ho6 (Nat.succ_pos _);refine hK _ _ (fun W=>W.ownsRow U.heap.size 3 1 (.slice (some ⟨g6,0,none⟩) (k+1) c6) (k+1) (i6 (S.take j)++[.int .i64 (k:Int)]++i6 (S.drop j))) (zbr (X:=U.drew) hXf hE hg6) hg6.size (fun _ _ hx h=>zw h hx) ho6 ?_;(try simp only [zq]);(apply rdG rfl rfl;(intros;go_simp;first | done | rfl));(try simp only [zq]);(refine zcx fun wz hXz hE=>?_;obtain ⟨osz,dz,rfl⟩:=hXz.more);refine zaZ ?_;(simp only [zc] at hE);(have HE:=Lib.hid (zmw (base':=wc.heap.size) hE hwU.size));clear hE;go_wp2_with fail;refine ⟨⟨k+1,g6,c6,by omega,by go_num,rfl,?_,hwU.trans (by simp [go_sem])⟩,by simp [intOf];omega⟩;(show World.ownsRow _ _ _ _ _ _ _);rw [← HT.out,← zsn];exact zw HE.out (by simp [go_sem])
     ·obtain rfl:k=R:=by omega
      have hlt':¬ (k:Int) < (k:Int):=Int.lt_irrefl _
      obtain ⟨B1,cb1,hv1,hB1,hcb1⟩:=Rd.of_own HO.out
      simp only [Value.slice.injEq,true_and] at hv1
      obtain ⟨rfl,rfl⟩:=hv1
      have hB2:=Rd.mono hB1 (Nat.zero_le _)
      have hl:(zY (ltS ⟨k,C,l⟩ cc dn) k).length=k:=zbv _ _
      have hPl:PlOk (zY (ltS ⟨k,C,l⟩ cc dn) k) k:=⟨by omega,by omega,zfQ (zfj (zi.1 HXR.out).2.2.2.2 _ _)⟩
      have hr1:=fun W (hW:ArrIn W (some ⟨b1,off1,none⟩) n1 cap1 l) hB=>zeH k C l _ n1 cap1 _ (some ⟨g,0,none⟩) cg W hW HXR.out hB (by rw [hl];exact hcb1) hPl
      rw [HXE.out,hl] at hr1
      have HR1:=Lib.hid hr1
      have HB1:=Lib.hid hB2
      clear hr1 hB1 hB2 HO hPl HXE hl HS0
      go_wp2_with (first | ((go_at_call 103;with_reducible refine aR (HR1.out _ ((HA.out.ext hx).ext (by simp [go_sem])) (HB1.out.ext (by simp [go_sem]))) fun D m cc os5 d5 hD=>?_;have hDr:=hD.rd);obtain ⟨osu,du,rfl⟩:=HU.out))
      exact bodyPost_ret (v:=AV X.R X.C (.slice D m cc)) (by simp [results,results53,go_sem]) rfl ⟨D,m,cc,rfl,⟨(by (try simp only [ze,za] at hDr);(try simp only [ze,za]);(try simp only [zc] at hDr);(try simp only [zb] at hDr);(try simp only [Array.append_assoc] at hDr);(try simp only [Array.append_assoc]);exact Rd.swap hDr (by first | (simp;done) | (simp;omega) | omega) (by first | (simp;done) | (simp;omega) | omega) (by first | (simp;done) | (simp;omega) | omega)),hD.len,hD.cap,hD.small,hD.ok⟩,by with_reducible repeat (first | exact Ext.refl _ | apply Ext.drew | apply Ext.alloc | apply Ext.more_)⟩
  ·obtain rfl:zf kf=X:=by rw [← hX];unfold zdl;rw [if_neg (by simp),if_pos hkf]
   have hf':(kf != 0)=true:=by simpa using hkf
   have HF:=Lib.hid (f2.resolve_left hkf)
   clear hX hkf f1 f2
   go_enter func53,ntmps53
   go_wp2_with (first | (first | (go_at_call 95;with_reducible refine aM (n0 _ (H.out.ext (by simp [go_sem]))) fun osa da=>?_) | (go_at_call 95;with_reducible refine aM (n2 _ (H.out.ext (by simp [go_sem]))) fun osb db=>?_)) | (go_at_call 44;with_reducible refine aR (zE _ HF.out _) fun D m cc os5 d5 hD=>?_;have hDr:=hD.rd))
   exact rc1 (v:=AV (zf kf).R (zf kf).C (.slice D m cc)) rfl rfl (by simp [go_sem]) (by (try simp only [ze,za,zc,zb,Array.append_assoc] at hDr);(try simp only [ze,za,zc,zb,Array.append_assoc]);exact raS hDr hD (by simp <;> omega) (by simp [go_sem]))
 ·obtain rfl:zf mf=X:=by rw [← hX];unfold zdl;rw [if_pos hmf]
  have hf':(mf != 0)=true:=by simpa using hmf
  have HF:=Lib.hid (f1.resolve_left hmf)
  clear hX hmf f1 f2
  go_enter func53,ntmps53
  go_wp2_with (first | (first | (go_at_call 95;with_reducible refine aM (n0 _ (H.out.ext (by simp [go_sem]))) fun osa da=>?_) | (go_at_call 95;with_reducible refine aM (n2 _ (H.out.ext (by simp [go_sem]))) fun osb db=>?_)) | (go_at_call 44;with_reducible refine aR (zE _ HF.out _) fun D m cc os5 d5 hD=>?_;have hDr:=hD.rd))
  exact rc1 (v:=AV (zf mf).R (zf mf).C (.slice D m cc)) rfl rfl (by simp [go_sem]) (by (try simp only [ze,za,zc,zb,Array.append_assoc] at hDr);(try simp only [ze,za,zc,zb,Array.append_assoc]);exact raS hDr hD (by simp <;> omega) (by simp [go_sem]))
theorem znw (A:Option Addr) (n cap:Nat) (xs:List Ar) (w:World) (h:ArgsIn w A n cap xs) (h1:1≤n) (h2:n≤3):Calls prog 15 #[.string ⟨#[83,79,82,84]⟩,.slice A n cap] w (za6 w (zeM xs)):=by
 have hsm:=h.small
 have hcap:=h.cap
 have q1:¬ n < 1:=by omega
 have q2:¬ 3 < n:=by omega
 have hst:=fun W (hW:ArgsIn W A n cap xs)=>zlK A n cap xs W hW h1
 obtain ⟨R0,C0,l0,b1,off1,n1,cap1,b,off,x0,_,rfl,⟨v0,v1,v2⟩,_,_,_,_,_,hbl,_,_,_,_,_⟩:=h.first (k:=0) (by omega)
 simp only [Nat.zero_mul,Nat.add_zero] at v0 v1 v2
 have H:=Lib.hid h
 clear h
 generalize (zeM xs)=X at *
 go_enter func15,ntmps15
 go_wp2_with (go_at_call 43;with_reducible refine aM (zg2 _) fun os1 d1=>?_)
 go_loopw [8] (fun i wr=>∃ k:Nat,k≤n∧i = .int .i64 k∧Ext (more (w.alloc (Obj.cells #[.int .i64 0,.int .i64 0,.slice none 0 0] 30)) os1 d1) wr) (fun i _=>n - (intOf i).toNat)
 case atStart=>exact ⟨0,Nat.zero_le _,rfl,Ext.refl _⟩
 case round =>
  obtain ⟨k,hk,rfl,hX⟩:=hrel
  obtain ⟨os,d,rfl⟩:=hX.more
  clear hX
  by_cases hlt:k < n
  ·obtain ⟨a,b',off',ha,hbo,⟨u0,u1,u2⟩,hok⟩:=H.out.at hlt
   obtain ⟨rfl,rfl⟩:=aI hbo
   have hra:=fun W (hW:ArrIn W a.A a.n a.cap a.x.l)=>zU a.x.R a.x.C a.A a.n a.cap a.x.l W hW
   rw [← zaA _ _ _ hok.arr.ok,show zo (a.x.R:Int) a.x.C a.x.l=true from hok.right] at hra
   have HOK:=Lib.hid hok.arr
   clear hok hst
   go_wp2_with (go_at_call 45;refine (hra _ (HOK.out.ext (by simp [go_sem]))).mono ?_;rintro e w' ⟨rfl,hb⟩;obtain ⟨os',d',rfl⟩:=hb.more;clear hb)
   exact ⟨⟨k+1,by omega,by go_num,by simp [go_sem]⟩,by simp [intOf];omega⟩
  ·go_wp2_with (go_at_call 53;(with_reducible refine (hst _ (H.out.ext (by simp [go_sem]))).mono ?_);rintro e w' ⟨D,m,cc,rfl,hD,hb⟩;have hNl:=hD.len;have hNc:=hD.cap;have hNs:=hD.small;have hNo:=hD.ok;have hDr:=hD.rd;clear hD;obtain ⟨os5,d5,rfl⟩:=hb.more;clear hb)
   exact rct rfl rfl (by simp [go_sem]) ⟨D,m,cc,rfl,ArrN.arr (base:=w.heap.size) ⟨(by (try simp only [ze,za] at hDr);(try simp only [ze,za]);(try simp only [zc] at hDr);(try simp only [zb] at hDr);(try simp only [Array.append_assoc] at hDr);(try simp only [Array.append_assoc]);exact hDr.sw (by simp <;> omega)),hNl,hNc,hNs,hNo⟩,by simp [go_sem]⟩
theorem zk2 (A:Option Addr) (n cap:Nat) (xs:List Ar) (w:World) (h:ArgsIn w A n cap xs) (h1:1≤n) (h2:n≤1):Calls prog 15 #[.string ⟨#[85,78,73,81,85,69]⟩,.slice A n cap] w (za6 w (zdv xs)):=by
 have hsm:=h.small
 have hcap:=h.cap
 have q1:¬ n < 1:=by omega
 have q2:¬ 1 < n:=by omega
 obtain ⟨R0,C0,l0,b1,off1,n1,cap1,b,off,x0,ha,rfl,⟨v0,v1,v2⟩,_,_,_,_,_,hbl,_,_,_,harr,_⟩:=h.first (k:=0) (by omega)
 have hxr:NA.right ⟨R0,C0,l0⟩:=(h.all _ (List.mem_of_getElem? ha)).right
 have hx0:zdv xs=zd5 ⟨R0,C0,l0⟩:=by unfold zdv zF;rw [ha]
 have HAR:=Lib.hid harr
 have hst:=fun W (hW:ArrIn W (some ⟨b1,off1,none⟩) n1 cap1 l0)=>zoX R0 C0 l0 b1 off1 n1 cap1 W hW hxr
 rw [hx0]
 simp only [Nat.zero_mul,Nat.add_zero] at v0 v1 v2
 have H:=Lib.hid h
 clear h ha harr hx0
 generalize (zd5 ⟨R0,C0,l0⟩)=X at *
 go_enter func15,ntmps15
 go_wp2_with (go_at_call 43;with_reducible refine aM (zfY _) fun os1 d1=>?_)
 go_loopw [8] (fun i wr=>∃ k:Nat,k≤n∧i = .int .i64 k∧Ext (more (w.alloc (Obj.cells #[.int .i64 0,.int .i64 0,.slice none 0 0] 30)) os1 d1) wr) (fun i _=>n - (intOf i).toNat)
 case atStart=>exact ⟨0,Nat.zero_le _,rfl,Ext.refl _⟩
 case round =>
  obtain ⟨k,hk,rfl,hX⟩:=hrel
  obtain ⟨os,d,rfl⟩:=hX.more
  clear hX
  by_cases hlt:k < n
  ·obtain ⟨a,b',off',ha,hbo,⟨u0,u1,u2⟩,hok⟩:=H.out.at hlt
   obtain ⟨rfl,rfl⟩:=aI hbo
   have hra:=fun W (hW:ArrIn W a.A a.n a.cap a.x.l)=>zU a.x.R a.x.C a.A a.n a.cap a.x.l W hW
   rw [← zaA _ _ _ hok.arr.ok,show zo (a.x.R:Int) a.x.C a.x.l=true from hok.right] at hra
   have HOK:=Lib.hid hok.arr
   clear hok hst
   go_wp2_with (go_at_call 45;refine (hra _ (HOK.out.ext (by simp [go_sem]))).mono ?_;rintro e w' ⟨rfl,hb⟩;obtain ⟨os',d',rfl⟩:=hb.more;clear hb)
   exact ⟨⟨k+1,by omega,by go_num,by simp [go_sem]⟩,by simp [intOf];omega⟩
  ·go_wp2_with (go_at_call 54;(with_reducible refine (hst _ (HAR.out.ext (by simp [go_sem]))).mono ?_);rintro e w' ⟨D,m,cc,rfl,hD,hb⟩;have hNl:=hD.len;have hNc:=hD.cap;have hNs:=hD.small;have hNo:=hD.ok;have hDr:=hD.rd;clear hD;obtain ⟨os5,d5,rfl⟩:=hb.more;clear hb)
   exact rct rfl rfl (by simp [go_sem]) ⟨D,m,cc,rfl,ArrN.arr (base:=w.heap.size) ⟨(by (try simp only [ze,za] at hDr);(try simp only [ze,za]);(try simp only [zc] at hDr);(try simp only [zb] at hDr);(try simp only [Array.append_assoc] at hDr);(try simp only [Array.append_assoc]);exact hDr.sw (by simp <;> omega)),hNl,hNc,hNs,hNo⟩,by simp [go_sem]⟩
theorem znx (A:Option Addr) (n cap:Nat) (gs:List GA) (w:World) (h:ArgsG w A n cap gs):Calls prog 9 #[.string ⟨#[83,79,82,84]⟩,.slice A n cap] w (zbM w (zI 1 3 gs (zeM (zae gs)))) :=
 zaO ⟨#[83,79,82,84]⟩ 1 3 33 (fun _ _=>#[]) (by decide) (fun _ _=>rfl) (fun args W=>by go_simp) (by decide) (by decide) A n cap gs w h _ (fun hr h1 _ p1 p2 W hW _=>zoV A n cap _ W ((zam h hr).ext hW) h1)
theorem zk3 (A:Option Addr) (n cap:Nat) (gs:List GA) (w:World) (h:ArgsG w A n cap gs):Calls prog 9 #[.string ⟨#[85,78,73,81,85,69]⟩,.slice A n cap] w (zbM w (zI 1 1 gs (zdv (zae gs)))) :=
 zaO ⟨#[85,78,73,81,85,69]⟩ 1 1 41 (fun _ _=>#[]) (by decide) (fun _ _=>rfl) (fun args W=>by go_simp) (by decide) (by decide) A n cap gs w h _ (fun hr h1 _ p1 p2 W hW _=>zlJ A n cap _ W ((zam h hr).ext hW) h1)
theorem zny (A:Option Addr) (n cap:Nat) (gs:List GA) (w:World) (h:ArgsG w A n cap gs):Tl prog 8 #[.string ⟨#[83,79,82,84]⟩,.slice A n cap] w (.bool true) :=
 zaw ⟨#[83,79,82,84]⟩ A n cap w (zI 1 3 gs (zeM (zae gs))) (fun W hW=>znx A n cap gs W (h.ext hW)) (fun W hW=>zbx _ 1 3 (by decide) (by decide) (by decide) (fun W'=>zg2 W') _ A n cap gs W (h.ext hW) (fun hi h1 h2=>znw A n cap _ W hi h1 h2))
theorem zk4 (A:Option Addr) (n cap:Nat) (gs:List GA) (w:World) (h:ArgsG w A n cap gs):Tl prog 8 #[.string ⟨#[85,78,73,81,85,69]⟩,.slice A n cap] w (.bool true) :=
 zaw ⟨#[85,78,73,81,85,69]⟩ A n cap w (zI 1 1 gs (zdv (zae gs))) (fun W hW=>zk3 A n cap gs W (h.ext hW)) (fun W hW=>zbx _ 1 1 (by decide) (by decide) (by decide) (fun W'=>zfY W') _ A n cap gs W (h.ext hW) (fun hi h1 h2=>zk2 A n cap _ W hi h1 h2))
end Go.Proofs.YtkoidgbgoccgmaaGreatDoor
namespace Go.Proofs.YtkoidgbgoccgmaaGreatDoor
open _root_.Go.Proofs.Tryz
open Go.Maps Go.RowKit Go.Sort NM
def names14:List (List UInt8):=[[67,79,76,85,77,78,83],[68,82,79,80],[70,73,76,84,69,82],[72,83,84,65,67,75],[77,77,85,76,84],[82,79,87,83],[83,69,81,85,69,78,67,69],[83,79,82,84],[84,65,75,69],[84,79,67,79,76],[84,79,82,79,87],[84,82,65,78,83,80,79,83,69],[85,78,73,81,85,69],[86,83,84,65,67,75]]
theorem zk5 {s:List UInt8} (h:s ∉ names14) (p1 p2:Nat):zbU (zbw p1 p2) s=none:=by
 refine zhH fun p hp=>?_
 intro e
 apply h
 have hk:(zbw p1 p2).map (·.1)=names14:=rfl
 rw [← hk,← e]
 exact List.mem_map.2 ⟨p,hp,rfl⟩
theorem zoZ {s:ByteArray} {n:List UInt8} (h:(s.toList == n)=true):s.data.toList=n:=by
 rw [ByteArray.toList_eq] at h;simpa using h
theorem zbc {s:ByteArray} (h:s.data.toList ∉ names14) {n:List UInt8} (hn:n∈names14):(s.toList == n)=false:=by
 cases hq:s.toList == n with
 | false=>rfl
 | true=>exact absurd (by rw [zoZ hq];exact hn) h
theorem zo0 (s:ByteArray) (w:World) (h:s.data.toList ∉ names14):Tl prog 43 #[.string s] w (.tuple #[.int .i64 0,.int .i64 0]):=by
 have n0:=zbc h (n:=[67,79,76,85,77,78,83]) (by decide)
 have n1:=zbc h (n:=[68,82,79,80]) (by decide)
 have n2:=zbc h (n:=[70,73,76,84,69,82]) (by decide)
 have n3:=zbc h (n:=[72,83,84,65,67,75]) (by decide)
 have n4:=zbc h (n:=[77,77,85,76,84]) (by decide)
 have n5:=zbc h (n:=[82,79,87,83]) (by decide)
 have n6:=zbc h (n:=[83,69,81,85,69,78,67,69]) (by decide)
 have n7:=zbc h (n:=[83,79,82,84]) (by decide)
 have n8:=zbc h (n:=[84,65,75,69]) (by decide)
 have n9:=zbc h (n:=[84,79,67,79,76]) (by decide)
 have n10:=zbc h (n:=[84,79,82,79,87]) (by decide)
 have n11:=zbc h (n:=[84,82,65,78,83,80,79,83,69]) (by decide)
 have n12:=zbc h (n:=[85,78,73,81,85,69]) (by decide)
 have n13:=zbc h (n:=[86,83,84,65,67,75]) (by decide)
 clear h
 go_enter func43,ntmps43
 go_wp2_with fail
 exact rt2 rfl rfl ⟨rfl,by simp [go_sem]⟩
theorem zqn (s:ByteArray) (A:Option Addr) (n cap:Nat) (w:World) (h:s.data.toList ∉ names14) :
  Tl prog 15 #[.string s,.slice A n cap] w (.tuple #[AV 0 0 (.slice none 0 0),.bool false]):=by
 have hc:=fun W=>zo0 s W h
 clear h
 go_enter func15,ntmps15
 go_wp2_with (go_at_call 43;with_reducible refine aM (hc _) fun os d=>?_)
 exact rct rfl rfl (by simp [go_sem]) ⟨rfl,by simp [go_sem]⟩
theorem zo1 (s:ByteArray) (A:Option Addr) (n cap:Nat) (w:World) (hs:s.size≤1000) (h:s.data.toList ∉ names14) :
  Tl prog 8 #[.string s,.slice A n cap] w (.bool true):=by
 have hp:=fun W=>zkL s (by simp only [maxLen];omega) (fun p1 p2=>zk5 h p1 p2) A n cap W
 have hr:=fun W=>zqn s A n cap W h
 have h0:∀ W,ArrIn W none 0 0 []:=fun W=>⟨Rd.nil _ _ _,rfl,Nat.le_refl _,by omega,fun x hx=>by cases hx⟩
 clear h
 go_enter func8,ntmps8
 go_wp2_with (first | (go_at_call 9;with_reducible refine aM (hp _) fun os1 d1=>?_) | (go_at_call 15;with_reducible refine aM (hr _) fun os2 d2=>?_))
 refine (zgU 0 0 0 0 none none 0 0 0 0 [] [] _ (h0 _) (h0 _)).mono ?_
 rintro e w' ⟨rfl,hb⟩
 obtain ⟨os3,d3,rfl⟩:=hb.more
 clear hb
 rw [show zdy 0 0 [] 0 0 []=true by simp [zdy]]
 go_wp2_with fail
 go_ret
 exact ⟨rfl,by simp [go_sem]⟩
theorem zso {s:ByteArray} {l:List UInt8} (h:s.data.toList=l):s=⟨l.toArray⟩:=by
 cases s with | mk d=>simp only at h;rw [← h]
theorem zlL (s:ByteArray) (A:Option Addr) (n cap:Nat) (gs:List GA) (w:World) (htab:Tab w) (h:ArgsG w A n cap gs) (hs:s.size≤1000) :
  Tl prog 8 #[.string s,.slice A n cap] w (.bool true):=by
 by_cases hm:s.data.toList∈names14
 ·simp only [names14,List.mem_cons,List.not_mem_nil,or_false] at hm
  rcases hm with e | e | e | e | e | e | e | e | e | e | e | e | e | e <;> (rw [zso e])
  ·exact zjy A n cap gs w htab h
  ·exact zoI A n cap gs w h
  ·exact zlw A n cap gs w htab h
  ·exact zkH A n cap gs w htab h
  ·exact znk A n cap gs w htab h
  ·exact znd A n cap gs w htab h
  ·exact zqc A n cap gs w htab h
  ·exact zny A n cap gs w h
  ·exact zoH A n cap gs w h
  ·exact zlr A n cap gs w htab h
  ·exact zlq A n cap gs w htab h
  ·exact zh0 A n cap gs w htab h
  ·exact zk4 A n cap gs w h
  ·exact zkI A n cap gs w htab h
 ·exact zo1 s A n cap w hs hm
theorem ziL:names14.mergeSort leB=names14:=by
 refine List.mergeSort_of_pairwise ?_
 unfold names14 leB
 decide
theorem zo2:(strKeys (zdb (zbw 0 0))).Perm names14:=by
 refine List.isPerm_iff.1 ?_
 kernel_rfl
theorem zk6 {ss:List (List UInt8)} (h:ss.Perm (strKeys (zdb (zbw 0 0)))):ss.mergeSort (fun x y=>decide (x≤y))=names14 :=
 (mergeSort_of_perm (h.trans zo2)).trans ziL
theorem zo3 {w:World} {base:Nat} {v:Value} {l:List (List UInt8)} {n:Nat} (h:w.ownsRow base 9 1 v n (l.map encStr)) (hn:0 < n):∃ b off c,v = .slice (some ⟨b,off,none⟩) n c∧n≤c∧∀ k s,l[k]? = some s→w.cell? ⟨b,off+k,none⟩=some (.string ⟨s.toArray⟩):=by
 have hl:=h.1
 obtain ⟨A,c,rfl,hrd,hc⟩:=Rd.of_own h
 have hl':l.length=n:=by have:=hl;simp only [List.length_map] at this;omega
 obtain ⟨b,off,rfl,_,_⟩:=hrd 0 (encStr l[0]) (by simp)
 refine ⟨b,off,c,rfl,hc,fun k s hs=>?_⟩
 obtain ⟨b',off',he,_,h1⟩:=hrd k (encStr s) (by simp [hs])
 obtain ⟨rfl,rfl⟩:=aI he
 exact h1
theorem znz (w:World):Calls prog 6 #[] w fun e w'=>∃ b,e = .returned (.slice (some ⟨b,0,none⟩) 14 14)∧(∀ k s,names14[k]? = some s→w'.cell? ⟨b,0+k,none⟩=some (.string ⟨s.toArray⟩))∧Ext w w':=by
 go_enter func6,ntmps6
 go_wp2_with fail
 go_ret
 refine ⟨_,rfl,fun k s hs=>?_,by simp [go_sem]⟩
 have hrd:=Rd.of_row (w:=w.alloc (.cells (names14.map encStr).toArray 9)) (b:=w.heap.size) (cs:=names14.map encStr) (t:=9) (zgp _ _) 0 (Nat.zero_le _)
 obtain ⟨b',off',he,_,h1⟩:=hrd k (encStr s) (by simp [hs])
 obtain ⟨rfl,rfl⟩:=aI he
 exact h1
theorem zig (s:ByteArray) (A:Option Addr) (n cap:Nat) (gs:List GA) (w:World) (htab:Tab w) (h:ArgsG w A n cap gs) :
  Tl prog 3 #[.string s,.slice A n cap] w (.bool true):=by
 have HT:=Lib.hid htab
 have H:=Lib.hid h
 clear htab h
 go_enter func3,ntmps3
 go_upto_region 7 with (first | (go_at_call 4;with_reducible refine aM (zlt _ (HT.out.ext (by simp [go_sem]))) fun osw dw=>?_) | (go_at_call 5;(with_reducible refine (zh1 _).mono ?_);rintro e w' ⟨v,ss,rfl,hS,hrow,hb⟩;rw [zk6 hS] at hrow;obtain ⟨b1,off1,c1,rfl,hc1,hat1⟩:=zo3 hrow (by omega);obtain ⟨os1,d1,rfl⟩:=hb.more;clear hb hrow hS;(try simp only [za,Array.append_assoc] at hat1)) | (go_at_call 6;(with_reducible refine (znz _).mono ?_);rintro e w' ⟨b2,rfl,hat2,hb⟩;replace hat1:=fun k s hs=>hb.cell_some (hat1 k s hs);obtain ⟨os2,d2,rfl⟩:=hb.more;clear hb;(try simp only [za,Array.append_assoc] at hat1);(try simp only [za,Array.append_assoc] at hat2)))
 refine zz fun U hU=>?_
 have hx0:Ext w U:=by rw [hU];exact (by simp [go_sem])
 rw [← hU] at hat1 hat2
 clear hU
 go_loopw [19] (fun i wr=>∃ k:Nat,k≤14∧i = .int .i64 (k:Int)∧Ext U wr) (fun i _=>14 - (intOf i).toNat)
 case atStart=>exact ⟨0,Nat.zero_le _,rfl,Ext.refl _⟩
 case round =>
  obtain ⟨k,hk,rfl,hxr⟩:=hrel
  replace hx0:=hx0.trans hxr
  by_cases hlt:k < 14
  ·have hn:names14[k]? = some (names14[k]'(by simpa [names14] using hlt)):=List.getElem?_eq_getElem _
   generalize names14[k]'(by simpa [names14] using hlt)=nm at hn
   have q1:=hxr.cell_some (hat1 k nm hn)
   have q2:=hxr.cell_some (hat2 k nm hn)
   rw [Nat.zero_add] at q2
   have l1:=zg q1
   have l2:=zg q2
   clear hn hat1 hat2
   go_upto_region 9 with fail
   refine plP [(0,0),(1,0),(2,0),(3,0),(4,0),(5,0),(6,0),(7,0),(8,0)] [] (by kernel_rfl) (fun _ _ d _ _ h=>by cases d <;> exact h) ?_
   iterate 9 (apply rdP rfl rfl;(intros;go_simp;first | done | rfl);try simp only [zq])
   refine zj ?_
   go_wp2_with fail
   exact ⟨⟨k+1,by omega,by go_num,hxr.trans (by simp [go_sem])⟩,by simp [intOf];omega⟩
  ·obtain rfl:k=14:=by omega
   by_cases hs:s.size≤100
   ·have hs':¬ 100 < s.size:=by omega
    have hcall:=fun W hT hG=>zlL s A n cap gs W hT hG (by omega)
    clear hat1 hat2
    go_wp2_with (first | (go_at_call 7;(with_reducible refine (zg4 _ _ _ _ _ (H.out.ext (hx0.trans (by simp [go_sem])))).mono ?_);rintro e w' ⟨s,rfl,hs,hb⟩;obtain ⟨oss,ds,rfl⟩:=hb.more;clear hb;rcases hs with rfl | rfl) | (go_at_call 8;with_reducible refine aM (hcall _ (HT.out.ext (hx0.trans (by simp [go_sem]))) (H.out.ext (hx0.trans (by simp [go_sem])))) fun os3 d3=>?_))
    all_goals
     go_ret
     exact ⟨rfl,hx0.trans (by simp [go_sem])⟩
   ·have hs':100 < s.size:=by omega
    clear hat1 hat2
    go_wp2_with (first | (go_at_call 7;(with_reducible refine (zg4 _ _ _ _ _ (H.out.ext (hx0.trans (by simp [go_sem])))).mono ?_);rintro e w' ⟨s,rfl,hs,hb⟩;obtain ⟨oss,ds,rfl⟩:=hb.more;clear hb;rcases hs with rfl | rfl))
    all_goals
     go_ret
     exact ⟨rfl,hx0.trans (by simp [go_sem])⟩
end Go.Proofs.YtkoidgbgoccgmaaGreatDoor
namespace Go.Proofs.YtkoidgbgoccgmaaGreatDoor
open _root_.Go.Proofs.Tryz
open Go.ChangeAt Go.ChangeShapes Go.Deep Go.RowKit Go.WideShapes
theorem own:ownKnob Tryz.prog.godebug=none:=by kernel_rfl
theorem ziM:laidOutB prog=true:=by kernel_rfl
theorem zo4:Tryz.prog.cellsOf 35=2:=by kernel_rfl
theorem zc4:Tryz.prog.cellsOf 3=1:=by kernel_rfl
def zih : List (String × DataW Unit) := [("math/bits.deBruijn32tab", Rows.laid_math_bits_deBruijn32tab), ("math/bits.deBruijn64tab", Rows.laid_math_bits_deBruijn64tab), ("internal/strconv.uint64pow10", Rows.laid_internal_strconv_uint64pow10)]
theorem znA:(Rows.laid_internal_strconv_uint64pow10:DataW Unit)=Lib.tabData .u64 Lib.pow10Tab:=by
 unfold Rows.laid_internal_strconv_uint64pow10 Lib.tabData Lib.pow10Tab
 simp [List.range_succ]
theorem zsM : Tryz.prog.globalNamed "internal/strconv.uint64pow10" = some 3 := by kernel_rfl
theorem zsN:(Tryz.prog.globals[3]?).map (·.type)=some 192:=by kernel_rfl
theorem zlM {W:World} (h:laidMetH prog zih W):Tab W:=by
 rw [MakeChecks.laidMetH_plain _ _ _ (by kernel_rfl)] at h
 obtain ⟨ps,⟨g0,t0,cs0,f0,p0,q0,hg0,ht0,hv0,hd0,⟨g1,t1,cs1,f1,p1,q1,hg1,ht1,hv1,hd1,⟨g2,t2,cs2,f2,p2,q2,hg2,ht2,hv2,hd2,_,_⟩,_⟩,_⟩,_,_⟩:=h
 obtain rfl:=Option.some.inj (zsM.symm.trans hg2)
 obtain rfl:=Option.some.inj (zsN.symm.trans ht2)
 rw [znA] at hd2
 unfold Tab Lib.TabIs
 rw [hv2,← Lib.cells_of_tab Tryz.underlying192 Tryz.underlying122 (by kernel_rfl) (by kernel_rfl) hd2]
theorem zqo (os:Os) (args:Array Value):laidMetH prog zih ((World.doorLaid prog 400 os).forCall (fun _ _=>0) ⟨#[],args,[]⟩).memory :=
 laidMetH_of_parts3 (fuel:=8) (laidMet_of_run' 8 (by kernel_rfl) (by kernel_rfl)) (by kernel_rfl) (by kernel_rfl)
set_option maxRecDepth 100000
section
variable {H:Type} {enc:TypeId×Value→H} {w:World} {base:Nat} {spare:Nat→Bool} {held:Bool}
theorem zii {n:Int} (h:(Lit.int .i64 n).wf=true):I64 n:=by
 simpa [Lit.wf,IntKind.min,IntKind.max,IntKind.signed,IntKind.bits,I64] using h
theorem zgA {t:TypeId} {v:Value} {d:DataW H} {p:List MemPlace} (h:DataW.Trod enc prog w base spare held t v d p):∀ x∈p,x.block < w.heap.size:=by
 obtain ⟨m,hm⟩:=h
 exact DataW.trod_lt m _ _ _ hm
theorem zqp {r:Reach} {b0:Nat} {v:Value} {d:DataW H} {p:List MemPlace} (hv:Value.okWide prog w r b0 9 v) (_h:DataW.Trod enc prog w base spare held 9 v d p):∃ s:ByteArray,v = .string s∧True:=by
 obtain ⟨s,rfl⟩:=okWide_string Tryz.underlying9 hv
 exact ⟨s,rfl,trivial⟩
end
theorem zjq:Tryz.prog.cellsOf 37=6:=by kernel_rfl
theorem zk7:Tryz.prog.cellsOf 9=1:=by kernel_rfl
theorem znB:Tryz.prog.cellsOf 4=1:=by kernel_rfl
theorem zjr:Tryz.prog.cellsOf 30=3:=by kernel_rfl
set_option maxRecDepth 100000
section
variable {H:Type} {enc:TypeId×Value→H} {w:World} {base:Nat} {spare:Nat→Bool} {held:Bool}
theorem zqq {fuel:Nat} {c1 c2:Value} {x:DataW H×List MemPlace} (h:DataW.trod enc prog w base spare held fuel 35 [c1,c2]=some x):∃ m e:Int,[c1,c2]=[.int .i64 m,.int .i64 e]∧I64 m∧I64 e:=by
 obtain ⟨xs,n,rfl,_,hl,hxs,hf⟩:=DataW.trod_struct Tryz.underlying35 h
 obtain ⟨y0,hy0⟩:∃ y,xs[0]? = some y:=⟨_,List.getElem?_eq_getElem (by rw [hxs];decide)⟩
 have g0:DataW.trod enc prog w base spare held n 3 [c1]=some y0:=by rw [← hy0];have:=hf 0 _ rfl;simpa [zc4] using this
 obtain ⟨y1,hy1⟩:∃ y,xs[1]? = some y:=⟨_,List.getElem?_eq_getElem (by rw [hxs];decide)⟩
 have g1:DataW.trod enc prog w base spare held n 3 [c2]=some y1:=by rw [← hy1];have:=hf 1 _ rfl;simpa [zc4] using this
 obtain ⟨m,e0,_,w0⟩:=DataW.trod_int Tryz.underlying3 g0
 obtain ⟨e,e1,_,w1⟩:=DataW.trod_int Tryz.underlying3 g1
 simp only [List.cons.injEq,and_true] at e0 e1
 subst e0 e1
 exact ⟨m,e,rfl,zii w0,zii w1⟩
theorem zqr {fuel:Nat} {cs:List Value} {x:DataW H×List MemPlace} (h:DataW.trod enc prog w base spare held fuel 37 cs=some x):∃ y:Val,cs=y.cells∧y.ok:=by
 obtain ⟨xs,n,rfl,_,hl,hxs,hf⟩:=DataW.trod_struct Tryz.underlying37 h
 rw [zjq] at hl
 match cs,hl with
 | [c0,c1,c2,c3,c4,c5],_ =>
  obtain ⟨y0,hy0⟩:∃ y,xs[0]? = some y:=⟨_,List.getElem?_eq_getElem (by rw [hxs];decide)⟩
  have g0:DataW.trod enc prog w base spare held n 3 [c0]=some y0:=by rw [← hy0];have:=hf 0 _ rfl;simpa [zc4] using this
  obtain ⟨y1,hy1⟩:∃ y,xs[1]? = some y:=⟨_,List.getElem?_eq_getElem (by rw [hxs];decide)⟩
  have g1:DataW.trod enc prog w base spare held n 35 [c1,c2]=some y1:=by rw [← hy1];have:=hf 1 _ rfl;simpa [zo4] using this
  obtain ⟨y2,hy2⟩:∃ y,xs[2]? = some y:=⟨_,List.getElem?_eq_getElem (by rw [hxs];decide)⟩
  have g2:DataW.trod enc prog w base spare held n 9 [c3]=some y2:=by rw [← hy2];have:=hf 2 _ rfl;simpa [zk7] using this
  obtain ⟨y3,hy3⟩:∃ y,xs[3]? = some y:=⟨_,List.getElem?_eq_getElem (by rw [hxs];decide)⟩
  have g3:DataW.trod enc prog w base spare held n 4 [c4]=some y3:=by rw [← hy3];have:=hf 3 _ rfl;simpa [znB] using this
  obtain ⟨y4,hy4⟩:∃ y,xs[4]? = some y:=⟨_,List.getElem?_eq_getElem (by rw [hxs];decide)⟩
  have g4:DataW.trod enc prog w base spare held n 3 [c5]=some y4:=by rw [← hy4];have:=hf 4 _ rfl;simpa [zc4] using this
  obtain ⟨k,e0,_,w0⟩:=DataW.trod_int Tryz.underlying3 g0
  obtain ⟨m,ex,e1,w1,w2⟩:=zqq g1
  obtain ⟨t,e3,_,w3⟩:=DataW.trod_string Tryz.underlying9 g2
  obtain ⟨b,e4,_⟩:=DataW.trod_bool Tryz.underlying4 g3
  obtain ⟨f,e5,_,w5⟩:=DataW.trod_int Tryz.underlying3 g4
  simp only [List.cons.injEq,and_true] at e0 e1 e3 e4 e5
  obtain ⟨rfl,rfl⟩:=e1
  subst e0 e3 e4 e5
  exact ⟨⟨k,m,ex,t,b,f⟩,rfl,zii w0,w1,w2,w3,zii w5⟩
theorem zo5 {fuel:Nat} {a:Option Addr} {len cap:Nat} {x:DataW H×List MemPlace} (h:DataW.trod enc prog w base spare held fuel 28 [.slice a len cap]=some x):∃ l,ArrIn w a len cap l:=by
 rcases open_slice Tryz.underlying28 h with ⟨hcs,_⟩ | ⟨ad,len',cap',m,n,D,Pl,hcs,hb,hl,hm,hmm,_,hi⟩
 ·simp only [List.cons.injEq,Value.slice.injEq,and_true] at hcs
  obtain ⟨rfl,rfl,rfl⟩:=hcs
  exact ⟨[],SlV.nil _ _ _,rfl,Nat.le_refl _,by omega,by simp⟩
 ·simp only [List.cons.injEq,Value.slice.injEq,and_true] at hcs
  obtain ⟨rfl,rfl,rfl⟩:=hcs
  have hlm:len≤m:=by rw [hmm];split <;> omega
  obtain ⟨X,hX⟩:=choose_lt (α:=Val) (n:=len) (p:=fun i y=>w.cells? base (ad.add (i * 6)) 6=some y.cells∧y.ok) (fun i hil=>by
   obtain ⟨cs',h1,h2⟩:=hi i (by omega)
   rw [zjq] at h1
   obtain ⟨y,rfl,hy⟩:=zqr h2
   exact ⟨y,h1,hy⟩)
  refine ⟨(List.range len).map X,?_,by simp,hl,by simp only [maxLen] at hm;omega,?_⟩
  ·intro j u hu
   have hj:j / 6 < len:=by
    have:=(List.getElem?_eq_some_iff.1 hu).1
    rw [zaU] at this
    simp at this
    omega
   have hat:=zf3 ((List.range len).map X) (j / 6) (X (j / 6)) (by simp [hj]) (j % 6) (by omega)
   rw [show j / 6 * 6+j % 6=j by omega,hu] at hat
   obtain ⟨_,_,hc⟩:=World.cells?_some (hX (j / 6) hj).1
   have h6:=hc (j % 6) (by omega)
   rw [← hat,Go.Deep.add_add,show j / 6 * 6+j % 6=j by omega] at h6
   obtain ⟨b,off,spot⟩:=ad
   have hsp:spot=none:=by
    obtain ⟨_,_,hc0⟩:=World.cells?_some (hX 0 (by omega)).1
    have h0:=hc0 0 (by omega)
    simp [Addr.add,Val.cells] at h0
    exact World.cell?_spot h0
   subst hsp
   rw [Addr.add_mid] at h6
   exact ⟨b,off,rfl,Nat.zero_le _,h6⟩
  ·intro y hy
   simp only [List.mem_map,List.mem_range] at hy
   obtain ⟨i,hi',rfl⟩:=hy
   exact (hX i hi').2
end
end Go.Proofs.YtkoidgbgoccgmaaGreatDoor
namespace Go.Proofs.YtkoidgbgoccgmaaGreatDoor
open _root_.Go.Proofs.Tryz
open Go.ChangeAt Go.ChangeShapes Go.RowKit Go.WideShapes
theorem zk8 {P:Program} {f:FuncId} {fn:Func} {s:ChangeSpec} {c:OpenClaim} (h1:laidOutB P=true) (h2:mapsRowed P=true)
  (h3:(c.inPlace == P.inPlace f)=true) (h4:(c.unfollowed == P.unfollowed f)=true) (h5:(c.recurses == P.recurses f)=true) (h6:(c.named == P.varsNamed f)=true)
  (h7:(c.plainKeys == P.plainKeys)=true) (h8:P.stopsHeard=true) (h9:P.mayEnter=true) (h10:(c.lifted == P.liftsFinal)=true) (h11:(P.make == some c.make)=true)
  (hr:(c.wf (OpenSpec.ofChange s) && fn.params.all (P.readableRec ·) && namedTie P c.named s.vars &&
   (c.stops == []) && (P.stops == []) && (c.knobs == []) && (P.stopKnobs == []) &&
   (c.maps == (fn.params.toList++s.plain.varTypes P).any (P.mapsRec ·)) && (c.ifaces == (fn.params.toList++s.plain.varTypes P).any (P.ifacesRec ·)) && (c.mapsOut == P.mapsAmong fn.resultTypes.toList) &&
   (c.loops == (fn.params.toList++s.plain.varTypes P).any (P.loopsFrom ·)) && (c.wideKeys == (fn.params.toList++s.plain.varTypes P++fn.resultTypes.toList).any (P.wideKeysFrom ·)) &&
   s.vars.all (P.varReadable ·) && fn.resultTypes.all (fun t=>P.readableRec t && decide (t < P.types.size)) && (c.ifacesOut == fn.resultTypes.toList.any (P.ifacesRec ·)) && (c.loopsOut == fn.resultTypes.toList.any (P.loopsFrom ·)) && c.shortTexts.isNone && (c.kinds == (if c.domain.isEmpty then [] else fn.params.toList.map fun t=>match P.underlying t with | some (.int k)=>some k | _=>none)) && (c.pinned == c.pinnedBy) &&
   (c.veiled == (fn.params.toList++s.plain.varTypes P++fn.resultTypes.toList).any (P.veiledRec ·)) && c.veiledFits P fn.params.toList (fn.params.toList++s.plain.varTypes P++fn.resultTypes.toList))=true) :
  joinedFacts P f fn s c=true:=by
 simp only [joinedFacts,h1,h2,h3,h4,h5,h6,h7,h8,h9,h10,h11,Bool.and_true]
 exact hr
theorem zo6:mapsRowed prog=true:=by kernel_rfl
theorem znC:Program.stopsHeard prog=true:=by kernel_rfl
theorem zqs:Program.mayEnter prog=true:=by kernel_rfl
end Go.Proofs.YtkoidgbgoccgmaaGreatDoor
namespace Go.Proofs.YtkoidgbgoccgmaaGreatDoor
open _root_.Go.Proofs.Tryz
open Go.ChangeAt Go.ChangeShapes Go.Deep Go.RowKit Go.WideShapes
variable {H:Type} {enc:TypeId×Value→H} {w:World} {base:Nat} {spare:Nat→Bool} {held:Bool}
theorem zo7:Tryz.prog.cellsOf 28=1:=by kernel_rfl
theorem zo8 {fuel:Nat} {cs:List Value} {x:DataW H×List MemPlace} (h:DataW.trod enc prog w base spare held fuel 30 cs=some x):∃ g:GA,cs=g.cells∧ArrIn w g.A g.n g.cap g.l:=by
 obtain ⟨xs,n,rfl,_,hl,hxs,hf⟩:=DataW.trod_struct Tryz.underlying30 h
 rw [zjr] at hl
 match cs,hl with
 | [c0,c1,c2],_ =>
  obtain ⟨y0,hy0⟩:∃ y,xs[0]? = some y:=⟨_,List.getElem?_eq_getElem (by rw [hxs];decide)⟩
  have g0:DataW.trod enc prog w base spare held n 3 [c0]=some y0:=by rw [← hy0];have:=hf 0 _ rfl;simpa [zc4] using this
  obtain ⟨y1,hy1⟩:∃ y,xs[1]? = some y:=⟨_,List.getElem?_eq_getElem (by rw [hxs];decide)⟩
  have g1:DataW.trod enc prog w base spare held n 3 [c1]=some y1:=by rw [← hy1];have:=hf 1 _ rfl;simpa [zc4] using this
  obtain ⟨y2,hy2⟩:∃ y,xs[2]? = some y:=⟨_,List.getElem?_eq_getElem (by rw [hxs];decide)⟩
  have g2:DataW.trod enc prog w base spare held n 28 [c2]=some y2:=by rw [← hy2];have:=hf 2 _ rfl;simpa [zo7] using this
  obtain ⟨a,e0,_,w0⟩:=DataW.trod_int Tryz.underlying3 g0
  obtain ⟨c,e1,_,w1⟩:=DataW.trod_int Tryz.underlying3 g1
  obtain ⟨A,m,cap,e2⟩:=Joins.slice_form Tryz.underlying28 g2
  simp only [List.cons.injEq,and_true] at e0 e1 e2
  subst e0 e1 e2
  obtain ⟨l,hl⟩:=zo5 g2
  exact ⟨⟨a,c,A,m,cap,l⟩,rfl,hl⟩
theorem zf1:∀ gs:List GA,(zdc gs).length=gs.length * 3
 | []=>rfl
 | g::gs=>by
  show (GA.cells g++zdc gs).length=_
  rw [List.length_append,zf1 gs];simp [GA.cells];omega
theorem zro {fuel:Nat} {a:Option Addr} {len cap:Nat} {x:DataW H×List MemPlace} (h:DataW.trod enc prog w base spare held fuel 22 [.slice a len cap]=some x):∃ gs,ArgsG w a len cap gs:=by
 rcases open_slice Tryz.underlying22 h with ⟨hcs,_⟩ | ⟨ad,len',cap',m,n,D,Pl,hcs,hb,hl,hm,hmm,_,hi⟩
 ·simp only [List.cons.injEq,Value.slice.injEq,and_true] at hcs
  obtain ⟨rfl,rfl,rfl⟩:=hcs
  exact ⟨[],Rd.nil _ _ _,rfl,Nat.le_refl _,by omega,by simp⟩
 ·simp only [List.cons.injEq,Value.slice.injEq,and_true] at hcs
  obtain ⟨rfl,rfl,rfl⟩:=hcs
  have hlm:len≤m:=by rw [hmm];split <;> omega
  haveI:Inhabited GA:=⟨⟨0,0,none,0,0,[]⟩⟩
  obtain ⟨X,hX⟩:=choose_lt (α:=GA) (n:=len) (p:=fun i y=>w.cells? base (ad.add (i * 3)) 3=some y.cells∧ArrIn w y.A y.n y.cap y.l) (fun i hil=>by
   obtain ⟨cs',h1,h2⟩:=hi i (by omega)
   rw [zjr] at h1
   obtain ⟨y,rfl,hy⟩:=zo8 h2
   exact ⟨y,h1,hy⟩)
  refine ⟨(List.range len).map X,?_,by simp,hl,by simp only [maxLen] at hm;omega,?_⟩
  ·intro j u hu
   have hj:j / 3 < len:=by
    have:=(List.getElem?_eq_some_iff.1 hu).1
    rw [zf1] at this
    simp at this
    omega
   have hat:=zgf ((List.range len).map X) (j / 3) (X (j / 3)) (by simp [hj]) (j % 3) (by omega)
   rw [show j / 3 * 3+j % 3=j by omega,hu] at hat
   obtain ⟨_,_,hc⟩:=World.cells?_some (hX (j / 3) hj).1
   have h6:=hc (j % 3) (by omega)
   rw [← hat,Go.Deep.add_add,show j / 3 * 3+j % 3=j by omega] at h6
   obtain ⟨b,off,spot⟩:=ad
   have hsp:spot=none:=by
    obtain ⟨_,_,hc0⟩:=World.cells?_some (hX 0 (by omega)).1
    have h0:=hc0 0 (by omega)
    simp [Addr.add,GA.cells] at h0
    exact World.cell?_spot h0
   subst hsp
   rw [Addr.add_mid] at h6
   exact ⟨b,off,rfl,Nat.zero_le _,h6⟩
  ·intro y hy
   simp only [List.mem_map,List.mem_range] at hy
   obtain ⟨i,hi',rfl⟩:=hy
   exact (hX i hi').2
theorem zo9 {r:Reach} {b0:Nat} {v:Value} {d:DataW H} {p:List MemPlace} (hv:Value.okWide prog w r b0 22 v) (h:DataW.Trod enc prog w base spare held 22 v d p) :
  ∃ (A:Option Addr) (n cap:Nat) (gs:List GA),v = .slice A n cap∧ArgsG w A n cap gs:=by
 obtain ⟨A,n,cap,rfl⟩:=okWide_slice Tryz.underlying22 hv
 obtain ⟨fuel,hf⟩:=h
 obtain ⟨gs,hl⟩:=zro hf
 exact ⟨A,n,cap,gs,rfl,hl⟩
end Go.Proofs.YtkoidgbgoccgmaaGreatDoor
