/- What the rows' proofs lean on: the contracts of the functions that they reach, and plain facts (part C3). -/
import Derived.Lib.Bytealg
import Derived.Laws.RangeAny
import Derived.Maps.OwnSet
import Derived.Maps.Own
import Derived.Laws.EntriesVeiled
import Derived.Test.YtinjdacijiohiaaGreatDoorC2
set_option linter.unusedSimpArgs false
set_option linter.unusedVariables false
set_option maxRecDepth 100000
set_option maxHeartbeats 4000000
namespace Go.Proofs.YtinjdacijiohiaaGreatDoor
open _root_.Go.Proofs.Tryz
open Go.RowKit NM
def zbr (m e:Int):Nat->Option (Int×Int)
 | 0=>some (1,0)
 | n+1=>(zbr m e n).bind λp=>mulS p.1 p.2 m e
def zbd (m e n:Int):Option (Int×Int):=
 if ¬ Rt m e∨n < -1000∨1000<n then none
 else if n<0 then(zbr m e (-n).toNat).bind λp=>divS 1 0 p.1 p.2
 else zbr m e n.toNat
theorem zpo {ma ea mb eb} {p:Int×Int} (h:mulS ma ea mb eb=some p):Rt p.1 p.2:=by
 unfold mulS at h;split at h
 ·exact rnd_right h
 ·cases h
theorem zg5 {m e:Int} : ∀ {n:Nat} {p:Int×Int},zbr m e n=some p->Rt p.1 p.2
 | 0,p,h=>by cases h;exact zcP
 | n+1,p,h=>by
  rw[zbr] at h;cases hp:zbr m e n with
  | none=>rw[hp] at h;cases h
  | some q=>rw[hp] at h;exact zpo h
theorem zll {m e n} {p:Int×Int} (h:zbr m e n=some p):zbr m e (n+1)=mulS p.1 p.2 m e:=by rw[zbr,h];rfl
theorem zig {m e:Int} {n:Nat} (h:zbr m e n=none):∀ k,zbr m e (n+k)=none
 | 0=>h
 | k+1=>by rw[<-Nat.add_assoc,zbr,zig h k];rfl
theorem zR {m e} (h:Rt m e):I64 m∧I64 e:=by
 obtain⟨b1,b2,b3⟩:=zac h;unfold I64;omega
def PV (w:World) (p:Nat) (m e:Int):Prop:=w.heap[p]? = some (.cells #[.int .i64 m,.int .i64 e] 36 (0,0))
theorem PV.c0 {w p m e} (h:PV w p m e):w.cell? ⟨p,0,none⟩=some (.int .i64 m):=by rw[cell_of_row w p 0 _ _ (0,0) h];rfl
theorem PV.c1 {w p m e} (h:PV w p m e):w.cell? ⟨p,1,none⟩=some (.int .i64 e):=by rw[cell_of_row w p 1 _ _ (0,0) h];rfl
theorem PV.fz {w p m e} (h:PV w p m e) (o):w.frozen? ⟨p,o,none⟩=false:=frozen_of_row w p o _ _ h
theorem PV.lt {w p m e} (h:PV w p m e):p<w.heap.size:=z7 h
theorem PV.ext {w w' p m e} (h:PV w p m e) (hx:Ext w w'):PV w' p m e:=by unfold PV;rw[hx.block h.lt];exact h
theorem PV.set {w p m e} (h:PV w p m e) (m' e'):PV ((w.setCell ⟨p,0,none⟩ (.int .i64 m')).setCell ⟨p,1,none⟩ (.int .i64 e')) p m' e':=by
 have h1:=heap_setCell_same w p 0 _ _ (.int .i64 m') h;have h2:=heap_setCell_same _ p 1 _ _ (.int .i64 e') h1;exact h2
theorem PV.new {w:World} {n} (m e) (hn:n=w.heap.size):PV (w.alloc (.cells #[.int .i64 m,.int .i64 e] 36)) n m e:=by subst hn;exact Array.getElem?_push_size
theorem pow_pos (m ex) (n:Nat) (w) (htab:Tab w) (h:Rt m ex) (hn:n<=1000) :
  Tl prog 239 #[NV m ex,.int .i64 (n:Int)] w (rnV (zbr m ex n)):=by
 have r1:=zD h;obtain⟨hm,he⟩:=zR h;generalize hRR:zbr m ex n=R;have HRR:=Lib.hid hRR;have HT:=Lib.hid htab;have HR:=Lib.hid h;clear hRR htab h;have hn1:¬ ((n:Int) < -1000):=by omega
 have hn2:¬ (1000<(n:Int)):=by omega
 have hn3:¬ ((n:Int)<0):=by omega
 go_enter func239,ntmps239;go_upto_region 9 with(go_at_call 104;(with_reducible refine(zw _ _ _ (by assumption)).mono ?_);rintro e w' ⟨rfl,hbr⟩;obtain⟨osr,dr,rfl⟩:=hbr.more);refine zH λW hW=>?_;have c0:W.cell? ⟨w.heap.size,0,none⟩=some (.int .i64 m):=by rw[hW];go_simp
 have c1:W.cell? ⟨w.heap.size,1,none⟩=some (.int .i64 ex):=by rw[hW];go_simp
 have c2:W.cell? ⟨w.heap.size+1,0,none⟩=some (.int .i64 0):=by rw[hW];go_simp
 have c3:W.cell? ⟨w.heap.size+1,1,none⟩=some (.int .i64 0):=by rw[hW];go_simp
 have f2:W.frozen? ⟨w.heap.size+1,0,none⟩=false:=by rw[hW];go_simp
 have f3:W.frozen? ⟨w.heap.size+1,1,none⟩=false:=by rw[hW];go_simp
 have o0:W.cell? ⟨w.heap.size+1+1+osr.size,0,none⟩=some (.int .i64 1):=by rw[hW];go_simp
 have o1:W.cell? ⟨w.heap.size+1+1+osr.size,1,none⟩=some (.int .i64 0):=by rw[hW];go_simp
 have hz1:w.heap.size+1<W.heap.size:=by rw[hW];simp;try omega
 have hz0:w.heap.size<W.heap.size:=by omega
 have hxW:Ext w W:=by rw[hW];exact by simp[go_sem]
 clear hW hbr;have hPV:PV (W.alloc (.cells #[.int .i64 1,.int .i64 0] 36)) W.heap.size 1 0:=PV.new 1 0 rfl;have HPV:=Lib.hid hPV;clear hPV;go_wp2;go_loopw [44] (λi wr=>∃ (j:Nat) (p:Int×Int),j<=n∧i = .int .i64 (j:Int)∧Hid (PV wr W.heap.size p.1 p.2)∧Hid (zbr m ex j=some p)∧Ext W wr) (λi _=>n-(intOf i).toNat)
 case atStart=>exact⟨0,(1,0),Nat.zero_le _,rfl,HPV,by show _=_;rfl,(Ext.refl _).alloc _⟩
 case round=>
  obtain⟨j,p,hj,rfl,HP,HJ,hxr⟩:=hrel;have p0:=HP.out.c0;have p1:=HP.out.c1;have pf0:=HP.out.fz 0;have pf1:=HP.out.fz 1;have plt:=HP.out.lt;have hsz:=hxr.size;have c0':=hxr.cell_some c0;have c1':=hxr.cell_some c1;have hz1':w.heap.size+1<wr.heap.size:=by omega
  have hz0':w.heap.size<wr.heap.size:=by omega
  by_cases hlt:j<n
  ·have hst:=zll HJ.out;have hmu:=zhD p.1 p.2 m ex wr ((HT.out.ext hxW).ext hxr) (zR (zg5 HJ.out)).1 hm;rw[<-hst] at hmu;cases hq:zbr m ex (j+1) with
   | none=>
    rw[hq] at hmu;have HN:Hid (R=none):=by
     show _=_;have:=zig hq (n-(j+1));rw[show j+1+(n-(j+1))=n by omega] at this;rw[<-HRR.out,this]
    have c2':=hxr.cell_some c2;have c3':=hxr.cell_some c3;have f2':=(hxr.frozen (p:=⟨w.heap.size+1,0,none⟩) hz1).trans f2;have f3':=(hxr.frozen (p:=⟨w.heap.size+1,1,none⟩) hz1).trans f3;clear hst hq;go_wp2_with (go_at_call 119;(with_reducible refine hmu.mono ?_);rintro e w' ⟨rfl,hx⟩;obtain⟨os2,d2,rfl⟩:=hx.more);refine bodyPost_ret (v:=.tuple #[NV 0 0,.bool false]) (by simp[results,results239,go_sem,hz1',c2',c3']) rfl ⟨?_,((((hxW.trans hxr).set _ (Nat.le_succ _)).set _ (Nat.le_succ _)).more_ _ _).alloc _⟩;rw[HN.out];rfl
   | some q=>
    rw[hq] at hmu;have HQ:=Lib.hid hq;clear hst hq;go_wp2_with (go_at_call 119;(with_reducible refine hmu.mono ?_);rintro e w' ⟨rfl,hx⟩;obtain⟨os2,d2,rfl⟩:=hx.more);exact⟨⟨j+1,q,by omega,by go_num,(((HP.out.set q.1 q.2).ext (zao _ os2 d2)).ext ((Ext.refl _).alloc _)),HQ,((((hxr.set _ (Nat.le_refl _)).set _ (Nat.le_refl _)).more_ _ _).alloc _)⟩,by simp[intOf];omega⟩
  ·obtain rfl:j=n:=by omega
   have HN:Hid (R=some p):=by show _=_;rw[<-HRR.out,HJ.out]
   have c2':=hxr.cell_some c2;have c3':=hxr.cell_some c3;have f2':=(hxr.frozen (p:=⟨w.heap.size+1,0,none⟩) hz1).trans f2;have f3':=(hxr.frozen (p:=⟨w.heap.size+1,1,none⟩) hz1).trans f3;go_wp2;refine bodyPost_ret (v:=.tuple #[NV p.1 p.2,.bool true]) (by simp[results,results239,go_sem,hz1',c2',c3']) rfl ⟨?_,((hxW.trans hxr).set _ (Nat.le_succ _)).set _ (Nat.le_succ _)⟩;rw[HN.out];rfl
theorem zsX (m ex n w) (htab:Tab w) (hm:I64 m) (hn:I64 n) :
  Tl prog 239 #[NV m ex,.int .i64 n] w (rnV (zbd m ex n)):=by
 by_cases h:Rt m ex
 ·have r1:=zD h;by_cases h1:n < -1000
  ·have hs:zbd m ex n=none:=by unfold zbd;rw[if_pos (Or.inr (Or.inl h1))]
   rw[hs];clear hs h;go_enter func239,ntmps239;go_wp2_with (go_at_call 104;with_reducible refine aM (zw _ _ _ (by assumption)) λosr dr=>?_);exact rct (v:=NV 0 0) rfl rfl (by simp[go_sem]) ⟨rfl,by simp[go_sem]⟩
  ·by_cases h2:1000<n
   ·have hs:zbd m ex n=none:=by unfold zbd;rw[if_pos (Or.inr (Or.inr h2))]
    rw[hs];clear hs h;go_enter func239,ntmps239;go_wp2_with (go_at_call 104;with_reducible refine aM (zw _ _ _ (by assumption)) λosr dr=>?_);exact rct (v:=NV 0 0) rfl rfl (by simp[go_sem]) ⟨rfl,by simp[go_sem]⟩
   ·by_cases h3:n<0
    ·obtain⟨k,hk⟩:∃ k:Nat,-n=(k:Int):=⟨(-n).toNat,by omega⟩;have hs:zbd m ex n=(zbr m ex k).bind λp=>divS 1 0 p.1 p.2:=by
      unfold zbd;rw[if_neg (by rintro(h4 | h4 | h4);exact h4 h;omega;omega),if_pos h3,hk];rfl
     have hpp:=λW hW=>pow_pos m ex k W hW h (by omega);have hdv:=λW hW (p:Int×Int) (hp:zbr m ex k=some p)=>zf3 1 0 p.1 p.2 W hW (zR zcP).1 (zR (zg5 hp)).1;have w1:wrap64 (-n)=-n:=IntWalk.wrap64_in _ (by omega);have HT:=Lib.hid htab;rw[hs];cases hp:zbr m ex k with
     | none=>
      rw[hp] at hpp;clear hs h hdv hp htab;go_enter func239,ntmps239;go_wp2_with (first | (go_at_call 104;with_reducible refine aM (zw _ _ _ (by assumption)) λosr dr=>?_) | (go_at_call 239;with_reducible refine aM (hpp _ (HT.out.ext (by simp[go_sem]))) λos2 d2=>?_));exact rct (v:=NV 0 0) rfl rfl (by simp[go_sem]) ⟨rfl,by simp[go_sem]⟩
     | some p=>
      have hd:=λW hW=>hdv W hW p hp;rw[hp] at hpp;show Calls _ _ _ _ λe w'=>e = .returned (rnV (divS 1 0 p.1 p.2))∧Ext w w';generalize divS 1 0 p.1 p.2=R at *;clear hs h hdv hp htab;go_enter func239,ntmps239;go_wp2_with (first | (go_at_call 104;with_reducible refine aM (zw _ _ _ (by assumption)) λosr dr=>?_) | (go_at_call 239;with_reducible refine aM (hpp _ (HT.out.ext (by simp[go_sem]))) λos2 d2=>?_) | (go_at_call 97;refine aM (hd _ (HT.out.ext (by simp[go_sem]))) λos3 d3=>?_));exact rct rfl rfl (by simp[go_sem]) ⟨rfl,by simp[go_sem]⟩
    ·obtain⟨k,rfl⟩:∃ k:Nat,n=(k:Int):=⟨n.toNat,by omega⟩;have hs:zbd m ex (k:Int)=zbr m ex k:=by
      unfold zbd;rw[if_neg (by rintro(h4 | h4 | h4);exact h4 h;omega;omega),if_neg h3];rfl
     rw[hs];exact pow_pos m ex k w htab h (by omega)
 ·have r1:=zae h;have hs:zbd m ex n=none:=by unfold zbd;rw[if_pos (Or.inl h)]
  rw[hs];clear hs h;go_enter func239,ntmps239;go_wp2_with (go_at_call 104;with_reducible refine aM (zw _ _ _ (by assumption)) λosr dr=>?_);exact rct (v:=NV 0 0) rfl rfl (by simp[go_sem]) ⟨rfl,by simp[go_sem]⟩
theorem zrx (m ex n k w) (h:Rt m ex) (hn1:¬ n < -1000) (hn2:¬ 1000<n) (hk:k=n.natAbs) :
  Tl prog 135 #[NV m ex,.int .i64 n] w (rnV (if n<0 then(zbr m ex k).bind λp=>divS 1 0 p.1 p.2 else zbr m ex k)):=by
 have r1:=zD h;obtain⟨hm,he⟩:=zR h;generalize hRR:(if n<0 then(zbr m ex k).bind λp=>divS 1 0 p.1 p.2 else zbr m ex k)=R;have HRR:=Lib.hid hRR;have HR:=Lib.hid h;have HK:=Lib.hid hk;have hkb:k<=1000:=by omega
 clear hRR h hk;go_enter func135,ntmps135;go_upto_region 3 with(go_at_call 125;(with_reducible refine(zy _ _ _ (by assumption)).mono ?_);rintro e w' ⟨rfl,hbr⟩;obtain⟨osr,dr,rfl⟩:=hbr.more);refine zH λW hW=>?_;have c0:W.cell? ⟨w.heap.size,0,none⟩=some (.int .i64 m):=by rw[hW];go_simp
 have c1:W.cell? ⟨w.heap.size,1,none⟩=some (.int .i64 ex):=by rw[hW];go_simp
 have c2:W.cell? ⟨w.heap.size+1,0,none⟩=some (.int .i64 0):=by rw[hW];go_simp
 have c3:W.cell? ⟨w.heap.size+1,1,none⟩=some (.int .i64 0):=by rw[hW];go_simp
 have f2:W.frozen? ⟨w.heap.size+1,0,none⟩=false:=by rw[hW];go_simp
 have f3:W.frozen? ⟨w.heap.size+1,1,none⟩=false:=by rw[hW];go_simp
 have hz1:w.heap.size+1<W.heap.size:=by rw[hW];simp;try omega
 have hz0:w.heap.size<W.heap.size:=by omega
 have hxW:Ext w W:=by rw[hW];exact by simp[go_sem]
 clear hW hbr;go_upto_if 25 with fail
 go_cut [6] (λs6 wx=>s6 = .int .i64 (k:Int)∧wx=W)
 case first=>
  by_cases hng:n<0
  ·have w1:wrap64 (-n)=-n:=IntWalk.wrap64_in _ (by omega);have HE:Hid (-n=(k:Int)):=by show _=_;rw[HK.out];omega
   go_wp2;go_meet;exact⟨by first | rw[w1,HE.out] | rw[HE.out],rfl⟩
  ·have HE:Hid (n=(k:Int)):=by show _=_;rw[HK.out];omega
   go_wp2;go_meet;exact⟨by rw[<-HE.out],rfl⟩
 case rest=>
 obtain⟨rfl,rfl⟩:=hcut;have HPV:=Lib.hid (PV.new (w:=wc) 1 0 rfl);go_wp2;go_loopw [8] (λi wr=>∃ (j:Nat) (p:Int×Int),j<=k∧i = .int .i64 (j:Int)∧Hid (PV wr wc.heap.size p.1 p.2)∧Hid (zbr m ex j=some p)∧Ext wc wr) (λi _=>k-(intOf i).toNat)
 case atStart=>exact⟨0,(1,0),Nat.zero_le _,rfl,HPV,by show _=_;rfl,(Ext.refl _).alloc _⟩
 case round=>
  obtain⟨j,p,hj,rfl,HP,HJ,hxr⟩:=hrel;have p0:=HP.out.c0;have p1:=HP.out.c1;have pf0:=HP.out.fz 0;have pf1:=HP.out.fz 1;have plt:=HP.out.lt;have hsz:=hxr.size;have c0':=hxr.cell_some c0;have c1':=hxr.cell_some c1;have hz1':w.heap.size+1<wr.heap.size:=by omega
  have hz0':w.heap.size<wr.heap.size:=by omega
  have c2':=hxr.cell_some c2;have c3':=hxr.cell_some c3;have f2':=(hxr.frozen (p:=⟨w.heap.size+1,0,none⟩) hz1).trans f2;have f3':=(hxr.frozen (p:=⟨w.heap.size+1,1,none⟩) hz1).trans f3;by_cases hlt:j<k
  ·have hst:=zll HJ.out;have hmu:=zgl p.1 p.2 m ex wr (zR (zg5 HJ.out)).1 hm;rw[<-hst] at hmu;cases hq:zbr m ex (j+1) with
   | none=>
    rw[hq] at hmu;have HN:Hid (R=none):=by
     show _=_;have:=zig hq (k-(j+1));rw[show j+1+(k-(j+1))=k by omega] at this;rw[<-HRR.out,this];split <;> rfl
    clear hst hq;go_wp2_with (go_at_call 132;(with_reducible refine hmu.mono ?_);rintro e w' ⟨rfl,hx⟩;obtain⟨os2,d2,rfl⟩:=hx.more);refine bodyPost_ret (v:=.tuple #[NV 0 0,.bool false]) (by simp[results,results135,go_sem,hz1',c2',c3']) rfl ⟨?_,((((hxW.trans hxr).set _ (Nat.le_succ _)).set _ (Nat.le_succ _)).more_ _ _).alloc _⟩;rw[HN.out];rfl
   | some q=>
    rw[hq] at hmu;have HQ:=Lib.hid hq;clear hst hq;go_wp2_with (go_at_call 132;(with_reducible refine hmu.mono ?_);rintro e w' ⟨rfl,hx⟩;obtain⟨os2,d2,rfl⟩:=hx.more);exact⟨⟨j+1,q,by omega,by go_num,(((HP.out.set q.1 q.2).ext (zao _ os2 d2)).ext ((Ext.refl _).alloc _)),HQ,((((hxr.set _ (Nat.le_refl _)).set _ (Nat.le_refl _)).more_ _ _).alloc _)⟩,by simp[intOf];omega⟩
  ·obtain rfl:j=k:=by omega
   by_cases hng:n<0
   ·have HN:Hid (R=divS 1 0 p.1 p.2):=by show _=_;rw[<-HRR.out,if_pos hng,HJ.out];rfl
    have hdv:=zfb 1 0 p.1 p.2 wr (zR zcP).1 (zR (zg5 HJ.out)).1;rw[<-HN.out] at hdv;go_wp2_with (go_at_call 133;(refine hdv.mono ?_);rintro e w' ⟨rfl,hx⟩;obtain⟨os2,d2,rfl⟩:=hx.more);exact bodyPost_ret (v:=rnV R) (by simp[results,results135,go_sem,hz1',c2',c3']) rfl ⟨rfl,(((hxW.trans hxr).set _ (Nat.le_succ _)).set _ (Nat.le_succ _)).more_ _ _⟩
   ·have HN:Hid (R=some p):=by show _=_;rw[<-HRR.out,if_neg hng,HJ.out]
    go_wp2;refine bodyPost_ret (v:=.tuple #[NV p.1 p.2,.bool true]) (by simp[results,results135,go_sem,hz1',c2',c3']) rfl ⟨?_,((hxW.trans hxr).set _ (Nat.le_succ _)).set _ (Nat.le_succ _)⟩;rw[HN.out];rfl
theorem zlm (m ex n w) (hm:I64 m) (hn:I64 n) :
  Tl prog 135 #[NV m ex,.int .i64 n] w (rnV (zbd m ex n)):=by
 by_cases h:Rt m ex
 ·have r1:=zD h;by_cases h1:n < -1000
  ·have hs:zbd m ex n=none:=by unfold zbd;rw[if_pos (Or.inr (Or.inl h1))]
   rw[hs];clear hs h;go_enter func135,ntmps135;go_wp2_with (go_at_call 125;with_reducible refine aM (zy _ _ _ (by assumption)) λosr dr=>?_);exact rct (v:=NV 0 0) rfl rfl (by simp[go_sem]) ⟨rfl,by simp[go_sem]⟩
  ·by_cases h2:1000<n
   ·have hs:zbd m ex n=none:=by unfold zbd;rw[if_pos (Or.inr (Or.inr h2))]
    rw[hs];clear hs h;go_enter func135,ntmps135;go_wp2_with (go_at_call 125;with_reducible refine aM (zy _ _ _ (by assumption)) λosr dr=>?_);exact rct (v:=NV 0 0) rfl rfl (by simp[go_sem]) ⟨rfl,by simp[go_sem]⟩
   ·have hs:zbd m ex n=if n<0 then(zbr m ex n.natAbs).bind λp=>divS 1 0 p.1 p.2 else zbr m ex n.natAbs:=by
     unfold zbd;rw[if_neg (by rintro(h4 | h4 | h4);exact h4 h;omega;omega)];by_cases h3:n<0
     ·rw[if_pos h3,if_pos h3,show(-n).toNat=n.natAbs by omega]
     ·rw[if_neg h3,if_neg h3,show n.toNat=n.natAbs by omega]
    rw[hs];exact zrx m ex n _ w h h1 h2 rfl
 ·have r1:=zae h;have hs:zbd m ex n=none:=by unfold zbd;rw[if_pos (Or.inl h)]
  rw[hs];clear hs h;go_enter func135,ntmps135;go_wp2_with (go_at_call 125;with_reducible refine aM (zy _ _ _ (by assumption)) λosr dr=>?_);exact rct (v:=NV 0 0) rfl rfl (by simp[go_sem]) ⟨rfl,by simp[go_sem]⟩
theorem zln (m ex w) :
  Tl prog 105 #[NV m ex] w (.int .i64 m.sign):=by
 rcases Int.lt_trichotomy m 0 with h | h | h
 ·rw[Int.sign_eq_neg_one_of_neg h];go_enter func105,ntmps105;go_wp2;go_ret;exact⟨rfl,by simp[go_sem]⟩
 ·subst h;go_enter func105,ntmps105;go_wp2;go_ret;exact⟨rfl,by simp[go_sem]⟩
 ·rw[Int.sign_eq_one_of_pos h];have h':¬ m<0:=by omega
  go_enter func105,ntmps105;go_wp2;go_ret;exact⟨rfl,by simp[go_sem]⟩
def zb8 (x y:Nat):Int:=if x<y then -1 else if y<x then 1 else 0
theorem zng {x y ka kb} (hx:x≠0) (hy:y≠0) (h:nd x+ka<nd y+kb):x*T ka<y*T kb:=by
 have h1:=lt_T_nd (x*T ka);rw[nd_mul_T ka hx] at h1;have h2:=T_le_of_nd (Nat.mul_ne_zero hy (by have:=T_pos kb;omega):y*T kb≠0);rw[nd_mul_T kb hy] at h2;have h3:T (nd x+ka)<=T (nd y+kb-1):=T_mono (by omega);omega
theorem zry {x y ka kb} (hx:nd x<=15) (hy:nd y<=15) (h:nd x+ka=nd y+kb):zb8 (x*T ka) (y*T kb)=zb8 (x*T (15-nd x)) (y*T (15-nd y)):=by
 have e1:x*T (15-nd x)*T (nd x+ka)=x*T ka*T 15:=by
  rw[Nat.mul_assoc,<-T_add,Nat.mul_assoc,<-T_add];congr 2;omega
 have e2:y*T (15-nd y)*T (nd x+ka)=y*T kb*T 15:=by
  rw[Nat.mul_assoc,<-T_add,Nat.mul_assoc,<-T_add];congr 2;omega
 have p1:=T_pos (nd x+ka);have p2:=T_pos 15;have i1:x*T ka<y*T kb↔x*T (15-nd x)<y*T (15-nd y):=by
  rw[<-Nat.mul_lt_mul_right p2,<-e1,<-e2,Nat.mul_lt_mul_right p1]
 have i2:y*T kb<x*T ka↔y*T (15-nd y)<x*T (15-nd x):=by
  rw[<-Nat.mul_lt_mul_right p2,<-e1,<-e2,Nat.mul_lt_mul_right p1]
 unfold zb8;rw[ite_iff _ _ i1,ite_iff _ _ i2]
theorem zj8 (n:Nat) (w) (h:n<18446744073709551616) (h0:n≠0) :
  Calls prog 166 #[.int .u64 (n:Int)] w λe w'=>e = .returned (.int .i64 ((nd n:Nat):Int))∧w=w':=by
 have:=zjW n w (by omega) (by omega);rw[show zbj (n:Int)=((nd n:Nat):Int) by unfold zbj;rw[Int.toNat_natCast,zo9 h0]] at this;exact this
theorem zmz (ma ea mb eb) (ka kb:Nat) (w) (h1:Rt ma ea) (h2:Rt mb eb) (h0:ma=0↔mb=0) (hk:ea-(ka:Int)=eb-(kb:Int)) :
  Tl prog 106 #[NV ma ea,NV mb eb] w (.int .i64 (zb8 (ma.natAbs*T ka) (mb.natAbs*T kb))):=by
 by_cases hz:ma=0
 ·have hz':=h0.1 hz;rw[hz,hz',show(0:Int).natAbs=0 from rfl,Nat.zero_mul,Nat.zero_mul];go_enter func106,ntmps106;go_wp2;go_ret;exact⟨rfl,by simp[go_sem]⟩
 ·have hz':mb≠0:=λh=>hz (h0.2 h);have e0:(ma==0)=false:=by simp[hz]
  obtain⟨b1,b2,b3⟩:=zac h1;obtain⟨b4,b5,b6⟩:=zac h2;have hma:I64 ma:=by unfold I64;omega
  have hmb:I64 mb:=by unfold I64;omega
  have hsa:=λW=>za4 ma W hma;have hsb:=λW=>za4 mb W hmb;have hca:=λW=>zj8 ma.natAbs W (by omega) (by omega);have hcb:=λW=>zj8 mb.natAbs W (by omega) (by omega);have hT15:T 15=1000000000000000:=by decide
  have n1:nd ma.natAbs<=15:=(nd_le_iff _ _).2 (by omega);have n2:nd mb.natAbs<=15:=(nd_le_iff _ _).2 (by omega);have hpa:=λW=>zfu (15-nd ma.natAbs) W (by omega);have hpb:=λW=>zfu (15-nd mb.natAbs) W (by omega);have hna:ma.natAbs≠0:=by omega
  have hnb:mb.natAbs≠0:=by omega
  have l1:ma.natAbs*T (15-nd ma.natAbs)<1000000000000000:=by
   have:=Nat.mul_lt_mul_of_pos_right (lt_T_nd ma.natAbs) (T_pos (15-nd ma.natAbs));rw[<-T_add,show nd ma.natAbs+(15-nd ma.natAbs)=15 by omega,hT15] at this;exact this
  have l2:mb.natAbs*T (15-nd mb.natAbs)<1000000000000000:=by
   have:=Nat.mul_lt_mul_of_pos_right (lt_T_nd mb.natAbs) (T_pos (15-nd mb.natAbs));rw[<-T_add,show nd mb.natAbs+(15-nd mb.natAbs)=15 by omega,hT15] at this;exact this
  have ct1:=zng (x:=ma.natAbs) (y:=mb.natAbs) (ka:=ka) (kb:=kb) hna hnb;have ct2:=zng (x:=mb.natAbs) (y:=ma.natAbs) (ka:=kb) (kb:=ka) hnb hna;have ct3:=zry (x:=ma.natAbs) (y:=mb.natAbs) (ka:=ka) (kb:=kb) n1 n2;clear h1 h2 h0 hz hz' hna hnb hT15;generalize ma.natAbs=Na at *;generalize mb.natAbs=Nb at *;have ca:(15:Int)-(nd Na:Int)=((15-nd Na:Nat):Int):=by omega
  have cb:(15:Int)-(nd Nb:Int)=((15-nd Nb:Nat):Int):=by omega
  generalize hda:nd Na=da at *;generalize hdb:nd Nb=db at *;clear hda hdb;rcases Int.lt_trichotomy ((da:Int)+ea) ((db:Int)+eb) with ht | ht | ht
  rw[show zb8 (Na*T ka) (Nb*T kb)=-1 by unfold zb8;rw[if_pos (ct1 (by omega))]];have e1:((da:Int)+ea==(db:Int)+eb)=false:=by simp;omega
  clear ct1 ct2 ct3 hk;rotate_left
  rw[ct3 (by omega)];have e1:((da:Int)+ea==(db:Int)+eb)=true:=by simp;omega
  clear ct1 ct2 ct3 hk;generalize T (15-da)=Ta at *;generalize T (15-db)=Tb at *;have m1:(Na:Int)*(Ta:Int)=((Na*Ta:Nat):Int):=by rw[Int.natCast_mul]
  have m2:(Nb:Int)*(Tb:Int)=((Nb*Tb:Nat):Int):=by rw[Int.natCast_mul]
  generalize Na*Ta=Pa at *;generalize Nb*Tb=Pb at *;have w1:IntKind.u64.wrap (Pa:Int)=Pa:=by rw[IntKind.wrap_u64];omega
  have w2:IntKind.u64.wrap (Pb:Int)=Pb:=by rw[IntKind.wrap_u64];omega
  rcases Nat.lt_trichotomy Pa Pb with hc | hc | hc
  rw[show zb8 Pa Pb=-1 by unfold zb8;rw[if_pos hc]];rotate_left
  rw[show zb8 Pa Pb=0 by unfold zb8;rw[if_neg (by omega),if_neg (by omega)]];rotate_left
  rw[show zb8 Pa Pb=1 by unfold zb8;rw[if_neg (by omega),if_pos (by omega)]];have hc':¬ Pa<Pb:=by omega
  rotate_left
  have ct:=ct2 (by omega);rw[show zb8 (Na*T ka) (Nb*T kb)=1 by unfold zb8;rw[if_neg (by omega),if_pos ct]];have e1:((da:Int)+ea==(db:Int)+eb)=false:=by simp;omega
  have e2:¬ ((da:Int)+ea<(db:Int)+eb):=by omega
  clear ct ct1 ct2 ct3 hk;all_goals
   go_enter func106,ntmps106;go_wp2;refine plP [(0,0),(1,0),(3,0),(4,0),(2,1),(5,1),(6,0),(7,0)] [] (by kernel_rfl) (λ_ _ d _ _ h=>by cases d <;> exact h) ?_;iterate 4(apply rdP rfl rfl;(intros;go_simp;first | done | rfl);try simp only[zq])
   (refine zg rfl ?_ (λK hK=>?_);rfl;go_simp;(go_at_call 113;(with_reducible refine(hsa _).mono ?_);rintro e w' ⟨rfl,rfl⟩);refine hK _ _ ?_ ?_;(simp[go_sem]))
   try simp only[zq]
   (refine zg rfl ?_ (λK hK=>?_);rfl;go_simp;(go_at_call 113;(with_reducible refine(hsb _).mono ?_);rintro e w' ⟨rfl,rfl⟩);refine hK _ _ ?_ ?_;(simp[go_sem]))
   try simp only[zq]
   iterate 2(apply rdP rfl rfl;(intros;go_simp;first | done | rfl);try simp only[zq])
   refine zi ?_;go_wp2_with (first | (go_at_call_of 166 (Value.int IntKind.u64 (Na:Int));(with_reducible refine(hca _).mono ?_);rintro e w' ⟨rfl,rfl⟩) | (go_at_call 166;(with_reducible refine(hcb _).mono ?_);rintro e w' ⟨rfl,rfl⟩));refine plP [(0,0),(1,0),(2,0),(3,0),(4,0),(5,0),(6,0),(7,0),(8,0),(9,0)] [] (by kernel_rfl) (λ_ _ d _ _ h=>by cases d <;> exact h) ?_;iterate 10(apply rdP rfl rfl;(intros;go_simp;first | done | rfl);try simp only[zq])
   refine zi ?_;go_wp2_with (first | (go_at_call 114;(with_reducible refine(hpa _).mono ?_);rintro e w' ⟨rfl,rfl⟩) | (go_at_call 114;(with_reducible refine(hpb _).mono ?_);rintro e w' ⟨rfl,rfl⟩));go_ret;exact⟨rfl,by simp[go_sem]⟩
theorem zrz (A B:Int):(A-B).sign=if A.sign=B.sign then A.sign*zb8 A.natAbs B.natAbs else if A.sign<B.sign then -1 else 1:=by
 have hp:∀ x:Int,0<x->x.sign=1:=λx h=>Int.sign_eq_one_of_pos h;have hn:∀ x:Int,x<0->x.sign=-1:=λx h=>Int.sign_eq_neg_one_of_neg h;have hz:(0:Int).sign=0:=rfl;rcases Int.lt_trichotomy A 0 with a | a | a <;> rcases Int.lt_trichotomy B 0 with b | b | b
 ·rw[hn A a,hn B b,if_pos rfl];unfold zb8;rcases Int.lt_trichotomy A B with c | c | c
  ·rw[hn _ (by omega),if_neg (by omega),if_pos (by omega)];rfl
  ·rw[c,Int.sub_self,if_neg (by omega),if_neg (by omega)];rfl
  ·rw[hp _ (by omega),if_pos (by omega)];rfl
 ·rw[hn A a,b,hz,hn _ (by omega)];rfl
 ·rw[hn A a,hp B b,hn _ (by omega)];rfl
 ·rw[hn B b,a,hz,hp _ (by omega)];rfl
 ·rw[a,b];rfl
 ·rw[hp B b,a,hz,hn _ (by omega)];rfl
 ·rw[hp A a,hn B b,hp _ (by omega)];rfl
 ·rw[hp A a,b,hz,hp _ (by omega)];rfl
 ·rw[hp A a,hp B b,if_pos rfl];unfold zb8;rcases Int.lt_trichotomy A B with c | c | c
  ·rw[hn _ (by omega),if_pos (by omega)];rfl
  ·rw[c,Int.sub_self,if_neg (by omega),if_neg (by omega)];rfl
  ·rw[hp _ (by omega),if_neg (by omega),if_pos (by omega)];rfl
theorem ziL (m:Int) (k):(m*(T k:Nat)).sign=m.sign:=by
 have h:((T k:Nat):Int).sign=1:=Int.sign_eq_one_of_pos (by have:=T_pos k;omega);rw[Int.sign_mul,h,Int.mul_one]
theorem zsY (ma ea mb eb):(sumI ma ea (-mb) eb).sign=if ma.sign=mb.sign then ma.sign*zb8 (ma.natAbs*T (ea-min ea eb).toNat) (mb.natAbs*T (eb-min ea eb).toNat) else if ma.sign<mb.sign then -1 else 1:=by
 unfold sumI;rw[Int.neg_mul,<-Int.sub_eq_add_neg,zrz,ziL,ziL,Int.natAbs_mul,Int.natAbs_mul,Int.natAbs_natCast,Int.natAbs_natCast]
theorem zjw (m:Int):-1<=m.sign∧m.sign<=1:=by
 rcases Int.lt_trichotomy m 0 with a | a | a
 ·rw[Int.sign_eq_neg_one_of_neg a];omega
 ·rw[a];decide
 ·rw[Int.sign_eq_one_of_pos a];omega
theorem zsZ (x y):-1<=zb8 x y∧zb8 x y<=1:=by unfold zb8;split <;> (try split) <;> omega
theorem zs0 (ma ea mb eb w) (h1:Rt ma ea) (h2:Rt mb eb) :
  Tl prog 44 #[NV ma ea,NV mb eb] w (.int .i64 (sumI ma ea (-mb) eb).sign):=by
 obtain⟨b1,b2,b3⟩:=zac h1;obtain⟨b4,b5,b6⟩:=zac h2;have hma:I64 ma:=by unfold I64;omega
 have hmb:I64 mb:=by unfold I64;omega
 have r1:=zD h1;have r2:=zD h2;have hsa:=λW=>zln ma ea W;have hsb:=λW=>zln mb eb W;have s1:=zjw ma;have s2:=zjw mb;rw[zsY];by_cases hs:ma.sign=mb.sign
 ·have hcs:=λW=>zmz ma ea mb eb (ea-min ea eb).toNat (eb-min ea eb).toNat W h1 h2 (by rw[<-Int.sign_eq_zero_iff_zero,<-Int.sign_eq_zero_iff_zero (a:=mb),hs]) (by omega);rw[if_pos hs];have s3:=zsZ (ma.natAbs*T (ea-min ea eb).toNat) (mb.natAbs*T (eb-min ea eb).toNat);generalize zb8 (ma.natAbs*T (ea-min ea eb).toNat) (mb.natAbs*T (eb-min ea eb).toNat)=C at *;rw[<-hs] at hsb;clear s2 hs h1 h2;generalize ma.sign=sa at *;have w1:IntKind.i64.wrap (sa*C)=sa*C:=by
   have h6:sa=-1∨sa=0∨sa=1:=by omega
   rcases h6 with h | h | h <;> rw[h] <;> exact zaD (by omega) (by omega)
  have w2:wrap64 (sa*C)=sa*C:=by
   have h6:sa=-1∨sa=0∨sa=1:=by omega
   rcases h6 with h | h | h <;> rw[h] <;> exact IntWalk.wrap64_in _ (by omega)
  go_enter func44,ntmps44;go_wp2_with (go_at_call 104;with_reducible refine aM (zw _ _ _ (by assumption)) λosr dr=>?_);refine plP [(0,0),(2,0),(1,1),(3,1),(4,0),(5,0)] [] (by kernel_rfl) (λ_ _ d _ _ h=>by cases d <;> exact h) ?_;iterate 2(apply rdP rfl rfl;(intros;go_simp;first | done | rfl);try simp only[zq])
  (refine zg rfl ?_ (λK hK=>?_);rfl;go_simp;(go_at_call 105;with_reducible refine aM (hsa _) λos1 d1=>?_);refine hK _ _ ?_ ?_;(simp[go_sem]))
  try simp only[zq]
  (refine zg rfl ?_ (λK hK=>?_);rfl;go_simp;(go_at_call 105;with_reducible refine aM (hsb _) λos2 d2=>?_);refine hK _ _ ?_ ?_;(simp[go_sem]))
  try simp only[zq]
  iterate 2(apply rdP rfl rfl;(intros;go_simp;first | done | rfl);try simp only[zq])
  refine zi ?_;go_wp2;refine plP [(0,0),(2,0),(3,0),(1,1),(4,1),(5,0),(6,0)] [] (by kernel_rfl) (λ_ _ d _ _ h=>by cases d <;> exact h) ?_;iterate 3(apply rdP rfl rfl;(intros;go_simp;first | done | rfl);try simp only[zq])
  (refine zg rfl ?_ (λK hK=>?_);rfl;go_simp;(go_at_call 105;with_reducible refine aM (hsa _) λos1 d1=>?_);refine hK _ _ ?_ ?_;(simp[go_sem]))
  try simp only[zq]
  (refine zg rfl ?_ (λK hK=>?_);rfl;go_simp;(go_at_call 106;with_reducible refine aM (hcs _) λos2 d2=>?_);refine hK _ _ ?_ ?_;(simp[go_sem]))
  try simp only[zq]
  iterate 2(apply rdP rfl rfl;(intros;go_simp;first | done | rfl);try simp only[zq])
  refine zi ?_;go_wp2;go_ret;exact⟨rfl,by simp[go_sem]⟩
 ·rw[if_neg hs];have e1:(ma.sign==mb.sign)=false:=by simp[hs]
  generalize ma.sign=sa at *;generalize mb.sign=sb at *;by_cases hl:sa<sb
  rw[if_pos hl];rotate_left
  rw[if_neg hl];all_goals
   clear h1 h2 hs;go_enter func44,ntmps44;go_wp2_with (go_at_call 104;with_reducible refine aM (zw _ _ _ (by assumption)) λosr dr=>?_);refine plP [(0,0),(2,0),(1,1),(3,1),(4,0),(5,0)] [] (by kernel_rfl) (λ_ _ d _ _ h=>by cases d <;> exact h) ?_;iterate 2(apply rdP rfl rfl;(intros;go_simp;first | done | rfl);try simp only[zq])
   (refine zg rfl ?_ (λK hK=>?_);rfl;go_simp;(go_at_call 105;with_reducible refine aM (hsa _) λos1 d1=>?_);refine hK _ _ ?_ ?_;(simp[go_sem]))
   try simp only[zq]
   (refine zg rfl ?_ (λK hK=>?_);rfl;go_simp;(go_at_call 105;with_reducible refine aM (hsb _) λos2 d2=>?_);refine hK _ _ ?_ ?_;(simp[go_sem]))
   try simp only[zq]
   iterate 2(apply rdP rfl rfl;(intros;go_simp;first | done | rfl);try simp only[zq])
   refine zi ?_;go_wp2;go_ret;exact⟨rfl,by simp[go_sem]⟩
theorem ze0 (ma ea mb eb w) (hma:I64 ma) (hmb:I64 mb) :
  Tl prog 44 #[NV ma ea,NV mb eb] w (.int .i64 (zat ma ea mb eb)):=by
 unfold zat;by_cases h1:Rt ma ea
 ·have r1:=zD h1;by_cases h2:Rt mb eb
  ·rw[if_pos ⟨h1,h2⟩];exact zs0 ma ea mb eb w h1 h2
  ·have r2:=zae h2;rw[if_neg (λh=>h2 h.2)];clear h1 h2;go_enter func44,ntmps44;go_wp2_with (go_at_call 104;with_reducible refine aM (zw _ _ _ (by assumption)) λosr dr=>?_);go_ret;exact⟨rfl,by simp[go_sem]⟩
 ·have r1:=zae h1;rw[if_neg (λh=>h1 h.1)];clear h1;go_enter func44,ntmps44;go_wp2_with (go_at_call 104;with_reducible refine aM (zw _ _ _ (by assumption)) λosr dr=>?_);go_ret;exact⟨rfl,by simp[go_sem]⟩
theorem ztX (ma ea mb eb):-1<=zat ma ea mb eb∧zat ma ea mb eb<=1:=by
 unfold zat;split
 ·exact zjw _
 ·omega
end Go.Proofs.YtinjdacijiohiaaGreatDoor
namespace Go.Proofs.YtinjdacijiohiaaGreatDoor
open _root_.Go.Proofs.Tryz
open NM
theorem zeL (a b):((T (a+b):Nat):Int)=(T a:Nat)*(T b:Nat):=by rw[T_add,Int.natCast_mul]
theorem zlo {ma ea mb eb} (h1:-100<=ea) (h2:-100<=eb):sumI ma ea mb eb*(T (min ea eb+100).toNat:Nat)=sc ma ea+sc mb eb:=by
 unfold sumI sc;rw[Int.add_mul,Int.mul_assoc,Int.mul_assoc,<-zeL,<-zeL];congr 3
 ·congr 2;omega
 ·congr 2;omega
theorem zpp (m e):sc (-m) e=- sc m e:=by unfold sc;rw[Int.neg_mul]
theorem zg6 {ma ea mb eb} (h1:Rt ma ea) (h2:Rt mb eb):zat ma ea mb eb=(sc ma ea-sc mb eb).sign:=by
 obtain⟨_,b2,b3⟩:=zac h1;obtain⟨_,b5,b6⟩:=zac h2;unfold zat;rw[if_pos ⟨h1,h2⟩,<-ziL _ (min ea eb+100).toNat,zlo (by omega) (by omega),zpp,Int.sub_eq_add_neg]
theorem zs1 {x:Int} : x.sign<=0↔x<=0:=by
 rcases Int.lt_trichotomy x 0 with h | h | h
 ·rw[Int.sign_eq_neg_one_of_neg h];omega
 ·subst h;simp
 ·rw[Int.sign_eq_one_of_pos h];omega
theorem zs2 {x:Int} : x.sign<0↔x<0:=by
 rcases Int.lt_trichotomy x 0 with h | h | h
 ·rw[Int.sign_eq_neg_one_of_neg h];omega
 ·subst h;simp
 ·rw[Int.sign_eq_one_of_pos h];omega
theorem ztY {ma ea mb eb} (h1:Rt ma ea) (h2:Rt mb eb):zat ma ea mb eb<=0↔sc ma ea<=sc mb eb:=by
 rw[zg6 h1 h2,zs1];omega
theorem zpq {ma ea mb eb} (h1:Rt ma ea) (h2:Rt mb eb):zat ma ea mb eb<0↔sc ma ea<sc mb eb:=by
 rw[zg6 h1 h2,zs2];omega
end Go.Proofs.YtinjdacijiohiaaGreatDoor
namespace Go.Proofs.YtinjdacijiohiaaGreatDoor
open _root_.Go.Proofs.Tryz
open Go.RowKit NM
def tl (t:ByteArray):List UInt8:=t.data.toList
theorem zb0 (a b):tl (a++b)=tl a++tl b:=by unfold tl;simp
theorem zem (a):(tl a).length=a.size:=rfl
theorem zhE {a l} (h:tl a=l):a=⟨l.toArray⟩:=zdF h
theorem zgm (s i j) (hj:j<=s.size):tl (s.extract i j)=((tl s).take j).drop i:=by
 unfold tl;rw[ByteArray.data_extract,Array.toList_extract,List.extract_eq_take_drop,List.drop_take]
theorem zlp {d} (h:d<10):tl ((⟨#[48,49,50,51,52,53,54,55,56,57]⟩:ByteArray).extract d (d+1))=[UInt8.ofNat (48+d)]:=by
 rw[zgm _ _ _ (by show d+1<=10;omega)];match d,h with
 | 0,_=>rfl
 | 1,_=>rfl
 | 2,_=>rfl
 | 3,_=>rfl
 | 4,_=>rfl
 | 5,_=>rfl
 | 6,_=>rfl
 | 7,_=>rfl
 | 8,_=>rfl
 | 9,_=>rfl
theorem zrA {m ex} {n k E c5:Nat} (hn:(Lib.decDigits m.natAbs).length=n) (hex:ex=-(E:Int)) (hE:0<E) (hk:n+k<=max n (E+1)) (hc:¬ n+k<=E) (h5:n+k=E+c5) :
  (if m<0 then[45] else[])++((List.replicate k 48++Lib.decDigits m.natAbs).take c5++46::(List.replicate k 48++Lib.decDigits m.natAbs).drop c5)=zct m ex:=by
 unfold zct;congr 1
 rw[if_neg (show ¬ 0<=ex by omega),hn];by_cases hnE:E<n
 ·obtain rfl:k=0:=by omega
  rw[if_pos (by omega),List.replicate_zero,List.nil_append];have:((n:Int)+ex).toNat=c5:=by omega
  rw[this]
 ·rw[if_neg (by omega)];obtain⟨k',rfl⟩:∃ k',k=k'+1:=⟨k-1,by omega⟩;have h1:c5=1:=by omega
  have h2:(-((n:Int)+ex)).toNat=k':=by omega
  rw[h1,h2,List.replicate_succ];rfl
theorem zrB {m ex j} (hex:0<=ex) (hj:j=ex.toNat):(if m<0 then[45] else[])++(Lib.decDigits m.natAbs++List.replicate j 48)=zct m ex:=by
 unfold zct;rw[if_pos hex,hj]
def ztZ:Value->Nat
 | .string t=>t.size
 | _=>0
theorem zpr (m ex w) (hm : I64 m) :
    Tl prog 184 #[NV m ex] w (.string (zd4 m ex)) := by
  unfold zd4
  by_cases h : Rt m ex
  · rw [if_pos h]
    have r1 := zD h
    by_cases h0 : m = 0
    · obtain rfl : ex = 0 := by
        rcases h with h | h
        · exact h.2
        · exact absurd h0 h.1
      subst h0
      have ht : ziJ 0 0 = ⟨#[48]⟩ := by
        unfold ziJ zct
        rw [show (0 : Int).natAbs = 0 from rfl, Lib.decDigits_one (by decide)]
        rfl
      rw [ht]
      clear ht h
      go_enter func184, ntmps184
      go_wp2_with (go_at_call 125; with_reducible refine aM (zy _ _ _ (by assumption)) fun osr dr => ?_)
      exact rt1 rfl rfl ⟨rfl, by simp [go_sem]⟩
    · obtain ⟨b1, b2, b3⟩ := zac h
      have hL : Lib.decDigits m.natAbs = (dig m.natAbs).map fun d => UInt8.ofNat (48 + d) := by rw [zf0, zh9 (by omega)]
      have hndp : 0 < nd m.natAbs := by
        rcases Nat.eq_zero_or_pos (nd m.natAbs) with h1 | h1
        · have := nd_eq_zero.1 h1; omega
        · exact h1
      have hdl := dig_length m.natAbs
      have hda := dig_all m.natAbs
      have hnd : nd m.natAbs ≤ 15 := (nd_le_iff _ _).2 (by have : T 15 = 1000000000000000 := by decide
                                                           omega)
      generalize hTX : ziJ m ex = TX
      have HTX := Lib.hid hTX
      have HL := Lib.hid hL
      have HDL := Lib.hid hdl
      have HDA := Lib.hid hda
      have h0' : (m == 0) = false := by simp [h0]
      have hdg := fun W => zju m W hm
      clear hTX hL hdl hda h h0
      generalize nd m.natAbs = n at *
      go_enter func184, ntmps184
      go_upto_block 0 with (first | (go_at_call 125; with_reducible refine aM (zy _ _ _ (by assumption)) fun osr dr => ?_) | (go_at_call 187; (with_reducible refine (hdg _).mono ?_); rintro e w' ⟨A, c, rfl, hrd, hcap, hx⟩; obtain ⟨osd, dd, rfl⟩ := hx.more))
      refine zH fun W hW => ?_
      have a0 : W.cell? ⟨w.heap.size, 0, none⟩ = some (.int .i64 m) := by rw [hW]; go_simp
      have a1 : W.cell? ⟨w.heap.size, 1, none⟩ = some (.int .i64 ex) := by rw [hW]; go_simp
      have hz : w.heap.size < W.heap.size := by rw [hW]; simp; try omega
      have hxW : Ext w W := by rw [hW]; exact by simp [go_sem]
      have HRD : Hid (Rd 0 W A (i6 (dig m.natAbs))) := by show Rd _ _ _ _; rw [hW]; rw [zc] at hrd; exact hrd.mono (Nat.zero_le _)
      clear hW hrd hx
      go_wp2_with fail
      go_loopw [4, 5] (fun s4 s5 wr => ∃ (j : Nat) (t : ByteArray), j ≤ n ∧ s4 = .string t ∧ s5 = .int .i64 (j : Int) ∧ t.size = j ∧ Ext W wr ∧ Hid (tl t = ((dig m.natAbs).take j).map fun d => UInt8.ofNat (48 + d))) (fun _ s5 _ => n - (intOf s5).toNat)
      case atStart => exact ⟨0, ⟨#[]⟩, Nat.zero_le _, rfl, rfl, rfl, Ext.refl _, by show _ = _; rfl⟩
      case round =>
        obtain ⟨j, t, hj, rfl, rfl, htj, hxr, HT⟩ := hrel
        by_cases hjn : j < n
        · obtain ⟨d, hd⟩ : ∃ d, (dig m.natAbs)[j]? = some d := ⟨_, List.getElem?_eq_getElem (by rw [HDL.out]; exact hjn)⟩
          have hd10 : d < 10 := HDA.out d (List.mem_of_getElem? hd)
          obtain ⟨b, off, rfl, hb, hcell⟩ := Rd.at_ (HRD.out.ext hxr) hd
          have hbl := za hcell
          have HD := Lib.hid hd
          have HTJ := Lib.hid htj
          clear hd htj
          have w1 : IntKind.i64.wrap ((d : Int) + 1) = ((d + 1 : Nat) : Int) := zaD (by omega) (by omega)
          have g1 : (0 : Int) ≤ (d : Int) + 1 ∧ (d : Int) + 1 ≤ 10 := by omega
          have g2 : (d : Int) ≤ (d : Int) + 1 := by omega
          have g3 : t.size ≤ 15 := by have := HTJ.out; omega
          have g4 : min (d + 1) 10 - d = 1 := by omega
          have g5 : ¬ 9223372036854775807 < t.size + 1 := by omega
          go_upto_region 10 with fail
          refine plP [(0, 0), (1, 0), (2, 0), (3, 0), (4, 0), (5, 0), (6, 0), (7, 0), (8, 0), (9, 0), (10, 0), (11, 0), (12, 0)] [] (by kernel_rfl) (fun _ _ d _ _ h => by cases d <;> exact h) ?_
          iterate 13 (apply rdP rfl rfl; (intros; go_simp; first | done | rfl); try simp only [zq])
          refine zi ?_
          go_wp2_with fail
          refine ⟨⟨j + 1, _, by omega, rfl, by go_num, ?_, by simp [go_sem, *], ?_⟩, by simp [intOf]; omega⟩
          · have h1 := congrArg List.length (zlp hd10)
            rw [zem] at h1
            rw [ByteArray.size_append, HTJ.out]
            exact congrArg (j + ·) h1
          · show tl _ = _
            rw [zaJ HD.out, List.map_append, zb0, HT.out]
            exact congrArg _ (zlp hd10)
        · obtain rfl : n = j := by omega
          have HS : Hid (tl t = Lib.decDigits m.natAbs) := by
            show _ = _
            rw [HT.out, HL.out, List.take_of_length_le (by rw [HDL.out]; exact Nat.le_refl _)]
          have HN := Lib.hid htj
          have hxw := hxW.trans hxr
          have a0r := hxr.cell_some a0
          have a1r := hxr.cell_some a1
          have hzr : w.heap.size < wr.heap.size := by have := hxr.size; omega
          have ht15 : t.size ≤ 15 := by omega
          clear hj hjn htj HT hdg HRD hxW hxr a0 a1 hz HDA HDL
          go_wp2_with fail
          go_loopw [4, 6] (fun s4 s6 wx => wx = wr ∧ ∃ (j : Nat) (t : ByteArray), j ≤ ex.toNat ∧ s4 = .string t ∧ s6 = .int .i64 (j : Int) ∧ t.size ≤ 15 + j ∧ Hid (tl t = Lib.decDigits m.natAbs ++ List.replicate j 48)) (fun _ s6 _ => ex.toNat - (intOf s6).toNat)
          case atStart => exact ⟨rfl, 0, t, Nat.zero_le _, rfl, rfl, by omega, by show _ = _; rw [List.replicate_zero, List.append_nil]; exact HS.out⟩
          case round =>
            obtain ⟨hwx, j, t2, hj, rfl, rfl, ht2, HT2⟩ := hrel
            subst hwx
            have g5 : ¬ 9223372036854775807 < t2.size + 1 := by omega
            by_cases hje : (j : Int) < ex
            · go_wp2_with fail
              refine ⟨⟨trivial, j + 1, _, by omega, rfl, by go_num, by rw [ByteArray.size_append]; show t2.size + 1 ≤ _; omega, ?_⟩, by simp [intOf]; omega⟩
              show tl _ = _
              rw [zb0, HT2.out, List.replicate_succ', List.append_assoc]; rfl
            · have hjx : Hid (j = ex.toNat) := by show _ = _; omega
              by_cases he : ex < 0
              · have hj0 : j = 0 := by have := hjx.out; omega
                subst hj0
                obtain ⟨E, hE⟩ : ∃ E : Nat, ex = -(E : Int) := ⟨(-ex).toNat, by omega⟩
                have hE0 : 0 < E ∧ E ≤ 40 := by omega
                have HE := Lib.hid hE
                have HT3 : Hid (tl t2 = Lib.decDigits m.natAbs) := by show _ = _; rw [HT2.out, List.replicate_zero, List.append_nil]
                have HN2 : Hid (t2.size = n) := by show _ = _; rw [← zem, HT3.out, ← HS.out, zem]; exact HN.out
                have w1 : IntKind.i64.wrap (-ex) = (E : Int) := by rw [zaD (by omega) (by omega)]; omega
                have w2 : -ex = (E : Int) := by omega
                clear hE HT2 hje
                go_wp2_with fail
                go_loopw [4] (fun s4 wx => wx = wr ∧ ∃ (k : Nat) (t : ByteArray), s4 = .string t ∧ t.size = n + k ∧ n + k ≤ max n (E + 1) ∧ Hid (tl t = List.replicate k 48 ++ Lib.decDigits m.natAbs)) (fun s4 _ => 100 - ztZ s4)
                case atStart => exact ⟨rfl, 0, t2, rfl, HN2.out, by omega, HT3⟩
                case round =>
                  obtain ⟨hwx, k, t4, rfl, ht4, hk, HT4⟩ := hrel
                  subst hwx
                  have hk2 : n + k ≤ 56 := by omega
                  have HK := Lib.hid ht4
                  have ht4' : t4.size ≤ 56 := by omega
                  by_cases hc : n + k ≤ E
                  · have hc' : (t4.size : Int) ≤ (E : Int) := by omega
                    clear ht4
                    go_wp2_with fail
                    refine ⟨⟨trivial, k + 1, _, rfl, ?_, by omega, ?_⟩, ?_⟩
                    · rw [ByteArray.size_append, HK.out]; show 1 + (n + k) = _; omega
                    · show tl _ = _
                      rw [zb0, HT4.out, List.replicate_succ]; rfl
                    · have h1 : (⟨#[48]⟩ ++ t4 : ByteArray).size = 1 + t4.size := by rw [ByteArray.size_append]; rfl
                      show 100 - (⟨#[48]⟩ ++ t4 : ByteArray).size < 100 - t4.size
                      omega
                  · have hc' : ¬ (t4.size : Int) ≤ (E : Int) := by omega
                    obtain ⟨c5, hc5⟩ : ∃ c5 : Nat, t4.size = E + c5 := ⟨t4.size - E, by omega⟩
                    have e5 : (t4.size : Int) + ex = (c5 : Int) := by have := HE.out; omega
                    have w3 : IntKind.i64.wrap ((t4.size : Int) + ex) = (c5 : Int) := by rw [e5]; exact zaD (by omega) (by omega)
                    have g6 : (0 : Int) ≤ (c5 : Int) ∧ (c5 : Int) ≤ (t4.size : Int) := by omega
                    have g7 : c5 ≤ t4.size := by omega
                    have HC5 : Hid (c5 = n + k - E) := by show _ = _; omega
                    have HX : Hid ((if m < 0 then [45] else []) ++ (tl (t4.extract 0 c5) ++ 46 :: tl (t4.extract c5 t4.size)) = zct m ex) := by
                      have hdl : (Lib.decDigits m.natAbs).length = n := by rw [← HS.out]; exact HN.out
                      rw [zgm _ _ _ g7, zgm _ _ _ (Nat.le_refl _), List.drop_zero, List.take_of_length_le (i := t4.size) (l := tl t4) (by rw [zem]; exact Nat.le_refl _), HT4.out]
                      exact zrA hdl HE.out hE0.1 hk hc (by omega)
                    have g8 : ¬ 9223372036854775807 < c5 + 1 := by omega
                    have g9 : ¬ 9223372036854775807 < c5 + 1 + (t4.size - c5) := by omega
                    clear ht4 hc HK hc5 e5
                    go_upto_region 18 with fail
                    refine plP [(0, 0), (1, 0), (2, 0), (3, 0), (4, 0), (5, 0), (6, 0), (7, 0), (8, 0), (9, 0), (10, 0), (11, 0), (12, 0), (13, 0), (14, 0), (15, 0), (16, 0)] [] (by kernel_rfl) (fun _ _ d _ _ h => by cases d <;> exact h) ?_
                    iterate 17 (apply rdP rfl rfl; (intros; go_simp; first | done | rfl); try simp only [zq])
                    refine zi ?_
                    by_cases hneg : m < 0
                    · have HNG := Lib.hid hneg
                      go_wp2_with fail
                      go_ret
                      refine ⟨zcW ?_, hxw.drew⟩
                      rw [← HTX.out]
                      apply zhE
                      rw [← HX.out, if_pos HNG.out, zb0, zb0, zb0, List.append_assoc]; rfl
                    · have HNG := Lib.hid hneg
                      go_wp2_with fail
                      go_ret
                      refine ⟨zcW ?_, hxw.drew⟩
                      rw [← HTX.out]
                      apply zhE
                      rw [← HX.out, if_neg (by have := HNG.out; omega), zb0, zb0, List.append_assoc]; rfl
              · have HX : Hid ((if m < 0 then [45] else []) ++ tl t2 = zct m ex) := by
                  show _ = _
                  rw [HT2.out]; exact zrB (by omega) hjx.out
                have ht2' : t2.size ≤ 55 := by omega
                by_cases hneg : m < 0
                · have HNG := Lib.hid hneg
                  go_wp2_with fail
                  go_ret
                  refine ⟨zcW ?_, hxw⟩
                  rw [← HTX.out]
                  apply zhE
                  rw [← HX.out, if_pos HNG.out, zb0]; rfl
                · have HNG := Lib.hid hneg
                  go_wp2_with fail
                  go_ret
                  refine ⟨zcW ?_, hxw⟩
                  rw [← HTX.out]
                  apply zhE
                  rw [← HX.out, if_neg (by have := HNG.out; omega)]; rfl
  · rw [if_neg h]
    have r1 := zae h
    clear h
    go_enter func184, ntmps184
    go_wp2_with (go_at_call 125; with_reducible refine aM (zy _ _ _ (by assumption)) fun osr dr => ?_)
    exact rt1 rfl rfl ⟨rfl, by simp [go_sem]⟩
def upB (b:UInt8):UInt8:=if 97<=b∧b<=122 then b-32 else b
def zam (s:ByteArray):ByteArray:=⟨((tl s).map upB).toArray⟩
theorem zjx (s):tl (zam s)=(tl s).map upB:=by unfold zam;rfl
theorem zdo (s):(zam s).size=s.size:=by rw[<-zem,zjx,List.length_map,zem]
def zg7 (a b:ByteArray):Int:=Lib.compareBytes (tl (zam a)) (tl (zam b))
def sgI (a b:Int):Int:=if a<b then -1 else if b<a then 1 else 0
def sgB (a b:Bool):Int:=if a=b then 0 else if b then -1 else 1
def Val.only (k:Int):Val:=⟨k,0,0,⟨#[]⟩,false,0⟩
def zbO (v w:Val):Val:=if v.kind≠0 then v else if w.kind=1∨w.kind=2∨w.kind=3 then Val.only w.kind else v
def zjy (a b:Val):Int:=
 if a.kind≠b.kind then(if a.kind<b.kind then -1 else 1)
 else if a.kind=1 then zat a.mant a.exp b.mant b.exp
 else if a.kind=2 then zg7 a.text b.text
 else if a.kind=3 then sgB a.truth b.truth
 else if a.kind=4 then sgI a.fault b.fault
 else 0
def zaB (a b:Val):Int:=zjy (zbO a b) (zbO b a)
def zbW (l m:Bool):Int:=if l then -1 else if m then 1 else 0
theorem znh:∀ a:List UInt8,Lib.compareBytes a a=0
 | []=>rfl
 | a::l=>by
  unfold Lib.compareBytes;rw[if_neg (UInt8.lt_irrefl a),if_neg (UInt8.lt_irrefl a)];exact znh l
theorem zs3:∀ a b:List UInt8,Lib.compareBytes b a=- Lib.compareBytes a b
 | [],[]=>rfl
 | [],_::_=>rfl
 | _::_,[]=>rfl
 | a::l,b::m=>by
  unfold Lib.compareBytes;by_cases h1:a<b
  ·rw[if_pos h1,if_neg (UInt8.lt_asymm h1),if_pos h1];rfl
  ·by_cases h2:b<a
   ·rw[if_pos h2,if_neg h1,if_pos h2]
   ·rw[if_neg h2,if_neg h1,if_neg h1,if_neg h2];exact zs3 l m
theorem zjz:∀ a b:List UInt8,Lib.compareBytes a b=-1∨Lib.compareBytes a b=0∨Lib.compareBytes a b=1
 | [],[]=>Or.inr (Or.inl rfl)
 | [],_::_=>Or.inl rfl
 | _::_,[]=>Or.inr (Or.inr rfl)
 | a::l,b::m=>by
  unfold Lib.compareBytes;split
  ·exact Or.inl rfl
  ·split
   ·exact Or.inr (Or.inr rfl)
   ·exact zjz l m
theorem zni:∀ {a b:List UInt8},Lib.compareBytes a b=0->a=b
 | [],[],_=>rfl
 | [],_::_,h=>by cases h
 | _::_,[],h=>by cases h
 | a::l,b::m,h=>by
  unfold Lib.compareBytes at h;by_cases h1:a<b
  ·rw[if_pos h1] at h;cases h
  ·rw[if_neg h1] at h;by_cases h2:b<a
   ·rw[if_pos h2] at h;cases h
   ·rw[if_neg h2] at h;have:a=b:=by
     rw[UInt8.lt_iff_toNat_lt] at h1 h2;exact UInt8.toNat_inj.1 (by omega)
    rw[this,zni h]
theorem znj:∀ a b:List UInt8,Op.bytesLess a b=decide (Lib.compareBytes a b=-1)
 | [],[]=>rfl
 | [],_::_=>rfl
 | _::_,[]=>rfl
 | a::l,b::m=>by
  unfold Op.bytesLess Lib.compareBytes;by_cases h1:a<b
  ·rw[if_pos h1,decide_eq_true h1];rfl
  ·rw[if_neg h1,decide_eq_false h1,Bool.false_or];by_cases h2:b<a
   ·rw[if_pos h2];have:(a==b)=false:=by
     rw[beq_eq_false_iff_ne];rintro rfl;exact UInt8.lt_irrefl _ h2
    rw[this];rfl
   ·rw[if_neg h2];have:(a==b)=true:=by
     rw[beq_iff_eq];rw[UInt8.lt_iff_toNat_lt] at h1 h2;exact UInt8.toNat_inj.1 (by omega)
    rw[this,Bool.true_and];exact znj l m
theorem zjA (a b):zbW (Op.bytesLess a b) (!(Op.bytesLess a b||a==b))=Lib.compareBytes a b:=by
 rw[znj];rcases zjz a b with h | h | h
 ·rw[h];rfl
 ·have:(a==b)=true:=by rw[beq_iff_eq];exact zni h
  rw[h,this];rfl
 ·have:(a==b)=false:=by rw[beq_eq_false_iff_ne];rintro rfl;rw[znh] at h;cases h
  rw[h,this];rfl
theorem zg8 (a b):zbW (!a&&b) (a && !b)=sgB a b:=by cases a <;> cases b <;> rfl
theorem zrC (a b):zbW (decide (a<b)) (decide (b<a))=sgI a b:=by
 unfold zbW sgI;by_cases h1:a<b
 ·simp[h1]
 ·by_cases h2:b<a <;> simp[h1,h2]
def Val.sane (x:Val):Prop:=0<=x.kind∧x.kind<=4∧(x.kind=0->x.fault=0)
def Val.tidy (x:Val):Prop:=x.sane∧(x.kind=0->x=Val.only 0)
theorem zbG {x} (h:valRight x=true):x.tidy∧(x.kind=1->zaa x.mant x.exp=true)∧(x.kind=2->x.text.size<=255)∧(x.kind=4->1<=x.fault∧x.fault<=9):=by
 unfold valRight at h;by_cases h0:x.kind=0
 ·rw[if_pos h0] at h;have:=of_decide_eq_true h;subst this;exact⟨⟨⟨by decide,by decide,λ_=>rfl⟩,λ_=>rfl⟩,λh=>absurd h (by decide),λh=>absurd h (by decide),λh=>absurd h (by decide)⟩
 ·rw[if_neg h0] at h;by_cases h1:x.kind=1
  ·rw[if_pos h1,Bool.and_eq_true] at h;exact⟨⟨⟨by omega,by omega,λh=>by omega⟩,λh=>by omega⟩,λ_=>h.1,λh=>by omega,λh=>by omega⟩
  ·rw[if_neg h1] at h;by_cases h2:x.kind=2
   ·rw[if_pos h2] at h;have:=of_decide_eq_true h;refine⟨⟨⟨by omega,by omega,λh=>by omega⟩,λh=>by omega⟩,λh=>by omega,λ_=>?_,λh=>by omega⟩;unfold zQ at this;by_cases h5:255<x.text.size
    ·rw[if_pos h5] at this;rw[this] at h2;cases h2
    ·omega
   ·rw[if_neg h2] at h;by_cases h3:x.kind=3
    ·exact⟨⟨⟨by omega,by omega,λh=>by omega⟩,λh=>by omega⟩,λh=>by omega,λh=>by omega,λh=>by omega⟩
    ·rw[if_neg h3] at h;by_cases h4:x.kind=4
     ·rw[if_pos h4] at h;have:=of_decide_eq_true h;refine⟨⟨⟨by omega,by omega,λh=>by omega⟩,λh=>by omega⟩,λh=>by omega,λh=>by omega,λ_=>?_⟩;have hf:x.fault=zE x.fault:=congrArg Val.fault this;unfold zE at hf;split at hf <;> omega
     ·rw[if_neg h4] at h;cases h
structure St where
 st:Nat
 neg:Bool
 npow:Bool
 ds:List Nat
 beh:Nat
 pow:Nat
def isD (c:Nat):Bool:=decide (48<=c∧c<=57)
def zgn (s:St) (c:Nat):St:=
 if s.st<=2 then { s with st:=2,ds:=s.ds++[c-48] }
 else if s.st<=4 then { s with st:=4,beh:=s.beh+1,ds:=s.ds++[c-48] }
 else { s with st:=7,pow:=if s.pow<100000 then s.pow*10+(c-48) else s.pow }
def zP (s:St) (c:Nat):Option St:=
 if isD c=true then some (zgn s c)
 else if c=45∧s.st=0 then some { s with neg:=true,st:=1 }
 else if c=46∧s.st<=2 then some { s with st:=3 }
 else if(c=101∨c=69)∧(s.st=2∨s.st=4) then some { s with st:=5 }
 else if(c=45∨c=43)∧s.st=5 then some { s with npow:=decide (c=45),st:=6 }
 else none
def zbe:List Nat->St->Option St
 | [],s=>some s
 | c::l,s=>(zP s c).bind (zbe l)
def zbA (s:St):Option (Int×Int):=
 if s.st=2∨s.st=4∨s.st=7 then rnd s.neg (val s.ds) false ((if s.npow then -(s.pow:Int) else s.pow)-s.beh) else none
def st0:St:=⟨0,false,false,[],0,0⟩
def zgo (l:List Nat):Option (Int×Int):=(zbe l st0).bind zbA
def zih (c:Nat) (t:List Nat):Option Int:=
  if c≠101∧c≠69 then none else
  let ng:=t.head? = some 45
  let t':=if t.head? = some 43∨t.head? = some 45 then t.tail else t
  if t'=[]∨¬ (∀ c∈t',isD c=true) then none else
  let n:Nat:=t'.foldl (λn c=>min 1000 (10*n+(c-48))) 0
  some (if ng then -(n:Int) else n)
def zdG:List Nat->Option Int
 | []=>some 0
 | c::t=>zih c t
theorem zez (c t):zdG (c::t)=zih c t:=rfl
def zlq (l:List Nat):Option (Int×Int):=
 let ng:=decide (l.head? = some 45)
 let l1:=if l.head? = some 45 then l.tail else l
 let A:=l1.takeWhile isD
 let l2:=l1.dropWhile isD
 let B:=if l2.head? = some 46 then l2.tail.takeWhile isD else[]
 let l3:=if l2.head? = some 46 then l2.tail.dropWhile isD else l2
 if l2.head? = some 46∧B=[] then none else
 match zdG l3 with
 | none=>none
 | some e=>if A.length+B.length=0 then none else rnd ng (val ((A++B).map (· - 48))) false (e-B.length)
theorem zdr (a b):∀ s,zbe (a++b) s=(zbe a s).bind (zbe b):=by
 induction a with
 | nil=>intro s;rfl
 | cons c l ih=>
  intro s;show(zP s c).bind (zbe (l++b))=((zP s c).bind (zbe l)).bind (zbe b);cases zP s c with
  | none=>rfl
  | some s'=>exact ih s'
theorem zps (a) (h:∀ c∈a,isD c=true):∀ s:St,s.st<=2->zbe a s=some { s with st:=if a=[] then s.st else 2,ds:=s.ds++a.map (· - 48) }:=by
 induction a with
 | nil=>intro s hs;simp[zbe]
 | cons c l ih=>
  intro s hs;have hc:=h c (List.mem_cons_self ..);show(zP s c).bind (zbe l)=_;unfold zP;rw[if_pos hc];unfold zgn;rw[if_pos hs,Option.bind_some,ih (λc hc=>h c (List.mem_cons_of_mem _ hc)) _ (Nat.le_refl 2)];simp
theorem zrD (a) (h:∀ c∈a,isD c=true):∀ s:St,s.st=3∨s.st=4->zbe a s=some { s with st:=if a=[] then s.st else 4,ds:=s.ds++a.map (· - 48),beh:=s.beh+a.length }:=by
 induction a with
 | nil=>intro s hs;simp[zbe]
 | cons c l ih=>
  intro s hs;have hc:=h c (List.mem_cons_self ..);show(zP s c).bind (zbe l)=_;unfold zP;rw[if_pos hc];unfold zgn;rw[if_neg (by omega),if_pos (by omega),Option.bind_some,ih (λc hc=>h c (List.mem_cons_of_mem _ hc)) _ (Or.inr rfl)];simp;omega
def zgp (p:Nat) (l:List Nat):Nat:=l.foldl (λp c=>if p<100000 then p*10+(c-48) else p) p
theorem zs4 (a) (h:∀ c∈a,isD c=true):∀ s:St,5<=s.st->zbe a s=some { s with st:=if a=[] then s.st else 7,pow:=zgp s.pow a }:=by
 induction a with
 | nil=>intro s hs;simp[zbe,zgp]
 | cons c l ih=>
  intro s hs;have hc:=h c (List.mem_cons_self ..);show(zP s c).bind (zbe l)=_;unfold zP;rw[if_pos hc];unfold zgn;rw[if_neg (by omega),if_neg (by omega),Option.bind_some,ih (λc hc=>h c (List.mem_cons_of_mem _ hc)) _ (show 5<=7 by omega)];simp[zgp]
theorem znk (l):∀ p n:Nat,(p=n∧n<1000∨1000<=p∧n=1000)->(zgp p l=l.foldl (λn c=>min 1000 (10*n+(c-48))) n∧l.foldl (λn c=>min 1000 (10*n+(c-48))) n<1000∨1000<=zgp p l∧l.foldl (λn c=>min 1000 (10*n+(c-48))) n=1000):=by
 induction l with
 | nil=>intro p n h;exact h
 | cons c l ih=>
  intro p n h;show(zgp (if p<100000 then p*10+(c-48) else p) l=_∧_∨_);apply ih
  show _=min 1000 (10*n+(c-48))∧min 1000 (10*n+(c-48))<1000∨_∧min 1000 (10*n+(c-48))=1000;split <;> omega
theorem zlr {neg N} {e:Int} (h:nd N+e<=-100):rnd neg N false e=some (0,0):=by
 apply rnd_of_zero
 unfold n2;apply cutN_far
 have h1:=n1_le N false;have h2:nd (n1 N false)<=16:=(nd_le_iff _ _).2 (Nat.lt_of_le_of_lt h1 (T_lt (by omega)));omega
theorem zls {neg ng:Bool} {N b p n:Nat} (hN:nd N<=300) (hb:b<=300) (h:p=n∧n<1000∨1000<=p∧n=1000):rnd neg N false ((if ng then -(p:Int) else p)-b)=rnd neg N false ((if ng then -(n:Int) else n)-b):=by
 rcases h with⟨rfl,_⟩ | ⟨h1,rfl⟩
 ·rfl
 ·cases ng with
  | true=>
   simp only[if_true];rw[zlr (by omega),zlr (by omega)]
  | false=>
   simp only[Bool.false_eq_true,if_false];by_cases h0:N=0
   ·rw[h0,rnd_nought,rnd_nought]
   ·rw[rnd_far_up h0 (by omega),rnd_far_up h0 (by omega)]
theorem zdQ (l:List Nat):l=l.takeWhile isD++l.dropWhile isD:=(List.takeWhile_append_dropWhile).symm
theorem zfc (l:List Nat):∀ c∈l.takeWhile isD,isD c=true:=by
 intro c hc;have:=List.all_takeWhile (l:=l) (p:=isD);exact List.all_eq_true.1 this c hc
theorem zlt {l:List Nat} {c t} (h:l.dropWhile isD=c::t):isD c=false:=by
 have:=List.head?_dropWhile_not isD l;rw[h] at this;simpa using this
theorem ziM {s:St} {t} (hs:s.st=5∨s.st=6) (hh:s.st=5->t.head? ≠ some 43∧t.head? ≠ some 45) :
  (zbe t s).bind zbA=if t=[]∨¬ (∀ c∈t,isD c=true) then none else rnd s.neg (val s.ds) false ((if s.npow then -(zgp s.pow t:Int) else zgp s.pow t)-s.beh):=by
 have h1:=zdQ t;have h2:=zfc t;have h3:=λc u=>zlt (l:=t) (c:=c) (t:=u);generalize t.takeWhile isD=K at *;generalize t.dropWhile isD=l4 at *;subst h1;rw[zdr,zs4 K h2 s (by omega),Option.bind_some];cases l4 with
 | nil=>
  rw[List.append_nil];by_cases hK:K=[]
  ·subst hK;rw[if_pos (Or.inl rfl)];show zbA _=none;unfold zbA;rw[if_neg];simp;omega
  ·have hcond:¬ (K=[]∨¬ (∀ c∈K,isD c=true)):=λhx=>hx.elim hK (λh=>h h2);rw[if_neg hcond];show zbA _=_;unfold zbA;rw[if_pos (by simp[hK])]
 | cons c u=>
  have hc:=h3 c u rfl;rw[if_pos (Or.inr (λh=>by rw[h c (by simp)] at hc;cases hc))];have:zP { s with st:=if K=[] then s.st else 7,pow:=zgp s.pow K } c=none:=by
   unfold zP;rw[if_neg (by rw[hc];simp)];by_cases hK:K=[]
   ·subst hK;simp only[if_true];rw[if_neg (by omega),if_neg (by omega),if_neg (by omega),if_neg];rintro⟨h,h5⟩;have:=hh h5;simp at this
    omega
   ·simp only[if_neg hK];rw[if_neg (by omega),if_neg (by omega),if_neg (by omega),if_neg (by omega)]
  show((zP _ c).bind (zbe u)).bind zbA=none;rw[this];rfl
theorem zlu {s:St} {l:List Nat} (hs:s.st=2∧l.head? ≠ some 46∨s.st=4) (hp:s.pow=0) (hn:s.npow=false) (hd:∀ c t,l=c::t->isD c=false) (h1:nd (val s.ds)<=300) (h2:s.beh<=300) :
  (zbe l s).bind zbA=match zdG l with
   | none=>none
   | some e=>rnd s.neg (val s.ds) false (e-s.beh):=by
 cases l with
 | nil=>
  show zbA s=rnd s.neg (val s.ds) false (0-s.beh);unfold zbA;rw[if_pos (by omega),hp,hn];rfl
 | cons c t=>
  have hc:=hd c t rfl;by_cases he:c≠101∧c≠69
  ·have:zdG (c::t)=none:=by rw[zez];unfold zih;rw[if_pos he]
   rw[this];have:zP s c=none:=by
    unfold zP;simp at hs
    rw[if_neg (by rw[hc];simp),if_neg (by omega),if_neg (by omega),if_neg (by omega),if_neg (by omega)]
   show((zP s c).bind (zbe t)).bind zbA=none;rw[this];rfl
  ·have ht:zP s c=some { s with st:=5 }:=by
    unfold zP;rw[if_neg (by rw[hc];simp),if_neg (by omega),if_neg (by omega),if_pos (by omega)]
   show((zP s c).bind (zbe t)).bind zbA=_;rw[ht,Option.bind_some];rw[zez];unfold zih;rw[if_neg he];simp only;by_cases hsg:t.head? = some 43∨t.head? = some 45
   ·rw[if_pos hsg];obtain⟨c',u,rfl⟩:∃ c' u,t=c'::u:=by
     cases t with
     | nil=>simp at hsg
     | cons c' u=>exact⟨c',u,rfl⟩
    simp only[List.head?_cons,Option.some.injEq,List.tail_cons] at hsg⊢;have ht':zP { s with st:=5 } c'=some { s with npow:=decide (c'=45),st:=6 }:=by
     rcases hsg with rfl | rfl <;> simp[zP,isD]
    show((zP { s with st:=5 } c').bind (zbe u)).bind zbA=_;rw[ht',Option.bind_some,ziM (Or.inr rfl) (λh=>absurd h (by simp))];by_cases hb:u=[]∨¬ (∀ c∈u,isD c=true)
    ·rw[if_pos hb,if_pos hb]
    ·rw[if_neg hb,if_neg hb];simp only[hp];have hpw:=znk u 0 0 (Or.inl ⟨rfl,by omega⟩);have:=zls (neg:=s.neg) (ng:=decide (c'=45)) h1 h2 hpw;rw[this];by_cases h45:c'=45 <;> simp[h45]
   ·rw[if_neg hsg,ziM (Or.inl rfl) (λ_=>⟨λh=>hsg (Or.inl h),λh=>hsg (Or.inr h)⟩)];by_cases hb:t=[]∨¬ (∀ c∈t,isD c=true)
    ·rw[if_pos hb,if_pos hb]
    ·rw[if_neg hb,if_neg hb];simp only[hp,hn];have hpw:=znk t 0 0 (Or.inl ⟨rfl,by omega⟩);have:=zls (neg:=s.neg) (ng:=false) h1 h2 hpw;rw[this,if_neg (λh=>hsg (Or.inr h))];simp
def zet (ng:Bool) (l1:List Nat):Option (Int×Int):=
 let A:=l1.takeWhile isD
 let l2:=l1.dropWhile isD
 let B:=if l2.head? = some 46 then l2.tail.takeWhile isD else[]
 let l3:=if l2.head? = some 46 then l2.tail.dropWhile isD else l2
 if l2.head? = some 46∧B=[] then none else
 match zdG l3 with
 | none=>none
 | some e=>if A.length+B.length=0 then none else rnd ng (val ((A++B).map (· - 48))) false (e-B.length)
theorem zii (l):zlq l=zet (decide (l.head? = some 45)) (if l.head? = some 45 then l.tail else l):=rfl
theorem znl (a:List Nat) (h:∀ c∈a,isD c=true) (hl:a.length<=300):nd (val (a.map (· - 48)))<=300:=by
 have h1:AllD (a.map (· - 48)):=by
  intro d hd;obtain⟨c,hc,rfl⟩:=List.mem_map.1 hd;have:=h c hc;unfold isD at this;have:=of_decide_eq_true this;omega
 have h2:=val_lt h1;rw[List.length_map] at h2;have:=(nd_le_iff _ _).2 h2;omega
theorem znm {s:St} {l} (hs:s.st=0∧l.head? ≠ some 45∨s.st=1) (hds:s.ds=[]) (hbh:s.beh=0) (hp:s.pow=0) (hn:s.npow=false) (hl:l.length<=300) :
  (zbe l s).bind zbA=zet s.neg l:=by
 unfold zet;have hst:s.st<=1:=by rcases hs with⟨h,_⟩ | h <;> omega
 have h1:=zdQ l;have h2:=zfc l;have h3:=λc u=>zlt (l:=l) (c:=c) (t:=u);generalize l.takeWhile isD=A at *;generalize l.dropWhile isD=l2 at *;subst h1;simp only;rw[zdr,zps A h2 s (by omega),Option.bind_some,hds,List.nil_append];cases l2 with
 | nil=>
  simp only[List.head?_nil,if_neg (show ¬ (none:Option Nat)=some 46 by simp),false_and,if_false,reduceCtorEq];show zbA _=if A.length+0=0 then none else _
  by_cases hA:A=[]
  ·subst hA;show zbA _=none;unfold zbA;exact if_neg (show ¬ (s.st=2∨s.st=4∨s.st=7) by omega)
  ·have hA0:¬ A.length+0=0:=by cases A;exact absurd rfl hA;simp
   rw[if_neg hA0];unfold zbA;rw[if_pos (by simp[hA])];simp[hp,hn,hbh]
 | cons c t=>
  have hc:=h3 c t rfl;simp only[List.head?_cons,Option.some.injEq,List.tail_cons];by_cases h46:c=46
  ·subst h46;simp only[if_true,true_and];have ht:zP { s with st:=if A=[] then s.st else 2,ds:=A.map (· - 48) } 46=some { s with st:=3,ds:=A.map (· - 48) }:=by
    unfold zP;rw[if_neg (by unfold isD;simp),if_neg (by omega),if_pos];by_cases hA:A=[] <;> simp[hA];omega
   show((zP _ 46).bind (zbe t)).bind zbA=_;rw[ht,Option.bind_some];have k1:=zdQ t;have k2:=zfc t;have k3:=λc u=>zlt (l:=t) (c:=c) (t:=u);generalize t.takeWhile isD=B at *;generalize t.dropWhile isD=l3 at *;subst k1;rw[zdr,zrD B k2 _ (Or.inl rfl),Option.bind_some];by_cases hB:B=[]
   ·subst hB;rw[if_pos rfl];simp only[if_true];cases l3 with
    | nil=>show zbA _=none;unfold zbA;rw[if_neg (by simp)]
    | cons c u=>
     have hcd:=k3 c u rfl;have:zP { s with st:=3,ds:=A.map (· - 48)++[].map (· - 48),beh:=s.beh+([]:List Nat).length } c=none:=by
      unfold zP;rw[if_neg (by rw[hcd];simp),if_neg (by simp),if_neg (by simp),if_neg (by simp),if_neg (by simp)]
     show((zP _ c).bind (zbe u)).bind zbA=none;rw[this];rfl
   ·rw[if_neg hB];simp only[if_neg hB];have hlen:A.length+(B.length+l3.length)+1<=300:=by simp at hl;omega
    rw[zlu (s:={ s with st:=4,ds:=A.map (· - 48)++B.map (· - 48),beh:=s.beh+B.length }) (Or.inr rfl) hp hn k3 (by show nd (val (A.map (· - 48)++B.map (· - 48)))<=300;rw[<-List.map_append];exact znl _ (λc hc=>(List.mem_append.1 hc).elim (h2 c) (k2 c)) (by simp;omega)) (by simp[hbh];omega)];have hB0:¬ A.length+B.length=0:=by cases B;exact absurd rfl hB;simp
    simp only[if_neg hB0,hbh,Nat.zero_add,List.map_append]
  ·simp only[if_neg h46];rw[if_neg (show ¬ (c=46∧_) from λh=>h46 h.1)];by_cases hA:A=[]
   ·subst hA;have:zP { s with st:=if([]:List Nat)=[] then s.st else 2,ds:=[].map (· - 48) } c=none:=by
     unfold zP;simp only[if_true];simp at hs
     rw[if_neg (by rw[hc];simp),if_neg (by omega),if_neg (by omega),if_neg (by omega),if_neg (by omega)]
    show((zP _ c).bind (zbe t)).bind zbA=_;rw[this];cases zdG (c::t) <;> rfl
   ·simp only[if_neg hA];have hlen:A.length+t.length+1<=300:=by simp at hl;omega
    rw[zlu (s:={ s with st:=2,ds:=A.map (· - 48) }) (Or.inl ⟨rfl,by simpa using h46⟩) hp hn (λc' u hu=>by cases hu;exact hc) (znl A h2 (by omega)) (by simp[hbh])];have hA0:¬ A.length+0=0:=by cases A;exact absurd rfl hA;simp
    simp only[List.length_nil,if_neg hA0,hbh,List.append_nil]
theorem zj9 (l) (hl:l.length<=300):zgo l=zlq l:=by
 rw[zii];unfold zgo;by_cases h:l.head? = some 45
 ·cases l with
  | nil=>simp at h
  | cons c t=>
   simp only[List.head?_cons,Option.some.injEq] at h;subst h;simp only[List.head?_cons,if_true,List.tail_cons,decide_true];show((zP st0 45).bind (zbe t)).bind zbA=_;have:zP st0 45=some { st0 with neg:=true,st:=1 }:=by simp[zP,isD,st0]
   rw[this,Option.bind_some];exact znm (Or.inr rfl) rfl rfl rfl rfl (by simp at hl;omega)
 ·rw[if_neg h,decide_eq_false h];exact znm (Or.inl ⟨rfl,h⟩) rfl rfl rfl rfl hl
theorem zd5 {w:World} {base e v n xs} (h:w.ownsRow base e 1 v n xs):∃ A L c,v = .slice A L c:=by
 obtain⟨_,h2⟩:=h;rcases h2 with⟨rfl,_⟩ | ⟨g,cap,cur,rfl,_⟩
 ·exact⟨_,_,_,rfl⟩
 ·exact⟨_,_,_,rfl⟩
structure Fr (base:Nat) (w w':World):Prop where
 low:Below base w w'
 it:∀ (b:Nat) (s:ByteArray) (pos:Nat),w.heap[b]? = some (Obj.stringIter s pos)->w'.heap[b]? = some (Obj.stringIter s pos)
theorem Fr.refl (base w):Fr base w w:=⟨Below.refl _ _,λ_ _ _ h=>h⟩
theorem Fr.trans {base a b c} (h:Fr base a b) (k:Fr base b c):Fr base a c:=⟨Below.trans h.low k.low,λi s pos hi=>k.it i s pos (h.it i s pos hi)⟩
structure RD (base q:Nat) (st:Nat) (neg npow:Bool) (ds:List Nat) (beh pow:Nat) (v:Value) (w:World):Prop where
 row:w.heap[q]? = some (.cells #[.int .i64 (st:Int),.bool neg,.bool npow,v,.int .i64 (beh:Int),.int .i64 (pow:Int)] 186 (0,0))
 own:w.ownsRow base 5 1 v ds.length (b8 ds)
 qb:base<=q
section
variable {base q st beh pow:Nat} {neg npow:Bool} {ds:List Nat} {v:Value} {w:World}
theorem RD.at (h:RD base q st neg npow ds beh pow v w):w.cell? ⟨q,0,none⟩=some (.int .i64 (st:Int))∧w.cell? ⟨q,1,none⟩=some (.bool neg)∧w.cell? ⟨q,2,none⟩=some (.bool npow)∧w.cell? ⟨q,3,none⟩=some v∧w.cell? ⟨q,4,none⟩=some (.int .i64 (beh:Int))∧w.cell? ⟨q,5,none⟩=some (.int .i64 (pow:Int)):=by
 refine⟨?_,?_,?_,?_,?_,?_⟩ <;> rw[cell_of_row w q _ _ _ (0,0) h.row] <;> rfl
theorem RD.fz (h:RD base q st neg npow ds beh pow v w) (o:Nat):w.frozen? ⟨q,o,none⟩=false:=frozen_of_row w q o _ _ h.row
theorem RD.lt (h:RD base q st neg npow ds beh pow v w):q<w.heap.size:=z7 h.row
theorem RD.fr (h:RD base q st neg npow ds beh pow v w) (o:Nat) (x:Value):Fr base w (w.setCell ⟨q,o,none⟩ x):=
 ⟨Below.setCell (Below.refl _ _) h.qb x,λb s pos hb=>by
  rw[RowKit.Below.heap_setCell _ _ _ _ (λhe=>by subst he;rw[h.row] at hb;cases hb)];exact hb⟩
theorem RD.keep (h:RD base q st neg npow ds beh pow v w) (o:Nat) (x:Value):(w.setCell ⟨q,o,none⟩ x).ownsRow base 5 1 v ds.length (b8 ds):=
 zbq h.own λg cur hg=>RowKit.Below.heap_setCell _ _ _ _ (λhe=>by subst he;rw[h.row] at hg;cases hg)
theorem RD.set0 (h:RD base q st neg npow ds beh pow v w) (st':Nat):RD base q st' neg npow ds beh pow v (w.setCell ⟨q,0,none⟩ (.int .i64 (st':Int))):=⟨heap_setCell_same w q 0 _ _ _ h.row,h.keep _ _,h.qb⟩
theorem RD.set1 (h:RD base q st neg npow ds beh pow v w) (n':Bool):RD base q st n' npow ds beh pow v (w.setCell ⟨q,1,none⟩ (.bool n')):=⟨heap_setCell_same w q 1 _ _ _ h.row,h.keep _ _,h.qb⟩
theorem RD.set2 (h:RD base q st neg npow ds beh pow v w) (n':Bool):RD base q st neg n' ds beh pow v (w.setCell ⟨q,2,none⟩ (.bool n')):=⟨heap_setCell_same w q 2 _ _ _ h.row,h.keep _ _,h.qb⟩
theorem RD.set4 (h:RD base q st neg npow ds beh pow v w) (b':Nat):RD base q st neg npow ds b' pow v (w.setCell ⟨q,4,none⟩ (.int .i64 (b':Int))):=⟨heap_setCell_same w q 4 _ _ _ h.row,h.keep _ _,h.qb⟩
theorem RD.set5 (h:RD base q st neg npow ds beh pow v w) (p':Nat):RD base q st neg npow ds beh p' v (w.setCell ⟨q,5,none⟩ (.int .i64 (p':Int))):=⟨heap_setCell_same w q 5 _ _ _ h.row,h.keep _ _,h.qb⟩
theorem RD.grown {w3:World} {v3:Value} {o:Obj} {d:Nat} (h:RD base q st neg npow ds beh pow v w) (hg:(w.alloc o).grownBy w3 v.ownBlock) (ho:w3.ownsRow base 5 1 v3 (ds.length+1) (b8 ds++[.int .u8 (d:Int)])) (hb:base<=w.heap.size) :
  w3.heap[q]? = w.heap[q]? ∧ RD base q st neg npow (ds++[d]) beh pow v3 (w3.setCell ⟨q,3,none⟩ v3)∧Fr base w (w3.setCell ⟨q,3,none⟩ v3):=by
 have hob:=zd3 h.own;have hne:∀ b,(∀ cur,w.heap[b]? ≠ some (.cells cur 5 (0,0)))->some b≠v.ownBlock:=λb hb he=>by
  obtain⟨_,cur,hc⟩:=hob b he.symm;exact hb cur hc
 have hk:∀ b,b<w.heap.size->some b≠v.ownBlock->w3.heap[b]? = w.heap[b]?:=λb hb he=>by
  rw[hg.block b (by simp;omega) he,RowKit.Below.heap_alloc _ o b hb]
 have hq:w3.heap[q]? = w.heap[q]?:=hk q h.lt (hne q λcur hc=>by rw[h.row] at hc;cases hc);have hrow:=h.row;rw[<-hq] at hrow;have hsz:=hg.size;simp at hsz
 refine⟨hq,⟨heap_setCell_same w3 q 3 _ _ v3 hrow,?_,h.qb⟩,?_,?_⟩
 ·rw[List.length_append,b8,List.map_append];exact zbq ho λg cur hc=>RowKit.Below.heap_setCell _ _ _ _ (λhe=>by subst he;rw[hrow] at hc;cases hc)
 ·have hbl:Below base w w3:=⟨hg.os,hg.tape,hg.output,by omega,λb hb'=>hk b (by omega) λhe=>by have:=(hob b he.symm).1;omega⟩;exact Below.setCell hbl h.qb v3
 ·intro b s pos hb';rw[RowKit.Below.heap_setCell _ _ _ _ (λhe=>by subst he;rw[h.row] at hb';cases hb'),hk b (z7 hb') (hne b λcur hc=>by rw[hb'] at hc;cases hc)];exact hb'
end
theorem zpt (base q st neg npow ds) (beh pow c:Nat) (v w) (h:RD base q st neg npow ds beh pow v w) (hbw:base<=w.heap.size) (hc:48<=c∧c<=57) (hst:st<=7) (hds:ds.length<=300) (hbeh:beh<=300) (hpow:pow<=1000000) :
  Calls prog 234 #[.pointer (some ⟨q,0,none⟩),.int .i32 (c:Int)] w λr w'=>r = .returned (.tuple #[])∧∃ s' v',zgn ⟨st,neg,npow,ds,beh,pow⟩ c=s'∧RD base q s'.st s'.neg s'.npow s'.ds s'.beh s'.pow v' w'∧Fr base w w':=by
 obtain⟨i0,hi,hz0,hz1,hz2⟩:=info_parts zda;have hcd:(c:Int)-48=((c-48:Nat):Int):=by omega
 obtain⟨c0,c1,c2,c3,c4,c5⟩:=h.at;have f0:=h.fz 0;have f4:=h.fz 4;have f5:=h.fz 5;have lq:=h.lt;have HR:=Lib.hid h;clear h;have hst':st=0∨st=1∨st=2∨st=3∨st=4∨st=5∨st=6∨st=7:=by omega
 rcases hst' with rfl | rfl | rfl | rfl | rfl | rfl | rfl | rfl
 ·go_enter func234,ntmps234;go_upto_region 12 with fail;refine zH λW hW=>?_;(have hR:RD base q 2 neg npow ds beh pow v W:=by rw[hW];exact HR.out.set0 2);(have hF:Fr base w W:=by rw[hW];exact HR.out.fr _ _);(have hbW:base<=W.heap.size:=Nat.le_trans hbw hF.low.size);clear hW HR c0 c1 c2 c3 c4 c5 f0 f4 f5 lq hbw;obtain⟨c0,c1,c2,c3,c4,c5⟩:=hR.at;have lq:=hR.lt;have HR:=Lib.hid hR;clear hR;go_wp2_with (at_builtin;refine wpList_append_own _ rfl _ _ _ rfl base 5 i0 (.int .u8 0) 1 1 Tryz.underlying141 hi hz0 hz1 hz2 rfl (by decide) _ ds.length (b8 ds) rfl (zbq HR.out.own λg cur hg=>RowKit.Below.heap_alloc _ _ g (z7 hg)) _ 1 1 [.int .u8 ((c-48:Nat):Int)] rfl rfl (Rd.one_ _ _ rfl).add (zey _) (by simp[maxLen];omega) (by omega) (by simp;omega) ?_;intro v3 w3 ho3 hg3 _;obtain⟨A3,L3,C3,hv3⟩:=zd5 ho3;subst hv3;obtain⟨hq3,hRD3,hFr3⟩:=HR.out.grown hg3 ho3 hbW;have hrow3:=HR.out.row;rw[<-hq3] at hrow3;have fz3:=frozen_of_row w3 q 3 _ _ hrow3;have lt3:=z7 hrow3;have q3:w3.cell? ⟨q,3,none⟩=some v:=by rw[cell_of_row w3 q 3 _ _ (0,0) hrow3];rfl);exact bodyPost_end (v:=.tuple #[]) (by simp[results,results234,go_sem]) rfl ⟨rfl,_,_,rfl,hRD3,hF.trans hFr3⟩
 ·go_enter func234,ntmps234;go_upto_region 12 with fail;refine zH λW hW=>?_;(have hR:RD base q 2 neg npow ds beh pow v W:=by rw[hW];exact HR.out.set0 2);(have hF:Fr base w W:=by rw[hW];exact HR.out.fr _ _);(have hbW:base<=W.heap.size:=Nat.le_trans hbw hF.low.size);clear hW HR c0 c1 c2 c3 c4 c5 f0 f4 f5 lq hbw;obtain⟨c0,c1,c2,c3,c4,c5⟩:=hR.at;have lq:=hR.lt;have HR:=Lib.hid hR;clear hR;go_wp2_with (at_builtin;refine wpList_append_own _ rfl _ _ _ rfl base 5 i0 (.int .u8 0) 1 1 Tryz.underlying141 hi hz0 hz1 hz2 rfl (by decide) _ ds.length (b8 ds) rfl (zbq HR.out.own λg cur hg=>RowKit.Below.heap_alloc _ _ g (z7 hg)) _ 1 1 [.int .u8 ((c-48:Nat):Int)] rfl rfl (Rd.one_ _ _ rfl).add (zey _) (by simp[maxLen];omega) (by omega) (by simp;omega) ?_;intro v3 w3 ho3 hg3 _;obtain⟨A3,L3,C3,hv3⟩:=zd5 ho3;subst hv3;obtain⟨hq3,hRD3,hFr3⟩:=HR.out.grown hg3 ho3 hbW;have hrow3:=HR.out.row;rw[<-hq3] at hrow3;have fz3:=frozen_of_row w3 q 3 _ _ hrow3;have lt3:=z7 hrow3;have q3:w3.cell? ⟨q,3,none⟩=some v:=by rw[cell_of_row w3 q 3 _ _ (0,0) hrow3];rfl);exact bodyPost_end (v:=.tuple #[]) (by simp[results,results234,go_sem]) rfl ⟨rfl,_,_,rfl,hRD3,hF.trans hFr3⟩
 ·go_enter func234,ntmps234;go_upto_region 12 with fail;refine zH λW hW=>?_;(have hR:RD base q 2 neg npow ds beh pow v W:=by rw[hW];exact HR.out.set0 2);(have hF:Fr base w W:=by rw[hW];exact HR.out.fr _ _);(have hbW:base<=W.heap.size:=Nat.le_trans hbw hF.low.size);clear hW HR c0 c1 c2 c3 c4 c5 f0 f4 f5 lq hbw;obtain⟨c0,c1,c2,c3,c4,c5⟩:=hR.at;have lq:=hR.lt;have HR:=Lib.hid hR;clear hR;go_wp2_with (at_builtin;refine wpList_append_own _ rfl _ _ _ rfl base 5 i0 (.int .u8 0) 1 1 Tryz.underlying141 hi hz0 hz1 hz2 rfl (by decide) _ ds.length (b8 ds) rfl (zbq HR.out.own λg cur hg=>RowKit.Below.heap_alloc _ _ g (z7 hg)) _ 1 1 [.int .u8 ((c-48:Nat):Int)] rfl rfl (Rd.one_ _ _ rfl).add (zey _) (by simp[maxLen];omega) (by omega) (by simp;omega) ?_;intro v3 w3 ho3 hg3 _;obtain⟨A3,L3,C3,hv3⟩:=zd5 ho3;subst hv3;obtain⟨hq3,hRD3,hFr3⟩:=HR.out.grown hg3 ho3 hbW;have hrow3:=HR.out.row;rw[<-hq3] at hrow3;have fz3:=frozen_of_row w3 q 3 _ _ hrow3;have lt3:=z7 hrow3;have q3:w3.cell? ⟨q,3,none⟩=some v:=by rw[cell_of_row w3 q 3 _ _ (0,0) hrow3];rfl);exact bodyPost_end (v:=.tuple #[]) (by simp[results,results234,go_sem]) rfl ⟨rfl,_,_,rfl,hRD3,hF.trans hFr3⟩
 ·go_enter func234,ntmps234;go_upto_region 12 with fail;refine zH λW hW=>?_;(have hR:RD base q 4 neg npow ds (beh+1) pow v W:=by rw[hW];exact(HR.out.set0 4).set4 (beh+1));(have hF:Fr base w W:=by rw[hW];exact(HR.out.fr _ _).trans ((HR.out.set0 4).fr _ _));(have hbW:base<=W.heap.size:=Nat.le_trans hbw hF.low.size);clear hW HR c0 c1 c2 c3 c4 c5 f0 f4 f5 lq hbw;obtain⟨c0,c1,c2,c3,c4,c5⟩:=hR.at;have lq:=hR.lt;have HR:=Lib.hid hR;clear hR;go_wp2_with (at_builtin;refine wpList_append_own _ rfl _ _ _ rfl base 5 i0 (.int .u8 0) 1 1 Tryz.underlying141 hi hz0 hz1 hz2 rfl (by decide) _ ds.length (b8 ds) rfl (zbq HR.out.own λg cur hg=>RowKit.Below.heap_alloc _ _ g (z7 hg)) _ 1 1 [.int .u8 ((c-48:Nat):Int)] rfl rfl (Rd.one_ _ _ rfl).add (zey _) (by simp[maxLen];omega) (by omega) (by simp;omega) ?_;intro v3 w3 ho3 hg3 _;obtain⟨A3,L3,C3,hv3⟩:=zd5 ho3;subst hv3;obtain⟨hq3,hRD3,hFr3⟩:=HR.out.grown hg3 ho3 hbW;have hrow3:=HR.out.row;rw[<-hq3] at hrow3;have fz3:=frozen_of_row w3 q 3 _ _ hrow3;have lt3:=z7 hrow3;have q3:w3.cell? ⟨q,3,none⟩=some v:=by rw[cell_of_row w3 q 3 _ _ (0,0) hrow3];rfl);exact bodyPost_end (v:=.tuple #[]) (by simp[results,results234,go_sem]) rfl ⟨rfl,_,_,rfl,hRD3,hF.trans hFr3⟩
 ·go_enter func234,ntmps234;go_upto_region 12 with fail;refine zH λW hW=>?_;(have hR:RD base q 4 neg npow ds (beh+1) pow v W:=by rw[hW];exact(HR.out.set0 4).set4 (beh+1));(have hF:Fr base w W:=by rw[hW];exact(HR.out.fr _ _).trans ((HR.out.set0 4).fr _ _));(have hbW:base<=W.heap.size:=Nat.le_trans hbw hF.low.size);clear hW HR c0 c1 c2 c3 c4 c5 f0 f4 f5 lq hbw;obtain⟨c0,c1,c2,c3,c4,c5⟩:=hR.at;have lq:=hR.lt;have HR:=Lib.hid hR;clear hR;go_wp2_with (at_builtin;refine wpList_append_own _ rfl _ _ _ rfl base 5 i0 (.int .u8 0) 1 1 Tryz.underlying141 hi hz0 hz1 hz2 rfl (by decide) _ ds.length (b8 ds) rfl (zbq HR.out.own λg cur hg=>RowKit.Below.heap_alloc _ _ g (z7 hg)) _ 1 1 [.int .u8 ((c-48:Nat):Int)] rfl rfl (Rd.one_ _ _ rfl).add (zey _) (by simp[maxLen];omega) (by omega) (by simp;omega) ?_;intro v3 w3 ho3 hg3 _;obtain⟨A3,L3,C3,hv3⟩:=zd5 ho3;subst hv3;obtain⟨hq3,hRD3,hFr3⟩:=HR.out.grown hg3 ho3 hbW;have hrow3:=HR.out.row;rw[<-hq3] at hrow3;have fz3:=frozen_of_row w3 q 3 _ _ hrow3;have lt3:=z7 hrow3;have q3:w3.cell? ⟨q,3,none⟩=some v:=by rw[cell_of_row w3 q 3 _ _ (0,0) hrow3];rfl);exact bodyPost_end (v:=.tuple #[]) (by simp[results,results234,go_sem]) rfl ⟨rfl,_,_,rfl,hRD3,hF.trans hFr3⟩
 rotate_left
 rotate_left
 rotate_left
 all_goals
  go_enter func234,ntmps234;go_upto_region 2 with fail;refine zH λW hW=>?_;(have hR:RD base q 7 neg npow ds beh pow v W:=by rw[hW];exact HR.out.set0 7);(have hF:Fr base w W:=by rw[hW];exact HR.out.fr _ _);clear hW HR c0 c1 c2 c3 c4 c5 f0 f4 f5 lq hbw;obtain⟨c0,c1,c2,c3,c4,c5⟩:=hR.at;have f5:=hR.fz 5;have lq:=hR.lt;have HR:=Lib.hid hR;clear hR;by_cases hp:pow<100000
  ·have hd:decide ((pow:Int)<100000)=true:=decide_eq_true (by omega);have HP:=Lib.hid hp;clear hp;go_wp2_with fail;refine bodyPost_ret (v:=.tuple #[]) (by simp[results,results234,go_sem]) rfl ⟨rfl,⟨7,neg,npow,ds,beh,pow*10+(c-48)⟩,v,by simp[zgn,HP.out],?_,hF.trans (HR.out.fr _ _)⟩;have:=HR.out.set5 (pow*10+(c-48));rw[Int.natCast_add,Int.natCast_mul] at this;exact this
  ·have hd:decide ((pow:Int)<100000)=false:=decide_eq_false (by omega);have HP:=Lib.hid hp;clear hp;go_wp2_with fail;exact rt0 rfl rfl ⟨rfl,⟨7,neg,npow,ds,beh,pow⟩,v,by simp[zgn,HP.out],HR.out,hF⟩
theorem zlv (base q st neg npow ds) (beh pow c:Nat) (v w) (h:RD base q st neg npow ds beh pow v w) (hbw:base<=w.heap.size) (hst:st<=7) (hds:ds.length<=300) (hbeh:beh<=300) (hpow:pow<=1000000) :
  Calls prog 209 #[.pointer (some ⟨q,0,none⟩),.int .i32 (c:Int)] w λr w'=>r = .returned (.bool (zP ⟨st,neg,npow,ds,beh,pow⟩ c).isSome)∧Fr base w w'∧∀ s',zP ⟨st,neg,npow,ds,beh,pow⟩ c=some s'->∃ v',RD base q s'.st s'.neg s'.npow s'.ds s'.beh s'.pow v' w':=by
 obtain⟨c0,c1,c2,c3,c4,c5⟩:=h.at;have f0:=h.fz 0;have f1:=h.fz 1;have f2:=h.fz 2;have lq:=h.lt;obtain⟨X,hX⟩:∃ X,zP ⟨st,neg,npow,ds,beh,pow⟩ c=X:=⟨_,rfl⟩;rw[hX];by_cases hd:48<=c∧c<=57
 ·have hdg:=zpt base q st neg npow ds beh pow c v w h hbw hd hst hds hbeh hpow;have HS:Hid (X=some (zgn ⟨st,neg,npow,ds,beh,pow⟩ c)):=Lib.hid (by rw[<-hX];unfold zP isD;rw[if_pos (decide_eq_true hd)]);have g1:decide (48<=(c:Int))=true:=decide_eq_true (by omega);have g2:decide ((c:Int)<=57)=true:=decide_eq_true (by omega);clear h hX;go_enter func209,ntmps209;go_wp2_with (go_at_call 234;(with_reducible refine hdg.mono ?_);rintro e w' ⟨rfl,s',v',hs,hrd,hfr⟩);exact rt1 rfl rfl ⟨by rw[HS.out];rfl,hfr,λs'' h''=>by rw[HS.out] at h'';cases h'';rw[hs];exact⟨v',hrd⟩⟩
 have HR:=Lib.hid h;have hst0:(st=0∨st=1∨st=2∨st=3∨st=4∨st=5∨st=6∨st=7):=by omega
 clear h;by_cases h5:c=45∨c=43∨c=46∨c=101∨c=69
 ·rcases h5 with rfl | rfl | rfl | rfl | rfl
  all_goals
   clear hd;rcases hst0 with rfl | rfl | rfl | rfl | rfl | rfl | rfl | rfl
   all_goals first
    | (refine(fun(HS:Hid (X=none))=>?_) ?_;rotate_left;(focus(show X=none;rw[<-hX];simp[zP,isD];done));clear hX);(go_enter func209,ntmps209;go_wp2_with fail;exact rt1 rfl rfl ⟨by rw[HS.out];rfl,Fr.refl _ _,λs' hs=>by rw[HS.out] at hs;cases hs⟩)
    | (refine(fun(HS:Hid (X=some ⟨3,neg,npow,ds,beh,pow⟩))=>?_) ?_;rotate_left;(focus(show X=some ⟨3,neg,npow,ds,beh,pow⟩;rw[<-hX];simp[zP,isD];done));clear hX);(go_enter func209,ntmps209;go_wp2_with fail;exact rt1 rfl rfl ⟨by rw[HS.out];rfl,HR.out.fr _ _,λs' hs=>by rw[HS.out] at hs;cases hs;exact⟨v,HR.out.set0 3⟩⟩)
    | (refine(fun(HS:Hid (X=some ⟨5,neg,npow,ds,beh,pow⟩))=>?_) ?_;rotate_left;(focus(show X=some ⟨5,neg,npow,ds,beh,pow⟩;rw[<-hX];simp[zP,isD];done));clear hX);(go_enter func209,ntmps209;go_wp2_with fail;exact rt1 rfl rfl ⟨by rw[HS.out];rfl,HR.out.fr _ _,λs' hs=>by rw[HS.out] at hs;cases hs;exact⟨v,HR.out.set0 5⟩⟩)
    | (refine(fun(HS:Hid (X=some ⟨1,true,npow,ds,beh,pow⟩))=>?_) ?_;rotate_left;(focus(show X=some ⟨1,true,npow,ds,beh,pow⟩;rw[<-hX];simp[zP,isD];done));clear hX);(go_enter func209,ntmps209;go_wp2_with fail;exact rt1 rfl rfl ⟨by rw[HS.out];rfl,(HR.out.fr _ _).trans ((HR.out.set1 true).fr _ _),λs' hs=>by rw[HS.out] at hs;cases hs;exact⟨v,(HR.out.set1 true).set0 1⟩⟩)
    | (refine(fun(HS:Hid (X=some ⟨6,neg,true,ds,beh,pow⟩))=>?_) ?_;rotate_left;(focus(show X=some ⟨6,neg,true,ds,beh,pow⟩;rw[<-hX];simp[zP,isD];done));clear hX);(go_enter func209,ntmps209;go_wp2_with fail;exact rt1 rfl rfl ⟨by rw[HS.out];rfl,(HR.out.fr _ _).trans ((HR.out.set2 true).fr _ _),λs' hs=>by rw[HS.out] at hs;cases hs;exact⟨v,(HR.out.set2 true).set0 6⟩⟩)
    | (refine(fun(HS:Hid (X=some ⟨6,neg,false,ds,beh,pow⟩))=>?_) ?_;rotate_left;(focus(show X=some ⟨6,neg,false,ds,beh,pow⟩;rw[<-hX];simp[zP,isD];done));clear hX);(go_enter func209,ntmps209;go_wp2_with fail;exact rt1 rfl rfl ⟨by rw[HS.out];rfl,(HR.out.fr _ _).trans ((HR.out.set2 false).fr _ _),λs' hs=>by rw[HS.out] at hs;cases hs;exact⟨v,(HR.out.set2 false).set0 6⟩⟩)
 have HS:Hid (X=none):=Lib.hid (by
  rw[<-hX]
  unfold zP isD
  rw[if_neg (by rw[decide_eq_true_eq];exact hd),if_neg (by omega),if_neg (by omega),if_neg (by omega),if_neg (by omega)])
 have e1:((c:Int)==45)=false:=by simp;omega
 have e2:((c:Int)==46)=false:=by simp;omega
 have e3:((c:Int)==101)=false:=by simp;omega
 have e4:((c:Int)==69)=false:=by simp;omega
 have e5:((c:Int)==43)=false:=by simp;omega
 by_cases h48:48<=c
 have g1:decide (48<=(c:Int))=true:=decide_eq_true (by omega);have g2:decide ((c:Int)<=57)=false:=decide_eq_false (by omega);rotate_left
 have g1:decide (48<=(c:Int))=false:=decide_eq_false (by omega);all_goals
  clear hd h5 h48 hst0 hX
  (go_enter func209,ntmps209;go_wp2_with fail;exact rt1 rfl rfl ⟨by rw[HS.out];rfl,Fr.refl _ _,λs' hs=>by rw[HS.out] at hs;cases hs⟩)
structure SB (n:Nat) (s:St):Prop where
 st:s.st<=7
 len:s.ds.length<=n
 beh:s.beh<=n
 pow:s.pow<=1000000
 all:AllD s.ds
theorem SB.step {n} {s s':St} {c} (h:SB n s) (ht:zP s c=some s'):SB (n+1) s':=by
 obtain⟨h1,h2,h3,h4,h5⟩:=h;unfold zP at ht;split at ht
 ·rename_i hc;unfold isD at hc;have hc:=of_decide_eq_true hc;cases ht
  have h6:AllD (s.ds++[c-48]):=h5.append (AllD.cons (by omega) AllD.nil);unfold zgn;split
  ·exact⟨by simp,by simp;omega,by show s.beh<=_;omega,h4,h6⟩
  ·split
   ·exact⟨by simp,by simp;omega,by show s.beh+1<=_;omega,h4,h6⟩
   ·refine⟨by simp,by show s.ds.length<=_;omega,by show s.beh<=_;omega,?_,h5⟩;show(if s.pow<100000 then s.pow*10+(c-48) else s.pow)<=1000000;split <;> omega
 all_goals(repeat' (split at ht)) <;> cases ht <;> exact⟨by simp,by show s.ds.length<=_;omega,by show s.beh<=_;omega,h4,h5⟩
theorem zka {s:St} {c} (h:128<=c):zP s c=none:=by
 unfold zP isD;rw[if_neg (by rw[decide_eq_true_eq];omega),if_neg (by omega),if_neg (by omega),if_neg (by omega),if_neg (by omega)]
def bl (s:ByteArray):List Nat:=s.data.toList.map (·.toNat)
theorem zbI (s):(bl s).length=s.size:=by unfold bl;rw[List.length_map];rfl
theorem zeM (s pos) (h:pos<s.size):(bl s)[pos]? = some (s[pos]'h).toNat:=by
 unfold bl;rw[List.getElem?_map,List.getElem?_eq_getElem (by exact h)];rfl
structure PI (X:World) (s:ByteArray) (q k pos:Nat) (S:St) (v:Value) (wr:World):Prop where
 run:zbe ((bl s).take pos) st0=some S
 rd:RD X.heap.size q S.st S.neg S.npow S.ds S.beh S.pow v wr
 it:wr.heap[k]? = some (Obj.stringIter s pos)
 ext:Ext X wr
 bd:SB pos S
 kb:X.heap.size<=k
theorem PI.next {X wr s q k pos} {S:St} {v} (h:PI X s q k pos S v wr) (p'):RD X.heap.size q S.st S.neg S.npow S.ds S.beh S.pow v (wr.iterAt k s p')∧(wr.iterAt k s p').heap[k]? = some (Obj.stringIter s p')∧Ext X (wr.iterAt k s p'):=by
 have hne:∀ b cs t,wr.heap[b]? = some (Obj.cells cs t (0,0))->b≠k:=λb cs t hb he=>by subst he;rw[h.it] at hb;cases hb
 refine⟨⟨?_,zbq h.rd.own λg cur hg=>Lib.iterAt_other _ _ _ _ _ (hne g cur _ hg),h.rd.qb⟩,Lib.iterAt_heap wr k s pos p' h.it,?_⟩
 ·rw[Lib.iterAt_other _ _ _ _ _ (hne q _ _ h.rd.row)];exact h.rd.row
 ·refine⟨h.ext.os,h.ext.tape,h.ext.output,by rw[Lib.iterAt_size];exact h.ext.size,λb hb=>?_⟩;rw[Lib.iterAt_other _ _ _ _ _ (by have:=h.kb;omega),h.ext.block hb]
theorem PI.step {X wr w' s q k pos c} {S S':St} {v v'} (h:PI X s q k pos S v wr) (hc:(bl s)[pos]? = some c) (ht:zP S c=some S') (hf:Fr X.heap.size (wr.iterAt k s (pos+1)) w') (hr:RD X.heap.size q S'.st S'.neg S'.npow S'.ds S'.beh S'.pow v' w'):PI X s q k (pos+1) S' v' w':=by
 obtain⟨_,h2,h3⟩:=h.next (pos+1);refine⟨?_,hr,hf.it _ _ _ h2,Below.trans h3 hf.low,h.bd.step ht,h.kb⟩;rw[zaJ hc,zdr,h.run,Option.bind_some];show(zP S c).bind (zbe [])=_;rw[ht];rfl
theorem zkb {s pos c} {S:St} (h:zbe ((bl s).take pos) st0=some S) (hc:(bl s)[pos]? = some c) (ht:zP S c=none):zgo (bl s)=none:=by
 unfold zgo;have hl:=lt_at hc;have h1:bl s=(bl s).take pos++(c::(bl s).drop (pos+1)):=by
  rw[<-drop_at hc,List.take_append_drop]
 rw[h1,zdr,h,Option.bind_some];show((zP S c).bind _).bind zbA=none;rw[ht];rfl
def zbR (s:ByteArray):Option (Int×Int):=if 255<s.size then none else zgo (bl s)
theorem zkc (s w) (hs:s.size<=1000) :
  Calls prog 174 #[.string s] w λr w'=>r = .returned (rnV (zbR s))∧Ext w w':=by
 unfold zbR;by_cases hlen:255<s.size
 ·rw[if_pos hlen];go_enter func174,ntmps174;go_wp2_with fail;exact rct (v:=NV 0 0) rfl rfl (by simp[go_sem]) ⟨rfl,by simp[go_sem]⟩
 ·rw[if_neg hlen];generalize hR:zgo (bl s)=R;have HR:=Lib.hid hR;clear hR;have HX:Hid (∀ W:World,W=((w.alloc (.cells #[.int .i64 0,.int .i64 0] 36)).alloc (.cells #[.int .i64 0,.bool false,.bool false,.slice none 0 0,.int .i64 0,.int .i64 0] 186)).iter s 0->PI (w.alloc (.cells #[.int .i64 0,.int .i64 0] 36)) s (w.heap.size+1) (w.heap.size+1+1) 0 st0 (.slice none 0 0) W):=by
   intro W hW;have hx:Ext (w.alloc (.cells #[.int .i64 0,.int .i64 0] 36)) W:=by rw[hW];exact(((Ext.refl _).alloc _).alloc _)
   have hz:(w.alloc (.cells #[.int .i64 0,.int .i64 0] 36)).heap.size=w.heap.size+1:=by simp
   refine⟨rfl,⟨?_,World.ownsRow_nil _ _ _ _,by omega⟩,?_,hx,⟨by decide,Nat.le_refl _,Nat.le_refl _,by decide,AllD.nil⟩,by omega⟩
   ·rw[hW];have h1:((w.alloc (.cells #[.int .i64 0,.int .i64 0] 36)).alloc (.cells #[.int .i64 0,.bool false,.bool false,.slice none 0 0,.int .i64 0,.int .i64 0] 186)).heap[w.heap.size+1]? = some (.cells #[.int .i64 0,.bool false,.bool false,.slice none 0 0,.int .i64 0,.int .i64 0] 186):=by rw[<-hz];exact Array.getElem?_push_size
    exact(RowKit.Below.heap_alloc _ _ _ (z7 h1)).trans h1
   ·rw[hW];have:=World.iter_heap ((w.alloc (.cells #[.int .i64 0,.int .i64 0] 36)).alloc (.cells #[.int .i64 0,.bool false,.bool false,.slice none 0 0,.int .i64 0,.int .i64 0] 186)) s 0;simpa using this
  go_enter func174,ntmps174;go_upto_block 0 with fail
  refine zH λW hW=>?_;have hPI:=HX.out W hW;have hX0:PV (w.alloc (.cells #[.int .i64 0,.int .i64 0] 36)) w.heap.size 0 0:=PV.new 0 0 rfl;have hXw:Ext w (w.alloc (.cells #[.int .i64 0,.int .i64 0] 36)):=(Ext.refl w).alloc _;have hXs:(w.alloc (.cells #[.int .i64 0,.int .i64 0] 36)).heap.size=w.heap.size+1:=by simp
  clear hW HX;generalize w.alloc (.cells #[.int .i64 0,.int .i64 0] 36)=X at *;have hq:w.heap.size+1<w.heap.size+1+1:=by omega
  have hq0:w.heap.size<w.heap.size+1:=by omega
  generalize w.heap.size+1+1=k at *;have HS0:=Lib.hid hXs;clear hXs;generalize w.heap.size+1=q at *;have HP:Hid (PI X s q k 0 st0 (.slice none 0 0) W):=hPI;clear hPI;go_wp2_with fail;go_loopw [6] (λ_ wr=>∃ pos S v,pos<=s.size∧Hid (PI X s q k pos S v wr)) (λ_ wr=>s.size-wr.iterPos k)
  case atStart=>exact⟨0,st0,_,Nat.zero_le _,HP⟩
  case round=>
   obtain⟨pos,S,v,hpos,H⟩:=hrel;by_cases hp:pos<s.size
   ·have hb:=zeM s pos hp;have hnx:∀ ty,(Instr.next (.pointer (some ⟨k,0,none⟩)) true ty).run prog wr=_:=λty=>Lib.run_next_any_at wr k s pos ty H.out.it hp;have hbd:=H.out.bd;have heta:(⟨S.st,S.neg,S.npow,S.ds,S.beh,S.pow⟩:St)=S:=rfl;by_cases ha:(s[pos]'hp).toNat<128
    ·rw[decode_ascii s pos hp ha] at hnx;generalize (s[pos]'hp).toNat=c at *;simp only at hnx;obtain⟨r1,r2,r3⟩:=H.out.next (pos+1);have htk:=zlv X.heap.size q S.st S.neg S.npow S.ds S.beh S.pow c v (wr.iterAt k s (pos+1)) r1 r3.size hbd.st (by have:=hbd.len;omega) (by have:=hbd.beh;omega) hbd.pow;rw[heta] at htk;have HC:=Lib.hid hb;have HE:=Lib.hid r3;clear hb r1 r2 r3 ha hbd heta;cases hT:zP S c with
     | some S'=>
      have HT:=Lib.hid hT;rw[hT] at htk;clear hT;go_wp2_with (go_at_call 209;(with_reducible refine htk.mono ?_);rintro e w' ⟨rfl,hfr,hrd⟩);obtain⟨v',hr'⟩:=hrd S' rfl;have h2:=H.out.step HC.out HT.out hfr hr';refine⟨⟨pos+1,S',v',by omega,h2⟩,?_⟩;simp only[World.iterPos,h2.it,H.out.it];omega
     | none=>
      have HT:=Lib.hid hT;rw[hT] at htk;clear hT;have hRn:R=none:=by rw[<-HR.out];exact zkb H.out.run HC.out HT.out
      subst hRn;go_wp2_with (go_at_call 209;(with_reducible refine htk.mono ?_);rintro e w' ⟨rfl,hfr,hrd⟩;have hex:Ext X w':=Below.trans HE.out hfr.low;have hpv:=hX0.ext hex;have a0:=hpv.c0;have a1:=hpv.c1;have a2:=hpv.fz 0;have a3:=hpv.fz 1;have a4:=hpv.lt;have z0:=(hpv.set 0 0).c0;have z1:=(hpv.set 0 0).c1);exact bodyPost_ret (v:=.tuple #[NV 0 0,.bool false]) (by simp[results,results174,go_sem,z0,z1]) rfl ⟨rfl,((hXw.trans hex).set _ (Nat.le_refl _)).set _ (Nat.le_refl _)⟩
    ·obtain⟨d1,d2⟩:=decode_high s pos hp (by omega);have hRn:R=none:=by rw[<-HR.out];exact zkb H.out.run hb (zka (by omega))
     subst hRn;generalize (Utf8.decode s pos).1=c at *;generalize (Utf8.decode s pos).2=b at *;obtain⟨r1,r2,r3⟩:=H.out.next (pos+b);have htk:=zlv X.heap.size q S.st S.neg S.npow S.ds S.beh S.pow c v (wr.iterAt k s (pos+b)) r1 r3.size hbd.st (by have:=hbd.len;omega) (by have:=hbd.beh;omega) hbd.pow;rw[heta,zka d1] at htk;have HE:=Lib.hid r3;clear hb r1 r2 r3 ha hbd heta;go_wp2_with (go_at_call 209;(with_reducible refine htk.mono ?_);rintro e w' ⟨rfl,hfr,hrd⟩;have hex:Ext X w':=Below.trans HE.out hfr.low;have hpv:=hX0.ext hex;have a0:=hpv.c0;have a1:=hpv.c1;have a2:=hpv.fz 0;have a3:=hpv.fz 1;have a4:=hpv.lt;have z0:=(hpv.set 0 0).c0;have z1:=(hpv.set 0 0).c1);exact bodyPost_ret (v:=.tuple #[NV 0 0,.bool false]) (by simp[results,results174,go_sem,z0,z1]) rfl ⟨rfl,((hXw.trans hex).set _ (Nat.le_refl _)).set _ (Nat.le_refl _)⟩
   ·have hnx:∀ ty,(Instr.next (.pointer (some ⟨k,0,none⟩)) true ty).run prog wr=_:=λty=>Lib.run_next_end_at wr k s pos ty H.out.it hp;have hpe:pos=s.size:=by omega
    have hrun:=H.out.run;have hR:=HR.out;rw[hpe,<-zbI,List.take_length] at hrun;unfold zgo at hR;rw[hrun,Option.bind_some] at hR;have hrd:=H.out.rd;have hbd:=H.out.bd;have hex:=H.out.ext;have HE:=Lib.hid hR;clear hrun hR HR hpe;obtain⟨st,neg,npow,ds,beh,pow⟩:=S;simp only at hrd;obtain⟨c0,c1,c2,c3,c4,c5⟩:=hrd.at;have f5:=hrd.fz 5;have lq:=hrd.lt;have hpv:=hX0.ext hex;have a0:=hpv.c0;have a1:=hpv.c1;have a2:=hpv.fz 0;have a3:=hpv.fz 1;have a4:=hpv.lt;have z0:=(hpv.set 0 0).c0;have z1:=(hpv.set 0 0).c1;have HRD:=Lib.hid hrd;have HBD:=Lib.hid hbd;clear hrd hbd;by_cases hok:st=2∨st=4∨st=7
    ·have hRn:rnd neg (val ds) false ((if npow then -(pow:Int) else pow)-beh)=R:=by rw[<-HE.out];unfold zbA;exact(if_pos hok).symm
     have hpw:=HBD.out.pow;have hbh:=HBD.out.beh;have hln:=HBD.out.len;simp only at hpw hbh hln;have hqX:=HRD.out.qb;cases npow with
     | true=>
      rw[if_pos rfl] at hRn;have hro:=zdc X neg v ds (-(pow:Int)-beh) (wr.setCell ⟨q,5,none⟩ (.int .i64 (-(pow:Int)))) ds.length (hex.set _ hqX) (HRD.out.keep 5 _) HBD.out.all (by omega) (by omega);rw[hRn] at hro;have w1:IntKind.i64.wrap (-(pow:Int))=-pow:=zaD (by omega) (by omega);have w2:IntKind.i64.wrap (-(pow:Int)-beh)=-pow-beh:=zaD (by omega) (by omega);have x0:=hX0.c0;have x1:=hX0.c1;have x2:=hX0.fz 0;have x3:=hX0.fz 1;have x4:=hX0.lt;have z0:=(hX0.set (rm R) (re R)).c0;have z1:=(hX0.set (rm R) (re R)).c1;clear hpw hbh hln hRn;rcases hok with rfl | rfl | rfl
      all_goals
       go_wp2_with (go_at_call 160;(with_reducible refine hro.mono ?_);rintro e w' ⟨rfl,os,d,rfl⟩);exact bodyPost_ret (v:=rnV R) (by simp[results,results174,go_sem,z0,z1,x4]) rfl ⟨rfl,((hXw.set _ (Nat.le_refl _)).set _ (Nat.le_refl _)).more_ _ _⟩
     | false=>
      rw[if_neg (by simp)] at hRn;have hro:=zdc X neg v ds ((pow:Int)-beh) wr ds.length hex HRD.out.own HBD.out.all (by omega) (by omega);rw[hRn] at hro;have w2:IntKind.i64.wrap ((pow:Int)-beh)=pow-beh:=zaD (by omega) (by omega);have x0:=hX0.c0;have x1:=hX0.c1;have x2:=hX0.fz 0;have x3:=hX0.fz 1;have x4:=hX0.lt;have z0:=(hX0.set (rm R) (re R)).c0;have z1:=(hX0.set (rm R) (re R)).c1;clear hpw hbh hln hRn;rcases hok with rfl | rfl | rfl
      all_goals
       go_wp2_with (go_at_call 160;(with_reducible refine hro.mono ?_);rintro e w' ⟨rfl,os,d,rfl⟩);exact bodyPost_ret (v:=rnV R) (by simp[results,results174,go_sem,z0,z1,x4]) rfl ⟨rfl,((hXw.set _ (Nat.le_refl _)).set _ (Nat.le_refl _)).more_ _ _⟩
    ·have hRn:R=none:=by rw[<-HE.out];unfold zbA;exact if_neg hok
     subst hRn;have e1:((st:Int) != 2)=true:=by simp;omega
     have e2:((st:Int) != 4)=true:=by simp;omega
     have e3:((st:Int) != 7)=true:=by simp;omega
     go_wp2_with fail;exact bodyPost_ret (v:=.tuple #[NV 0 0,.bool false]) (by simp[results,results174,go_sem,z0,z1]) rfl ⟨rfl,((hXw.trans hex).set _ (Nat.le_refl _)).set _ (Nat.le_refl _)⟩
theorem ziN:∀ (l:List Nat) {j c:Nat},j<(l.takeWhile isD).length->l[j]? = some c->isD c=true
 | [],j,c,h,_=>by simp at h
 | d::l,j,c,h,hc=>by
  rw[List.takeWhile_cons] at h;by_cases hd:isD d=true
  ·rw[if_pos hd,List.length_cons] at h;cases j with
   | zero=>rw[List.getElem?_cons_zero] at hc;cases hc;exact hd
   | succ j=>rw[List.getElem?_cons_succ] at hc;exact ziN l (by omega) hc
  ·rw[if_neg hd] at h;simp at h
theorem zn6:∀ (l:List Nat) {c:Nat},l[(l.takeWhile isD).length]? = some c->isD c=false
 | [],c,h=>by simp at h
 | d::l,c,h=>by
  rw[List.takeWhile_cons] at h;by_cases hd:isD d=true
  ·rw[if_pos hd,List.length_cons,List.getElem?_cons_succ] at h;exact zn6 l h
  ·rw[if_neg hd,List.length_nil,List.getElem?_cons_zero] at h;cases h
   simpa using hd
theorem zhF (l:List Nat):(l.takeWhile isD).length<=l.length:=(List.takeWhile_sublist _).length_le
theorem zf4 {c} (h:isD c=true):48<=c∧c<=57:=of_decide_eq_true h
theorem zt0 {c} (h:isD c=false):c<48∨57<c:=by
 have:=of_decide_eq_false h;omega
theorem zjB (s) (i:Nat) (w) (hs:s.size<=1000) (hi:i<=s.size) :
  Calls prog 188 #[.string s,.int .i64 (i:Int)] w λr w'=>r = .returned (.int .i64 ((((bl s).drop i).takeWhile isD).length:Int))∧w'=w:=by
 generalize hL:(((bl s).drop i).takeWhile isD).length=L;have HL:=Lib.hid hL;have hLs:i+L<=s.size:=by
  have h1:=zhF ((bl s).drop i);rw[hL,List.length_drop,zbI] at h1;omega
 clear hL;go_enter func188,ntmps188;go_wp2_with fail;go_loop [5] (λv=>∃ j:Nat,v = .int .i64 (j:Int)∧j<=L) (λv=>L-(intOf v).toNat)
 case atStart=>exact⟨0,rfl,Nat.zero_le _⟩
 case round=>
  obtain⟨j,rfl,hj⟩:=hrel;by_cases hjs:i+j<s.size
  ·have hb:=zeM s (i+j) hjs;have hb':((bl s).drop i)[j]? = some (s[i+j]'hjs).toNat:=by rw[List.getElem?_drop];exact hb
   clear hb;by_cases hjL:j<L
   ·obtain⟨g1,g2⟩:=zf4 (ziN _ (by rw[HL.out];exact hjL) hb');have g1':(48:Int)<=((s[i+j]'hjs).toNat:Int):=by omega
    have g2':((s[i+j]'hjs).toNat:Int)<=57:=by omega
    clear hb' g1 g2;go_wp2_with fail;exact⟨⟨j+1,by go_num,by omega⟩,by simp[intOf];omega⟩
   ·have hjL':Hid (j=L):=by show j=L;omega
    have hd:=zt0 (zn6 ((bl s).drop i) (by rw[HL.out,<-hjL'.out];exact hb'));rcases hd with hd | hd
    ·have g1:¬ (48:Int)<=((s[i+j]'hjs).toNat:Int):=by omega
     clear hb' hd;go_wp2_with fail;exact bodyPost_ret (v:=.int .i64 (j:Int)) (by simp[results,results188,go_sem]) rfl ⟨by rw[hjL'.out],rfl⟩
    ·have g1:(48:Int)<=((s[i+j]'hjs).toNat:Int):=by omega
     have g2:¬ ((s[i+j]'hjs).toNat:Int)<=57:=by omega
     clear hb' hd;go_wp2_with fail;exact bodyPost_ret (v:=.int .i64 (j:Int)) (by simp[results,results188,go_sem]) rfl ⟨by rw[hjL'.out],rfl⟩
  ·have hjL':Hid (j=L):=by
    show j=L;have h1:=zhF ((bl s).drop i);rw[HL.out,List.length_drop,zbI] at h1;omega
   have hjs':¬ ((i:Int)+(j:Int)<(s.size:Int)):=by omega
   go_wp2_with fail;exact bodyPost_ret (v:=.int .i64 (j:Int)) (by simp[results,results188,go_sem]) rfl ⟨by rw[hjL'.out],rfl⟩
def oV (r:Option Int):Value:=.tuple #[.int .i64 (r.getD 0),.bool r.isSome]
theorem znn (l):(l=[]∨¬ (∀ c∈l,isD c=true))↔((l.takeWhile isD).length=0∨(l.takeWhile isD).length≠l.length):=by
 constructor
 ·rintro(rfl | h)
  ·exact Or.inl rfl
  ·refine Or.inr λhe=>h ?_;have h1:l.takeWhile isD=l:=(List.takeWhile_prefix isD).eq_of_length he;intro c hc;rw[<-h1] at hc;exact zfc l c hc
 ·intro h;by_cases h0:l=[]
  ·exact Or.inl h0
  ·refine Or.inr λhall=>?_;have h1:(l.takeWhile isD).length=l.length:=by
    have h2:=zhF l;by_cases h3:(l.takeWhile isD).length<l.length
    ·have h4:=zn6 l (List.getElem?_eq_getElem h3);rw[hall _ (List.getElem_mem h3)] at h4;cases h4
    ·omega
   rcases h with h | h
   ·exact h0 (List.length_eq_zero_iff.1 (by omega))
   ·exact h h1
theorem zno (l:List Nat):∀ n,n<=1000->l.foldl (λn c=>min 1000 (10*n+(c-48))) n<=1000:=by
 induction l with
 | nil=>intro n h;exact h
 | cons c l ih=>intro n h;exact ih _ (by show min 1000 (10*n+(c-48))<=1000;omega)
theorem zpu (c t u ng) (hc:c=101∨c=69) (h:(t.head? = some 43∨t.head? = some 45)∧u=t.tail∧ng=decide (t.head? = some 45)∨¬ (t.head? = some 43∨t.head? = some 45)∧u=t∧ng=false) :
  zdG (c::t)=if(u.takeWhile isD).length=0∨(u.takeWhile isD).length≠u.length then none else some (if ng then -((u.foldl (λn c=>min 1000 (10*n+(c-48))) 0:Nat):Int) else(u.foldl (λn c=>min 1000 (10*n+(c-48))) 0:Nat)):=by
 rw[zez];unfold zih;rw[if_neg (by omega)];simp only;rcases h with⟨h1,rfl,rfl⟩ | ⟨h1,rfl,rfl⟩
 ·rw[if_pos h1];rw[ite_iff _ _ (znn t.tail)];congr 2
  by_cases h45:t.head? = some 45 <;> simp[h45]
 ·rw[if_neg h1,ite_iff _ _ (znn u)];congr 2
  rw[if_neg (λh=>h1 (Or.inr h))];simp
theorem zn7 (s w) (hs : s.size ≤ 1000) :
    Calls prog 189 #[.string s] w fun r w' => r = .returned (oV (zdG (bl s))) ∧ w' = w := by
  by_cases h0 : s.size = 0
  · have : s = ⟨#[]⟩ := by
      cases s with | mk d => cases d with | mk l => cases l with
        | nil => rfl
        | cons a l => simp [ByteArray.size] at h0
    subst this
    go_enter func189, ntmps189
    go_wp2_with fail
    exact rt2 rfl rfl ⟨rfl, rfl⟩
  · have h0' : 0 < s.size := by omega
    have hne : s.toList.isEmpty = false := by
      rw [ByteArray.toList_eq]
      cases h : s.data.toList with
      | nil => have h1 : s.data.toList.length = s.size := rfl
               rw [h] at h1; simp at h1; omega
      | cons a l => rfl
    have hb := zeM s 0 h0'
    obtain ⟨c, t, hct⟩ : ∃ c t, bl s = c :: t := by
      cases h : bl s with
      | nil => have := zbI s; rw [h] at this; simp at this; omega
      | cons c t => exact ⟨c, t, rfl⟩
    have hc0 : (s[0]'h0').toNat = c := by rw [hct] at hb; simpa using hb.symm
    have hdr : (bl s).drop 1 = t := by rw [hct]; rfl
    by_cases hce : c = 101 ∨ c = 69
    · generalize hR : zdG (bl s) = R
      have HR := Lib.hid hR
      clear hR
      have HE : Hid (((s[0]'h0').toNat : Int) = 101 ∨ (((s[0]'h0').toNat : Int) != 101) = true ∧ (((s[0]'h0').toNat : Int) != 69) = false) := by
        rcases hce with h | h
        · exact Or.inl (by omega)
        · exact Or.inr ⟨by simp; omega, by simp; omega⟩
      have HT : Hid (∀ (u : List Nat) (ng : Bool), (t.head? = some 43 ∨ t.head? = some 45) ∧ u = t.tail ∧ ng = decide (t.head? = some 45) ∨ ¬ (t.head? = some 43 ∨ t.head? = some 45) ∧ u = t ∧ ng = false → R = if (u.takeWhile isD).length = 0 ∨ (u.takeWhile isD).length ≠ u.length then none else some (if ng then -((u.foldl (fun n c => min 1000 (10 * n + (c - 48))) 0 : Nat) : Int) else (u.foldl (fun n c => min 1000 (10 * n + (c - 48))) 0 : Nat))) := by
        intro u ng h
        rw [← HR.out, hct]
        exact zpu c t u ng hce h
      have hc1 : ∀ h : 1 < s.size, t.head? = some (s[1]'h).toNat := by
        intro h
        have := zeM s 1 h
        rw [hct] at this
        rw [List.head?_eq_getElem?]
        simpa using this
      have hc2 : s.size ≤ 1 → t = [] := by
        intro h
        have := zbI s
        rw [hct] at this
        simp at this
        exact List.length_eq_zero_iff.1 (by omega)
      have hd2 : (bl s).drop 2 = t.tail := by rw [hct]; cases t <;> rfl
      have HC1 := Lib.hid hc1
      have HC2 := Lib.hid hc2
      have HD1 := Lib.hid hdr
      have HD2 := Lib.hid hd2
      clear hct hb hc0 hdr hc1 hc2 hd2 hce HR
      go_enter func189, ntmps189
      go_upto_region 3 with fail
      go_cut [18] (fun s18 wx => s18 = .bool false ∧ wx = w)
      case first =>
        rcases HE.out with h | ⟨h, h'⟩
        · have e1 : (((s[0]'h0').toNat : Int) != 101) = false := by simp [h]
          clear h
          go_wp2_with fail
          go_meet
          exact ⟨rfl, rfl⟩
        · go_wp2_with fail
          go_meet
          exact ⟨rfl, rfl⟩
      case rest =>
      obtain ⟨rfl, hwc⟩ := hcut
      rw [hwc]
      clear hwc wc
      go_upto_region 7 with fail
      obtain ⟨B, hB⟩ : ∃ B, B = decide (t.head? = some 43 ∨ t.head? = some 45) := ⟨_, rfl⟩
      have HB := Lib.hid hB
      clear hB
      go_cut [31] (fun s31 wx => s31 = .bool B ∧ wx = w)
      case first =>
        by_cases h1 : 1 < s.size
        · have hh := HC1.out h1
          by_cases h43 : ((s[1]'h1).toNat : Int) = 43
          · have hBt : B = true := by rw [HB.out, hh]; exact decide_eq_true (Or.inl (by congr 1; omega))
            subst hBt
            have e1 : (((s[1]'h1).toNat : Int) == 43) = true := by simp [h43]
            clear hh h43
            go_wp2_with fail
            go_meet
            exact ⟨rfl, rfl⟩
          · have e1 : (((s[1]'h1).toNat : Int) == 43) = false := by simpa using h43
            by_cases h45 : ((s[1]'h1).toNat : Int) = 45
            · have hBt : B = true := by rw [HB.out, hh]; exact decide_eq_true (Or.inr (by congr 1; omega))
              subst hBt
              have e2 : (((s[1]'h1).toNat : Int) == 45) = true := by simp [h45]
              clear hh h43 h45
              go_wp2_with fail
              go_meet
              exact ⟨rfl, rfl⟩
            · have hBt : B = false := by rw [HB.out, hh]; exact decide_eq_false (by simp; omega)
              subst hBt
              have e2 : (((s[1]'h1).toNat : Int) == 45) = false := by simpa using h45
              clear hh h43 h45
              go_wp2_with fail
              go_meet
              exact ⟨rfl, rfl⟩
        · have hBt : B = false := by rw [HB.out, HC2.out (by omega)]; rfl
          subst hBt
          go_wp2_with fail
          go_meet
          exact ⟨rfl, rfl⟩
      case rest =>
      obtain ⟨rfl, hwc⟩ := hcut
      rw [hwc]
      clear hwc wc
      go_upto_if 31 with fail
      go_cut [4, 5] (fun s4 s5 wx => ∃ (i : Nat) (ng : Bool), s4 = .int .i64 (i : Int) ∧ s5 = .bool ng ∧ wx = w ∧ i ≤ s.size ∧ Hid (R = if (((bl s).drop i).takeWhile isD).length = 0 ∨ (((bl s).drop i).takeWhile isD).length ≠ ((bl s).drop i).length then none else some (if ng then -((((bl s).drop i).foldl (fun n c => min 1000 (10 * n + (c - 48))) 0 : Nat) : Int) else (((bl s).drop i).foldl (fun n c => min 1000 (10 * n + (c - 48))) 0 : Nat))))
      case first =>
        cases B with
        | true =>
          have h1 : 1 < s.size := by
            have h2 := of_decide_eq_true HB.out.symm
            by_cases h1 : 1 < s.size
            · exact h1
            · rw [HC2.out (by omega)] at h2; simp at h2
          have hh := HC1.out h1
          go_wp2_with fail
          go_meet
          refine ⟨2, _, rfl, rfl, rfl, by omega, ?_⟩
          have h2 := of_decide_eq_true HB.out.symm
          rw [HD2.out]
          refine HT.out t.tail _ (Or.inl ⟨h2, rfl, ?_⟩)
          rw [hh]
          by_cases h45 : (s[1]'h1).toNat = 45 <;> simp [h45] <;> omega
        | false =>
          have h2 := of_decide_eq_false HB.out.symm
          have HH := Lib.hid h2
          clear h2
          go_wp2_with fail
          go_meet
          refine ⟨1, _, rfl, rfl, rfl, by omega, ?_⟩
          rw [HD1.out]
          exact HT.out t _ (Or.inr ⟨HH.out, rfl, rfl⟩)
      case rest =>
      obtain ⟨i, ng, rfl, rfl, hwc, hi, HRI⟩ := hcut
      rw [hwc]
      clear hwc wc HT HC1 HC2 HD1 HD2 HB HE
      have hrun := zjB s i w hs hi
      have hDl : ((bl s).drop i).length = s.size - i := by rw [List.length_drop, zbI]
      have HAT : Hid (∀ (m : Nat) (h : i + m < s.size), ((bl s).drop i)[m]? = some (s[i + m]'h).toNat) := fun m h => by rw [List.getElem?_drop]; exact zeM s (i + m) h
      generalize (bl s).drop i = D at *
      have HTW : Hid (∀ m c, m < (D.takeWhile isD).length → D[m]? = some c → isD c = true) := fun m c h1 h2 => ziN D h1 h2
      have hLle := zhF D
      generalize (D.takeWhile isD).length = L at *
      by_cases hbad : L = 0 ∨ L ≠ D.length
      · have hRn : R = none := by rw [HRI.out]; exact if_pos hbad
        subst hRn
        by_cases hL0 : L = 0
        · have e1 : ((L : Int) == 0) = true := by simp [hL0]
          clear hL0 hbad
          go_wp2_with (go_at_call 188; (with_reducible refine hrun.mono ?_); rintro e w' ⟨rfl, rfl⟩)
          exact rt2 rfl rfl ⟨rfl, rfl⟩
        · have e1 : ((L : Int) == 0) = false := by simp [hL0]
          have e2 : ((i : Int) + (L : Int) != (s.size : Int)) = true := by simp; omega
          clear hL0 hbad
          go_wp2_with (go_at_call 188; (with_reducible refine hrun.mono ?_); rintro e w' ⟨rfl, rfl⟩)
          exact rt2 rfl rfl ⟨rfl, rfl⟩
      · have hRn : R = some (if ng then -((D.foldl (fun n c => min 1000 (10 * n + (c - 48))) 0 : Nat) : Int) else (D.foldl (fun n c => min 1000 (10 * n + (c - 48))) 0 : Nat)) := by rw [HRI.out]; exact if_neg hbad
        have e1 : ((L : Int) == 0) = false := by simp; omega
        have e2 : ((i : Int) + (L : Int) != (s.size : Int)) = false := by simp; omega
        have HRN := Lib.hid hRn
        have hLs : Hid (L = D.length ∧ i + L = s.size) := by show L = D.length ∧ i + L = s.size; omega
        have hLb : L ≤ 1000 := by omega
        clear hRn hbad hDl HRI
        go_wp2_with (go_at_call 188; (with_reducible refine hrun.mono ?_); rintro e w' ⟨rfl, rfl⟩)
        go_loop [7, 8] (fun v7 v8 => ∃ m : Nat, i + m ≤ s.size ∧ v8 = .int .i64 ((i + m : Nat) : Int) ∧ v7 = .int .i64 (((D.take m).foldl (fun n c => min 1000 (10 * n + (c - 48))) 0 : Nat) : Int)) (fun _ v8 => s.size - (intOf v8).toNat)
        case atStart => exact ⟨0, by omega, rfl, rfl⟩
        case round =>
          obtain ⟨m, hm, rfl, rfl⟩ := hrel
          have hn := zno (D.take m) 0 (by omega)
          by_cases hms : i + m < s.size
          · have hb := HAT.out m hms
            obtain ⟨g1, g2⟩ := zf4 (HTW.out m _ (by have := hLs.out.2; omega) hb)
            have HF : Hid ((D.take (m + 1)).foldl (fun n c => min 1000 (10 * n + (c - 48))) 0 = min 1000 (10 * (D.take m).foldl (fun n c => min 1000 (10 * n + (c - 48))) 0 + ((s[i + m]'hms).toNat - 48))) := by
              show List.foldl _ _ _ = _
              rw [zaJ hb, List.foldl_append]; rfl
            generalize (D.take m).foldl (fun n c => min 1000 (10 * n + (c - 48))) 0 = n at *
            clear hb
            by_cases hbig : 1000 < 10 * n + ((s[i + m]'hms).toNat - 48)
            · have hbig' : (1000 : Int) < 10 * (n : Int) + ((s[i + m]'hms).toNat : Int) - 48 := by omega
              go_wp2_with fail
              refine ⟨⟨m + 1, by omega, by go_num, ?_⟩, by simp [intOf]; omega⟩
              rw [HF.out, Nat.min_eq_left (by omega)]; rfl
            · have hbig' : ¬ (1000 : Int) < 10 * (n : Int) + ((s[i + m]'hms).toNat : Int) - 48 := by omega
              go_wp2_with fail
              refine ⟨⟨m + 1, by omega, by go_num, ?_⟩, by simp [intOf]; omega⟩
              rw [HF.out, Nat.min_eq_right (by omega)]
              congr 1; omega
          · have HM : Hid (D.take m = D) := by
              show D.take m = D
              apply List.take_of_length_le
              have := hLs.out
              omega
            have HR2 : Hid (R = some (if ng then -(((D.take m).foldl (fun n c => min 1000 (10 * n + (c - 48))) 0 : Nat) : Int) else ((D.take m).foldl (fun n c => min 1000 (10 * n + (c - 48))) 0 : Nat))) := by
              show R = _
              rw [HM.out]; exact HRN.out
            clear HRN
            generalize (D.take m).foldl (fun n c => min 1000 (10 * n + (c - 48))) 0 = n at *
            have hms' : ¬ ((i : Int) + (m : Int) < (s.size : Int)) := by omega
            cases ng with
            | true =>
              go_wp2_with fail
              exact rt2 rfl rfl ⟨by rw [HR2.out]; rfl, rfl⟩
            | false =>
              go_wp2_with fail
              exact rt2 rfl rfl ⟨by rw [HR2.out]; rfl, rfl⟩
    · have hR : zdG (bl s) = none := by rw [hct, zez]; unfold zih; rw [if_pos (by omega)]
      rw [hR]
      have e1 : (((s[0]'h0').toNat : Int) != 101) = true := by simp; omega
      have e2 : (((s[0]'h0').toNat : Int) != 69) = true := by simp; omega
      clear hR hct hb hc0 hdr
      go_enter func189, ntmps189
      go_wp2_with fail
      exact rt2 rfl rfl ⟨rfl, rfl⟩
theorem zf5 {P} (w) {o:Oper} {a} {K:Act->World->Prop} {Q} (s x t) (ho:o.op = .call { callee:=.builtin .append,args:=#[s,x],argTypes:=#[t,t] }) (base e i z size bytes) (ht:P.underlying t=some (.slice e)) (hi:P.info? e=some i) (hz:i.zero=some z) (hsize:i.size=size) (hby:i.bytes=bytes) (hzs:z.cells.size=size) (hsz:0<size) (v n xs) (hs:a.eval s=v) (hown:w.ownsRow base e size v n xs) (ad m c news) (hx:a.eval x = .slice (some ad) m c) (hl:news.length=m*size) (hnews:∀ j u,news[j]? = some u->w.cell? (ad.add j)=some u) (h1:∀ u∈news,u.oneCell'=true) (b1:n+m<=maxLen) (b2:(n+m)*bytes<=140737488355328) (hbase:base<=w.heap.size) (h:∀ v' w',w'.ownsRow base e size v' (n+m) (xs++news)->w.grownBy w' v.ownBlock->K (a.put o.dst v') w'):o.wp P a w K Q:=by
 obtain⟨v',w',hr,h2,h3,_⟩:=run_append_own (P:=P) w base t o.type e i z size bytes ht hi hz hsize hby hzs hsz v n xs hown ad m c news hl hnews h1 b1 b2 hbase;unfold Oper.wp execOp;simp only[ho,resolve,invoke,builtin,Sem.run_bind,Sem.run_pure,Result.andThen_ok,List.map_toArray,List.map_cons,List.map_nil,hs,hx,hr];exact h v' w' h2 h3
theorem znp (n):∀ u∈[Value.int .i64 n],u.oneCell'=true:=by
 intro u hu;obtain rfl:=List.mem_singleton.1 hu;rfl
theorem zt1 {w:World} {base e v n xs} (h:w.ownsRow base e 1 v n xs):∃ A c,v = .slice A n c:=by
 rcases h.2 with⟨rfl,rfl⟩ | ⟨g,cap,cur,rfl,_⟩
 ·exact⟨_,_,rfl⟩
 ·exact⟨_,_,rfl⟩
structure AccD (w0:World) (s0:Nat) (neg:Bool) (A:Option Addr) (cap k:Nat) (ex:Int) (l:List Nat) (wr:World):Prop where
 ext:Ext w0 wr
 hi:w0.heap.size<=s0
 row:wr.heap[s0]? = some (.cells #[.bool neg,.slice A k cap,.int .i64 ex] 121)
 own:wr.ownsRow (s0+1) 3 1 (.slice A k cap) k (i6 l)
def zsu (w0:World) (s0:Nat) (neg:Bool) (A:Option Addr) (cap k:Nat) (ex:Int) (W:World):Prop:=Ext w0 W∧W.heap[s0]? = some (.cells #[.bool neg,.slice A k cap,.int .i64 ex] 121)
section
variable {w0:World} {s0:Nat} {neg:Bool} {A:Option Addr} {cap k:Nat} {ex:Int} {l:List Nat} {wr:World}
theorem AccD.lt (h:AccD w0 s0 neg A cap k ex l wr):s0<wr.heap.size:=z7 h.row
theorem AccD.of_ext (h:AccD w0 s0 neg A cap k ex l wr) {w1:World} (hx:Ext wr w1):AccD w0 s0 neg A cap k ex l w1:=
 ⟨h.ext.trans hx,h.hi,by rw[hx.block h.lt];exact h.row,zfa h.own hx⟩
theorem AccD.rd (h:AccD w0 s0 neg A cap k ex l wr):Rd (s0+1) wr A (i6 l)∧k<=cap:=by
 obtain⟨A',c',e,hr,hc⟩:=Rd.of_own h.own;simp only[Value.slice.injEq,true_and] at e;obtain⟨rfl,rfl⟩:=e;exact⟨hr,hc⟩
theorem AccD.len (h:AccD w0 s0 neg A cap k ex l wr):l.length=k:=by
 have:=h.own.1;simp[i6] at this
 omega
theorem AccD.cells (h:AccD w0 s0 neg A cap k ex l wr):wr.cell? ⟨s0,0,none⟩=some (.bool neg)∧wr.cell? ⟨s0,1,none⟩=some (.slice A k cap)∧wr.cell? ⟨s0,2,none⟩=some (.int .i64 ex):=by
 refine⟨?_,?_,?_⟩ <;> rw[cell_of_row wr s0 _ _ _ (0,0) h.row] <;> rfl
theorem AccD.fz (h:AccD w0 s0 neg A cap k ex l wr) (o:Nat):wr.frozen? ⟨s0,o,none⟩=false:=frozen_of_row wr s0 o _ _ h.row
theorem AccD.own_set (h:AccD w0 s0 neg A cap k ex l wr) (o:Nat) (x:Value):(wr.setCell ⟨s0,o,none⟩ x).ownsRow (s0+1) 3 1 (.slice A k cap) k (i6 l):=
 zbq h.own λg cur hg=>RowKit.Below.heap_setCell _ _ _ _ (λhe=>by subst he;rw[h.row] at hg;cases hg)
theorem AccD.set0 (h:AccD w0 s0 neg A cap k ex l wr) (n':Bool):AccD w0 s0 n' A cap k ex l (wr.setCell ⟨s0,0,none⟩ (.bool n')):=⟨h.ext.set _ h.hi,h.hi,heap_setCell_same wr s0 0 _ _ _ h.row,h.own_set _ _⟩
theorem AccD.set2 (h:AccD w0 s0 neg A cap k ex l wr) (e':Int):AccD w0 s0 neg A cap k e' l (wr.setCell ⟨s0,2,none⟩ (.int .i64 e')):=⟨h.ext.set _ h.hi,h.hi,heap_setCell_same wr s0 2 _ _ _ h.row,h.own_set _ _⟩
theorem AccD.step (h:AccD w0 s0 neg A cap k ex l wr) {x:Nat} {v':Value} {w1 w3:World} (hx:Ext wr w1)
  (hg:w1.grownBy w3 (Value.slice A k cap).ownBlock) (ho:w3.ownsRow (s0+1) 3 1 v' (k+1) (i6 l++[.int .i64 (x:Int)])) :
  ∃ A' cap',v' = .slice A' (k+1) cap'∧w3.heap[s0]? = some (.cells #[.bool neg,.slice A k cap,.int .i64 ex] 121)∧Ext w0 w3∧AccD w0 s0 neg A' cap' (k+1) ex (l++[x]) (w3.setCell ⟨s0,1,none⟩ v'):=by
 obtain⟨A',cap',rfl⟩:=zt1 ho;have h1:=h.of_ext hx;have hlt:=h1.lt;have hnb:∀ b,b<=s0->some b≠(Value.slice A k cap).ownBlock:=λb hb e=>by have:=(zd3 h.own _ e.symm).1;omega
 have hrow:w3.heap[s0]? = some (.cells #[.bool neg,.slice A k cap,.int .i64 ex] 121):=by
  rw[hg.block _ hlt (hnb _ (Nat.le_refl _))];exact h1.row
 have hex:Ext w0 w3:=by
  have h2:Ext w0 w1:=h1.ext;exact⟨hg.os.trans h2.os,hg.tape.trans h2.tape,hg.output.trans h2.output,Nat.le_trans h2.size hg.size,λb hb=>(hg.block b (Nat.lt_of_lt_of_le hb h2.size) (hnb b (by have:=h.hi;omega))).trans (h2.block hb)⟩
 refine⟨A',cap',rfl,hrow,hex,Ext.set hex _ h.hi,h.hi,?_,?_⟩
 ·exact heap_setCell_same w3 s0 1 _ _ _ hrow
 ·have:i6 (l++[x])=i6 l++[.int .i64 (x:Int)]:=by simp[i6]
  rw[this];exact zbq ho λg cur hg=>RowKit.Below.heap_setCell _ _ _ _ (λhe=>by subst he;rw[hrow] at hg;cases hg)
end
theorem zn8 (s i):bl (s.extract i s.size)=(bl s).drop i:=by
 unfold bl;rw[ByteArray.data_extract,Array.toList_extract,List.extract_eq_take_drop,List.take_of_length_le (by rw[List.length_drop];exact Nat.le_refl _),List.map_drop]
def zrE (ng:Bool) (n nb:Nat) (ds:List Nat):Option Int->Option (Int×Int)
 | none=>none
 | some e=>if n+nb=0 then none else rnd ng (val ds) false (e-nb)
def zjC (ng:Bool) (n nb:Nat) (ds:List Nat) (l3:List Nat):Option (Int×Int):=zrE ng n nb ds (zdG l3)
theorem zkd (ng n nb ds e):zrE ng n nb ds (some e)=if n+nb=0 then none else rnd ng (val ds) false (e-nb):=rfl
theorem zpv {ng l1} (h:(l1.drop (l1.takeWhile isD).length).head? = some 46) (hB:((l1.drop ((l1.takeWhile isD).length+1)).takeWhile isD).length≠0) :
  zet ng l1=zjC ng (l1.takeWhile isD).length ((l1.drop ((l1.takeWhile isD).length+1)).takeWhile isD).length (((l1.takeWhile isD)++((l1.drop ((l1.takeWhile isD).length+1)).takeWhile isD)).map (· - 48)) (l1.drop ((l1.takeWhile isD).length+1+((l1.drop ((l1.takeWhile isD).length+1)).takeWhile isD).length)):=by
 have d1:l1.dropWhile isD=l1.drop (l1.takeWhile isD).length:=by
  conv=>rhs;arg 2;rw[zdQ l1]
  rw[List.drop_left]
 have d2:(l1.drop (l1.takeWhile isD).length).tail=l1.drop ((l1.takeWhile isD).length+1):=by rw[List.tail_drop]
 have d3:∀ l:List Nat,l.dropWhile isD=l.drop (l.takeWhile isD).length:=λl=>by
  conv=>rhs;arg 2;rw[zdQ l]
  rw[List.drop_left]
 unfold zet zjC;simp only[d1,d2,h,if_true,true_and];rw[if_neg (λh0=>hB (by rw[h0];rfl)),d3 (l1.drop ((l1.takeWhile isD).length+1)),List.drop_drop];generalize zdG _=r;cases r <;> rfl
theorem zn9 {ng l1} (h:(l1.drop (l1.takeWhile isD).length).head? = some 46) (hB:((l1.drop ((l1.takeWhile isD).length+1)).takeWhile isD).length=0):zet ng l1=none:=by
 have d1:l1.dropWhile isD=l1.drop (l1.takeWhile isD).length:=by
  conv=>rhs;arg 2;rw[zdQ l1]
  rw[List.drop_left]
 have d2:(l1.drop (l1.takeWhile isD).length).tail=l1.drop ((l1.takeWhile isD).length+1):=by rw[List.tail_drop]
 unfold zet;simp only[d1,d2,h,if_true,true_and];rw[if_pos (List.length_eq_zero_iff.1 hB)]
theorem zpw {ng l1} (h:(l1.drop (l1.takeWhile isD).length).head? ≠ some 46) :
  zet ng l1=zjC ng (l1.takeWhile isD).length 0 ((l1.takeWhile isD).map (· - 48)) (l1.drop (l1.takeWhile isD).length):=by
 have d1:l1.dropWhile isD=l1.drop (l1.takeWhile isD).length:=by
  conv=>rhs;arg 2;rw[zdQ l1]
  rw[List.drop_left]
 unfold zet zjC;simp only[d1,if_neg h,List.length_nil,List.append_nil];rw[if_neg (λh0=>h h0.1)];generalize zdG _=r;cases r <;> rfl
theorem znq (l:List Nat):l.take (l.takeWhile isD).length=l.takeWhile isD:=by
 conv=>lhs;arg 2;rw[zdQ l]
 rw[List.take_left]
theorem zs5 {l e} (h:zdG l=some e):-1000<=e∧e<=1000:=by
 cases l with
 | nil=>cases h;omega
 | cons c t=>
  rw[zez] at h;unfold zih at h;split at h
  ·cases h
  ·simp only at h;generalize (if t.head? = some 43∨t.head? = some 45 then t.tail else t)=u at h;by_cases hu:u=[]∨¬ (∀ c∈u,isD c=true)
   ·rw[if_pos hu] at h;cases h
   ·rw[if_neg hu] at h;have hb:=zno u 0 (by omega);have h:=Option.some.inj h;split at h <;> omega
theorem zjD {a:List Nat} (h:∀ c∈a,isD c=true):AllD (a.map (· - 48)):=by
 intro d hd;obtain⟨c,hc,rfl⟩:=List.mem_map.1 hd;have:=zf4 (h c hc);omega
theorem ziO (s w) (hs:s.size<=1000) :
  Calls prog 136 #[.string s] w λr w'=>r = .returned (rnV (if 255<s.size then none else zlq (bl s)))∧Ext w w':=by
 by_cases hlen:255<s.size
 ·rw[if_pos hlen];go_enter func136,ntmps136;go_wp2_with fail;exact rct (v:=NV 0 0) rfl rfl (by simp[go_sem]) ⟨rfl,by simp[go_sem]⟩
 ·rw[if_neg hlen];generalize hR:zlq (bl s)=R;have HR:=Lib.hid hR;clear hR;go_enter func136,ntmps136;go_upto_region 5 with fail;refine zH λW hW=>?_;have hX0:PV (w.alloc (.cells #[.int .i64 0,.int .i64 0] 36)) w.heap.size 0 0:=PV.new 0 0 rfl;have hXw:Ext w (w.alloc (.cells #[.int .i64 0,.int .i64 0] 36)):=(Ext.refl w).alloc _;have hXs:(w.alloc (.cells #[.int .i64 0,.int .i64 0] 36)).heap.size=w.heap.size+1:=by simp
  have hacc0:AccD (w.alloc (.cells #[.int .i64 0,.int .i64 0] 36)) (w.heap.size+1) false none 0 0 0 [] W:=by
   refine⟨by rw[hW];exact(Ext.refl _).alloc _,by omega,?_,World.ownsRow_nil _ _ _ _⟩;rw[hW,<-hXs];exact Array.getElem?_push_size
  clear hW;generalize w.alloc (.cells #[.int .i64 0,.int .i64 0] 36)=X at *;have HS0:=Lib.hid hXs;clear hXs;have hq0:w.heap.size<w.heap.size+1:=by omega
  generalize w.heap.size+1=q at *;obtain⟨B,hB⟩:∃ B,B=decide ((bl s).head? = some 45):=⟨_,rfl⟩;have HB:=Lib.hid hB;have HACC:=Lib.hid hacc0;clear hB hacc0;go_cut [24] (λs24 wx=>s24 = .bool B∧wx=W)
  case first=>
   by_cases h0:0<s.size
   ·have hh:(bl s).head? = some (s[0]'h0).toNat:=by rw[List.head?_eq_getElem?];exact zeM s 0 h0
    by_cases h45:((s[0]'h0).toNat:Int)=45
    ·have hBt:B=true:=by rw[HB.out,hh];exact decide_eq_true (by congr 1;omega)
     subst hBt;have e1:(((s[0]'h0).toNat:Int)==45)=true:=by simp[h45]
     clear hh h45;go_wp2_with fail;go_meet;exact⟨rfl,rfl⟩
    ·have hBt:B=false:=by rw[HB.out,hh];exact decide_eq_false (by simp;omega)
     subst hBt;have e1:(((s[0]'h0).toNat:Int)==45)=false:=by simpa using h45
     clear hh h45;go_wp2_with fail;go_meet;exact⟨rfl,rfl⟩
   ·have hBt:B=false:=by
     rw[HB.out];have:bl s=[]:=List.length_eq_zero_iff.1 (by rw[zbI];omega);rw[this];rfl
    subst hBt;go_wp2_with fail;go_meet;exact⟨rfl,rfl⟩
  case rest=>
  obtain⟨rfl,hwc⟩:=hcut;rw[hwc];clear hwc wc;go_upto_if 24 with fail
  go_cut [5] (λs5 wx=>∃ (p:Nat) (ng:Bool),s5 = .int .i64 (p:Int)∧p<=s.size∧Hid (R=zet ng ((bl s).drop p))∧Hid (AccD X q ng none 0 0 0 [] wx))
  case first=>
   have a0:=HACC.out.fz 0;have a1:=HACC.out.lt;have a2:=HACC.out.cells.1;cases B with
   | true=>
    have h2:=of_decide_eq_true HB.out.symm;have h1:1<=s.size:=by
     have:=zbI s;cases h:bl s with
     | nil=>rw[h] at h2;cases h2
     | cons a l=>rw[h] at this;simp at this;omega
    have HH:=Lib.hid h2;clear h2;go_wp2_with fail;go_meet;refine⟨1,true,rfl,h1,?_,HACC.out.set0 true⟩;show _=_;rw[<-HR.out,zii,if_pos HH.out,decide_eq_true HH.out,<-List.drop_one]
   | false=>
    have h2:=of_decide_eq_false HB.out.symm;have HH:=Lib.hid h2;clear h2;go_wp2_with fail;go_meet;refine⟨0,false,rfl,Nat.zero_le _,?_,HACC⟩;show _=_;rw[<-HR.out,zii,if_neg HH.out,decide_eq_false HH.out,List.drop_zero]
  case rest=>
  obtain⟨p,ng,rfl,hp,HRP,HA⟩:=hcut;clear HR HB HACC;obtain⟨i0,hi0,hz0,hz1,hz2⟩:=info_parts zdd;have hrun:=λW=>zjB s p W hs hp;have HAT:Hid (∀ (m:Nat) (h:p+m<s.size),((bl s).drop p)[m]? = some (s[p+m]'h).toNat):=λm h=>by rw[List.getElem?_drop];exact zeM s (p+m) h
  have hDl:((bl s).drop p).length=s.size-p:=by rw[List.length_drop,zbI]
  have HDD:Hid (∀ k,(bl s).drop (p+k)=((bl s).drop p).drop k):=λk=>by rw[List.drop_drop]
  generalize hD:(bl s).drop p=D at *;have HTW:Hid (∀ m c,m<(D.takeWhile isD).length->D[m]? = some c->isD c=true):=λm c h1 h2=>ziN D h1 h2;have hLle:=zhF D;have HLT:=Lib.hid (znq D);generalize hL:(D.takeWhile isD).length=L at *;have HL:=Lib.hid hL;have HDl:=Lib.hid hDl;have hLs:p+L<=s.size:=by omega
  clear hL hD hDl hLle;go_wp2_with (go_at_call 188;(with_reducible refine(hrun _).mono ?_);rintro e w' ⟨rfl,rfl⟩);go_loopw [8] (λv8 wr=>∃ (j:Nat) (A:Option Addr) (cap:Nat),j<=L∧v8 = .int .i64 (j:Int)∧Hid (AccD X q ng A cap j 0 ((D.take j).map (· - 48)) wr)) (λv8 _=>L-(intOf v8).toNat)
  case atStart=>exact⟨0,none,0,Nat.zero_le _,rfl,HA⟩
  case round=>
   obtain⟨j,A,cap,hj,rfl,H⟩:=hrel;by_cases hjL:j<L
   ·have hjs:p+j<s.size:=by omega
    have hb:=HAT.out j hjs;obtain⟨g1,g2⟩:=zf4 (HTW.out j _ hjL hb);have HB:=Lib.hid hb;have hacc:=H.out;obtain⟨x,hx⟩:∃ x,x=(s[p+j]'hjs).toNat-48:=⟨_,rfl⟩;have w1:IntKind.i64.wrap (((s[p+j]'hjs).toNat:Int)-48)=(x:Int):=by rw[zaD (by omega) (by omega)];omega
    have w0:IntKind.i64.wrap ((s[p+j]'hjs).toNat:Int)=((s[p+j]'hjs).toNat:Int):=zaD (by omega) (by omega);have w3:IntKind.i64.wrap ((p:Int)+(j:Int))=(p:Int)+(j:Int):=zaD (by omega) (by omega);have w4:(0:Int)<=(p:Int)+(j:Int)∧(p:Int)+(j:Int)<(s.size:Int):=by omega
    have w5:((p:Int)+(j:Int)).toNat=p+j:=by omega
    have HX:=Lib.hid hx;clear hb g1 g2 hx;go_upto_region 13 with fail;refine zdN (S:=zsu _ _ _ _ _ _ _) [(0,0),(1,0),(2,0),(3,0),(4,0),(5,0),(6,0),(7,0),(8,0),(9,1),(10,1),(11,0),(12,2)] [12] (by kernel_rfl) (by kernel_rfl) (by kernel_rfl) (λ_ _ d _ _ h=>by cases d <;> exact h) ⟨(hacc.of_ext (by simp[go_sem])).ext,(hacc.of_ext (by simp[go_sem])).row⟩ ?_
    (refine zn (v:=?_) rfl ?_ (λw1 h1=>?_) ?_;rotate_left 1;rfl;(obtain⟨h1e,h1r⟩:=h1;have c2:=cell_of_row _ _ 1 _ _ _ h1r;clear h1r;obtain⟨os1,d1,rfl⟩:=h1e.more;go_simp;first | done | rfl))
    try simp only[zq]
    (refine zn (v:=?_) rfl ?_ (λw1 h1=>?_) ?_;rotate_left 1;rfl;(obtain⟨h1e,h1r⟩:=h1;have c2:=cell_of_row _ _ 1 _ _ _ h1r;clear h1r;obtain⟨os1,d1,rfl⟩:=h1e.more;go_simp;first | done | rfl))
    try simp only[zq]
    (refine zn (v:=?_) rfl ?_ (λw1 h1=>?_) ?_;rotate_left 1;rfl;(obtain⟨h1e,h1r⟩:=h1;have c2:=cell_of_row _ _ 1 _ _ _ h1r;clear h1r;obtain⟨os1,d1,rfl⟩:=h1e.more;go_simp;first | done | rfl))
    try simp only[zq]
    (refine zn (v:=?_) rfl ?_ (λw1 h1=>?_) ?_;rotate_left 1;rfl;(obtain⟨h1e,h1r⟩:=h1;have c2:=cell_of_row _ _ 1 _ _ _ h1r;clear h1r;obtain⟨os1,d1,rfl⟩:=h1e.more;go_simp;first | done | rfl))
    try simp only[zq]
    (refine zn (v:=?_) rfl ?_ (λw1 h1=>?_) ?_;rotate_left 1;rfl;(obtain⟨h1e,h1r⟩:=h1;have c2:=cell_of_row _ _ 1 _ _ _ h1r;clear h1r;obtain⟨os1,d1,rfl⟩:=h1e.more;go_simp;first | done | rfl))
    try simp only[zq]
    (refine zn (v:=?_) rfl ?_ (λw1 h1=>?_) ?_;rotate_left 1;rfl;(obtain⟨h1e,h1r⟩:=h1;have c2:=cell_of_row _ _ 1 _ _ _ h1r;clear h1r;obtain⟨os1,d1,rfl⟩:=h1e.more;go_simp;first | done | rfl))
    try simp only[zq]
    (refine zn (v:=?_) rfl ?_ (λw1 h1=>?_) ?_;rotate_left 1;rfl;(obtain⟨h1e,h1r⟩:=h1;have c2:=cell_of_row _ _ 1 _ _ _ h1r;clear h1r;obtain⟨os1,d1,rfl⟩:=h1e.more;go_simp;first | done | rfl))
    try simp only[zq]
    (refine zn (v:=?_) rfl ?_ (λw1 h1=>?_) ?_;rotate_left 1;rfl;(obtain⟨h1e,h1r⟩:=h1;have c2:=cell_of_row _ _ 1 _ _ _ h1r;clear h1r;obtain⟨os1,d1,rfl⟩:=h1e.more;go_simp;first | done | rfl))
    try simp only[zq]
    (refine zn (v:=?_) rfl ?_ (λw1 h1=>?_) ?_;rotate_left 1;rfl;(obtain⟨h1e,h1r⟩:=h1;have c2:=cell_of_row _ _ 1 _ _ _ h1r;clear h1r;obtain⟨os1,d1,rfl⟩:=h1e.more;go_simp;first | done | rfl))
    try simp only[zq]
    (refine zg rfl ?_ (λK hK=>?_);rfl;go_simp;refine hK _ _ ⟨(hacc.of_ext (by simp[go_sem])).ext,(hacc.of_ext (by simp[go_sem])).row⟩ ?_)
    try simp only[zq]
    (refine zg rfl ?_ (λK hK=>?_);rfl)
    refine zf5 _ _ _ _ rfl _ 3 i0 (.int .i64 0) 1 8 Tryz.underlying118 hi0 hz0 hz1 hz2 rfl (by decide) _ _ _ rfl (zfa hacc.own (by simp[go_sem])) _ 1 1 [.int .i64 (x:Int)] rfl rfl (Rd.one_ _ _ (by first | rfl | (simp;done))).add (znp _) (by simp only[maxLen];omega) (by omega) (by have:=hacc.lt;simp;omega) ?_;intro v3 w3 ho3 hg3;obtain⟨A2,cap2,rfl,hrow3,hex3,hacc2⟩:=hacc.step (by simp[go_sem]) hg3 ho3;refine hK _ _ ⟨hex3,hrow3⟩ ?_;try simp only[zq]
    (refine zn (v:=?_) rfl ?_ (λw1 h1=>?_) ?_;rotate_left 1;rfl;(obtain⟨h1e,h1r⟩:=h1;have c2:=cell_of_row _ _ 1 _ _ _ h1r;clear h1r;obtain⟨os1,d1,rfl⟩:=h1e.more;go_simp;first | done | rfl))
    try simp only[zq]
    have c2:=cell_of_row _ _ 1 _ _ _ hrow3;have f2:=frozen_of_row _ _ 1 _ _ hrow3;clear hrow3 hex3 hg3 ho3
    (refine zU rfl ?_ (λK hK=>?_);rfl;go_simp;refine hK _ _ ?_)
    clear c2 f2;try simp only[Act.put]
    refine zi ?_;go_wp2_with fail;refine⟨⟨j+1,A2,cap2,by omega,by go_num,?_⟩,by simp[intOf];omega⟩;show AccD _ _ _ _ _ _ _ _ _;rw[zaJ HB.out,List.map_append,List.map_singleton,<-HX.out];exact hacc2
   ·obtain rfl:L=j:=by omega
    clear hj hjL hrun HTW HAT HA;go_upto_region 15 with fail;obtain⟨i1,hi1⟩:∃ i1:Nat,(p:Int)+(L:Int)=(i1:Int):=⟨p+L,by omega⟩;rw[hi1];have hi1':i1=p+L:=by omega
    have hi1s:i1<=s.size:=by omega
    have HH:Hid (∀ h:i1<s.size,(D.drop L).head? = some (s[i1]'h).toNat):=λh=>by
     rw[<-HDD.out L,<-hi1',List.head?_drop];exact zeM s i1 h
    have HH0:Hid (¬ i1<s.size->(D.drop L).head? ≠ some 46):=λh=>by
     have:D.drop L=[]:=List.drop_eq_nil_of_le (by rw[HDl.out];omega);rw[this];simp
    have HDD1:Hid ((bl s).drop i1=D.drop L):=by show _=_;rw[hi1'];exact HDD.out L
    have HDD2:Hid (∀ k,(bl s).drop (i1+k)=D.drop (L+k)):=λk=>by rw[hi1',Nat.add_assoc];exact HDD.out (L+k)
    clear hi1 hi1';have hX0r:=hX0.ext H.out.ext;have a0:=hX0r.c0;have a1:=hX0r.c1;have a2:=hX0r.fz 0;have a3:=hX0r.fz 1;have a4:=hX0r.lt;have z0:=(hX0r.set 0 0).c0;have z1:=(hX0r.set 0 0).c1;obtain⟨B2,hB2⟩:∃ B2,B2=decide ((D.drop L).head? = some 46):=⟨_,rfl⟩;have HB2:=Lib.hid hB2;clear hB2;go_cut [58] (λs58 wx=>s58 = .bool B2∧wx=wr)
    case first=>
     by_cases h1:i1<s.size
     ·have hh:=HH.out h1;by_cases h46:((s[i1]'h1).toNat:Int)=46
      ·have hBt:B2=true:=by rw[HB2.out,hh];exact decide_eq_true (by congr 1;omega)
       subst hBt;have e1:(((s[i1]'h1).toNat:Int)==46)=true:=by simp[h46]
       clear hh h46;go_wp2_with fail;go_meet;exact⟨rfl,rfl⟩
      ·have hBt:B2=false:=by rw[HB2.out,hh];exact decide_eq_false (by simp;omega)
       subst hBt;have e1:(((s[i1]'h1).toNat:Int)==46)=false:=by simpa using h46
       clear hh h46;go_wp2_with fail;go_meet;exact⟨rfl,rfl⟩
     ·have hBt:B2=false:=by rw[HB2.out];exact decide_eq_false (HH0.out h1)
      subst hBt;have h1':¬ (i1:Int)<(s.size:Int):=by omega
      go_wp2_with fail;go_meet;exact⟨rfl,rfl⟩
    case rest=>
    obtain⟨rfl,hwc⟩:=hcut;rw[hwc];clear hwc wc;go_upto_if 58 with fail
    go_cut [5,7] (λs5 s7 wx=>∃ (i2 nb k cap2:Nat) (A2:Option Addr) (ds:List Nat),s5 = .int .i64 (i2:Int)∧s7 = .int .i64 (nb:Int)∧i2<=s.size∧nb<=s.size∧k<=510∧Hid (AllD ds)∧Hid (R=zjC ng L nb ds ((bl s).drop i2))∧Hid (AccD X q ng A2 cap2 k 0 ds wx))
    case first=>
     cases B2 with
     | false=>
      have h46:=of_decide_eq_false HB2.out.symm;have H46:=Lib.hid h46;clear h46;go_wp2_with fail;go_meet;refine⟨i1,0,L,cap,A,_,rfl,rfl,hi1s,Nat.zero_le _,by omega,?_,?_,H⟩
      ·show AllD _;rw[HLT.out];exact zjD (zfc D)
      ·show _=_;rw[HRP.out,HDD1.out,HLT.out,<-HL.out];exact zpw (by rw[HL.out];exact H46.out)
     | true=>
      have h46:=of_decide_eq_true HB2.out.symm;have h1:i1<s.size:=Decidable.byContradiction λh=>HH0.out h h46;have H46:=Lib.hid h46;clear h46;obtain⟨i2,hi2⟩:∃ i2:Nat,(i1:Int)+1=(i2:Int):=⟨i1+1,by omega⟩;have hi2':i2=i1+1:=by omega
      have hi2s:i2<=s.size:=by omega
      have hrun:=λW=>zjB s i2 W hs hi2s;have hD2:(bl s).drop i2=D.drop (L+1):=by rw[hi2'];exact HDD2.out 1
      have HAT:Hid (∀ (m:Nat) (h:i2+m<s.size),(D.drop (L+1))[m]? = some (s[i2+m]'h).toNat):=λm h=>by rw[<-hD2,List.getElem?_drop];exact zeM s (i2+m) h
      have hDl:(D.drop (L+1)).length=s.size-i2:=by rw[<-hD2,List.length_drop,zbI]
      rw[hD2] at hrun;have HTW:Hid (∀ m c,m<((D.drop (L+1)).takeWhile isD).length->(D.drop (L+1))[m]? = some c->isD c=true):=λm c h1 h2=>ziN _ h1 h2;have hLle:=zhF (D.drop (L+1));have HLT2:=Lib.hid (znq (D.drop (L+1)));have HTD:=Lib.hid (zfc (D.drop (L+1)));generalize hL2:((D.drop (L+1)).takeWhile isD).length=nb at *;have HL2:=Lib.hid hL2;have HI2:=Lib.hid hi2';have hLs2:i2+nb<=s.size:=by omega
      clear hL2 hDl hLle hD2 hi2';by_cases hnb:nb=0
      ·have hRn:R=none:=by
        rw[HRP.out];exact zn9 (by rw[HL.out];exact H46.out) (by rw[HL.out,HL2.out];exact hnb)
       subst hRn;have e1:((nb:Int)==0)=true:=by simp[hnb]
       clear hnb;go_wp2_with (go_at_call 188;(with_reducible refine(hrun _).mono ?_);rintro e w' ⟨rfl,rfl⟩);exact bodyPost_ret (v:=.tuple #[NV 0 0,.bool false]) (by simp[results,results136,go_sem,z0,z1]) rfl ⟨rfl,((hXw.trans H.out.ext).set _ (Nat.le_refl _)).set _ (Nat.le_refl _)⟩
      ·have e1:((nb:Int)==0)=false:=by simp[hnb]
       have HNB:=Lib.hid hnb;clear hnb a0 a1 a2 a3 z0 z1;go_wp2_with (go_at_call 188;(with_reducible refine(hrun _).mono ?_);rintro e w' ⟨rfl,rfl⟩);go_loopw [9] (λv9 wx=>∃ (j:Nat) (A2:Option Addr) (cap2:Nat),j<=nb∧v9 = .int .i64 (j:Int)∧Hid (AccD X q ng A2 cap2 (L+j) 0 ((D.take L).map (· - 48)++((D.drop (L+1)).take j).map (· - 48)) wx)) (λv9 _=>nb-(intOf v9).toNat)
       case atStart=>exact⟨0,A,cap,Nat.zero_le _,rfl,by show AccD _ _ _ _ _ _ _ _ _;rw[List.take_zero,List.map_nil,List.append_nil];exact H.out⟩
       case round=>
        obtain⟨j,A,cap,hj,rfl,H⟩:=hrel;by_cases hjL:j<nb
        ·have hjs:i2+j<s.size:=by omega
         have hb:=HAT.out j hjs;obtain⟨g1,g2⟩:=zf4 (HTW.out j _ hjL hb);have HB:=Lib.hid hb;have hacc:=H.out;obtain⟨x,hx⟩:∃ x,x=(s[i2+j]'hjs).toNat-48:=⟨_,rfl⟩;have w1:IntKind.i64.wrap (((s[i2+j]'hjs).toNat:Int)-48)=(x:Int):=by rw[zaD (by omega) (by omega)];omega
         have w0:IntKind.i64.wrap ((s[i2+j]'hjs).toNat:Int)=((s[i2+j]'hjs).toNat:Int):=zaD (by omega) (by omega);have w3:IntKind.i64.wrap ((i2:Int)+(j:Int))=(i2:Int)+(j:Int):=zaD (by omega) (by omega);have w7:IntKind.i64.wrap (i2:Int)=(i2:Int):=zaD (by omega) (by omega);have w6:IntKind.i64.wrap ((i1:Int)+1)=(i2:Int):=by rw[zaD (by omega) (by omega)];exact hi2
         have w4:(0:Int)<=(i2:Int)+(j:Int)∧(i2:Int)+(j:Int)<(s.size:Int):=by omega
         have w5:((i2:Int)+(j:Int)).toNat=i2+j:=by omega
         have HX:=Lib.hid hx;clear hb g1 g2 hx;go_upto_region 22 with fail;refine zdN (S:=zsu _ _ _ _ _ _ _) [(0,0),(1,0),(2,0),(3,0),(4,0),(5,0),(6,0),(7,0),(8,0),(9,0),(10,1),(11,1),(12,0),(13,2)] [13] (by kernel_rfl) (by kernel_rfl) (by kernel_rfl) (λ_ _ d _ _ h=>by cases d <;> exact h) ⟨(hacc.of_ext (by simp[go_sem])).ext,(hacc.of_ext (by simp[go_sem])).row⟩ ?_
         (refine zn (v:=?_) rfl ?_ (λw1 h1=>?_) ?_;rotate_left 1;rfl;(obtain⟨h1e,h1r⟩:=h1;have c2:=cell_of_row _ _ 1 _ _ _ h1r;clear h1r;obtain⟨os1,d1,rfl⟩:=h1e.more;go_simp;first | done | rfl))
         try simp only[zq]
         (refine zn (v:=?_) rfl ?_ (λw1 h1=>?_) ?_;rotate_left 1;rfl;(obtain⟨h1e,h1r⟩:=h1;have c2:=cell_of_row _ _ 1 _ _ _ h1r;clear h1r;obtain⟨os1,d1,rfl⟩:=h1e.more;go_simp;first | done | rfl))
         try simp only[zq]
         (refine zn (v:=?_) rfl ?_ (λw1 h1=>?_) ?_;rotate_left 1;rfl;(obtain⟨h1e,h1r⟩:=h1;have c2:=cell_of_row _ _ 1 _ _ _ h1r;clear h1r;obtain⟨os1,d1,rfl⟩:=h1e.more;go_simp;first | done | rfl))
         try simp only[zq]
         (refine zn (v:=?_) rfl ?_ (λw1 h1=>?_) ?_;rotate_left 1;rfl;(obtain⟨h1e,h1r⟩:=h1;have c2:=cell_of_row _ _ 1 _ _ _ h1r;clear h1r;obtain⟨os1,d1,rfl⟩:=h1e.more;go_simp;first | done | rfl))
         try simp only[zq]
         (refine zn (v:=?_) rfl ?_ (λw1 h1=>?_) ?_;rotate_left 1;rfl;(obtain⟨h1e,h1r⟩:=h1;have c2:=cell_of_row _ _ 1 _ _ _ h1r;clear h1r;obtain⟨os1,d1,rfl⟩:=h1e.more;go_simp;first | done | rfl))
         try simp only[zq]
         (refine zn (v:=?_) rfl ?_ (λw1 h1=>?_) ?_;rotate_left 1;rfl;(obtain⟨h1e,h1r⟩:=h1;have c2:=cell_of_row _ _ 1 _ _ _ h1r;clear h1r;obtain⟨os1,d1,rfl⟩:=h1e.more;go_simp;first | done | rfl))
         try simp only[zq]
         (refine zn (v:=?_) rfl ?_ (λw1 h1=>?_) ?_;rotate_left 1;rfl;(obtain⟨h1e,h1r⟩:=h1;have c2:=cell_of_row _ _ 1 _ _ _ h1r;clear h1r;obtain⟨os1,d1,rfl⟩:=h1e.more;go_simp;first | done | rfl))
         try simp only[zq]
         (refine zn (v:=?_) rfl ?_ (λw1 h1=>?_) ?_;rotate_left 1;rfl;(obtain⟨h1e,h1r⟩:=h1;have c2:=cell_of_row _ _ 1 _ _ _ h1r;clear h1r;obtain⟨os1,d1,rfl⟩:=h1e.more;go_simp;first | done | rfl))
         try simp only[zq]
         (refine zn (v:=?_) rfl ?_ (λw1 h1=>?_) ?_;rotate_left 1;rfl;(obtain⟨h1e,h1r⟩:=h1;have c2:=cell_of_row _ _ 1 _ _ _ h1r;clear h1r;obtain⟨os1,d1,rfl⟩:=h1e.more;go_simp;first | done | rfl))
         try simp only[zq]
         (refine zn (v:=?_) rfl ?_ (λw1 h1=>?_) ?_;rotate_left 1;rfl;(obtain⟨h1e,h1r⟩:=h1;have c2:=cell_of_row _ _ 1 _ _ _ h1r;clear h1r;obtain⟨os1,d1,rfl⟩:=h1e.more;go_simp;first | done | rfl))
         try simp only[zq]
         (refine zg rfl ?_ (λK hK=>?_);rfl;go_simp;refine hK _ _ ⟨(hacc.of_ext (by simp[go_sem])).ext,(hacc.of_ext (by simp[go_sem])).row⟩ ?_)
         try simp only[zq]
         (refine zg rfl ?_ (λK hK=>?_);rfl)
         refine zf5 _ _ _ _ rfl _ 3 i0 (.int .i64 0) 1 8 Tryz.underlying118 hi0 hz0 hz1 hz2 rfl (by decide) _ _ _ rfl (zfa hacc.own (by simp[go_sem])) _ 1 1 [.int .i64 (x:Int)] rfl rfl (Rd.one_ _ _ (by first | rfl | (simp;done))).add (znp _) (by simp only[maxLen];omega) (by omega) (by have:=hacc.lt;simp;omega) ?_;intro v3 w3 ho3 hg3;obtain⟨A2,cap2,rfl,hrow3,hex3,hacc2⟩:=hacc.step (by simp[go_sem]) hg3 ho3;refine hK _ _ ⟨hex3,hrow3⟩ ?_;try simp only[zq]
         (refine zn (v:=?_) rfl ?_ (λw1 h1=>?_) ?_;rotate_left 1;rfl;(obtain⟨h1e,h1r⟩:=h1;have c2:=cell_of_row _ _ 1 _ _ _ h1r;clear h1r;obtain⟨os1,d1,rfl⟩:=h1e.more;go_simp;first | done | rfl))
         try simp only[zq]
         have c2:=cell_of_row _ _ 1 _ _ _ hrow3;have f2:=frozen_of_row _ _ 1 _ _ hrow3;clear hrow3 hex3 hg3 ho3
         (refine zU rfl ?_ (λK hK=>?_);rfl;go_simp;refine hK _ _ ?_)
         clear c2 f2;try simp only[Act.put]
         refine zi ?_;go_wp2_with fail;refine⟨⟨j+1,A2,cap2,by omega,by go_num,?_⟩,by simp[intOf];omega⟩;show AccD _ _ _ _ _ _ _ _ _;rw[zaJ HB.out,List.map_append,List.map_singleton,<-HX.out,<-List.append_assoc];exact hacc2
        ·obtain rfl:nb=j:=by omega
         go_wp2_with fail;go_meet;refine⟨i2+nb,nb,L+nb,cap,A,_,by go_num,rfl,hLs2,by omega,by omega,?_,?_,H⟩
         ·show AllD _;rw[HLT.out,HLT2.out];exact(zjD (zfc D)).append (zjD HTD.out)
         ·show _=_;rw[HRP.out,HLT.out,HLT2.out,HI2.out,Nat.add_assoc,HDD2.out,<-List.map_append];have:=zpv (ng:=ng) (l1:=D) (by rw[HL.out];exact H46.out) (by rw[HL.out,HL2.out];exact HNB.out);rw[HL.out,HL2.out] at this;rw[this,Nat.add_assoc]
    case rest=>
    obtain⟨i2,nb,k,cap2,A2,ds,rfl,rfl,hi2,hnb,hk,HAD,HRT,HA2⟩:=hcut;clear a0 a1 a2 a3 a4 z0 z1 HB2 HDD1 HDD2 HH HH0 hi1s HRP HLT HL HDl H;have hesz:(s.extract i2 s.size).size<=1000:=by rw[ByteArray.size_extract];omega
    have hpw:=λW=>zn7 (s.extract i2 s.size) W hesz;rw[zn8] at hpw;have hX0r:=hX0.ext HA2.out.ext;have a0:=hX0r.c0;have a1:=hX0r.c1;have a2:=hX0r.fz 0;have a3:=hX0r.fz 1;have a4:=hX0r.lt;have z0:=(hX0r.set 0 0).c0;have z1:=(hX0r.set 0 0).c1;generalize hP:zdG ((bl s).drop i2)=P at *;have hRP:R=zrE ng L nb ds P:=by rw[HRT.out];unfold zjC;rw[hP]
    cases P with
    | none=>
     have hRP:R=none:=hRP;subst hRP;clear hP;go_wp2_with (go_at_call 189;(with_reducible refine(hpw _).mono ?_);rintro e w' ⟨rfl,rfl⟩;simp only[oV,Option.isSome_none,Option.getD_none]);exact bodyPost_ret (v:=.tuple #[NV 0 0,.bool false]) (by simp[results,results136,go_sem,z0,z1]) rfl ⟨rfl,((hXw.trans HA2.out.ext).set _ (Nat.le_refl _)).set _ (Nat.le_refl _)⟩
    | some e=>
     have hbd:=zs5 hP;clear hP;by_cases hLn:L+nb=0
     ·rw[zkd,if_pos hLn] at hRP;subst hRP;have e1:((L:Int)+(nb:Int)==0)=true:=by simp;omega
      clear hLn;go_wp2_with (go_at_call 189;(with_reducible refine(hpw _).mono ?_);rintro e w' ⟨rfl,rfl⟩;simp only[oV,Option.isSome_some,Option.getD_some]);exact bodyPost_ret (v:=.tuple #[NV 0 0,.bool false]) (by simp[results,results136,go_sem,z0,z1]) rfl ⟨rfl,((hXw.trans HA2.out.ext).set _ (Nat.le_refl _)).set _ (Nat.le_refl _)⟩
     ·rw[zkd,if_neg hLn] at hRP;have HRP:=Lib.hid hRP;have e1:((L:Int)+(nb:Int)==0)=false:=by simp;omega
      have w1:IntKind.i64.wrap (e-(nb:Int))=e-nb:=zaD (by omega) (by omega);clear hLn hRP;have hkl:=HA2.out.len;have hset:=HA2.out.set2 (e-nb);obtain⟨c0,c1,c2⟩:=hset.cells;have f2:=HA2.out.fz 2;have c20:=HA2.out.cells.2.2;have lq:=HA2.out.lt;have hnr:=zcm (q+1) ng A2 k cap2 ds (val ds) (e-nb) false _ hkl hset.rd.1 hset.rd.2 (by omega) HAD.out rfl (by omega) (by have:=hset.lt;omega);rw[<-HRP.out] at hnr;have hX0s:=hX0.ext hset.ext;have x0:=hX0s.c0;have x1:=hX0s.c1;have x2:=hX0s.fz 0;have x3:=hX0s.fz 1;have x4:=hX0s.lt;have y0:=(hX0s.set (rm R) (re R)).c0;have y1:=(hX0s.set (rm R) (re R)).c1;have HSE:=Lib.hid hset.ext;clear hkl z0 z1 hset hX0s;go_wp2_with (first | (go_at_call 189;(with_reducible refine(hpw _).mono ?_);rintro e w' ⟨rfl,rfl⟩;simp only[oV,Option.isSome_some,Option.getD_some]) | (go_at_call 143;(with_reducible refine hnr.mono ?_);rintro e w' ⟨rfl,hxn⟩;obtain⟨osn,dn,rfl⟩:=hxn.more));exact bodyPost_ret (v:=rnV R) (by simp[results,results136,go_sem,y0,y1,x4,a4]) rfl ⟨rfl,(((hXw.trans HSE.out).set _ (Nat.le_refl _)).set _ (Nat.le_refl _)).more_ _ _⟩
def zdv (n:Int):Nat->Option Int
 | 0=>some n
 | k+1=>if 922337203685477580<n.natAbs then none else zdv (n*10) k
def zbo (m e:Int):Option Int:=if ¬ Rt m e∨e<0 then none else zdv m e.toNat
abbrev inV (r:Option Int):Value:=.tuple #[.int .i64 (r.getD 0),.bool r.isSome]
theorem zpx (x:Nat) (hx:x<18446744073709551616) (w) :
  Calls prog 179 #[.int .u64 (x:Int),.int .u64 10] w λe w'=>e = .returned (.tuple #[.int .u64 ((x*10/18446744073709551616:Nat):Int),.int .u64 ((x*10%18446744073709551616:Nat):Int)])∧w=w':=
 (Tryz.bits_Mul64 x 10 hx (by omega) w).mono λe w' ⟨h1,h2⟩=>⟨h1,h2.symm⟩
theorem znr (m ex w) (hm:I64 m) :
  Tl prog 165 #[NV m ex] w (inV (zbo m ex)):=by
 by_cases h:Rt m ex
 ·have r1:=zD h;obtain⟨b1,b2,b3⟩:=zac h;by_cases h1:ex<0
  ·have hs:zbo m ex=none:=by unfold zbo;rw[if_pos (Or.inr h1)]
   rw[hs];clear h hs;go_enter func165,ntmps165;go_wp2_with (go_at_call 104;with_reducible refine aM (zw _ _ _ (by assumption)) λosr dr=>?_);go_ret2
   exact⟨rfl,by simp[go_sem]⟩
  ·obtain⟨n,rfl⟩:∃ n:Nat,ex=n:=⟨ex.toNat,by omega⟩;have hs:zbo m (n:Int)=zdv m n:=by unfold zbo;rw[if_neg (by rintro(h3 | h3);exact h3 h;omega)];rfl
   generalize hR:zbo m (n:Int)=R at *;have HR:=Lib.hid hs;clear hs hR h;go_enter func165,ntmps165;go_wp2_with (go_at_call 104;with_reducible refine aM (zw _ _ _ (by assumption)) λosr dr=>?_);go_loop [4,19] (λa i=>∃ (j:Nat) (x:Int),j<=n∧i = .int .i64 (j:Int)∧a = .int .i64 x∧Hid (I64 x)∧Hid (R=zdv x (n-j))) (λ_ i=>n-(intOf i).toNat)
   case atStart=>exact⟨0,m,Nat.zero_le _,rfl,rfl,hm,HR⟩
   case round=>
    obtain⟨j,x,hj,rfl,rfl,HX,HG⟩:=hrel;by_cases hlt:j<n
    ·have hx64:x.natAbs<18446744073709551616:=by obtain⟨h1,h2⟩:=HX.out;omega
     have hml:=zpx x.natAbs hx64;have hsz:=λW=>za4 x W HX.out;have HG1:Hid (R=if 922337203685477580<x.natAbs then none else zdv (x*10) (n-(j+1))):=by
      show _=_;rw[HG.out,show n-j=n-(j+1)+1 by omega];rfl
     by_cases hbig:922337203685477580<x.natAbs
     ·have hRn:R=none:=by rw[HG1.out,if_pos hbig]
      have hor:x.natAbs*10/18446744073709551616≠0∨9223372036854775807<x.natAbs*10%18446744073709551616:=by omega
      generalize x.natAbs*10/18446744073709551616=hi at *;generalize x.natAbs*10%18446744073709551616=lo at *;generalize x.natAbs=xa at *;subst hRn;clear hx64 hbig;by_cases hh:hi=0
      focus
       have e1:((hi:Int) != 0)=false:=by simp[hh]
       have e1b:(hi != 0)=false:=by simp[hh]
       have e2:decide ((9223372036854775807:Int)<(lo:Int))=true:=by simp;omega
       have e3:decide (9223372036854775807<lo)=true:=by simp;omega
      rotate_left
      focus
       have e1:((hi:Int) != 0)=true:=by simp[hh]
       have e1b:(hi != 0)=true:=by simp[hh]
      rotate_left
      all_goals
       clear hor hh;go_wp2_with (first | (go_at_call 113;(with_reducible refine(hsz _).mono ?_);rintro e w' ⟨rfl,rfl⟩) | (go_at_call 179;(with_reducible refine(hml _).mono ?_);rintro e w' ⟨rfl,rfl⟩));go_ret2
       exact⟨rfl,by simp[go_sem]⟩
     ·have HRn:Hid (R=zdv (x*10) (n-(j+1))):=by show _=_;rw[HG1.out,if_neg hbig]
      have h10:Hid (I64 (x*10)):=by show I64 _;unfold I64;omega
      have hhi:x.natAbs*10/18446744073709551616=0:=by omega
      have hlo:¬ 9223372036854775807<x.natAbs*10%18446744073709551616:=by omega
      have w1:IntKind.i64.wrap (x*10)=x*10:=zaD h10.out.1 h10.out.2;have w2:wrap64 (x*10)=x*10:=IntWalk.wrap64_in _ h10.out;rw[hhi] at hml;generalize x.natAbs*10%18446744073709551616=lo at *;generalize x.natAbs=xa at *;clear hx64 hbig hhi HG1;have e2:decide ((9223372036854775807:Int)<(lo:Int))=false:=by simp;omega
      have e3:decide (9223372036854775807<lo)=false:=by simp;omega
      clear hlo;simp only[show((0:Nat):Int)=0 from rfl] at hml;go_wp2_with (first | (go_at_call 113;(with_reducible refine(hsz _).mono ?_);rintro e w' ⟨rfl,rfl⟩) | (go_at_call 179;(with_reducible refine(hml _).mono ?_);rintro e w' ⟨rfl,rfl⟩));exact⟨⟨j+1,x*10,by omega,by go_num,rfl,h10,HRn⟩,by simp[intOf];omega⟩
    ·have hRn:R=some x:=by rw[HG.out,show n-j=0 by omega];rfl
     subst hRn;go_wp2_with fail;go_ret2
     exact⟨rfl,by simp[go_sem]⟩
 ·have r1:=zae h;have hs:zbo m ex=none:=by unfold zbo;rw[if_pos (Or.inl h)]
  rw[hs];clear h hs;go_enter func165,ntmps165;go_wp2_with (go_at_call 104;with_reducible refine aM (zw _ _ _ (by assumption)) λosr dr=>?_);go_ret2
  exact⟨rfl,by simp[go_sem]⟩
theorem zlw (m ex w) (hm:I64 m) :
  Tl prog 134 #[NV m ex] w (inV (zbo m ex)):=by
 by_cases h:Rt m ex
 ·have r1:=zD h;obtain⟨b1,b2,b3⟩:=zac h;by_cases h1:ex<0
  ·have hs:zbo m ex=none:=by unfold zbo;rw[if_pos (Or.inr h1)]
   rw[hs];clear h hs;go_enter func134,ntmps134;go_wp2_with (go_at_call 125;with_reducible refine aM (zy _ _ _ (by assumption)) λosr dr=>?_);go_ret2
   exact⟨rfl,by simp[go_sem]⟩
  ·obtain⟨n,rfl⟩:∃ n:Nat,ex=n:=⟨ex.toNat,by omega⟩;have hs:zbo m (n:Int)=zdv m n:=by unfold zbo;rw[if_neg (by rintro(h3 | h3);exact h3 h;omega)];rfl
   generalize hR:zbo m (n:Int)=R at *;have HR:=Lib.hid hs;clear hs hR h;go_enter func134,ntmps134;go_wp2_with (go_at_call 125;with_reducible refine aM (zy _ _ _ (by assumption)) λosr dr=>?_);go_loop [4,5] (λa i=>∃ (j:Nat) (x:Int),j<=n∧i = .int .i64 (j:Int)∧a = .int .i64 x∧Hid (I64 x)∧Hid (R=zdv x (n-j))) (λ_ i=>n-(intOf i).toNat)
   case atStart=>exact⟨0,m,Nat.zero_le _,rfl,rfl,hm,HR⟩
   case round=>
    obtain⟨j,x,hj,rfl,rfl,HX,HG⟩:=hrel;by_cases hlt:j<n
    ·have HG1:Hid (R=if 922337203685477580<x.natAbs then none else zdv (x*10) (n-(j+1))):=by
      show _=_;rw[HG.out,show n-j=n-(j+1)+1 by omega];rfl
     by_cases hbig:922337203685477580<x
     ·have hRn:R=none:=by rw[HG1.out,if_pos (by omega)]
      subst hRn;go_wp2_with fail;go_ret2
      exact⟨rfl,by simp[go_sem]⟩
     ·by_cases hbig2:x < -922337203685477580
      ·have hRn:R=none:=by rw[HG1.out,if_pos (by omega)]
       subst hRn;go_wp2_with fail;go_ret2
       exact⟨rfl,by simp[go_sem]⟩
      ·have HRn:Hid (R=zdv (x*10) (n-(j+1))):=by show _=_;rw[HG1.out,if_neg (by omega)]
       have h10:Hid (I64 (x*10)):=by show I64 _;unfold I64;omega
       have w1:IntKind.i64.wrap (10*x)=10*x:=zaD (by omega) (by omega);go_wp2_with fail;refine⟨⟨j+1,x*10,by omega,by go_num,?_,h10,HRn⟩,by simp[intOf];omega⟩;rw[Int.mul_comm]
    ·have hRn:R=some x:=by rw[HG.out,show n-j=0 by omega];rfl
     subst hRn;go_wp2_with fail;go_ret2
     exact⟨rfl,by simp[go_sem]⟩
 ·have r1:=zae h;have hs:zbo m ex=none:=by unfold zbo;rw[if_pos (Or.inl h)]
  rw[hs];clear h hs;go_enter func134,ntmps134;go_wp2_with (go_at_call 125;with_reducible refine aM (zy _ _ _ (by assumption)) λosr dr=>?_);go_ret2
  exact⟨rfl,by simp[go_sem]⟩
end Go.Proofs.YtinjdacijiohiaaGreatDoor
namespace Go.Proofs.YtinjdacijiohiaaGreatDoor
open _root_.Go.Proofs.Tryz
open Go.RowKit
theorem zs6 (k1 m1 e1 f1 k2 m2 e2 f2 t1 t2 b1 b2 w):(binOp .eql 38 (VV k1 m1 e1 t1 b1 f1) (VV k2 m2 e2 t2 b2 f2)).run prog w = .ok (.bool (eqV ⟨k1,m1,e1,t1,b1,f1⟩ ⟨k2,m2,e2,t2,b2,f2⟩)) w:=by
 have ht:(t1.toList=t2.toList)↔t1=t2:=⟨λh=>by
  cases t1;cases t2
  rename_i a b
  have:a.toList=b.toList:=by simpa[ByteArray.toList_eq] using h
  simpa using this,λh=>by rw[h]⟩
 simp only[VV,eqV];simp[go_sem,ht]
 by_cases h1:k1=k2 <;> simp[h1]
 by_cases h2:m1=m2 <;> simp[h2]
 by_cases h3:e1=e2 <;> simp[h3]
 by_cases h4:t1=t2 <;> simp[h4]
 by_cases h5:b1=b2 <;> simp[h5]
 by_cases h6:f1=f2 <;> simp[h6]
theorem zV (f w) :
  Tl prog 57 #[.int .i64 f] w (VV 4 0 0 ⟨#[]⟩ false (zE f)):=by
 by_cases h:f<1∨9<f
 ·have hb:zE f=9:=by simp[zE,h]
  rw[hb];rcases h with h | h
  ·go_enter func57,ntmps57;go_wp2;exact rc1 rfl rfl (by simp[go_sem]) ⟨rfl,by simp[go_sem]⟩
  ·have h1:¬ f<1:=by omega
   go_enter func57,ntmps57;go_wp2;exact rc1 rfl rfl (by simp[go_sem]) ⟨rfl,by simp[go_sem]⟩
 ·have hb:zE f=f:=by simp[zE,h]
  rw[hb];have h1:¬ f<1:=by omega
  have h2:¬ 9<f:=by omega
  go_enter func57,ntmps57;go_wp2;exact rc1 rfl rfl (by simp[go_sem]) ⟨rfl,by simp[go_sem]⟩
theorem zcQ (m ex w) :
  Tl prog 93 #[NV m ex] w (VV 1 m ex ⟨#[]⟩ false 0):=by
 go_enter func93,ntmps93;go_wp2;exact rc1 rfl rfl (by simp[go_sem]) ⟨rfl,by simp[go_sem]⟩
theorem zcb (t w) :
  Tl prog 124 #[.bool t] w (VV 3 0 0 ⟨#[]⟩ t 0):=by
 go_enter func124,ntmps124;go_wp2;exact rc1 rfl rfl (by simp[go_sem]) ⟨rfl,by simp[go_sem]⟩
theorem zij (t w) (ht:t.size<=9223372036854775807) :
  Tl prog 123 #[.string t] w (VV (zQ t).kind 0 0 (zQ t).text false (zQ t).fault):=by
 by_cases h:255<t.size
 ·have hv:zQ t=⟨4,0,0,⟨#[]⟩,false,2⟩:=by simp[zQ,h]
  rw[hv];have hb:zE 2=2:=by decide
  go_enter func123,ntmps123;go_wp2_with (go_at_call 57;refine aM (zV _ _) λos d=>?_);exact rc1 rfl rfl (by simp[go_sem]) ⟨rfl,by simp[go_sem]⟩
 ·have hv:zQ t=⟨2,0,0,t,false,0⟩:=by simp[zQ,h]
  rw[hv];go_enter func123,ntmps123;go_wp2;exact rc1 rfl rfl (by simp[go_sem]) ⟨rfl,by simp[go_sem]⟩
theorem zcv (k m ex f t b w) (hm:I64 m) (ht:t.size<=9223372036854775807) :
  Tl prog 59 #[VV k m ex t b f] w (.bool (valRight ⟨k,m,ex,t,b,f⟩)):=by
 have heq:=zs6;by_cases h0:k=0
 ·subst h0;go_enter func59,ntmps59;go_wp2;go_ret;exact⟨zbp (by simp[valRight,Val.zero]),by simp[go_sem]⟩
 by_cases h1:k=1
 ·subst h1;clear h0;by_cases hr:zaa m ex=true
  rw[show valRight ⟨1,m,ex,t,b,f⟩=eqV ⟨1,m,ex,t,b,f⟩ ⟨1,m,ex,⟨#[]⟩,false,0⟩ by simp[valRight,hr]];rotate_left
  have hr':zaa m ex=false:=by simpa using hr
  rw[show valRight ⟨1,m,ex,t,b,f⟩=false by simp[valRight,hr]];clear hr;all_goals
   go_enter func59,ntmps59;go_wp2;refine plP [(0,0),(1,0),(2,1),(3,0),(4,0),(5,0),(6,0),(7,1),(8,0),(9,0),(10,0)] [] (by kernel_rfl) (λ_ _ d _ _ h=>by cases d <;> exact h) ?_;iterate 2(apply rdP rfl rfl;(intros;go_simp;first | done | rfl);try simp only[zq])
   (refine zg rfl ?_ (λK hK=>?_);rfl;go_simp;refine aM (zd2 _ _ _ hm) λos d=>?_;refine hK _ _ ?_ ?_;(simp[go_sem]))
   try simp only[zq]
   iterate 4((first | refine zaM rfl rfl ?_ | (apply rdP rfl rfl;(intros;go_simp;first | done | rfl)) | (refine zaA (v:=?_) (c:=?_) rfl rfl rfl rfl ?_ (λhc w1 h1=>?_) ?_;rotate_left 2;(first | exact zaO _ | exact zaP _ | exact zaq _ _ | exact zar _ _);(obtain⟨os1,d1,rfl⟩:=h1.more;(try simp only[zv hc]);(try(have hc1:=zO hc;(try simp only[zv hc1]);(try(have hc2:=zO hc1;(try simp only[zv hc2])))));go_simp;first | done | rfl)));try simp only[zq])
   first | (refine zc7 rfl ?_ ?_ ?_;(first | with_reducible rfl | rfl | (go_simp;done));(simp[go_sem])) | (refine zg rfl ?_ (λK hK=>?_);(first | with_reducible rfl | rfl | (go_simp;done));go_simp;refine aM (zcQ _ _ _) λos d=>?_;refine hK _ _ ?_ ?_;(simp[go_sem]))
   try simp only[zq]
   iterate 3((first | refine zaM rfl rfl ?_ | refine zaZ rfl rfl rfl rfl rfl rfl ?_ | refine zbb rfl rfl rfl rfl rfl rfl ?_ | (apply rdP rfl rfl;(intros;go_simp;first | done | rfl)) | (refine zaA (v:=?_) (c:=?_) rfl rfl rfl rfl ?_ (λhc w1 h1=>?_) ?_;rotate_left 2;(first | exact zaO _ | exact zaP _ | exact zaq _ _ | exact zar _ _);(obtain⟨os1,d1,rfl⟩:=h1.more;(try simp only[zv hc]);(try(have hc1:=zO hc;(try simp only[zv hc1]);(try(have hc2:=zO hc1;(try simp only[zv hc2])))));go_simp;first | done | rfl)));try simp only[zq])
   refine zi ?_;go_wp2;go_ret;exact⟨rfl,by simp[go_sem]⟩
 by_cases h2:k=2
 ·subst h2;clear h0 h1;go_enter func59,ntmps59;go_wp2;refine plP [(0,0),(1,0),(2,0),(3,1),(4,0),(5,0)] [] (by kernel_rfl) (λ_ _ d _ _ h=>by cases d <;> exact h) ?_;iterate 3(apply rdP rfl rfl;(intros;go_simp;first | done | rfl);try simp only[zq])
  (refine zg rfl ?_ (λK hK=>?_);rfl;go_simp;refine aM (zij _ _ ht) λos d=>?_;refine hK _ _ ?_ ?_;(simp[go_sem]))
  try simp only[zq]
  iterate 2(apply rdP rfl rfl;(intros;go_simp;first | done | rfl);try simp only[zq])
  refine zi ?_;go_wp2;go_ret;exact⟨zbp (by simp[valRight];unfold zQ;split <;> rfl),by simp[go_sem]⟩
 by_cases h3:k=3
 ·subst h3;clear h0 h1 h2;go_enter func59,ntmps59;go_wp2;refine plP [(0,0),(1,0),(2,0),(3,1),(4,0),(5,0)] [] (by kernel_rfl) (λ_ _ d _ _ h=>by cases d <;> exact h) ?_;iterate 3(apply rdP rfl rfl;(intros;go_simp;first | done | rfl);try simp only[zq])
  (refine zg rfl ?_ (λK hK=>?_);rfl;go_simp;refine aM (zcb _ _) λos d=>?_;refine hK _ _ ?_ ?_;(simp[go_sem]))
  try simp only[zq]
  iterate 2(apply rdP rfl rfl;(intros;go_simp;first | done | rfl);try simp only[zq])
  refine zi ?_;go_wp2;go_ret;exact⟨zbp (by simp[valRight]),by simp[go_sem]⟩
 by_cases h4:k=4
 ·subst h4;clear h0 h1 h2 h3;go_enter func59,ntmps59;go_wp2;refine plP [(0,0),(1,0),(2,0),(3,1),(4,0),(5,0)] [] (by kernel_rfl) (λ_ _ d _ _ h=>by cases d <;> exact h) ?_;iterate 3(apply rdP rfl rfl;(intros;go_simp;first | done | rfl);try simp only[zq])
  (refine zg rfl ?_ (λK hK=>?_);rfl;go_simp;refine aM (zV _ _) λos d=>?_;refine hK _ _ ?_ ?_;(simp[go_sem]))
  try simp only[zq]
  iterate 2(apply rdP rfl rfl;(intros;go_simp;first | done | rfl);try simp only[zq])
  refine zi ?_;go_wp2;go_ret;exact⟨zbp (by simp[valRight]),by simp[go_sem]⟩
 have e:valRight ⟨k,m,ex,t,b,f⟩=false:=by simp[valRight,h0,h1,h2,h3,h4]
 rw[e];clear e;have h0:(k==0)=false:=by simp[h0]
 have h1:(k==1)=false:=by simp[h1]
 have h2:(k==2)=false:=by simp[h2]
 have h3:(k==3)=false:=by simp[h3]
 have h4:(k==4)=false:=by simp[h4]
 go_enter func59,ntmps59;go_wp2;go_ret;exact⟨rfl,by simp[go_sem]⟩
theorem zt2 (t:ByteArray):(!t.toList.isEmpty)=true↔t≠⟨#[]⟩:=by
 obtain⟨⟨l⟩⟩:=t;simp[ByteArray.toList_eq]
theorem zt3 (t:ByteArray):(!t.toList.isEmpty)=false↔t=⟨#[]⟩:=by
 obtain⟨⟨l⟩⟩:=t;simp[ByteArray.toList_eq]
theorem zlx {k m ex f t b} (h:(((k != 1)=true∧((!m==0)=true∨(!ex==0)=true)∨(k != 2)=true∧(!t.toList.isEmpty)=true)∨(k != 3)=true∧b=true)∨(k != 4)=true∧(f != 0)=true) :
  false=refRight ⟨k,m,ex,t,b,f⟩:=by
 unfold refRight;rw[if_pos];rw[zt2] at h;simp at h⊢
 rcases h with((⟨h1,h2⟩ | ⟨h1,h2⟩) | ⟨h1,h2⟩) | ⟨h1,h2⟩
 ·left;refine⟨h1,λh3=>?_⟩;rcases h2 with h2 | h2 <;> simp_all
 ·right;left;exact⟨h1,h2⟩
 ·right;right;left;exact⟨h1,h2⟩
 ·right;right;right;exact⟨h1,h2⟩
theorem zkE {k m ex f t b} (h:((((k != 1)=false∨(!m==0)=false∧(!ex==0)=false)∧((k != 2)=false∨(!t.toList.isEmpty)=false))∧((k != 3)=false∨b=false))∧((k != 4)=false∨(f != 0)=false)) :
  refRight ⟨k,m,ex,t,b,f⟩=if k=1 then zab m ex else if k=2 then decide (t.size<=255) else k==0||k==3||(k==4&&decide (1<=f)&&decide (f<=9)):=by
 unfold refRight;rw[if_neg];rw[zt3] at h;obtain⟨⟨⟨h1,h2⟩,h3⟩,h4⟩:=h;simp at h1 h2 h3 h4
 rintro(⟨h5,h6⟩ | ⟨h5,h6⟩ | ⟨h5,h6⟩ | ⟨h5,h6⟩)
 ·exact h6 (h1.resolve_left h5)
 ·exact h6 (h2.resolve_left h5)
 ·rcases h3 with h3 | h3
  ·exact h5 h3
  ·simp_all
 ·exact h6 (h4.resolve_left h5)
theorem zd6 (k m ex f t b w) (hm:I64 m) (ht:t.size<=9223372036854775807) :
  Tl prog 60 #[VV k m ex t b f] w (.bool (refRight ⟨k,m,ex,t,b,f⟩)):=by
 generalize hR:refRight ⟨k,m,ex,t,b,f⟩=R;have HR:=Lib.hid hR;clear hR;go_enter func60,ntmps60;go_upto_region 1 with(fail);refine wp_region_lit ?_;iterate 11((first | refine zaH rfl rfl rfl rfl rfl ?_ | refine zaY rfl rfl rfl rfl rfl ?_ | (refine zbE (v:=?_) rfl ?_ ?_;rotate_left 1;(go_simp;first | done | rfl)) | (refine zbk (v:=?_) (c:=?_) rfl rfl rfl ?_ (λhc=>?_) ?_;rotate_left 2;(first | exact zaO _ | exact zaP _ | exact zaq _ _ | exact zar _ _);((try simp only[zv hc]);(try(have hc1:=zO hc;(try simp only[zv hc1]);(try(have hc2:=zO hc1;(try simp only[zv hc2])))));go_simp;first | done | rfl)));try simp only[zq])
 refine wpList_nil ?_;try go_simp
 go_upto_region 2 with(fail);refine wp_region_lit ?_;iterate 15((first | refine zaH rfl rfl rfl rfl rfl ?_ | refine zaY rfl rfl rfl rfl rfl ?_ | (refine zbE (v:=?_) rfl ?_ ?_;rotate_left 1;(go_simp;first | done | rfl)) | (refine zbk (v:=?_) (c:=?_) rfl rfl rfl ?_ (λhc=>?_) ?_;rotate_left 2;(first | exact zaO _ | exact zaP _ | exact zaq _ _ | exact zar _ _);((try simp only[zv hc]);(try(have hc1:=zO hc;(try simp only[zv hc1]);(try(have hc2:=zO hc1;(try simp only[zv hc2])))));go_simp;first | done | rfl)));try simp only[zq])
 first | (refine zcN rfl rfl rfl rfl rfl rfl rfl ?_ ?_;(first | exact zaO _ | exact zaP _ | exact zaq _ _ | exact zar _ _)) | (refine zc8 rfl rfl rfl rfl rfl rfl rfl ?_ ?_;(first | exact zaO _ | exact zaP _ | exact zaq _ _ | exact zar _ _))
 try simp only[zq]
 iterate 8((first | refine zaH rfl rfl rfl rfl rfl ?_ | refine zaY rfl rfl rfl rfl rfl ?_ | (refine zbE (v:=?_) rfl ?_ ?_;rotate_left 1;(go_simp;first | done | rfl)) | (refine zbk (v:=?_) (c:=?_) rfl rfl rfl ?_ (λhc=>?_) ?_;rotate_left 2;(first | exact zaO _ | exact zaP _ | exact zaq _ _ | exact zar _ _);((try simp only[zv hc]);(try(have hc1:=zO hc;(try simp only[zv hc1]);(try(have hc2:=zO hc1;(try simp only[zv hc2])))));go_simp;first | done | rfl)));try simp only[zq])
 first | (refine zcN rfl rfl rfl rfl rfl rfl rfl ?_ ?_;(first | exact zaO _ | exact zaP _ | exact zaq _ _ | exact zar _ _)) | (refine zc8 rfl rfl rfl rfl rfl rfl rfl ?_ ?_;(first | exact zaO _ | exact zaP _ | exact zaq _ _ | exact zar _ _))
 try simp only[zq]
 iterate 9((first | refine zaH rfl rfl rfl rfl rfl ?_ | refine zaY rfl rfl rfl rfl rfl ?_ | (refine zbE (v:=?_) rfl ?_ ?_;rotate_left 1;(go_simp;first | done | rfl)) | (refine zbk (v:=?_) (c:=?_) rfl rfl rfl ?_ (λhc=>?_) ?_;rotate_left 2;(first | exact zaO _ | exact zaP _ | exact zaq _ _ | exact zar _ _);((try simp only[zv hc]);(try(have hc1:=zO hc;(try simp only[zv hc1]);(try(have hc2:=zO hc1;(try simp only[zv hc2])))));go_simp;first | done | rfl)));try simp only[zq])
 first | (refine zcN rfl rfl rfl rfl rfl rfl rfl ?_ ?_;(first | exact zaO _ | exact zaP _ | exact zaq _ _ | exact zar _ _)) | (refine zc8 rfl rfl rfl rfl rfl rfl rfl ?_ ?_;(first | exact zaO _ | exact zaP _ | exact zaq _ _ | exact zar _ _))
 try simp only[zq]
 first | (refine zaH rfl rfl rfl rfl rfl ?_) | (refine zaY rfl rfl rfl rfl rfl ?_)
 try simp only[zq]
 refine wpList_nil ?_;try go_simp
 go_wp2_with (go_at_call 125;refine aM (zft _ _ _ hm) λos d=>?_);all_goals(go_ret;refine⟨zbp ?_,by simp[go_sem]⟩)
 all_goals rw[<-HR.out]
 ·exact zlx (by assumption)
 all_goals rw[zkE (by assumption)]
 all_goals simp_all
 all_goals omega
def zbs (r c:Int):Bool:=decide (1<=r)&&decide (1<=c)&&decide (r<=4096)&&decide (c<=4096/r)
theorem zfd {r c} (h:zbs r c=true):1<=r∧1<=c∧r<=4096∧c<=4096∧1<=r*c∧r*c<=4096:=by
 simp only[zbs,Bool.and_eq_true,decide_eq_true_eq] at h;obtain⟨⟨⟨h1,h2⟩,h3⟩,h4⟩:=h;have h5:r*(4096/r)<=4096:=Int.mul_ediv_self_le (by omega);have h6:r*c<=r*(4096/r):=Int.mul_le_mul_of_nonneg_left h4 (by omega);have h7:c<=4096:=by have:=Int.ediv_le_self (a:=4096) r (by omega);omega
 have h8:1*1<=r*c:=Int.mul_le_mul h1 h2 (by omega) (by omega);exact⟨h1,h2,h3,h7,by omega,by omega⟩
theorem zgq (r c w) :
  Calls prog 58 #[.int .i64 r,.int .i64 c] w λe w'=>e = .returned (.bool (zbs r c))∧w=w':=by
 by_cases h1:1<=r
 ·by_cases h2:1<=c
  ·by_cases h3:r<=4096
   ·have e:zbs r c=decide (c<=4096/r):=by simp[zbs,h1,h2,h3]
    rw[e];go_enter func58,ntmps58;go_wp2;go_ret;exact⟨rfl,rfl⟩
   ·have e:zbs r c=false:=by simp[zbs,h3]
    rw[e];go_enter func58,ntmps58;go_wp2;go_ret;exact⟨rfl,rfl⟩
  ·have e:zbs r c=false:=by simp[zbs,h2]
   rw[e];go_enter func58,ntmps58;go_wp2;go_ret;exact⟨rfl,rfl⟩
 ·have e:zbs r c=false:=by simp[zbs,h1]
  rw[e];go_enter func58,ntmps58;go_wp2;go_ret;exact⟨rfl,rfl⟩
structure ArrIn (w:World) (A:Option Addr) (n cap:Nat) (l:List Val):Prop where
 rd:SlV 0 w A l
 len:l.length=n
 cap:n<=cap
 small:n<=9223372036854775807
 ok:∀ x∈l,x.ok
theorem ArrIn.ext {w w' A n cap l} (h:ArrIn w A n cap l) (hb:Ext w w'):ArrIn w' A n cap l:=⟨h.rd.ext hb,h.len,h.cap,h.small,h.ok⟩
theorem ArrIn.at {w A n cap l} (h:ArrIn w A n cap l) {k} (hk:k<n) :
  ∃ x b off,l[k]? = some x∧x.ok∧A=some ⟨b,off,none⟩∧zb7 w b (off+k*6) x:=by
 have hl:k<l.length:=by rw[h.len];exact hk
 obtain⟨b,off,hA,_,hv⟩:=h.rd.at (List.getElem?_eq_getElem hl);exact⟨l[k],b,off,List.getElem?_eq_getElem hl,h.ok _ (List.getElem_mem hl),hA,hv⟩
def zA (r c:Int) (l:List Val):Bool:=zbs r c&&decide ((l.length:Int)=r*c)&&l.all valRight
theorem zbl (r c A n cap l w) (h:ArrIn w A n cap l) :
  Tl prog 17 #[AV r c (.slice A n cap)] w (.bool (zA r c l)):=by
 have hsm:=h.small;by_cases hf:zbs r c=true
 ·obtain⟨f1,f2,f3,f4,f5,f6⟩:=zfd hf;have hw:IntKind.i64.wrap (r*c)=r*c:=by rw[IntKind.wrap_i64];omega
  by_cases hn:(n:Int)=r*c
  ·have e:zA r c l=l.all valRight:=by simp[zA,hf,h.len,hn]
   generalize hR:zA r c l=R at *;have HR:=Lib.hid e;clear e hR;have hn':((n:Int) != r*c)=false:=by simp[hn]
   have HN:=Lib.hid hn;clear hn;go_enter func17,ntmps17;go_wp2_with (go_at_call 58;refine(zgq _ _ _).mono ?_;rintro e w' ⟨rfl,rfl⟩);go_loopw [24] (λi wr=>∃ (k:Nat) (os:Array Obj) (d:Nat),k<=n∧i = .int .i64 k∧wr=more (w.alloc (Obj.cells #[.int .i64 r,.int .i64 c,.slice A n cap] 27)) os d∧Hid (∀ j x,j<k->l[j]? = some x->valRight x=true)) (λi _=>n-(intOf i).toNat)
   case atStart=>exact⟨0,#[],_,Nat.zero_le _,rfl,(zc6 _).symm,λj x hj=>absurd hj (Nat.not_lt_zero _)⟩
   case round=>
    obtain⟨k,os,d,hk,rfl,rfl,H⟩:=hrel;by_cases hlt:k<n
    ·obtain⟨x,b,off,hx,hxo,rfl,hv⟩:=h.at hlt;obtain⟨v0,v1,v2,v3,v4,v5⟩:=hv;have hbl:b<w.heap.size:=za v0;by_cases hvr:valRight x=true
     ·go_wp2_with (go_at_call 59;refine(zcv _ _ _ _ _ _ _ hxo.2.1 hxo.2.2.2.1).mono ?_;rintro e w' ⟨rfl,hb⟩;obtain⟨os',d',rfl⟩:=hb.more);refine⟨⟨k+1,_,_,by omega,by go_num,rfl,?_⟩,by simp[intOf];omega⟩;intro j y hj hy;by_cases hjk:j=k
      ·subst hjk;obtain rfl:x=y:=by rw[hx] at hy;simpa using hy
       exact hvr
      ·exact H.out j y (by omega) hy
     ·have hvr':valRight x=false:=by simpa using hvr
      have hR:R=false:=by
       rw[HR.out];exact List.all_eq_false.2 ⟨x,List.mem_of_getElem? hx,hvr⟩
      have HR2:=Lib.hid hR;clear hR hvr;go_wp2_with (go_at_call 59;refine(zcv _ _ _ _ _ _ _ hxo.2.1 hxo.2.2.2.1).mono ?_;rintro e w' ⟨rfl,hb⟩;obtain⟨os',d',rfl⟩:=hb.more);go_ret;exact⟨zbp HR2.out.symm,by simp[go_sem]⟩
    ·have hR:R=true:=by
      rw[HR.out];refine List.all_eq_true.2 λx hx=>?_;obtain⟨j,hj,rfl⟩:=List.getElem_of_mem hx;exact H.out j _ (by have:=h.len;omega) (List.getElem?_eq_getElem hj)
     have HR2:=Lib.hid hR;clear hR;go_wp2;go_ret;exact⟨zbp HR2.out.symm,by simp[go_sem]⟩
  ·have e:zA r c l=false:=by simp[zA,h.len,hn]
   rw[e];clear e;have hn':((n:Int) != r*c)=true:=by simp[hn]
   clear hn;go_enter func17,ntmps17;go_wp2_with (go_at_call 58;refine(zgq _ _ _).mono ?_;rintro e w' ⟨rfl,rfl⟩);go_ret;exact⟨rfl,by simp[go_sem]⟩
 ·have e:zA r c l=false:=by simp[zA,hf]
  have hf':zbs r c=false:=by simpa using hf
  rw[e];clear e hf;go_enter func17,ntmps17;go_wp2_with (go_at_call 58;refine(zgq _ _ _).mono ?_;rintro e w' ⟨rfl,rfl⟩);go_ret;exact⟨rfl,by simp[go_sem]⟩
def zas (r c:Int) (l:List Val):Bool:=
 decide (1<=r)&&decide (1<=c)&&decide (r<=4096)&&decide (c<=4096)&&decide (r*c<=4096)&&decide ((l.length:Int)=r*c)&&l.all refRight
theorem za7 (r c l) (h:∀ x∈l,x.ok):zA r c l=zas r c l:=by
 have h1:l.all valRight=l.all refRight:=by
  rw[Bool.eq_iff_iff];simp only[List.all_eq_true];exact⟨λk x hx=>by rw[<-zh8 x (h x hx)];exact k x hx,λk x hx=>by rw[zh8 x (h x hx)];exact k x hx⟩
 unfold zA zas;rw[h1];by_cases hf:zbs r c=true
 ·obtain⟨f1,f2,f3,f4,f5,f6⟩:=zfd hf;simp[hf,f1,f2,f3,f4,f6]
 ·have hf':zbs r c=false:=by simpa using hf
  simp only[hf',Bool.false_and];by_cases h1:1<=r <;> simp[h1]
  by_cases h2:1<=c <;> simp[h2]
  by_cases h3:r<=4096 <;> simp[h3]
  intro h4 h5;exfalso
  simp[zbs,h1,h2,h3] at hf'
  have h6:4096/r+1<=c:=by omega
  have h7:r*(4096/r+1)<=r*c:=Int.mul_le_mul_of_nonneg_left h6 (by omega);have h8:=Int.lt_mul_ediv_self_add (x:=4096) (k:=r) (by omega);rw[Int.mul_add] at h7;omega
theorem ziP {r c} (h1:1<=r) (h2:1<=c) (h3:r<=4096) (h4:c<=4096):IntKind.i64.wrap (r*c)=r*c:=by
 have h5:1*1<=r*c:=Int.mul_le_mul h1 h2 (by omega) (by omega);have h6:r*c<=4096*4096:=Int.mul_le_mul h3 h4 (by omega) (by omega);rw[IntKind.wrap_i64];omega
theorem zkF {r c n} {l:List Val} (hl:l.length=n) (h:((((r<1∨c<1)∨4096<r)∨4096<c)∨4096<IntKind.i64.wrap (r*c))∨((n:Int) != IntKind.i64.wrap (r*c))=true):zas r c l=false:=by
 by_cases h1:1<=r
 ·by_cases h2:1<=c
  ·by_cases h3:r<=4096
   ·by_cases h4:c<=4096
    ·rw[ziP h1 h2 h3 h4] at h;rcases h with(((h | h) | h) | h) | h
     ·omega
     ·omega
     ·omega
     ·have h5:¬ r*c<=4096:=by omega
      simp[zas,h5]
     ·have h5:¬ (l.length:Int)=r*c:=by rw[hl];simpa using h
      simp[zas,h5]
    ·simp[zas,h4]
   ·simp[zas,h3]
  ·simp[zas,h2]
 ·simp[zas,h1]
theorem zjE {r c n} {l:List Val} (hl:l.length=n) (h:((((1<=r∧1<=c)∧r<=4096)∧c<=4096)∧IntKind.i64.wrap (r*c)<=4096)∧((n:Int) != IntKind.i64.wrap (r*c))=false):zas r c l=l.all refRight:=by
 obtain⟨⟨⟨⟨⟨h1,h2⟩,h3⟩,h4⟩,h5⟩,h6⟩:=h;rw[ziP h1 h2 h3 h4] at h5 h6;have h7:(l.length:Int)=r*c:=by rw[hl];simpa using h6
 simp[zas,h1,h2,h3,h4,h5,h7]
theorem zcF (w os d o):(more w os d).alloc o=more w (os.push o) d:=by
 simp[more,World.alloc]
theorem zan (r c A n cap l w) (h:ArrIn w A n cap l) :
  Tl prog 20 #[AV r c (.slice A n cap)] w (.bool (zas r c l)):=by
 have hsm:=h.small;generalize hR:zas r c l=R;have HR:=Lib.hid hR;clear hR;go_enter func20,ntmps20;go_upto_region 1 with(fail);refine wp_region_lit ?_;iterate 37((first | refine zaH rfl rfl rfl rfl rfl ?_ | refine zaY rfl rfl rfl rfl rfl ?_ | (refine zbE (v:=?_) rfl ?_ ?_;rotate_left 1;(go_simp;first | done | rfl)) | (refine zbk (v:=?_) (c:=?_) rfl rfl rfl ?_ (λhc=>?_) ?_;rotate_left 2;(first | exact zaO _ | exact zaP _ | exact zaq _ _ | exact zar _ _);((try simp only[zv hc]);(try(have hc1:=zO hc;(try simp only[zv hc1]);(try(have hc2:=zO hc1;(try simp only[zv hc2])))));go_simp;first | done | rfl)));try simp only[zq])
 refine wpList_nil ?_;try go_simp
 go_wp2
 ·go_ret;refine⟨zbp ?_,by simp[go_sem]⟩;rw[<-HR.out];symm
  exact zkF h.len (by assumption)
 ·rename_i hgood _ _;have HR':=Lib.hid (zjE h.len hgood);clear hgood;go_loopw [3] (λi wr=>∃ (k:Nat) (os:Array Obj) (d:Nat),k<=n∧i = .int .i64 k∧wr=more (w.alloc (Obj.cells #[.int .i64 r,.int .i64 c,.slice A n cap] 27)) os d∧Hid (∀ j x,j<k->l[j]? = some x->refRight x=true)) (λi _=>n-(intOf i).toNat)
  case atStart=>exact⟨0,#[],_,Nat.zero_le _,rfl,(zc6 _).symm,λj x hj=>absurd hj (Nat.not_lt_zero _)⟩
  case round=>
   obtain⟨k,os,d,hk,rfl,rfl,H⟩:=hrel;by_cases hlt:k<n
   ·obtain⟨x,b,off,hx,hxo,rfl,hv⟩:=h.at hlt;obtain⟨v0,v1,v2,v3,v4,v5⟩:=hv;have hbl:b<w.heap.size:=za v0;by_cases hvr:refRight x=true
    ·go_wp2_with (go_at_call 60;refine(zd6 _ _ _ _ _ _ _ hxo.2.1 hxo.2.2.2.1).mono ?_;rintro e w' ⟨rfl,hb⟩;obtain⟨os',d',rfl⟩:=hb.more);refine⟨⟨k+1,_,_,by omega,by go_num,rfl,?_⟩,by simp[intOf];omega⟩;intro j y hj hy;by_cases hjk:j=k
     ·subst hjk;obtain rfl:x=y:=by rw[hx] at hy;simpa using hy
      exact hvr
     ·exact H.out j y (by omega) hy
    ·have hvr':refRight x=false:=by simpa using hvr
     have hR:R=false:=by
      rw[<-HR.out,HR'.out];exact List.all_eq_false.2 ⟨x,List.mem_of_getElem? hx,hvr⟩
     have HR2:=Lib.hid hR;clear hR hvr;go_wp2_with (go_at_call 60;refine(zd6 _ _ _ _ _ _ _ hxo.2.1 hxo.2.2.2.1).mono ?_;rintro e w' ⟨rfl,hb⟩;obtain⟨os',d',rfl⟩:=hb.more);go_ret;exact⟨zbp HR2.out.symm,by simp[go_sem]⟩
   ·have hR:R=true:=by
     rw[<-HR.out,HR'.out];refine List.all_eq_true.2 λx hx=>?_;obtain⟨j,hj,rfl⟩:=List.getElem_of_mem hx;exact H.out j _ (by have:=h.len;omega) (List.getElem?_eq_getElem hj)
    have HR2:=Lib.hid hR;clear hR;go_wp2;go_ret;exact⟨zbp HR2.out.symm,by simp[go_sem]⟩
theorem SlV.one {w:World} {n base k m e t b f ty} (hn:n=w.heap.size) (hb:base<=n) :
  SlV base (w.alloc (.cells #[.int .i64 k,.int .i64 m,.int .i64 e,.string t,.bool b,.int .i64 f] ty)) (some ⟨n,0,none⟩) [⟨k,m,e,t,b,f⟩]:=λj u hu=>by
 refine⟨n,0,rfl,hb,?_⟩;rw[World.cell?_alloc_at _ _ _ _ hn,Nat.zero_add,<-hu];simp only[zJ,Val.cells,List.flatMap_cons,List.flatMap_nil,List.append_nil];simp
def zdH (base:Nat) (w':World) (e:Ending) (r c:Int) (l:List Val):Prop:=
 ∃ A cap,e = .returned (AV r c (.slice A l.length cap))∧SlV base w' A l∧l.length<=cap
def bad9:Val:=⟨4,0,0,⟨#[]⟩,false,9⟩
def zz (f:Int):Val:=⟨4,0,0,⟨#[]⟩,false,f⟩
theorem zd7 (f w) :
  Calls prog 19 #[.int .i64 f] w λe w'=>zdH w.heap.size w' e 1 1 [zz f]∧Ext w w':=by
 go_enter func19,ntmps19;go_wp2;refine bodyPost_ret (v:=AV 1 1 (.slice (some ⟨w.heap.size+1,0,none⟩) 1 1)) (by simp[results,results19,go_sem]) rfl ⟨⟨_,_,rfl,?_,Nat.le_refl _⟩,by simp[go_sem]⟩;exact SlV.one (by simp) (by simp)
theorem zfx (k m ex f t b w) (hm:I64 m) (ht:t.size<=9223372036854775807) (hr:valRight ⟨k,m,ex,t,b,f⟩=true) :
  Calls prog 56 #[VV k m ex t b f] w λe w'=>zdH w.heap.size w' e 1 1 [⟨k,m,ex,t,b,f⟩]∧Ext w w':=by
 go_enter func56,ntmps56;go_wp2_with (go_at_call 59;refine aM (zcv _ _ _ _ _ _ _ hm ht) λos d=>?_);refine bodyPost_ret (v:=AV 1 1 (.slice (some ⟨w.heap.size+1+1+os.size,0,none⟩) 1 1)) (by simp[results,results56,go_sem]) rfl ⟨⟨_,_,rfl,?_,Nat.le_refl _⟩,by simp[go_sem]⟩;exact SlV.one (by simp) (by omega)
theorem zeN (w) :
  Calls prog 122 #[] w λe w'=>zdH w.heap.size w' e 1 1 [bad9]∧Ext w w':=by
 have hb9:zE 9=9:=by decide
 have hr:valRight ⟨4,0,0,⟨#[]⟩,false,9⟩=true:=by decide
 have hm0:I64 0:=⟨by omega,by omega⟩;have ht0:(⟨#[]⟩:ByteArray).size<=9223372036854775807:=by decide
 go_enter func122,ntmps122;go_wp2_with (first | (go_at_call 57;refine aM (zV _ _) λos d=>?_) | (go_at_call 56;refine(zfx 4 0 0 9 ⟨#[]⟩ false _ hm0 ht0 hr).mono ?_;rintro e w' ⟨⟨A,cap,rfl,hs,hcap⟩,hb⟩;obtain⟨os,d,rfl⟩:=hb.more));exact rc1 (v:=AV 1 1 (.slice A 1 cap)) rfl rfl (by simp[go_sem]) ⟨⟨_,_,rfl,(by(try simp only[zc] at hs);(try simp only[zj] at hs);(try simp only[zh] at hs);exact hs.sw (by simp <;> omega)),hcap⟩,by simp[go_sem]⟩
theorem zfe (f) (h:1<=f∧f<=9):valRight (zz f)=true:=by
 have hb:zE f=f:=by unfold zE;rw[if_neg (by omega)]
 simp[valRight,zz,hb,eqV]
theorem zly (w) :
  Calls prog 176 #[] w λe w'=>zdH w.heap.size w' e 1 1 [zz 5]∧Ext w w':=by
 have hb9:zE 5=5:=by decide
 have hr:valRight ⟨4,0,0,⟨#[]⟩,false,5⟩=true:=by decide
 have hm0:I64 0:=⟨by omega,by omega⟩;have ht0:(⟨#[]⟩:ByteArray).size<=9223372036854775807:=by decide
 go_enter func176,ntmps176;go_wp2_with (first | (go_at_call 57;refine aM (zV _ _) λos d=>?_) | (go_at_call 56;refine(zfx 4 0 0 5 ⟨#[]⟩ false _ hm0 ht0 hr).mono ?_;rintro e w' ⟨⟨A,cap,rfl,hs,hcap⟩,hb⟩;obtain⟨os,d,rfl⟩:=hb.more));exact rc1 (v:=AV 1 1 (.slice A 1 cap)) rfl rfl (by simp[go_sem]) ⟨⟨_,_,rfl,(by(try simp only[zc] at hs);(try simp only[zj] at hs);(try simp only[zh] at hs);exact hs.sw (by simp <;> omega)),hcap⟩,by simp[go_sem]⟩
def zaQ (x:Val):Val:=if valRight x then x else bad9
theorem zvz (k m ex f t b w) (hm:I64 m) (ht:t.size<=9223372036854775807) :
  Calls prog 56 #[VV k m ex t b f] w λe w'=>zdH w.heap.size w' e 1 1 [zaQ ⟨k,m,ex,t,b,f⟩]∧Ext w w':=by
 by_cases hr:valRight ⟨k,m,ex,t,b,f⟩=true
 ·simpa[zaQ,hr] using zfx k m ex f t b w hm ht hr
 ·have e:zaQ ⟨k,m,ex,t,b,f⟩=bad9:=by simp[zaQ,hr]
  have hr':valRight ⟨k,m,ex,t,b,f⟩=false:=by simpa using hr
  rw[e];clear e hr;go_enter func56,ntmps56;go_wp2_with (first | (go_at_call 59;refine aM (zcv _ _ _ _ _ _ _ hm ht) λos d=>?_) | (go_at_call 122;refine(zeN _).mono ?_;rintro e w' ⟨⟨A,cap,rfl,hs,hcap⟩,hb⟩;obtain⟨os,d,rfl⟩:=hb.more));exact rc1 (v:=AV 1 1 (.slice A 1 cap)) rfl rfl (by simp[go_sem]) ⟨⟨_,_,rfl,(by(try simp only[zc] at hs);(try simp only[zj] at hs);(try simp only[zh] at hs);exact hs.sw (by simp <;> omega)),hcap⟩,by simp[go_sem]⟩
def ze1 (x:Val):Val:=if refRight x then x else bad9
theorem zoa (k m ex f t b w) (hm:I64 m) (ht:t.size<=9223372036854775807) :
  Calls prog 23 #[VV k m ex t b f] w λe w'=>zdH w.heap.size w' e 1 1 [ze1 ⟨k,m,ex,t,b,f⟩]∧Ext w w':=by
 by_cases hr:refRight ⟨k,m,ex,t,b,f⟩=true
 ·have e:ze1 ⟨k,m,ex,t,b,f⟩=⟨k,m,ex,t,b,f⟩:=by simp[ze1,hr]
  rw[e];clear e;go_enter func23,ntmps23;go_wp2_with (go_at_call 60;refine aM (zd6 _ _ _ _ _ _ _ hm ht) λos d=>?_);refine bodyPost_ret (v:=AV 1 1 (.slice (some ⟨w.heap.size+1+1+os.size,0,none⟩) 1 1)) (by simp[results,results23,go_sem]) rfl ⟨⟨_,_,rfl,?_,Nat.le_refl _⟩,by simp[go_sem]⟩;exact SlV.one (by simp) (by omega)
 ·have e:ze1 ⟨k,m,ex,t,b,f⟩=bad9:=by simp[ze1,hr]
  have hr':refRight ⟨k,m,ex,t,b,f⟩=false:=by simpa using hr
  rw[e];clear e hr;go_enter func23,ntmps23;go_wp2_with (first | (go_at_call 60;refine aM (zd6 _ _ _ _ _ _ _ hm ht) λos d=>?_) | (go_at_call 19;refine(zd7 _ _).mono ?_;rintro e w' ⟨⟨A,cap,rfl,hs,hcap⟩,hb⟩;obtain⟨os,d,rfl⟩:=hb.more));exact rc1 (v:=AV 1 1 (.slice A 1 cap)) rfl rfl (by simp[go_sem]) ⟨⟨_,_,rfl,(by(try simp only[zc] at hs);(try simp only[zj] at hs);(try simp only[zh] at hs);exact hs.sw (by simp <;> omega)),hcap⟩,by simp[go_sem]⟩
theorem zke (k m ex f t b w) (hm:I64 m) (ht:t.size<=9223372036854775807) (R) (hR:zaQ ⟨k,m,ex,t,b,f⟩=R) :
  Tl prog 173 #[VV k m ex t b f] w (VV R.kind R.mant R.exp R.text R.truth R.fault):=by
 subst hR;by_cases hr:valRight ⟨k,m,ex,t,b,f⟩=true
 ·have e:zaQ ⟨k,m,ex,t,b,f⟩=⟨k,m,ex,t,b,f⟩:=by simp[zaQ,hr]
  rw[e];clear e;go_enter func173,ntmps173;go_wp2_with (go_at_call 59;refine aM (zcv _ _ _ _ _ _ _ hm ht) λos d=>?_);exact rc1 rfl rfl (by simp[go_sem]) ⟨rfl,by simp[go_sem]⟩
 ·have e:zaQ ⟨k,m,ex,t,b,f⟩=bad9:=by simp[zaQ,hr]
  have hr':valRight ⟨k,m,ex,t,b,f⟩=false:=by simpa using hr
  rw[e];clear e hr;have hb9:zE 9=9:=by decide
  go_enter func173,ntmps173;go_wp2_with (first | (go_at_call 59;refine aM (zcv _ _ _ _ _ _ _ hm ht) λos d=>?_) | (go_at_call 57;refine aM (zV _ _) λos d=>?_));exact rc1 (v:=VV 4 0 0 ⟨#[]⟩ false 9) rfl rfl (by simp[go_sem]) ⟨rfl,by simp[go_sem]⟩
end Go.Proofs.YtinjdacijiohiaaGreatDoor
namespace Go.Proofs.YtinjdacijiohiaaGreatDoor
open _root_.Go.Proofs.Tryz
open Go.RowKit NM
def zsv:ByteArray:=⟨#[84,82,85,69]⟩
def zpy:ByteArray:=⟨#[70,65,76,83,69]⟩
def tnP (v:Val):Int×Int:=if v.kind=1 then(v.mant,v.exp) else if v.kind=2 then(zbR v.text).getD (0,0) else if v.kind=3∧v.truth=true then(1,0) else(0,0)
def tnF (v:Val):Int:=if v.kind=2 then(if(zbR v.text).isSome then 0 else 2) else if v.kind=4 then v.fault else 0
def ttS (v:Val):ByteArray:=if v.kind=1 then zd4 v.mant v.exp else if v.kind=2 then v.text else if v.kind=3 then(if v.truth then zsv else zpy) else⟨#[]⟩
def ttF (v:Val):Int:=if v.kind=4 then v.fault else 0
def zo (r:Option (Int×Int)):Val:=if r.isSome then⟨1,rm r,re r,⟨#[]⟩,false,0⟩ else zz 5
def zx (f:Int):Val:=zz (zE f)
def zad (f:Int->Int->Int->Int->Option (Int×Int)) (x y:Val):Val:=
 if tnF x≠0 then zx (tnF x) else if tnF y≠0 then zx (tnF y) else zo (f (tnP x).1 (tnP x).2 (tnP y).1 (tnP y).2)
def zdp (x y:Val):Val:=
 if tnF x≠0 then zx (tnF x) else if tnF y≠0 then zx (tnF y) else if(tnP y).1=0 then zz 1 else zo (divS (tnP x).1 (tnP x).2 (tnP y).1 (tnP y).2)
def zcG (x y:Val):Val:=
 if tnF x≠0 then zx (tnF x) else if tnF y≠0 then zx (tnF y) else if zB (tnP y).1 (tnP y).2≠tnP y then zz 5 else if(tnP x).1=0∧(tnP y).1<0 then zz 1
 else if(zbo (tnP y).1 (tnP y).2).isSome then zo (zbd (tnP x).1 (tnP x).2 ((zbo (tnP y).1 (tnP y).2).getD 0)) else zz 5
def zd8 (x y:Val):Val:=if ttF x≠0 then zx (ttF x) else if ttF y≠0 then zx (ttF y) else zQ (ttS x++ttS y)
def zW (b:Bool):Val:=⟨3,0,0,⟨#[]⟩,b,0⟩
def zM (p:Int->Bool) (x y:Val):Val:=if x.kind=4 then x else if y.kind=4 then y else zW (p (zaB x y))
inductive Sg where
 | add | sub | mul | div | pow | join | eq | ne | lt | le | gt | ge
 deriving DecidableEq
def Sg.key:Sg->List UInt8
 | .add=>[43] | .sub=>[45] | .mul=>[42] | .div=>[47] | .pow=>[94] | .join=>[38]
 | .eq=>[61] | .ne=>[60,62] | .lt=>[60] | .le=>[60,61] | .gt=>[62] | .ge=>[62,61]
def Sg.all:List Sg:=[.add,.sub,.mul,.div,.pow,.join,.eq,.ne,.lt,.le,.gt,.ge]
def zob (s:List UInt8):Option Sg:=Sg.all.find? λg=>g.key==s
def Sg.level:Sg->Int
 | .eq | .ne | .lt | .le | .gt | .ge=>1
 | .join=>2
 | .add | .sub=>3
 | .mul | .div=>4
 | .pow=>5
def Sg.pred:Sg->Int->Bool
 | .eq,n=>n==0
 | .ne,n=>n != 0
 | .lt,n=>decide (n<0)
 | .le,n=>decide (n<=0)
 | .gt,n=>decide (0<n)
 | .ge,n=>decide (0<=n)
 | _,_=>false
def opV:Sg->Val->Val->Val
 | .add=>zad addS
 | .sub=>zad subS
 | .mul=>zad mulS
 | .div=>zdp
 | .pow=>zcG
 | .join=>zd8
 | g=>zM g.pred
theorem zpz {s} {g:Sg} (h:zob s=some g):s=g.key:=by
 unfold zob at h;have:=List.find?_some h;simpa using Eq.symm (by simpa using this)
def Val.right (x:Val):Prop:=valRight x=true
theorem zaN {m e} (h:Rt m e):Val.right ⟨1,m,e,⟨#[]⟩,false,0⟩:=by
 unfold Val.right valRight;rw[if_neg (show ¬ (1:Int)=0 by decide),if_pos rfl,Bool.and_eq_true];exact⟨by rw[zcV];exact decide_eq_true h,decide_eq_true rfl⟩
theorem zns (f):1<=zE f∧zE f<=9:=by unfold zE;split <;> omega
theorem zag (f):(zx f).right:=zfe _ (zns f)
theorem za1 {f} (h:1<=f∧f<=9):(zz f).right:=zfe _ h
theorem zgr (t):(zQ t).right:=by
 unfold zQ;by_cases h:255<t.size
 ·rw[if_pos h];exact zfe 2 (by decide)
 ·rw[if_neg h];unfold Val.right valRight;rw[if_neg (show ¬ (2:Int)=0 by decide),if_neg (show ¬ (2:Int)=1 by decide),if_pos rfl];refine decide_eq_true ?_;unfold zQ;rw[if_neg h]
theorem zfQ (b):(zW b).right:=by
 unfold Val.right valRight zW;rw[if_neg (show ¬ (3:Int)=0 by decide),if_neg (show ¬ (3:Int)=1 by decide),if_neg (show ¬ (3:Int)=2 by decide),if_pos rfl];exact decide_eq_true rfl
theorem Val.right.rt {x:Val} (h:x.right) (h1:x.kind=1):Rt x.mant x.exp:=by
 have:=(zbG h).2.1 h1;rw[zcV] at this;exact of_decide_eq_true this
theorem Val.right.form {x} (h:x.right):x=Val.only 0∨(∃ m e,x=⟨1,m,e,⟨#[]⟩,false,0⟩∧Rt m e)∨(∃ t,x=⟨2,0,0,t,false,0⟩∧t.size<=255)∨(∃ b,x=zW b)∨(∃ f,x=zz f∧1<=f∧f<=9):=by
 have hc:=zbG h;unfold Val.right valRight at h;by_cases h0:x.kind=0
 ·exact Or.inl (hc.1.2 h0)
 ·rw[if_neg h0] at h;by_cases h1:x.kind=1
  ·rw[if_pos h1,Bool.and_eq_true,zcV] at h;exact Or.inr (Or.inl ⟨x.mant,x.exp,of_decide_eq_true h.2,of_decide_eq_true h.1⟩)
  ·rw[if_neg h1] at h;by_cases h2:x.kind=2
   ·rw[if_pos h2] at h;have h3:=hc.2.2.1 h2;refine Or.inr (Or.inr (Or.inl ⟨x.text,?_,h3⟩));have:=of_decide_eq_true h;unfold zQ at this;rw[if_neg (by omega)] at this;exact this
   ·rw[if_neg h2] at h;by_cases h3:x.kind=3
    ·rw[if_pos h3] at h;exact Or.inr (Or.inr (Or.inr (Or.inl ⟨x.truth,of_decide_eq_true h⟩)))
    ·rw[if_neg h3] at h;by_cases h4:x.kind=4
     ·rw[if_pos h4] at h;have hf:=hc.2.2.2 h4;refine Or.inr (Or.inr (Or.inr (Or.inr ⟨x.fault,?_,hf⟩)));have:=of_decide_eq_true h;rw[show zE x.fault=x.fault by unfold zE;rw[if_neg (by omega)]] at this;exact this
     ·rw[if_neg h4] at h;cases h
theorem zdR {n} (h:-1000<=n∧n<=1000):I64 n:=by unfold I64;omega
theorem Val.right.ok {x:Val} (h:x.right):x.ok:=by
 have z:I64 0:=zdR (by decide);have s0:(0:Nat)<=9223372036854775807:=Nat.zero_le _;rcases h.form with rfl | ⟨m,e,rfl,hr⟩ | ⟨t,rfl,ht⟩ | ⟨b,rfl⟩ | ⟨f,rfl,hf⟩
 ·exact⟨z,z,z,s0,z⟩
 ·obtain⟨r1,r2⟩:=zR hr;exact⟨zdR (n:=1) (by decide),r1,r2,s0,z⟩
 ·exact⟨zdR (n:=2) (by decide),z,z,Nat.le_trans ht (by decide),z⟩
 ·exact⟨zdR (n:=3) (by decide),z,z,s0,z⟩
 ·exact⟨zdR (n:=4) (by decide),z,z,s0,zdR (n:=f) (by omega)⟩
theorem zcY:Rt 0 0:=Or.inl ⟨rfl,rfl⟩
theorem zpA {s} {p:Int×Int} (h:zbR s=some p):Rt p.1 p.2:=by
 unfold zbR at h;by_cases hl:255<s.size
 ·rw[if_pos hl] at h;cases h
 ·rw[if_neg hl] at h;unfold zgo at h;cases hr:zbe (bl s) st0 with
  | none=>rw[hr] at h;cases h
  | some S=>
   rw[hr,Option.bind_some] at h;unfold zbA at h;split at h
   ·exact rnd_right h
   ·cases h
theorem zay {x} (h:x.right):Rt (tnP x).1 (tnP x).2:=by
 rcases h.form with rfl | ⟨m,e,rfl,hr⟩ | ⟨t,rfl,ht⟩ | ⟨b,rfl⟩ | ⟨f,rfl,hf⟩
 ·exact zcY
 ·exact hr
 ·show Rt ((zbR t).getD (0,0)).1 ((zbR t).getD (0,0)).2;cases hp:zbR t with
  | none=>exact zcY
  | some p=>exact zpA hp
 ·cases b
  ·exact zcY
  ·exact zcP
 ·exact zcY
theorem zcc {r:Option (Int×Int)} (h:∀ p,r=some p->Rt p.1 p.2):(zo r).right:=by
 unfold zo;cases r with
 | none=>exact za1 (by decide)
 | some p=>exact zaN (h p rfl)
theorem zgs {f:Int->Int->Int->Int->Option (Int×Int)} (hf:∀ a b c d p,f a b c d=some p->Rt p.1 p.2) (x y):(zad f x y).right:=by
 unfold zad;split
 ·exact zag _
 ·split
  ·exact zag _
  ·exact zcc λp hp=>hf _ _ _ _ p hp
theorem zdS {a b c d} {p:Int×Int} (h:addS a b c d=some p):Rt p.1 p.2:=by
 unfold addS at h;split at h
 ·exact rnd_right h
 ·cases h
theorem znt {a b c d} {p:Int×Int} (h:subS a b c d=some p):Rt p.1 p.2:=by
 unfold subS at h;split at h
 ·exact rnd_right h
 ·cases h
theorem ze2 {a b c d} {p:Int×Int} (h:divS a b c d=some p):Rt p.1 p.2:=by
 unfold divS at h;split at h
 ·unfold divR at h;exact rnd_right h
 ·cases h
theorem zs7 {m e n} {p:Int×Int} (h:zbd m e n=some p):Rt p.1 p.2:=by
 unfold zbd at h;split at h
 ·cases h
 ·split at h
  ·cases hp:zbr m e (-n).toNat with
   | none=>rw[hp] at h;cases h
   | some q=>rw[hp] at h;exact ze2 h
  ·exact zg5 h
theorem zlz (g:Sg) {x y} (hx:x.right) (hy:y.right):(opV g x y).right:=by
 have hh:∀ p,(zM p x y).right:=λp=>by
  unfold zM;split
  ·exact hx
  ·split
   ·exact hy
   ·exact zfQ _
 cases g
 ·exact zgs (λ_ _ _ _ _=>zdS) x y
 ·exact zgs (λ_ _ _ _ _=>znt) x y
 ·exact zgs (λ_ _ _ _ _=>zpo) x y
 ·show(zdp x y).right;unfold zdp;split
  ·exact zag _
  ·split
   ·exact zag _
   ·split
    ·exact za1 (by decide)
    ·exact zcc λp hp=>ze2 hp
 ·show(zcG x y).right;unfold zcG;split
  ·exact zag _
  ·split
   ·exact zag _
   ·split
    ·exact za1 (by decide)
    ·split
     ·exact za1 (by decide)
     ·split
      ·exact zcc λp hp=>zs7 hp
      ·exact za1 (by decide)
 ·show(zd8 x y).right;unfold zd8;split
  ·exact zag _
  ·split
   ·exact zag _
   ·exact zgr _
 all_goals exact hh _
end Go.Proofs.YtinjdacijiohiaaGreatDoor
namespace Go.Proofs.YtinjdacijiohiaaGreatDoor
open _root_.Go.Proofs.Tryz
open Go.Maps Go.RowKit Go.WideMaps
def zoc (v:Value):Option (DataW Value×List MemPlace):=some (.held v,[])
abbrev Tab1:=List (List UInt8×Value)
def zjF (D:DataW Value) (L:Tab1):DataW Value:=L.foldl (λD p=>D.put (.string p.1) (.held p.2)) D
def zik (L:Tab1):DataW Value:=zjF (.map []) L
def zbP (L:Tab1) (s:List UInt8):Option Value:=(L.find? λp=>p.1==s).map (·.2)
theorem zod (k v) (L:Tab1) (s):zbP ((k,v)::L) s=if k=s then some v else zbP L s:=by
 unfold zbP;by_cases h:k=s
 ·rw[if_pos h,List.find?_cons_of_pos (by simpa using h)];rfl
 ·rw[if_neg h,List.find?_cons_of_neg (by simpa using h)]
theorem ziQ {L:Tab1} {s} (h:∀ p∈L,p.1≠s):zbP L s=none:=by
 unfold zbP;rw[List.find?_eq_none.2 (λp hp=>by simpa using h p hp)];rfl
theorem znu:∀ (L:Tab1) (D:DataW Value),IsMap D->L.Pairwise (λp q=>p.1≠q.1)->∀ (s:List UInt8) (z:DataW Value),
  (zjF D L).atKey (.string s) z=((zbP L s).map (λv=>DataW.held v)).getD (D.atKey (.string s) z)∧Maps.has (zjF D L) (.string s)=((zbP L s).isSome||Maps.has D (.string s))
 | [],D,_,_,s,z=>⟨rfl,rfl⟩
 | (k,v)::L,D,hD,hp,s,z=>by
  obtain⟨h1,h2⟩:=List.pairwise_cons.1 hp;have ih:=znu L (D.put (.string k) (.held v)) (hD.put _ _) h2 s z;have e:zjF D ((k,v)::L)=zjF (D.put (.string k) (.held v)) L:=rfl;rw[e,ih.1,ih.2,zod];by_cases h:k=s
  ·subst h;rw[if_pos rfl,ziQ (λp hp=>(h1 p hp).symm)];have hkl:WideAt.IsKeyLit (Lit.string k):=trivial;exact⟨atKey_put_same hD hkl _ _,by rw[has_put_same hD hkl];rfl⟩
  ·have hne:Lit.string s≠Lit.string k:=λe=>h (by injection e with e;exact e.symm);rw[if_neg h,atKey_put_other hne,has_put_other hne];exact⟨rfl,rfl⟩
theorem zt4 (L:Tab1) (hp:L.Pairwise (λp q=>p.1≠q.1)) (s z):(zik L).atKey (.string s) (.held z) = .held ((zbP L s).getD z)∧Maps.has (zik L) (.string s)=(zbP L s).isSome:=by
 have h:=znu L (.map []) isMap_empty hp s (.held z);unfold zik;refine⟨h.1.trans ?_,h.2.trans (by rw[show Maps.has (.map []:DataW Value) (.string s)=false from rfl,Bool.or_false])⟩;cases zbP L s <;> rfl
def zen (P:Program) (k:TypeId) (L:Tab1) (b:Nat) (w:World):Prop:=w.ownsMap P k zoc b L.length (zik L)
theorem zen.ext {P k} {L:Tab1} {b w w'} (h:zen P k L b w) (hx:Ext w w'):zen P k L b w':=
 World.ownsMap.kept (row:=none) h ⟨hx.os,hx.tape,hx.output,hx.size,λi hi _=>hx.block hi⟩ (by simp)
theorem zs8 {P k t e} {L:Tab1} {b w} (h:zen P k L b w) (hk:P.underlying k=some .string) (ht:P.underlying t=some (.map k e)) (hp:L.Pairwise (λp q=>p.1≠q.1)) {z} (hz:(zeroValue e).run P w = .ok z w) (s) (hs:s.size<=maxLen) :
  (Instr.lookup t (.map (some b)) (.string s) true).run P w = .ok (.tuple #[(zbP L s.data.toList).getD z,.bool (zbP L s.data.toList).isSome]) w:=by
 obtain⟨v,ps,h1,h2⟩:=World.ownsMap.look_ok h (string_keyed hk) ht hz (zd:=.held z) (zp:=[]) rfl (keyOf_string_mk hk hs);obtain⟨e1,e2⟩:=zt4 L hp s.data.toList z;rw[e1] at h2;rw[e2] at h1;unfold zoc at h2;simp only[Option.some.injEq,Prod.mk.injEq,DataW.held.injEq] at h2;rw[h1,h2.1]
theorem zrF (w:World) (P k):zen P k [] w.heap.size (w.alloc (.map #[] 0)):=World.ownsMap_made w P k zoc
theorem zs9 {P k t e} {L:Tab1} {b w} (h:zen P k L b w) (hk:P.underlying k=some .string) (ht:P.underlying t=some (.map k e)) (hn:L.length<maxLen) (s) (hs:s.size<=maxLen) (v) :
  ∃ w',(Instr.mapUpdate t (.map (some b)) (.string s) v).run P w = .ok () w'∧zen P k (L++[(s.data.toList,v)]) b w'∧w.grownBy w' (some b):=by
 obtain⟨w',h1,h2,h3⟩:=World.ownsMap.update h (string_keyed hk) ht hn (keyOf_string_mk hk hs) (show zoc v=some (.held v,[]) from rfl);refine⟨w',h1,?_,h3⟩;unfold zen;rw[List.length_append];have:zik (L++[(s.data.toList,v)])=(zik L).put (.string s.data.toList) (.held v):=by unfold zik zjF;rw[List.foldl_append];rfl
 rw[this];exact h2
theorem ziR {P w ops rest o a Q} (hg:o.guard=none) (m x v t) (hop:o.op=Op.insert t m x v) (k e) (hk:P.underlying k=some .string) (ht:P.underlying t=some (.map k e)) (L:Tab1) (b) (hm:a.eval m = .map (some b)) (h:zen P k L b w) (hn:L.length<maxLen) (s) (hx:a.eval x = .string s) (hs:s.size<=maxLen) (val) (hv:a.eval v=val) (hK:∀ w',zen P k (L++[(s.data.toList,val)]) b w'->w.grownBy w' (some b)->wpList P ops Q rest (a.put o.dst undef) w'):wpList P ops Q (o::rest) a w:=by
 refine wpList_plain hg λK' hK'=>?_;obtain⟨w',hrun,r1,r2⟩:=zs9 h hk ht hn s hs val;unfold Oper.wp;simp[execOp,hop,hm,hx,hv,hrun,Result.andThen]
 exact hK' _ _ (hK w' r1 r2)
structure TabS (P:Program) (k:TypeId) (w0:World) (b:Nat) (L:Tab1) (B:List (Nat×Obj)) (W:World):Prop where
 tab:zen P k L b W
 ext:Ext w0 W
 hb:w0.heap.size<=b
 box:∀ p∈B,w0.heap.size<=p.1∧p.1≠b∧W.heap[p.1]? = some p.2
section
variable {P:Program} {k:TypeId} {w0:World} {b:Nat} {L:Tab1} {B:List (Nat×Obj)} {W W':World}
theorem TabS.lt (h:TabS P k w0 b L B W):b<W.heap.size:=World.ownsMap.lt h.tab
theorem TabS.put {L':Tab1} (h:TabS P k w0 b L B W) (ht:zen P k L' b W') (hg:W.grownBy W' (some b)):TabS P k w0 b L' B W':=by
 have hbl:∀ i,i<W.heap.size->i≠b->W'.heap[i]? = W.heap[i]?:=λi hi hne=>hg.block i hi (λe=>hne (Option.some.inj e));refine⟨ht,⟨hg.os.trans h.ext.os,hg.tape.trans h.ext.tape,hg.output.trans h.ext.output,Nat.le_trans h.ext.size hg.size,λi hi=>?_⟩,h.hb,λp hp=>?_⟩
 ·rw[hbl i (Nat.lt_of_lt_of_le hi h.ext.size) (by have:=h.hb;omega)];exact h.ext.block hi
 ·obtain⟨h0,h1,h2⟩:=h.box p hp;refine⟨h0,h1,?_⟩;rw[hbl _ ?_ h1];exact h2;rcases Nat.lt_or_ge p.1 W.heap.size with hl | hl
  ·exact hl
  ·rw[Array.getElem?_eq_none hl] at h2;cases h2
theorem TabS.later (h:TabS P k w0 b L B W) (hx:Ext W W'):TabS P k w0 b L B W':=by
 refine⟨h.tab.ext hx,h.ext.trans hx,h.hb,λp hp=>?_⟩;obtain⟨h0,h1,h2⟩:=h.box p hp;refine⟨h0,h1,?_⟩;rw[hx.block ?_];exact h2;rcases Nat.lt_or_ge p.1 W.heap.size with hl | hl
 ·exact hl
 ·rw[Array.getElem?_eq_none hl] at h2;cases h2
theorem TabS.new (h:TabS P k w0 b L B W) {o:Obj} (hx:Ext W W') (ho:W'.heap[W.heap.size]? = some o):TabS P k w0 b L (B++[(W.heap.size,o)]) W':=by
 have h':=h.later hx;refine⟨h'.tab,h'.ext,h.hb,λp hp=>?_⟩;rcases List.mem_append.1 hp with hp | hp
 ·exact h'.box p hp
 ·obtain rfl:=List.mem_singleton.1 hp;exact⟨h.ext.size,by have:=h.lt;show W.heap.size≠b;omega,ho⟩
theorem TabS.start (w:World) (P:Program) (k:TypeId):TabS P k w w.heap.size [] [] (w.alloc (.map #[] 0)):=
 ⟨zrF w P k,(Ext.refl _).alloc _,Nat.le_refl _,λp hp=>by cases hp⟩
end
end Go.Proofs.YtinjdacijiohiaaGreatDoor
namespace Go.Proofs.YtinjdacijiohiaaGreatDoor
open _root_.Go.Proofs.Tryz
open Go.RowKit
structure ArrN (base:Nat) (w:World) (A:Option Addr) (n cap:Nat) (l:List Val):Prop where
 rd:SlV base w A l
 len:l.length=n
 cap:n<=cap
 small:n<=9223372036854775807
 ok:∀ x∈l,x.ok
theorem ArrN.arr {base w A n cap l} (h:ArrN base w A n cap l):ArrIn w A n cap l:=⟨Rd.mono h.rd (Nat.zero_le _),h.len,h.cap,h.small,h.ok⟩
abbrev fn0 (fid:FuncId):Value:=.func (.func fid) #[] #[]
abbrev fn1 (fid:FuncId) (p:Nat):Value:=.func (.func fid) #[] #[.pointer (some ⟨p,0,none⟩)]
theorem zff {P w ops rest o a Q} (hg:o.guard=none) (m x t) (hop:o.op=Op.lookup t m x true) (k e) (hk:P.underlying k=some .string) (ht:P.underlying t=some (.map k e)) (L:Tab1) (b) (hm:a.eval m = .map (some b)) (h:zen P k L b w) (hp:L.Pairwise (λp q=>p.1≠q.1)) (z) (hz:(zeroValue e).run P w = .ok z w) (s) (hx:a.eval x = .string s) (hs:s.size<=maxLen) (v ok) (hv:(zbP L s.data.toList).getD z=v) (hok:(zbP L s.data.toList).isSome=ok) (hK:wpList P ops Q rest (a.put o.dst (.tuple #[v,.bool ok])) w):wpList P ops Q (o::rest) a w:=by
 refine wpList_plain hg λK' hK'=>?_;have hrun:=zs8 h hk ht hp hz s hs;rw[hv,hok] at hrun;unfold Oper.wp;simp[execOp,hop,hm,hx,hrun,Result.andThen]
 exact hK' _ _ hK
theorem zta (k1 m1 e1 f1 k2 m2 e2 f2 t1 t2 b1 b2 w):(binOp .neq 38 (VV k1 m1 e1 t1 b1 f1) (VV k2 m2 e2 t2 b2 f2)).run prog w = .ok (.bool (!eqV ⟨k1,m1,e1,t1,b1,f1⟩ ⟨k2,m2,e2,t2,b2,f2⟩)) w:=by
 have ht:(t1.toList=t2.toList)↔t1=t2:=⟨λh=>by
  cases t1;cases t2
  rename_i a b
  have:a.toList=b.toList:=by simpa[ByteArray.toList_eq] using h
  simpa using this,λh=>by rw[h]⟩
 simp only[VV,eqV];simp[go_sem,ht]
 by_cases h1:k1=k2 <;> simp[h1]
 by_cases h2:m1=m2 <;> simp[h2]
 by_cases h3:e1=e2 <;> simp[h3]
 by_cases h4:t1=t2 <;> simp[h4]
 by_cases h5:b1=b2 <;> simp[h5]
 by_cases h6:f1=f2 <;> simp[h6]
def ziS (k:Nat) (l l':List Val):Prop:=∀ j x y,j<k->l[j]? = some x->l'[j]? = some y->x=y
theorem zpB {n l l'} (h1:l.length=n) (h2:l'.length=n) (h:ziS n l l'):l=l':=by
 apply List.ext_getElem?
 intro i;by_cases hi:i<n
 ·have:=h i l[i] l'[i] hi (List.getElem?_eq_getElem _) (List.getElem?_eq_getElem _);rw[List.getElem?_eq_getElem (by omega),List.getElem?_eq_getElem (by omega),this]
 ·rw[List.getElem?_eq_none (by omega),List.getElem?_eq_none (by omega)]
theorem zoe {k l l' x} (h:ziS k l l') (hx:l[k]? = some x) (hy:l'[k]? = some x):ziS (k+1) l l':=by
 intro j a b hj ha hb;by_cases hjk:j=k
 ·subst hjk;rw[hx] at ha;rw[hy] at hb;simp_all
 ·exact h j a b (by omega) ha hb
def zdw (r c:Int) (l:List Val) (r' c':Int) (l':List Val):Bool:=r==r'&&c==c'&&decide (l=l')
theorem zeu (r c r' c' A B n cap n' cap' l l' w) (h:ArrIn w A n cap l) (h':ArrIn w B n' cap' l') :
  Tl prog 9 #[AV r c (.slice A n cap),AV r' c' (.slice B n' cap')] w (.bool (zdw r c l r' c' l')):=by
 have hsm:=h.small;have hsm':=h'.small;generalize hR:zdw r c l r' c' l'=R;have HR:=Lib.hid hR;clear hR;have hneq:=zta;go_enter func9,ntmps9;go_upto_region 1 with(fail);refine wp_region_lit ?_;iterate 21((first | refine zaH rfl rfl rfl rfl rfl ?_ | refine zaY rfl rfl rfl rfl rfl ?_ | (refine zbE (v:=?_) rfl ?_ ?_;rotate_left 1;(go_simp;first | done | rfl)) | (refine zbk (v:=?_) (c:=?_) rfl rfl rfl ?_ (λhc=>?_) ?_;rotate_left 2;(first | exact zaO _ | exact zaP _ | exact zaq _ _ | exact zar _ _);((try simp only[zv hc]);(try(have hc1:=zO hc;(try simp only[zv hc1]);(try(have hc2:=zO hc1;(try simp only[zv hc2])))));go_simp;first | done | rfl)));try simp only[zq])
 refine wpList_nil ?_;try go_simp
 go_wp2
 ·rename_i hbad;go_ret;refine⟨zbp ?_,by simp[go_sem]⟩;rw[<-HR.out];symm
  simp only[bne_iff_ne,ne_eq] at hbad;rcases hbad with(hb | hb) | hb
  ·simp[zdw,hb]
  ·simp[zdw,hb]
  ·have:¬ l=l':=by rintro rfl;exact hb (by rw[<-h.len,<-h'.len])
   simp[zdw,this]
 ·rename_i hgood _ _;simp only[bne_eq_false_iff_eq] at hgood;obtain⟨⟨g1,g2⟩,g3⟩:=hgood;obtain rfl:n=n':=by omega
  have HR':Hid (R=decide (l=l')):=by show _=_;rw[<-HR.out,g1,g2];simp[zdw]
  clear g1 g2 g3;go_loopw [5] (λi wr=>∃ k:Nat,k<=n∧i = .int .i64 k∧Ext ((w.alloc (Obj.cells #[.int .i64 r,.int .i64 c,.slice A n cap] 27)).alloc (Obj.cells #[.int .i64 r',.int .i64 c',.slice B n cap'] 27)) wr∧Hid (ziS k l l')) (λi _=>n-(intOf i).toNat)
  case atStart=>exact⟨0,Nat.zero_le _,rfl,Ext.refl _,λj x y hj=>absurd hj (Nat.not_lt_zero _)⟩
  case round=>
   obtain⟨k,hk,rfl,hX,H⟩:=hrel;obtain⟨os,d,rfl⟩:=hX.more;by_cases hlt:k<n
   ·obtain⟨x,b,off,hx,hxo,rfl,hv⟩:=h.at hlt;obtain⟨v0,v1,v2,v3,v4,v5⟩:=hv;have hbl:b<w.heap.size:=za v0;obtain⟨y,b',off',hy,hyo,rfl,hv'⟩:=h'.at hlt;obtain⟨u0,u1,u2,u3,u4,u5⟩:=hv';have hbl':b'<w.heap.size:=za u0;by_cases hxy:eqV x y=true
    ·go_wp2;refine plP [(0,0),(1,0),(2,0),(3,0),(4,0),(5,0),(6,0),(7,0),(8,0),(9,0),(10,0)] [] (by kernel_rfl) (λ_ _ d _ _ h=>by cases d <;> exact h) ?_;iterate 11(apply rdP rfl rfl;(intros;go_simp;first | done | rfl);try simp only[zq])
     refine zi ?_;go_wp2;refine⟨⟨k+1,by omega,by go_num,by simp[go_sem],?_⟩,by simp[intOf];omega⟩;obtain rfl:x=y:=by simpa[eqV] using hxy
     exact zoe H.out hx hy
    ·have hxy':eqV x y=false:=by simpa using hxy
     have hR:R=false:=by
      rw[HR'.out];simp only[decide_eq_false_iff_not];rintro rfl;rw[hx] at hy;simp[eqV] at hxy
      exact hxy (by simpa using hy)
     have HR2:=Lib.hid hR;clear hR hxy;go_wp2;refine plP [(0,0),(1,0),(2,0),(3,0),(4,0),(5,0),(6,0),(7,0),(8,0),(9,0),(10,0)] [] (by kernel_rfl) (λ_ _ d _ _ h=>by cases d <;> exact h) ?_;iterate 11(apply rdP rfl rfl;(intros;go_simp;first | done | rfl);try simp only[zq])
     refine zi ?_;go_wp2;go_ret;exact⟨zbp HR2.out.symm,by simp[go_sem]⟩
   ·have hR:R=true:=by
     rw[HR'.out];simp only[decide_eq_true_eq];obtain rfl:k=n:=by omega
     exact zpB h.len h'.len H.out
    have HR2:=Lib.hid hR;clear hR;go_wp2;go_ret;exact⟨zbp HR2.out.symm,by simp[go_sem]⟩
theorem zcn:(Tryz.prog.info? 38).map (λi=>(i.zero,i.size,i.bytes))=some (some (VV 0 0 0 ⟨#[]⟩ false 0),6,56):=by kernel_rfl
structure Keep (s0:Nat) (W W':World):Prop where
 os:W'.os=W.os
 tape:W'.tape=W.tape
 output:W'.output=W.output
 size:W.heap.size<=W'.heap.size
 block:∀ b,b<W.heap.size->b≠s0->b≠s0+1->b≠s0+1+1->W'.heap[b]? = W.heap[b]?
structure Leaves (s0:Nat) (W W':World):Prop where
 size:W.heap.size<=W'.heap.size
 b0:W'.heap[s0]? = W.heap[s0]?
 b1:W'.heap[s0+1]? = W.heap[s0+1]?
 b2:W'.heap[s0+1+1]? = W.heap[s0+1+1]?
theorem Keep.refl (s0 W):Keep s0 W W:=⟨rfl,rfl,rfl,Nat.le_refl _,λ_ _ _ _ _=>rfl⟩
theorem Keep.trans {s0 a b c} (h:Keep s0 a b) (k:Keep s0 b c):Keep s0 a c:=
 ⟨k.os.trans h.os,k.tape.trans h.tape,k.output.trans h.output,Nat.le_trans h.size k.size,λi hi h0 h1 h2=>(k.block i (Nat.lt_of_lt_of_le hi h.size) h0 h1 h2).trans (h.block i hi h0 h1 h2)⟩
theorem Keep.of_ext {s0 a b} (h:Ext a b):Keep s0 a b:=⟨h.os,h.tape,h.output,h.size,λ_ hi _ _ _=>h.block hi⟩
theorem Keep.of_grown {s0 a b} (h:a.grownBy b (some (s0+1))):Keep s0 a b:=⟨h.os,h.tape,h.output,h.size,λi hi _ h1 _=>h.block i hi (λe=>h1 (by simpa using e))⟩
theorem Keep.of_set {s0} (a) {p} (v) (hp:p.block=s0∨p.block=s0+1∨p.block=s0+1+1):Keep s0 a (a.setCell p v):=
 ⟨rfl,rfl,rfl,by simp[World.setCell],λi hi h0 h1 h2=>Below.heap_setCell _ _ _ _ (by omega)⟩
theorem Keep.drew {s0 a b} (h:Keep s0 a b):Keep s0 a b.drew:=⟨h.os,h.tape,h.output,h.size,h.block⟩
structure BSt (s0 R C N k:Nat) (l:List Val) (wr:World):Prop where
 size:s0+3<=wr.heap.size
 b0:wr.heap[s0]? = some (.cells #[.int .i64 0,.int .i64 0,.slice none 0 0] 27)
 b2:wr.heap[s0+1+1]? = some (.cells #[.int .i64 R,.int .i64 C,.slice (some ⟨s0+1,0,none⟩) k N] 27)
 own:wr.ownsRow (s0+1) 38 6 (.slice (some ⟨s0+1,0,none⟩) k N) k (zJ l)
def zbX (g:Nat->Nat->Val) (C k:Nat):List Val:=(List.range k).map λt=>g (t/C) (t%C)
theorem zg9 (g:Nat->Nat->Val) (C i j) (hj:j<C):zbX g C (i*C+j+1)=zbX g C (i*C+j)++[g i j]:=by
 unfold zbX;rw[List.range_succ,List.map_append];have h1:(i*C+j)/C=i:=by rw[Nat.add_comm,Nat.add_mul_div_right _ _ (by omega),Nat.div_eq_of_lt hj];omega
 have h2:(i*C+j)%C=j:=by rw[Nat.add_comm,Nat.add_mul_mod_self_right,Nat.mod_eq_of_lt hj]
 simp[h1,h2]
theorem zhU (g:Nat->Nat->Val) (C k):(zbX g C k).length=k:=by simp[zbX]
theorem BSt.step {s0 R C N k l x wr w1 w3 ty} (h:BSt s0 R C N k l wr) (hl:Leaves s0 wr w1) (hg:(w1.alloc (.cells x.cells.toArray ty)).grownBy w3 (some (s0+1))) (ho:w3.ownsRow (s0+1) 38 6 (.slice (some ⟨s0+1,0,none⟩) (k+1) N) (k+1) (zJ l++x.cells)) :
  BSt s0 R C N (k+1) (l++[x]) (w3.setCell ⟨s0+1+1,2,none⟩ (.slice (some ⟨s0+1,0,none⟩) (k+1) N)):=by
 have hs1:=hl.size;have hs:=h.size;have hz:(w1.alloc (.cells x.cells.toArray ty)).heap.size=w1.heap.size+1:=by simp
 have hs3:=hg.size;have hb:∀ b,b<w1.heap.size->b≠s0+1->w3.heap[b]? = w1.heap[b]?:=λb hb hn=>(hg.block b (by omega) (by simpa using hn)).trans (Below.heap_alloc _ _ _ hb);refine⟨by simp[World.setCell];omega,?_,?_,?_⟩
 ·rw[Below.heap_setCell _ _ _ _ (by simp only;omega),hb s0 (by omega) (by omega),hl.b0,h.b0]
 ·have h2:w3.heap[s0+1+1]? = some (.cells #[.int .i64 R,.int .i64 C,.slice (some ⟨s0+1,0,none⟩) k N] 27):=by rw[hb (s0+1+1) (by omega) (by omega),hl.b2,h.b2]
  simp[World.setCell,Array.getElem?_modify,h2]
 ·have:zJ (l++[x])=zJ l++x.cells:=by simp[zJ]
  rw[this];exact ho.kept (row:=some (s0+1+1)) ⟨rfl,rfl,rfl,by simp[World.setCell],λb hb hne=>Below.heap_setCell _ _ _ _ (λe=>hne (by simp[e]))⟩ (.inr (by simp[Value.ownBlock]))
end Go.Proofs.YtinjdacijiohiaaGreatDoor
