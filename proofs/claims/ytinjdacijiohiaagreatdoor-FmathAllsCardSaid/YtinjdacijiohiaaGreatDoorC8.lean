/- What the rows' proofs lean on: the contracts of the functions that they reach, and plain facts (part C8). -/
import Derived.Test.YtinjdacijiohiaaGreatDoorRows
import Derived.Test.YtinjdacijiohiaaGreatDoorCards
import Derived.Test.YtinjdacijiohiaaGreatDoorTie
import Derived.ProofKit
import Derived.LaidMore
import Derived.OpenShut
import Derived.ShutString
import Derived.ChangeOld
import Derived.Stop.Joined
import Derived.Deep.Slices
import Derived.SevenTiedAt
import Derived.Test.YtinjdacijiohiaaGreatDoorC7
set_option linter.unusedSimpArgs false
set_option linter.unusedVariables false
set_option maxRecDepth 100000
set_option maxHeartbeats 8000000
namespace Go.Proofs.YtinjdacijiohiaaGreatDoor
open _root_.Go.Proofs.Tryz
open Go.RowKit NM
theorem Nms.low {base base' w v l} (h:Nms base w v l) (hb:base'<=base):Nms base' w v l:=by
 refine⟨h.1,?_⟩;rcases h.2 with h2 | ⟨g,c,cur,h3,h4,h5⟩
 ·exact Or.inl h2
 ·exact Or.inr ⟨g,c,cur,h3,Nat.le_trans hb h4,h5⟩
theorem zh5 (great A cap xs fid p w) (h:ArgsIn w A 2 cap xs) (hp:w.cell? ⟨p,0,none⟩=some (.func (.func fid) #[] #[])) (hent:∀ (args:Array Value) (W:World),(callFunc fid args).run prog W = .ok (.enter fid args) W) (hcl:zhu great fid) :
  Calls prog 102 #[.slice A 2 cap,.pointer (some ⟨p,0,none⟩)] w λe w'=>zbB w (zgL great xs) e w':=by
 have hcap:=h.cap;obtain⟨R,C,l,b1,off1,n1,cap1,b,off,x0,ha0,rfl,⟨v0,v1,v2⟩,hn1,hc1,_,_,_,hbl,hb1,_,_,harr,_⟩:=h.first (k:=0) (by omega);obtain⟨R',C',l',b2,off2,n2,cap2,b',off',x,ha1,e1,⟨w0,w1,w2⟩,hn2,hc2,⟨y0,y1,y2,y3,y4,y5⟩,hgv,hxr,_,hb2,hav,_,_,_⟩:=h.first (k:=1) (by omega);obtain⟨rfl,rfl⟩:b=b'∧off=off':=by simpa using e1
 simp only[Nat.zero_mul,Nat.add_zero,Nat.one_mul] at v0 v1 v2 w0 w1 w2;have hln:=harr.len;have hright:=(h.all _ (List.mem_of_getElem? ha0)).right;obtain⟨r1,r2,r3,r4,r5⟩:=zC.1 hright;simp only at r1 r2 r3 r4 r5;have hN0:zI xs 0=⟨R,C,l⟩:=by unfold zI;rw[ha0]
 have hwn:=λW=>zfC x W hxr _ rfl;have hnr:=zb4 r5;have hlen9:=zbf l;have hpl:=za hp;obtain⟨X,hX⟩:∃ X,zgL great xs=X:=⟨_,rfl⟩;rw[hX];unfold zgL at hX;rw[hN0,hav] at hX;simp only at hX;have HA:=Lib.hid harr;have hn4:n1<=4096:=by omega
 clear h ha0 ha1 e1 hgv hav harr hright hN0;generalize zal x=y at *;obtain⟨k,f⟩:=y;simp only at hX hwn;by_cases h0:ffL l=0
 ·rw[if_pos h0] at hX;have hno:=zhi r5 h0;by_cases hf:f=0
  ·subst hf;rw[if_pos rfl] at hX;by_cases hk:k<1∨((zu l).length:Int)<k
   ·rw[if_pos hk] at hX;have hfa:=λW=>zaT 5 W;rw[hX] at hfa;have HNR:=Lib.hid (And.intro hnr hlen9);have HK:=Lib.hid hk;clear hX r5 hnr hlen9 hk;go_enter func102,ntmps102;go_upto_region 4 with(go_at_call 89;(with_reducible refine(zav _ _ _ l _ (HA.out.ext (by simp[go_sem])) (by omega)).mono ?_);rw[h0];rintro e w' ⟨v,rfl,hnm,hb⟩;obtain⟨A2,c2,rfl,hin⟩:=(hnm hno).in (by have:=HNR.out.2;omega) HNR.out.1;obtain⟨os1,d1,rfl⟩:=hb.more;clear hb hnm);clear h0 hno hin;have hk2:=HK.out;generalize (zu l).length=n9 at *;by_cases hk3:k<1
    ·have hk4:decide (k<1)=true:=decide_eq_true hk3;clear hk2 hk3;go_wp2_with (first | (go_at_call 103;with_reducible refine aM (hwn _) λos2 d2=>?_) | (go_at_call 16;with_reducible refine aR (hfa _) λD2 m2 cc2 os5 d5 hD=>?_;have hDr:=hD.rd));exact rc1 (v:=AV X.R X.C (.slice D2 m2 cc2)) rfl rfl (by simp[go_sem]) (by(try simp only[zc,zj,zh,Array.append_assoc] at hDr);exact raS hDr hD (by simp <;> omega) (by simp[go_sem]))
    ·have hk4:decide (k<1)=false:=decide_eq_false hk3;have hk5:decide ((n9:Int)<k)=true:=decide_eq_true (by omega);clear hk2 hk3;go_wp2_with (first | (go_at_call 103;with_reducible refine aM (hwn _) λos2 d2=>?_) | (go_at_call 16;with_reducible refine aR (hfa _) λD2 m2 cc2 os5 d5 hD=>?_;have hDr:=hD.rd));exact rc1 (v:=AV X.R X.C (.slice D2 m2 cc2)) rfl rfl (by simp[go_sem]) (by(try simp only[zc,zj,zh,Array.append_assoc] at hDr);exact raS hDr hD (by simp <;> omega) (by simp[go_sem]))
   ·rw[if_neg hk] at hX;obtain⟨kk,rfl⟩:∃ kk:Nat,k=((kk+1:Nat):Int):=⟨(k-1).toNat,by omega⟩;have hkl:kk<(zu l).length:=by omega
    rw[show(((kk+1:Nat):Int)-1).toNat=kk by omega] at hX;have hor:=zfo (znO great hnr) kk;have hwk:IntKind.i64.wrap (((kk+1:Nat):Int)-1)=(kk:Int):=by rw[IntKind.wrap_i64];omega
    have hk1:¬ ((kk+1:Nat):Int)<1:=by omega
    have hk2:¬ ((zu l).length:Int)<((kk+1:Nat):Int):=by omega
    have HNR:=Lib.hid (And.intro hnr hlen9);have hone:∀ W,Calls prog 56 #[VV 1 (atN (zdl great (zu l)) kk).1 (atN (zdl great (zu l)) kk).2 ⟨#[]⟩ false 0] W (zbB W X):=λW=>by rw[<-hX];exact zdT (nV (atN (zdl great (zu l)) kk)) W (zaN hor).ok (zaN hor)
    have hsrt:=λA2 c2 W (hx:Ext w W) (hN:Nms w.heap.size W (.slice A2 (zu l).length c2) (zu l))=>zky great fid hent hcl w W hx A2 (zu l).length c2 (zu l) hN rfl hnr (by omega);clear hX r5 hnr hk hcl hor;go_enter func102,ntmps102;go_upto_region 4 with(go_at_call 89;(with_reducible refine(zav _ _ _ l _ (HA.out.ext (by simp[go_sem])) (by omega)).mono ?_);rw[h0];rintro e w' ⟨v,rfl,hnm,hb⟩;have hnm2:=(hnm hno).low (base':=w.heap.size) (by simp);obtain⟨A2,c2,rfl,hin⟩:=(hnm hno).in (by have:=HNR.out.2;omega) HNR.out.1;obtain⟨os1,d1,rfl⟩:=hb.more;clear hb hnm);have hc2:=hin.cap;clear h0 hno hin;have HM:=Lib.hid hnm2;have HS:=Lib.hid hsrt;have HO:=Lib.hid hone;clear hnm2 hsrt hone;generalize zu l=L at *;generalize hn9:L.length=n9 at *;go_upto_region 9 with(first | (go_at_call 103;with_reducible refine aM (hwn _) λos2 d2=>?_));have hwk2:IntKind.i64.wrap (kk:Int)=(kk:Int):=by rw[IntKind.wrap_i64];omega
    refine zH λU hU=>?_;have hxU:Ext w U:=by rw[hU];exact(by simp[go_sem])
    have hrow:U.heap[w.heap.size]? = some (.cells #[.int .i64 0,.int .i64 0,.slice none 0 0] 27 (0,0)):=((show Ext (w.alloc (Obj.cells #[.int .i64 0,.int .i64 0,.slice none 0 0] 27)) U by rw[hU];exact(by simp[go_sem])).block (by simp)).trans (zaU _ _);replace hp:=hxU.cell_some hp;replace hpl:=za hp;have hcall:=HS.out A2 c2 U hxU (zL HM.out (by rw[hU];exact(by simp[go_sem])));clear hU HM HS hwn;go_upto_region 10 with(go_at_call 98;refine hcall.mono ?_;rintro e w3 ⟨rfl,hat,hx3,hoth⟩);have hr3:=hoth _ _ hrow (by simp) (by intro c fz h;injection h with _ h2;exact absurd h2 (by decide));have o0:=cell_of_row _ _ 0 _ _ _ hr3;have o1:=cell_of_row _ _ 1 _ _ _ hr3;have o2:=cell_of_row _ _ 2 _ _ _ hr3;have u0:=frozen_of_row _ _ 0 _ _ hr3;have u1:=frozen_of_row _ _ 1 _ _ hr3;have u2:=frozen_of_row _ _ 2 _ _ hr3;have lor:=zG hr3;obtain⟨bq,oq,rfl,z0,z1⟩:=hat kk hkl;have lz:=za z0;have hsz3:=hx3.size;clear hat hoth hr3 hrow hcall hn9;generalize atN (zdl great L) kk=q at *;obtain⟨qm,qe⟩:=q;have HO2:=HO.out;simp only at z0 z1 HO2;clear HO;go_wp2_with (first | (go_at_call 93;with_reducible refine aM (zcQ _ _ _) λos d=>?_) | (go_at_call 56;with_reducible refine aR (HO2 _) λD2 m2 cc2 os5 d5 hD=>?_;have hDr:=hD.rd));exact bodyPost_ret (v:=AV X.R X.C (.slice D2 m2 cc2)) (by simp[results,results102,go_sem,o0,o1,o2,lor]) rfl ⟨D2,m2,cc2,rfl,⟨(by(try simp only[zc,zj,zh,Array.append_assoc] at hDr);exact hDr.sw (by simp <;> omega)),hD.len,hD.cap,hD.small,hD.ok⟩,Ext.more_ (Ext.set (Ext.set (Ext.set hx3 _ (Nat.le_refl _)) _ (Nat.le_refl _)) _ (Nat.le_refl _)) _ _⟩
  ·rw[if_neg hf] at hX;have hfa:=λW=>zaT f W;rw[hX] at hfa;have HNR:=Lib.hid (And.intro hnr hlen9);have hf':(f != 0)=true:=by simpa using hf
   clear hX r5 hnr hlen9 hf;go_enter func102,ntmps102;go_upto_region 4 with(go_at_call 89;(with_reducible refine(zav _ _ _ l _ (HA.out.ext (by simp[go_sem])) (by omega)).mono ?_);rw[h0];rintro e w' ⟨v,rfl,hnm,hb⟩;obtain⟨A2,c2,rfl,hin⟩:=(hnm hno).in (by have:=HNR.out.2;omega) HNR.out.1;obtain⟨os1,d1,rfl⟩:=hb.more;clear hb hnm);clear h0 hno hin;go_wp2_with (first | (go_at_call 103;with_reducible refine aM (hwn _) λos2 d2=>?_) | (go_at_call 16;with_reducible refine aR (hfa _) λD2 m2 cc2 os5 d5 hD=>?_;have hDr:=hD.rd));exact rc1 (v:=AV X.R X.C (.slice D2 m2 cc2)) rfl rfl (by simp[go_sem]) (by(try simp only[zc,zj,zh,Array.append_assoc] at hDr);exact raS hDr hD (by simp <;> omega) (by simp[go_sem]))
 ·rw[if_neg h0] at hX;have hfa:=λW=>zaT (ffL l) W;rw[hX] at hfa;clear hX r5 hnr hlen9;generalize hff:ffL l=g at *;have h0':(g != 0)=true:=by simpa using h0
  go_enter func102,ntmps102;go_upto_region 2 with(go_at_call 89;(with_reducible refine(zav _ _ _ l _ (HA.out.ext (by simp[go_sem])) (by omega)).mono ?_);rw[hff];rintro e w' ⟨v,rfl,hnm,hb⟩;obtain⟨os1,d1,rfl⟩:=hb.more;clear hb hnm);clear hff;go_wp2_with (go_at_call 16;with_reducible refine aR (hfa _) λD2 m2 cc2 os5 d5 hD=>?_;have hDr:=hD.rd);exact rc1 (v:=AV X.R X.C (.slice D2 m2 cc2)) rfl rfl (by simp[go_sem]) (by(try simp only[zc,zj,zh,Array.append_assoc] at hDr);exact raS hDr hD (by simp <;> omega) (by simp[go_sem]))
def zqR (fid:FuncId) (F:List Nm->Val):Prop:=
 ∀ (w0 w:World) (A:Option Addr) (n cap:Nat) (l:List Nm),Ext w0 w->Tab w0->Nms w0.heap.size w (.slice A n cap) l->l.length=n->n<=cap->NRt l->n<=100000->Calls prog fid #[.slice A n cap] w λe w'=>e = .returned (VV (F l).kind (F l).mant (F l).exp (F l).text (F l).truth (F l).fault)∧Ext w0 w'
theorem zm0:zqR 40 medV:=by
 intro w0 w A n cap l hx htab h hlen hcap hr hn;have hble:w0.heap.size<=w.heap.size:=hx.size;by_cases h0:n=0
 ·subst h0;obtain rfl:l=[]:=List.eq_nil_of_length_eq_zero hlen;show Calls _ _ _ w λe w'=>e = .returned (VV 4 0 0 ⟨#[]⟩ false 5)∧Ext w0 w';have hb:=λW=>zV 5 W;simp only[show zE 5=5 by decide] at hb;have HX:=Lib.hid hx;clear h hr hx;go_enter func40,ntmps40;go_wp2_with (first | (go_at_call 57;with_reducible refine aM (hb _) λos d=>?_));exact rc1 rfl rfl (by simp[go_sem]) ⟨rfl,HX.out.trans (by simp[go_sem])⟩
 ·have h0':((n:Int)==0)=false:=by simpa using h0
  obtain⟨m,hm⟩:∃ m,n/2=m:=⟨_,rfl⟩;obtain⟨d2,hd2⟩:∃ d2,n%2=d2:=⟨_,rfl⟩;have hq1:(n:Int).tdiv 2=(m:Int):=by rw[<-hm];rfl
  have hq2:(n:Int).tmod 2=(d2:Int):=by rw[<-hd2];rfl
  have hw1:IntKind.i64.wrap (m:Int)=(m:Int):=by rw[IntKind.wrap_i64];omega
  have hw2:IntKind.i64.wrap (d2:Int)=(d2:Int):=by rw[IntKind.wrap_i64];omega
  have hmn:m<n:=by omega
  have HM1:Hid (¬ d2=1->0<m):=Lib.hid (λh=>by omega);have hsrt:=λW (hx1:Ext w0 W) (hN:Nms w0.heap.size W (.slice A n cap) l)=>zky false 99 (λargs W=>by go_simp) zoZ w0 W hx1 A n cap l hN hlen hr hn;have HX:=Lib.hid hx;have H:=Lib.hid h;have HT:=Lib.hid htab;simp only[show zdl false l=zZ l from rfl] at hsrt;obtain⟨y,hy⟩:∃ y,medV l=y:=⟨_,rfl⟩;rw[hy];unfold medV at hy;rw[hlen,if_neg h0,hm,hd2] at hy;have hs1:=zfo (zfp hr) m;have hs2:=zfo (zfp hr) (m-1);clear h hx htab hr hlen hm;by_cases hod:d2=1
  ·subst hod;rw[if_pos rfl] at hy;subst hy;show Calls _ _ _ w λe w'=>e = .returned (VV 1 (atN (zZ l) m).1 (atN (zZ l) m).2 ⟨#[]⟩ false 0)∧Ext w0 w';obtain⟨q,hq⟩:∃ q,atN (zZ l) m=q:=⟨_,rfl⟩;have HQ:=Lib.hid hq;rw[hq];clear hd2 hq;go_enter func40,ntmps40;go_upto_region 4 with(go_at_call 98;(refine(hsrt _ ?_ ?_).mono ?_);(focus(exact HX.out.trans (by simp[go_sem])));(focus(exact zL H.out (by simp[go_sem])));rintro e w3 ⟨rfl,hat,hx3,hoth⟩);have hr3:w3.heap[w.heap.size]? = some (.cells #[.int .i64 0,.int .i64 0,.int .i64 0,.string ⟨#[]⟩,.bool false,.int .i64 0] 38 (0,0)):=hoth w.heap.size _ (by first | exact zaU _ _ | (simp;done)) (by simp) (by intro c fz h;injection h with _ h2;exact absurd h2 (by decide))
   (have o0:=cell_of_row _ _ 0 _ _ _ hr3);(have o1:=cell_of_row _ _ 1 _ _ _ hr3);(have o2:=cell_of_row _ _ 2 _ _ _ hr3);(have o3:=cell_of_row _ _ 3 _ _ _ hr3);(have o4:=cell_of_row _ _ 4 _ _ _ hr3);(have o5:=cell_of_row _ _ 5 _ _ _ hr3);(have u0:=frozen_of_row _ _ 0 _ _ hr3);(have u1:=frozen_of_row _ _ 1 _ _ hr3);(have u2:=frozen_of_row _ _ 2 _ _ hr3);(have u3:=frozen_of_row _ _ 3 _ _ hr3);(have u4:=frozen_of_row _ _ 4 _ _ hr3);(have u5:=frozen_of_row _ _ 5 _ _ hr3);(have lor:=zG hr3)
   obtain⟨bq,oq,rfl,z0,z1⟩:=hat m hmn;rw[HQ.out] at z0 z1;have lz:=za z0;clear hsrt hoth hr3 hat HQ;obtain⟨qm,qe⟩:=q;simp only at z0 z1;go_wp2_with (first | (go_at_call 93;(with_reducible refine(zcQ _ _ _).mono ?_);rintro e w' ⟨rfl,hb⟩;obtain⟨os,d,rfl⟩:=hb.more;clear hb));exact bodyPost_ret (v:=VV 1 qm qe ⟨#[]⟩ false 0) (by simp[results,results40,go_sem,o0,o1,o2,o3,o4,o5,lor]) rfl ⟨rfl,by with_reducible repeat(first | exact hx3 | apply Ext.drew | apply Ext.alloc | apply Ext.more_ | refine Ext.set ?_ _ hble)⟩
  ·rw[if_neg hod] at hy;have hod':((d2:Int)==1)=false:=by simp;omega
   obtain⟨j,rfl⟩:∃ j,m=j+1:=⟨m-1,by have:=HM1.out hod;omega⟩;rw[Nat.add_sub_cancel] at hy hs2;have hw3:IntKind.i64.wrap (j:Int)=(j:Int):=by rw[IntKind.wrap_i64];omega
   have hadd:=λW h=>zhC (atN (zZ l) j).1 (atN (zZ l) j).2 (atN (zZ l) (j+1)).1 (atN (zZ l) (j+1)).2 W h (zF hs2) (zF hs1);have hjn:j<n:=by omega
   have hb1:(j:Int)+1<(n:Int):=by omega
   have hb0:(0:Int)<=(j:Int)+1:=by omega
   clear hd2 hod;cases hs:addS (atN (zZ l) j).1 (atN (zZ l) j).2 (atN (zZ l) (j+1)).1 (atN (zZ l) (j+1)).2 with
   | none=>
    rw[hs] at hy hadd;simp only at hy;subst hy;simp only[rnV,rm,re,Option.getD_none,Option.isSome_none] at hadd;have hb:=λW=>zV 5 W;simp only[show zE 5=5 by decide] at hb;clear hs;show Calls _ _ _ w λe w'=>e = .returned (VV 4 0 0 ⟨#[]⟩ false 5)∧Ext w0 w';go_enter func40,ntmps40;go_upto_region 4 with(go_at_call 98;(refine(hsrt _ ?_ ?_).mono ?_);(focus(exact HX.out.trans (by simp[go_sem])));(focus(exact zL H.out (by simp[go_sem])));rintro e w3 ⟨rfl,hat,hx3,hoth⟩);have hr3:w3.heap[w.heap.size]? = some (.cells #[.int .i64 0,.int .i64 0,.int .i64 0,.string ⟨#[]⟩,.bool false,.int .i64 0] 38 (0,0)):=hoth w.heap.size _ (by first | exact zaU _ _ | (simp;done)) (by simp) (by intro c fz h;injection h with _ h2;exact absurd h2 (by decide))
    (have o0:=cell_of_row _ _ 0 _ _ _ hr3);(have o1:=cell_of_row _ _ 1 _ _ _ hr3);(have o2:=cell_of_row _ _ 2 _ _ _ hr3);(have o3:=cell_of_row _ _ 3 _ _ _ hr3);(have o4:=cell_of_row _ _ 4 _ _ _ hr3);(have o5:=cell_of_row _ _ 5 _ _ _ hr3);(have u0:=frozen_of_row _ _ 0 _ _ hr3);(have u1:=frozen_of_row _ _ 1 _ _ hr3);(have u2:=frozen_of_row _ _ 2 _ _ hr3);(have u3:=frozen_of_row _ _ 3 _ _ hr3);(have u4:=frozen_of_row _ _ 4 _ _ hr3);(have u5:=frozen_of_row _ _ 5 _ _ hr3);(have lor:=zG hr3)
    have hT3:=Lib.hid (HT.out.ext hx3);obtain⟨bq,oq,rfl,z0,z1⟩:=hat j hjn;obtain⟨bq',oq',e9,y0,y1⟩:=hat (j+1) hmn;obtain⟨rfl,rfl⟩:bq=bq'∧oq=oq':=by simpa using e9
    have lz:=za z0;clear hsrt hoth hr3 hat e9 hs1 hs2;generalize atN (zZ l) j=q at *;generalize atN (zZ l) (j+1)=r at *;obtain⟨qm,qe⟩:=q;obtain⟨rm',re'⟩:=r;simp only at z0 z1 y0 y1 hadd;go_upto_region 7 with fail;refine zby [(13,4),(0,0),(1,0),(2,0),(3,0),(4,0),(5,0),(6,0),(7,0),(8,0),(9,1),(10,0),(11,0),(12,2),(13,3)] [14,15] [14,15] [12] (by kernel_rfl) (by kernel_rfl) (by kernel_rfl) (λ_ _ d _ _ h=>by cases d <;> exact h) (λ_ _ d _ _ h=>by cases d <;> exact h) ?_
    (refine zbH (t:=4) (.cells #[.int .i64 0,.int .i64 0] 36) zcH rfl rfl rfl (λw1=>?_) ?_;(first | rfl | (simp[go_sem,zcH];done) | (go_simp;rfl)))
    iterate 9(apply rdG rfl rfl;(intros;go_simp;first | done | rfl);try simp only[zq])
    (refine zaX rfl ?_ (λwf hXf hE K hK=>?_);rfl;obtain⟨osf,df,rfl⟩:=hXf.more;go_simp;refine(hadd _ (hT3.out.ext (by simp[go_sem]))).mono ?_;rintro e w' ⟨rfl,hb9⟩;refine hK _ _ (λ_=>True) (by(try simp only[zh,zc,Array.append_assoc]);exact hb9) (λ_ _ _ _=>trivial) trivial ?_)
    try simp only[zq]
    iterate 3((first | (apply rdG rfl rfl;(intros;go_simp;first | done | rfl)) | (refine zbK (v:=?_) rfl ?_ (λw1=>?_) ?_;rotate_left 1;rfl;(go_simp;first | done | rfl)));try simp only[zq])
    refine zce λosa da osb db hE=>?_;try simp only[zq]
    (refine zaz rfl ?_ (λK hK=>?_);rfl;go_simp;refine hK _ _ ?_)
    try simp only[zq]
    (refine zaz rfl ?_ (λK hK=>?_);rfl;go_simp;refine hK _ _ ?_)
    try simp only[zq]
    refine zbS ?_;go_wp2_with (first | (go_at_call 57;with_reducible refine aM (hb _) λos d=>?_));exact bodyPost_ret (v:=VV 4 0 0 ⟨#[]⟩ false 5) (by simp[results,results40,go_sem,o0,o1,o2,o3,o4,o5,lor]) rfl ⟨rfl,by with_reducible repeat(first | exact hx3 | apply Ext.drew | apply Ext.alloc | apply Ext.more_ | refine Ext.set ?_ _ hble)⟩
   | some t=>
    rw[hs] at hy hadd;simp only at hy;have hti:=zF (zdS hs);simp only[rnV,rm,re,Option.getD_some,Option.isSome_some] at hadd;have hdv:=λW h=>zf3 t.1 t.2 2 0 W h hti (by unfold I64;omega);have htd:=λW=>zeA (divS t.1 t.2 2 0) W;have hwh:=λW h=>zeg 2 W h (by decide);rw[zge (k:=2) (by decide) (by decide) (by decide)] at hwh;rw[hy] at htd;clear hs hy hti;generalize divS t.1 t.2 2 0=dv at *;simp only[rnV] at hdv;obtain⟨tm,te⟩:=t;simp only at hadd hdv;generalize dv.isSome=dB at *;generalize rm dv=dm at *;generalize re dv=de at *;go_enter func40,ntmps40;go_upto_region 4 with(go_at_call 98;(refine(hsrt _ ?_ ?_).mono ?_);(focus(exact HX.out.trans (by simp[go_sem])));(focus(exact zL H.out (by simp[go_sem])));rintro e w3 ⟨rfl,hat,hx3,hoth⟩);have hr3:w3.heap[w.heap.size]? = some (.cells #[.int .i64 0,.int .i64 0,.int .i64 0,.string ⟨#[]⟩,.bool false,.int .i64 0] 38 (0,0)):=hoth w.heap.size _ (by first | exact zaU _ _ | (simp;done)) (by simp) (by intro c fz h;injection h with _ h2;exact absurd h2 (by decide))
    (have o0:=cell_of_row _ _ 0 _ _ _ hr3);(have o1:=cell_of_row _ _ 1 _ _ _ hr3);(have o2:=cell_of_row _ _ 2 _ _ _ hr3);(have o3:=cell_of_row _ _ 3 _ _ _ hr3);(have o4:=cell_of_row _ _ 4 _ _ _ hr3);(have o5:=cell_of_row _ _ 5 _ _ _ hr3);(have u0:=frozen_of_row _ _ 0 _ _ hr3);(have u1:=frozen_of_row _ _ 1 _ _ hr3);(have u2:=frozen_of_row _ _ 2 _ _ hr3);(have u3:=frozen_of_row _ _ 3 _ _ hr3);(have u4:=frozen_of_row _ _ 4 _ _ hr3);(have u5:=frozen_of_row _ _ 5 _ _ hr3);(have lor:=zG hr3)
    have hT3:=Lib.hid (HT.out.ext hx3);obtain⟨bq,oq,rfl,z0,z1⟩:=hat j hjn;obtain⟨bq',oq',e9,y0,y1⟩:=hat (j+1) hmn;obtain⟨rfl,rfl⟩:bq=bq'∧oq=oq':=by simpa using e9
    have lz:=za z0;clear hsrt hoth hr3 hat e9 hs1 hs2;generalize atN (zZ l) j=q at *;generalize atN (zZ l) (j+1)=r at *;obtain⟨qm,qe⟩:=q;obtain⟨rm',re'⟩:=r;simp only at z0 z1 y0 y1 hadd;go_upto_region 7 with fail;refine zby [(13,4),(0,0),(1,0),(2,0),(3,0),(4,0),(5,0),(6,0),(7,0),(8,0),(9,1),(10,0),(11,0),(12,2),(13,3)] [14,15] [14,15] [12] (by kernel_rfl) (by kernel_rfl) (by kernel_rfl) (λ_ _ d _ _ h=>by cases d <;> exact h) (λ_ _ d _ _ h=>by cases d <;> exact h) ?_
    (refine zbH (t:=4) (.cells #[.int .i64 0,.int .i64 0] 36) zcH rfl rfl rfl (λw1=>?_) ?_;(first | rfl | (simp[go_sem,zcH];done) | (go_simp;rfl)))
    iterate 9(apply rdG rfl rfl;(intros;go_simp;first | done | rfl);try simp only[zq])
    (refine zaX rfl ?_ (λwf hXf hE K hK=>?_);rfl;obtain⟨osf,df,rfl⟩:=hXf.more;go_simp;refine(hadd _ (hT3.out.ext (by simp[go_sem]))).mono ?_;rintro e w' ⟨rfl,hb9⟩;refine hK _ _ (λ_=>True) (by(try simp only[zh,zc,Array.append_assoc]);exact hb9) (λ_ _ _ _=>trivial) trivial ?_)
    try simp only[zq]
    iterate 3((first | (apply rdG rfl rfl;(intros;go_simp;first | done | rfl)) | (refine zbK (v:=?_) rfl ?_ (λw1=>?_) ?_;rotate_left 1;rfl;(go_simp;first | done | rfl)));try simp only[zq])
    refine zce λosa da osb db hE=>?_;try simp only[zq]
    (refine zaz rfl ?_ (λK hK=>?_);rfl;go_simp;refine hK _ _ ?_)
    try simp only[zq]
    (refine zaz rfl ?_ (λK hK=>?_);rfl;go_simp;refine hK _ _ ?_)
    try simp only[zq]
    refine zbS ?_;go_upto_region 10 with fail;refine plP [(0,0),(1,1),(2,1),(3,0),(4,0),(5,1),(6,2)] [6] (by kernel_rfl) (λ_ _ d _ _ h=>by cases d <;> exact h) ?_
    (apply rdP rfl rfl;(intros;go_simp;first | done | rfl))
    try simp only[zq]
    (refine zg rfl ?_ (λK hK=>?_);rfl;go_simp;refine aM (hwh _ (hT3.out.ext (by simp[go_sem]))) λos1 d1=>?_;refine hK _ _ ?_ ?_;(simp[go_sem]))
    try simp only[zq]
    (refine zg rfl ?_ (λK hK=>?_);rfl;go_simp;refine aM (hdv _ (hT3.out.ext (by simp[go_sem]))) λos2 d2=>?_;refine hK _ _ ?_ ?_;(simp[go_sem]))
    try simp only[zq]
    iterate 2(apply rdP rfl rfl;(intros;go_simp;first | done | rfl);try simp only[zq])
    (refine zg rfl ?_ (λK hK=>?_);rfl;go_simp;refine aM (htd _) λos3 d3=>?_;refine hK _ _ ?_ ?_;(simp[go_sem]))
    try simp only[zq]
    (refine zU rfl ?_ (λK hK=>?_);rfl;go_simp;refine hK _ _ ?_)
    try simp only[Act.put]
    refine zi ?_;go_wp2_with fail;exact bodyPost_ret (v:=VV y.kind y.mant y.exp y.text y.truth y.fault) (by simp[results,results40,go_sem,o0,o1,o2,o3,o4,o5,lor]) rfl ⟨rfl,by with_reducible repeat(first | exact hx3 | apply Ext.drew | apply Ext.alloc | apply Ext.more_ | refine Ext.set ?_ _ hble)⟩
theorem zjl (A n cap xs fid) (F:List Nm->Val) (p w) (htab:Tab w) (h:ArgsIn w A n cap xs) (hn:n<=100) (hN:(zs xs).length<=100000) (hp:w.cell? ⟨p,0,none⟩=some (.func (.func fid) #[] #[])) (hq:zqR fid F) (hF:∀ l,NRt l->(F l).right) (hent:∀ (args:Array Value) (W:World),(callFunc fid args).run prog W = .ok (.enter fid args) W) :
  Calls prog 88 #[.slice A n cap,.pointer (some ⟨p,0,none⟩)] w λe w'=>zbB w (zbx F xs) e w':=by
 have hR:=Lib.hid (zcg h);have HT:=Lib.hid htab;have H:=Lib.hid h;have HQ:=Lib.hid hq;have hpl:=za hp;have hall:=λW (hW:ArgsIn W A n cap xs)=>zgz A n cap xs W hW hn;have hfa:=λW=>zaT (ffL (zs xs)) W;obtain⟨X,hX⟩:∃ X,zbx F xs=X:=⟨_,rfl⟩;rw[hX];have HX:=Lib.hid hX;clear htab h hq hX;by_cases h0:ffL (zs xs)=0
 ·have hno:=zhi hR.out h0;have hXo:=HX.out;unfold zbx at hXo;rw[if_pos h0] at hXo;have hnr:=zb4 hR.out;have hlen9:=zbf (zs xs);have hone:∀ W,Calls prog 56 #[VV (F (zu (zs xs))).kind (F (zu (zs xs))).mant (F (zu (zs xs))).exp (F (zu (zs xs))).text (F (zu (zs xs))).truth (F (zu (zs xs))).fault] W (zbB W X):=λW=>by rw[<-hXo];exact zdT _ W (hF _ hnr).ok (hF _ hnr)
  have HNR:=Lib.hid (And.intro hnr hlen9);have HO:=Lib.hid hone;clear hXo HX hfa hnr hlen9 hone;go_enter func88,ntmps88;go_upto_region 2 with(first | (go_at_call 90;(with_reducible refine(hall _ (H.out.ext (by simp[go_sem]))).mono ?_);rintro e w' ⟨D,m,c,rfl,hNN,hm,hb⟩;have harr:=hNN.arr;obtain⟨os1,d1,rfl⟩:=hb.more;clear hb hNN) | (go_at_call 89;(with_reducible refine(zav _ _ _ (zs xs) _ harr (by omega)).mono ?_);rw[h0];rintro e w' ⟨v,rfl,hnm,hb⟩;have HM:=Lib.hid (hnm hno);obtain⟨A2,c2,rfl,hin⟩:=(hnm hno).in (by have:=HNR.out.2;have:=harr.len;omega) HNR.out.1;obtain⟨os2,d2,rfl⟩:=hb.more;clear hb hnm));have hcap2:=hin.cap;clear harr hall hno hin h0;generalize hL:zu (zs xs)=L at *;have hLl:L.length<=100000:=by have:=HNR.out.2;omega
  have HLR:=Lib.hid HNR.out.1;clear HNR hL;generalize hn2:L.length=n2 at *;have HL2:=Lib.hid hn2;clear hn2;obtain⟨y,hy⟩:∃ y,F L=y:=⟨_,rfl⟩;have HY:=Lib.hid hy;have HO2:=HO.out;rw[hy] at HO2;clear hy HO;obtain⟨W1,hW1⟩:∃ W1,more (w.alloc (Obj.cells #[.int .i64 0,.int .i64 0,.slice none 0 0] 27)) os1 d1=W1:=⟨_,rfl⟩;have hx1:Ext w W1:=by rw[<-hW1];exact(by simp[go_sem])
  have hrow:W1.heap[w.heap.size]? = some (.cells #[.int .i64 0,.int .i64 0,.slice none 0 0] 27 (0,0)):=((show Ext (w.alloc (Obj.cells #[.int .i64 0,.int .i64 0,.slice none 0 0] 27)) W1 by rw[<-hW1];exact(by simp[go_sem])).block (by simp)).trans (zaU _ _);refine zH λU hU=>?_;have hU2:U=more W1 os2 d2:=by rw[hU,<-hW1,zc]
  have hxU:Ext W1 U:=by rw[hU2];exact zao _ _ _
  have HN:Hid (Nms W1.heap.size U (.slice A2 n2 c2) L):=Lib.hid (by have h:=HM.out;rw[hW1] at h;rw[hU2];exact h);have hcall:=λW (hW:Ext U W)=>HQ.out W1 W A2 n2 c2 L (hxU.trans hW) (HT.out.ext hx1) (zL HN.out hW) HL2.out hcap2 HLR.out (by omega);rw[HY.out] at hcall;replace hp:=(hx1.trans hxU).cell_some hp;replace hpl:=za hp;have hsz1:=hx1.size;have HX1:=Lib.hid hx1;have HRW:=Lib.hid hrow;clear hU hU2 HM HN HQ HT hW1 HY hrow hx1 hxU;go_wp2_with (first | (go_at_call 56;with_reducible refine aR (HO2 _) λD2 m2 cc2 os5 d5 hD=>?_;have hDr:=hD.rd) | ((refine(hcall _ ?_).mono ?_);(focus(exact(by simp[go_sem])));rintro e w3 ⟨rfl,hx3⟩;have hr3:=(hx3.block (zG HRW.out)).trans HRW.out;have o0:=cell_of_row _ _ 0 _ _ _ hr3;have o1:=cell_of_row _ _ 1 _ _ _ hr3;have o2:=cell_of_row _ _ 2 _ _ _ hr3;have u0:=frozen_of_row _ _ 0 _ _ hr3;have u1:=frozen_of_row _ _ 1 _ _ hr3;have u2:=frozen_of_row _ _ 2 _ _ hr3;have lor:=zG hr3;clear hr3));have hxw:Ext w w3:=HX1.out.trans hx3;have hsz3:=hxw.size;exact bodyPost_ret (v:=AV X.R X.C (.slice D2 m2 cc2)) (by simp[results,results88,go_sem,o0,o1,o2,lor]) rfl ⟨D2,m2,cc2,rfl,⟨(by(try simp only[zc,zj,zh,Array.append_assoc] at hDr);exact hDr.sw (by simp <;> omega)),hD.len,hD.cap,hD.small,hD.ok⟩,Ext.more_ (Ext.set (Ext.set (Ext.set hxw _ (Nat.le_refl _)) _ (Nat.le_refl _)) _ (Nat.le_refl _)) _ _⟩
 ·have hXo:=HX.out;unfold zbx at hXo;rw[if_neg h0] at hXo;rw[hXo] at hfa;clear hXo HX;generalize hff:ffL (zs xs)=f at *;have h0':(f==0)=false:=by simpa using h0
  go_enter func88,ntmps88;go_upto_region 2 with(first | (go_at_call 90;(with_reducible refine(hall _ (H.out.ext (by simp[go_sem]))).mono ?_);rintro e w' ⟨D,m,c,rfl,hN,hm,hb⟩;have harr:=hN.arr;obtain⟨os1,d1,rfl⟩:=hb.more;clear hb hN) | (go_at_call 89;(with_reducible refine(zav _ _ _ (zs xs) _ harr (by omega)).mono ?_);rw[hff];rintro e w' ⟨v,rfl,hnm,hb⟩;obtain⟨os2,d2,rfl⟩:=hb.more;clear hb hnm));clear harr hall hff;go_wp2_with (go_at_call 16;with_reducible refine aR (hfa _) λD2 m2 cc2 os5 d5 hD=>?_;have hDr:=hD.rd);exact rc1 (v:=AV X.R X.C (.slice D2 m2 cc2)) rfl rfl (by simp[go_sem]) (by(try simp only[zc,zj,zh,Array.append_assoc] at hDr);exact raS hDr hD (by simp <;> omega) (by simp[go_sem]))
theorem zeY {side l} (h:NRt l):(zbL side l).right:=by
 cases l with
 | nil=>exact zaN zcY
 | cons n l=>
  have hs:∀ (l:List Nm) (f:Nm),Rt f.1 f.2->NRt l->Rt (zcw side f l).1 (zcw side f l).2:=by
   intro l;induction l with
   | nil=>exact λf hf _=>hf
   | cons a l ih=>
    intro f hf hl;unfold zcw;refine ih _ ?_ λp hp=>hl p (List.mem_cons_of_mem _ hp);split
    ·exact hl a List.mem_cons_self
    ·exact hf
  exact zaN (hs (n::l) n (h n List.mem_cons_self) h)
theorem zjm {l} (h:NRt l):(medV l).right:=by
 unfold medV;split
 ·exact za1 ⟨by decide,by decide⟩
 ·split
  ·exact zaN (zfo (zfp h) _)
  ·split
   ·exact za1 ⟨by decide,by decide⟩
   ·rename_i t _;exact zcc λp hp=>ze2 hp
theorem zqS (A n cap gs w) (htab:Tab w) (h:ArgsG w A n cap gs):Calls prog 7 #[.string ⟨#[77,73,78]⟩,.slice A n cap] w (zbh w (zS 1 32 gs (zbx (zbL (-1)) (zK gs)))):=
 zaw ⟨#[77,73,78]⟩ 1 32 88 (λp=>#[.pointer (some ⟨p 2,0,none⟩)]) (by decide) (λ_=>rfl) (λargs W=>by go_simp) (by decide) (by decide) A n cap gs w h _ (λhr h1 h2 p W hW hB=>
  zcx A n cap (zK gs) 33 #[] (zbL (-1)) (p 2) W (htab.ext hW) ((zX h hr).ext hW) (by omega) (zbi (t:=61) hB (by simp[zbv])) (zqN W) (λ_ hl=>zeY hl) (λargs W=>by go_simp))
theorem zqT (A n cap gs w) (htab:Tab w) (h:ArgsG w A n cap gs):Calls prog 7 #[.string ⟨#[77,65,88]⟩,.slice A n cap] w (zbh w (zS 1 32 gs (zbx (zbL 1) (zK gs)))):=
 zaw ⟨#[77,65,88]⟩ 1 32 88 (λp=>#[.pointer (some ⟨p 3,0,none⟩)]) (by decide) (λ_=>rfl) (λargs W=>by go_simp) (by decide) (by decide) A n cap gs w h _ (λhr h1 h2 p W hW hB=>
  zcx A n cap (zK gs) 35 #[] (zbL 1) (p 3) W (htab.ext hW) ((zX h hr).ext hW) (by omega) (zbi (t:=61) hB (by simp[zbv])) (zqO W) (λ_ hl=>zeY hl) (λargs W=>by go_simp))
theorem zmm (A n cap gs w) (htab:Tab w) (h:ArgsG w A n cap gs) (hN:(zs (zK gs)).length<=100000):Calls prog 7 #[.string ⟨#[77,69,68,73,65,78]⟩,.slice A n cap] w (zbh w (zS 1 32 gs (zbx medV (zK gs)))):=
 zaw ⟨#[77,69,68,73,65,78]⟩ 1 32 88 (λp=>#[.pointer (some ⟨p 7,0,none⟩)]) (by decide) (λ_=>rfl) (λargs W=>by go_simp) (by decide) (by decide) A n cap gs w h _ (λhr h1 h2 p W hW hB=>
  zjl A n cap (zK gs) 40 medV (p 7) W (htab.ext hW) ((zX h hr).ext hW) (by omega) hN (zbi (t:=61) hB (by simp[zbv])) zm0 (λ_ hl=>zjm hl) (λargs W=>by go_simp))
theorem zm1 (A n cap gs w) (h:ArgsG w A n cap gs):Calls prog 7 #[.string ⟨#[76,65,82,71,69]⟩,.slice A n cap] w (zbh w (zS 2 2 gs (zgL true (zK gs)))):=
 zaw ⟨#[76,65,82,71,69]⟩ 2 2 102 (λp=>#[.pointer (some ⟨p 8,0,none⟩)]) (by decide) (λ_=>rfl) (λargs W=>by go_simp) (by decide) (by decide) A n cap gs w h _ (λhr h1 h2 p W hW hB=>by
  obtain rfl:n=2:=by omega
  exact zh5 true A cap (zK gs) 43 (p 8) W ((zX h hr).ext hW) (zbi (t:=67) hB (by simp[zbv])) (λargs W=>by go_simp) zqP)
theorem zm2 (A n cap gs w) (h:ArgsG w A n cap gs):Calls prog 7 #[.string ⟨#[83,77,65,76,76]⟩,.slice A n cap] w (zbh w (zS 2 2 gs (zgL false (zK gs)))):=
 zaw ⟨#[83,77,65,76,76]⟩ 2 2 102 (λp=>#[.pointer (some ⟨p 9,0,none⟩)]) (by decide) (λ_=>rfl) (λargs W=>by go_simp) (by decide) (by decide) A n cap gs w h _ (λhr h1 h2 p W hW hB=>by
  obtain rfl:n=2:=by omega
  exact zh5 false A cap (zK gs) 45 (p 9) W ((zX h hr).ext hW) (zbi (t:=67) hB (by simp[zbv])) (λargs W=>by go_simp) zqQ)
theorem zo0 (z w) (hz:z.right):Calls prog 23 #[VV z.kind z.mant z.exp z.text z.truth z.fault] w λe w'=>zbB w (zaj z) e w':=by
 have hok:=hz.ok;refine(zoa z.kind z.mant z.exp z.fault z.text z.truth w hok.2.1 (by have:=hok;unfold Val.ok at this;omega)).mono ?_;rintro e w' ⟨h1,h2⟩;have he:ze1 ⟨z.kind,z.mant,z.exp,z.text,z.truth,z.fault⟩=z:=by
  show(if refRight z then z else bad9)=z;rw[<-zh8 _ hok,if_pos (show valRight z=true from hz)]
 rw[he] at h1;exact zdH.res (x:=zaj z) h1 (by simp[zaj]) (λy hy=>by rw[show y=z by simpa[zaj] using hy];exact hok) h2
theorem zmn : ∀ (l : List (Option Nm)) (t u : Nm), Rt t.1 t.2 → zdC t l = some u → Rt u.1 u.2
  | [], t, u, ht, h => by obtain rfl : t = u := by simpa [zdC] using h
                          exact ht
  | none :: _, _, _, _, h => by simp [zdC] at h
  | some p :: l, t, u, ht, h => by
    have h' : (addS t.1 t.2 p.1 p.2).bind (fun v => zdC v l) = some u := h
    cases hq : addS t.1 t.2 p.1 p.2 with
    | none => rw [hq] at h'; cases h'
    | some v => rw [hq] at h'; exact zmn l v u (zdS hq) h'
theorem znX:∀ {xs:List Ar},(∀ a∈xs,a.x.right)->(zs xs).length<=xs.length*4096
 | [],_=>by simp[zs]
 | a::xs,h=>by
  have ih:=znX (xs:=xs) λb hb=>h b (List.mem_cons_of_mem _ hb);obtain⟨r1,r2,r3,r4,r5⟩:=zC.1 (h a List.mem_cons_self);have e:zs (a::xs)=a.x.l++zs xs:=rfl;rw[e,List.length_append,List.length_cons];omega
theorem zo1 {w A n cap xs} (h:ArgsIn w A n cap xs) {k} (hk:k<n):(zaR xs k).right:=by
 obtain⟨R',C',l',b2,off2,n2,cap2,b',off',x,ha1,e1,_,hn2,hc2,_,hgv,hxr,_,hb2,hav,_⟩:=h.first hk;rw[hav];exact hxr
theorem ziz {w A n cap xs} (h:ArgsIn w A n cap xs) {k} (hk:k<n):∀ x∈(zI xs k).l,x.right:=by
 obtain⟨a,b,off,ha,_,_,hok⟩:=h.at hk;have e:zI xs k=a.x:=by unfold zI;rw[ha]
 rw[e];exact(zC.1 hok.right).2.2.2.2
theorem zuR (q:Val->Bool) (l l'):(zY q l l').length<=l'.length:=by
 induction l generalizing l' with
 | nil=>simp[zY]
 | cons x l ih=>
  cases l' with
  | nil=>simp[zY]
  | cons y l'=>
   unfold zY;have:=ih l';split <;> simp <;> omega
theorem zjn {w A n cap xs} (h:ArgsIn w A n cap xs):zaV xs=zI xs 2∧2<n∨zaV xs=zI xs 0:=by
 unfold zaV;have:=h.len;by_cases h3:xs.length=3
 ·rw[if_pos h3];exact Or.inl ⟨rfl,by omega⟩
 ·rw[if_neg h3];exact Or.inr rfl
theorem zhv {w A n cap xs} (h:ArgsIn w A n cap xs) (hn:2<=n) (b):(zbg b xs).right:=by
 have h0:∀ x∈(zaV xs).l,x.right:=by
  rcases zjn h with⟨e,h2⟩ | e
  ·rw[e];exact ziz h h2
  ·rw[e];exact ziz h (by omega)
 have h1:(zaV xs).l.length<=4096:=by
  rcases zjn h with⟨e,h2⟩ | e
  ·obtain⟨a,b,off,ha,_,_,hok⟩:=h.at h2;have e2:zI xs 2=a.x:=by unfold zI;rw[ha]
   rw[e,e2];have:=zC.1 hok.right;omega
  ·obtain⟨a,b,off,ha,_,_,hok⟩:=h.at (k:=0) (by omega);have e2:zI xs 0=a.x:=by unfold zI;rw[ha]
   rw[e,e2];have:=zC.1 hok.right;omega
 unfold zbg;split
 ·exact zo1 h (by omega)
 ·split
  ·exact zag _
  ·have hf:∀ x∈zY (zbQ (zaf (zaR xs 1)).1 (zaf (zaR xs 1)).2) (zI xs 0).l (zaV xs).l,x.right:=λx hx=>h0 x (zeq _ hx);simp only;split
   ·split
    ·exact zbZ (zb4 hf)
    ·exact zag _
   ·exact zfT (by have:=zuR (zbQ (zaf (zaR xs 1)).1 (zaf (zaR xs 1)).2) (zI xs 0).l (zaV xs).l;have:T 15=1000000000000000:=(by decide);omega)
theorem zh6 {w A n cap xs} (h:ArgsIn w A n cap xs) (hn:2<=n) (b):(zcj b xs).right:=by
 unfold zcj;split
 ·split
  ·split
   ·exact zag _
   ·exact zaN (zfo (znO b (zb4 (ziz h (by omega)))) _)
  ·exact zag _
 ·exact zag _
theorem zd0 {F:List Nm->Val} (hF:∀ l,NRt l->(F l).right) {w A n cap xs} (h:ArgsIn w A n cap xs):(ofV F xs).right:=by
 unfold ofV;split
 ·exact hF _ (zb4 (zcg h))
 ·exact zag _
theorem zgh {w A n cap xs} (h:ArgsIn w A n cap xs) (hn:n<=32) (q:Val->Bool):(zcs q xs).right:=by
 have h1:=znX (xs:=xs) λa ha=>(h.all a ha).right;have h2:=h.len;have h3:=List.length_filter_le q (zs xs);exact zfT (by have:T 15=1000000000000000:=(by decide);omega)
theorem zqU {s lo hi} {F:List Ar->Val} (hs:(s,lo,hi,F)∈zeF) {w A n cap xs} (h:ArgsIn w A n cap xs) (h1:lo<=n) (h2:n<=hi):(F xs).right:=by
 simp only[zeF,List.mem_cons,List.not_mem_nil,or_false,Prod.mk.injEq] at hs;rcases hs with⟨rfl,rfl,rfl,rfl⟩ | ⟨rfl,rfl,rfl,rfl⟩ | ⟨rfl,rfl,rfl,rfl⟩ | ⟨rfl,rfl,rfl,rfl⟩ | ⟨rfl,rfl,rfl,rfl⟩ | ⟨rfl,rfl,rfl,rfl⟩ | ⟨rfl,rfl,rfl,rfl⟩ | ⟨rfl,rfl,rfl,rfl⟩ | ⟨rfl,rfl,rfl,rfl⟩ | ⟨rfl,rfl,rfl,rfl⟩ | ⟨rfl,rfl,rfl,rfl⟩ | ⟨rfl,rfl,rfl,rfl⟩ | ⟨rfl,rfl,rfl,rfl⟩
 ·exact zgh h h2 _
 ·exact zgh h h2 _
 ·exact zhv h h1 _
 ·exact zhv h h1 _
 ·exact zh6 h h1 _
 ·exact zh6 h h1 _
 ·exact zd0 (λ_=>zbZ) h
 ·unfold spV;split
  ·split
   ·exact zcc λp hp=>zmn _ _ _ (Or.inl ⟨rfl,rfl⟩) hp
   ·exact zag _
  ·exact zag _
 ·exact zd0 (λ_=>zh1) h
 ·exact zd0 (λ_=>zjm) h
 ·exact zd0 (λ_=>zeY) h
 ·exact zd0 (λ_=>zeY) h
 ·exact zd0 (λ_=>zh0) h
theorem ziA {s lo hi} (h:(s,lo,hi)∈takesT):1<=lo∧lo<=hi∧hi<=32:=by
 simp only[takesT,List.mem_cons,List.not_mem_nil,or_false,Prod.mk.injEq] at h;rcases h with⟨rfl,rfl,rfl⟩ | ⟨rfl,rfl,rfl⟩ | ⟨rfl,rfl,rfl⟩ | ⟨rfl,rfl,rfl⟩ | ⟨rfl,rfl,rfl⟩ | ⟨rfl,rfl,rfl⟩ | ⟨rfl,rfl,rfl⟩ | ⟨rfl,rfl,rfl⟩ | ⟨rfl,rfl,rfl⟩ | ⟨rfl,rfl,rfl⟩ | ⟨rfl,rfl,rfl⟩ | ⟨rfl,rfl,rfl⟩ | ⟨rfl,rfl,rfl⟩ | ⟨rfl,rfl,rfl⟩ | ⟨rfl,rfl,rfl⟩ | ⟨rfl,rfl,rfl⟩ | ⟨rfl,rfl,rfl⟩ | ⟨rfl,rfl,rfl⟩ | ⟨rfl,rfl,rfl⟩ <;> decide
theorem zhw {s lo hi} {F:List Ar->Val} (h:(s,lo,hi,F)∈zeF):(s,lo,hi)∈takesT:=by
 simp only[zeF,List.mem_cons,List.not_mem_nil,or_false,Prod.mk.injEq] at h;rcases h with⟨rfl,rfl,rfl,rfl⟩ | ⟨rfl,rfl,rfl,rfl⟩ | ⟨rfl,rfl,rfl,rfl⟩ | ⟨rfl,rfl,rfl,rfl⟩ | ⟨rfl,rfl,rfl,rfl⟩ | ⟨rfl,rfl,rfl,rfl⟩ | ⟨rfl,rfl,rfl,rfl⟩ | ⟨rfl,rfl,rfl,rfl⟩ | ⟨rfl,rfl,rfl,rfl⟩ | ⟨rfl,rfl,rfl,rfl⟩ | ⟨rfl,rfl,rfl,rfl⟩ | ⟨rfl,rfl,rfl,rfl⟩ | ⟨rfl,rfl,rfl,rfl⟩ <;> decide
theorem zqV {s lo hi} {F:List Ar->Val} (h:(s,lo,hi,F)∈zeF):((⟨s.toArray⟩:ByteArray).toList == [80,79,87,69,82])=false∧((⟨s.toArray⟩:ByteArray).toList == [82,79,85,78,68])=false∧((⟨s.toArray⟩:ByteArray).toList == [77,79,68])=false∧hi≠1:=by
 simp only[ByteArray.toList_eq];simp only[zeF,List.mem_cons,List.not_mem_nil,or_false,Prod.mk.injEq] at h;rcases h with⟨rfl,rfl,rfl,rfl⟩ | ⟨rfl,rfl,rfl,rfl⟩ | ⟨rfl,rfl,rfl,rfl⟩ | ⟨rfl,rfl,rfl,rfl⟩ | ⟨rfl,rfl,rfl,rfl⟩ | ⟨rfl,rfl,rfl,rfl⟩ | ⟨rfl,rfl,rfl,rfl⟩ | ⟨rfl,rfl,rfl,rfl⟩ | ⟨rfl,rfl,rfl,rfl⟩ | ⟨rfl,rfl,rfl,rfl⟩ | ⟨rfl,rfl,rfl,rfl⟩ | ⟨rfl,rfl,rfl,rfl⟩ | ⟨rfl,rfl,rfl,rfl⟩ <;> exact⟨by decide,by decide,by decide,by decide⟩
theorem zso (s A n cap w) (h:s.data.toList ∉ names19) :
  Tl prog 8 #[.string s,.slice A n cap] w (.tuple #[AV 0 0 (.slice none 0 0),.bool false]):=by
 have hc:=λW=>zqk s W h;clear h;go_enter func8,ntmps8;go_wp2_with (go_at_call 18;with_reducible refine aM (hc _) λos1 d1=>?_);exact rct (v:=AV 0 0 (.slice none 0 0)) rfl rfl (by simp[go_sem]) ⟨rfl,by simp[go_sem]⟩
theorem zqW (s lo hi) (hs:(s,lo,hi)∈takesT) (A n cap gs w) (h:ArgsG w A n cap gs) (hn:n<lo∨hi<n) :
  Calls prog 8 #[.string ⟨s.toArray⟩,.slice A n cap] w (zc5 w (zT 2)):=by
 have hc:=λW=>zdq s lo hi W hs;have hbd:=ziA hs;have hsm:=h.small;clear hs;by_cases q1:n<lo
 ·clear hn h;go_enter func8,ntmps8;go_wp2_with (first | (go_at_call 18;with_reducible refine aM (hc _) λos1 d1=>?_) | (go_at_call 19;with_reducible refine aR (zgC 2 (by omega) _) λD m cc os5 d5 hD=>?_;have hDr:=hD.rd));exact rct (v:=AV (zT 2).R (zT 2).C (.slice D m cc)) rfl rfl (by simp[go_sem]) ⟨D,m,cc,rfl,ArrN.arr (base:=w.heap.size) ⟨(by(try simp only[zc,zj,zh,Array.append_assoc] at hDr);exact hDr.sw (by simp <;> omega)),hD.len,hD.cap,hD.small,hD.ok⟩,by simp[go_sem]⟩
 ·have q2:hi<n:=by omega
  clear hn h;go_enter func8,ntmps8;go_wp2_with (first | (go_at_call 18;with_reducible refine aM (hc _) λos1 d1=>?_) | (go_at_call 19;with_reducible refine aR (zgC 2 (by omega) _) λD m cc os5 d5 hD=>?_;have hDr:=hD.rd));exact rct (v:=AV (zT 2).R (zT 2).C (.slice D m cc)) rfl rfl (by simp[go_sem]) ⟨D,m,cc,rfl,ArrN.arr (base:=w.heap.size) ⟨(by(try simp only[zc,zj,zh,Array.append_assoc] at hDr);exact hDr.sw (by simp <;> omega)),hD.len,hD.cap,hD.small,hD.ok⟩,by simp[go_sem]⟩
theorem zqX (s lo hi) (hs:(s,lo,hi)∈takesT) (A n cap gs w) (h:ArgsG w A n cap gs) (hn1:lo<=n) (hn2:n<=hi) (hb:¬ ∀ g∈gs,g.right=true) :
  Calls prog 8 #[.string ⟨s.toArray⟩,.slice A n cap] w (zc5 w (zT 9)):=by
 have hc:=λW=>zdq s lo hi W hs;have hbd:=ziA hs;have hsm:=h.small;have q1:¬ n<lo:=by omega
 have q2:¬ hi<n:=by omega
 have HB:=Lib.hid hb;clear hb hn1 hn2 hs;go_enter func8,ntmps8;go_wp2_with (go_at_call 18;with_reducible refine aM (hc _) λos1 d1=>?_);go_loopw [8] (λi wr=>∃ k:Nat,k<=n∧i = .int .i64 k∧Ext (more (w.alloc (Obj.cells #[.int .i64 0,.int .i64 0,.slice none 0 0] 27)) os1 d1) wr∧Hid (∀ j g,j<k->gs[j]? = some g->g.right=true)) (λi _=>n-(intOf i).toNat)
 case atStart=>exact⟨0,Nat.zero_le _,rfl,Ext.refl _,λj g hj=>absurd hj (Nat.not_lt_zero _)⟩
 case round=>
  obtain⟨k,hk,rfl,hX,HR⟩:=hrel;obtain⟨os,d,rfl⟩:=hX.more;clear hX;by_cases hlt:k<n
  ·obtain⟨g,b,off,hg,rfl,hat,harr⟩:=h.at hlt;obtain⟨v0,v1,v2⟩:=hat;have hbl:b<w.heap.size:=za v0;have hcap:=h.cap;have hra:=λW (hW:ArrIn W g.A g.n g.cap g.l)=>zan g.r g.c g.A g.n g.cap g.l W hW;rw[<-za7 g.r g.c g.l harr.ok] at hra;cases hr:zA g.r g.c g.l with
   | true=>
    rw[hr] at hra;go_wp2_with (go_at_call 20;refine(hra _ (harr.ext (by simp[go_sem]))).mono ?_;rintro e w' ⟨rfl,hb⟩;obtain⟨os',d',rfl⟩:=hb.more;clear hb);refine⟨⟨k+1,by omega,by go_num,by simp[go_sem],?_⟩,by simp[intOf];omega⟩;intro j g' hj hg';by_cases hjk:j=k
    ·subst hjk;obtain rfl:g=g':=by rw[hg] at hg';simpa using hg'
     exact hr
    ·exact HR.out j g' (by omega) hg'
   | false=>
    rw[hr] at hra;go_wp2_with (first | (go_at_call 20;refine(hra _ (harr.ext (by simp[go_sem]))).mono ?_;rintro e w' ⟨rfl,hb⟩;obtain⟨os',d',rfl⟩:=hb.more;clear hb) | (go_at_call 19;with_reducible refine aR (zgC 9 (by omega) _) λD m cc os5 d5 hD=>?_;have hDr:=hD.rd));exact rct (v:=AV (zT 9).R (zT 9).C (.slice D m cc)) rfl rfl (by simp[go_sem]) ⟨D,m,cc,rfl,ArrN.arr (base:=w.heap.size) ⟨(by(try simp only[zc,zj,zh,Array.append_assoc] at hDr);exact hDr.sw (by simp <;> omega)),hD.len,hD.cap,hD.small,hD.ok⟩,by simp[go_sem]⟩
  ·exfalso
   have hlen:=h.len;refine HB.out λg hg=>?_;obtain⟨j,hj,rfl⟩:=List.mem_iff_getElem.1 hg;exact HR.out j _ (by omega) (List.getElem?_eq_getElem hj)
theorem zm3 (s lo hi) (F:List Ar->Val) (hs:(s,lo,hi,F)∈zeF) (A n cap xs w) (h:ArgsIn w A n cap xs) (h1:lo<=n) (h2:n<=hi) (z) (hz:F xs=z) :
  Calls prog 8 #[.string ⟨s.toArray⟩,.slice A n cap] w (zc5 w (zaj z)):=by
 have hc:=λW=>zdq s lo hi W (zhw hs);have hbd:=ziA (zhw hs);obtain⟨o1,o2,o3,o4⟩:=zqV hs;have hto:=λW hW=>zoT s lo hi F hs A n cap xs W hW h1 h2 z hz;have hzr:z.right:=by rw[<-hz];exact zqU hs h h1 h2
 have hone:=λW=>zo0 z W hzr;have hsm:=h.small;have hcap:=h.cap;have q1:¬ n<lo:=by omega
 have q2:¬ hi<n:=by omega
 have q3:((hi:Int)==1)=false:=by rw[beq_eq_false_iff_ne];omega
 have H:=Lib.hid h;generalize (⟨s.toArray⟩:ByteArray)=S at *;clear hs hz hzr h h1 h2 o4;go_enter func8,ntmps8;go_wp2_with (go_at_call 18;with_reducible refine aM (hc _) λos1 d1=>?_);go_loopw [8] (λi wr=>∃ k:Nat,k<=n∧i = .int .i64 k∧Ext (more (w.alloc (Obj.cells #[.int .i64 0,.int .i64 0,.slice none 0 0] 27)) os1 d1) wr) (λi _=>n-(intOf i).toNat)
 case atStart=>exact⟨0,Nat.zero_le _,rfl,Ext.refl _⟩
 case round=>
  obtain⟨k,hk,rfl,hX⟩:=hrel;obtain⟨os,d,rfl⟩:=hX.more;clear hX;by_cases hlt:k<n
  ·(obtain⟨a,b',off',hg,hA',hat,hok⟩:=H.out.at hlt;obtain⟨u0,u1,u2⟩:=hat;have hra:=λW (hW:ArrIn W a.A a.n a.cap a.x.l)=>zan a.x.R a.x.C a.A a.n a.cap a.x.l W hW;rw[<-za7 _ _ _ hok.arr.ok,show zA (a.x.R:Int) a.x.C a.x.l=true from hok.right] at hra;have HOK:=Lib.hid hok.arr;clear hg hok)
   subst hA';have hbl:=za u0;go_wp2_with (go_at_call 20;refine(hra _ (HOK.out.ext (by simp[go_sem]))).mono ?_;rintro e w' ⟨rfl,hb⟩;obtain⟨os',d',rfl⟩:=hb.more;clear hb);exact⟨⟨k+1,by omega,by go_num,by simp[go_sem]⟩,by simp[intOf];omega⟩
  ·obtain rfl:n=k:=by omega
   go_wp2_with (first | (go_at_call 24;with_reducible refine aM (hto _ (H.out.ext (by simp[go_sem]))) λos3 d3=>?_) | (go_at_call 23;with_reducible refine aR (hone _) λD m cc os5 d5 hD=>?_;have hDr:=hD.rd));exact rct (v:=AV (zaj z).R (zaj z).C (.slice D m cc)) rfl rfl (by simp[go_sem]) ⟨D,m,cc,rfl,ArrN.arr (base:=w.heap.size) ⟨(by(try simp only[zc,zj,zh,Array.append_assoc] at hDr);exact hDr.sw (by simp <;> omega)),hD.len,hD.cap,hD.small,hD.ok⟩,by simp[go_sem]⟩
theorem zjo {s} {f:Nm->Nm} (h:(s,f)∈zhO):(s,1,1)∈takesT∧((⟨s.toArray⟩:ByteArray).toList == [80,79,87,69,82])=false∧∀ p:Nm,Rt p.1 p.2->Rt (f p).1 (f p).2:=by
 simp only[ByteArray.toList_eq];simp only[zhO,List.mem_cons,List.not_mem_nil,or_false,Prod.mk.injEq] at h;rcases h with⟨rfl,rfl⟩ | ⟨rfl,rfl⟩ | ⟨rfl,rfl⟩
 ·exact⟨by decide,by decide,zqd⟩
 ·exact⟨by decide,by decide,znK⟩
 ·exact⟨by decide,by decide,zqe⟩
theorem zo2 (s) (f:Nm->Nm) (hs:(s,f)∈zhO) (A cap a w) (h:ArgsIn w A 1 cap [a]) :
  Calls prog 8 #[.string ⟨s.toArray⟩,.slice A 1 cap] w (zc5 w (zhI f a.x)):=by
 obtain⟨htk,o1,hrt⟩:=zjo hs;have hc:=λW=>zdq s 1 1 W htk;have hea:=λx W hx z hz=>zqu s f hs x W hx z hz;obtain⟨b,off,rfl,⟨u0,u1,u2⟩,hok⟩:=h.get (k:=0) (a:=a) rfl;have hbl:=za u0;have hcap:=h.cap;simp only[Nat.zero_mul,Nat.add_zero] at u0 u1 u2;have hra:=λW (hW:ArrIn W a.A a.n a.cap a.x.l)=>zan a.x.R a.x.C a.A a.n a.cap a.x.l W hW;rw[<-za7 _ _ _ hok.arr.ok,show zA (a.x.R:Int) a.x.C a.x.l=true from hok.right] at hra;obtain⟨i0,hi0,hz0,hz1,hz2⟩:=info_parts zcn;have HOK:=Lib.hid hok.arr;obtain⟨r1,r2,r3,r4,r5⟩:=zC.1 hok.right;have hln:=hok.arr.len;have hcp:=hok.arr.cap;generalize (⟨s.toArray⟩:ByteArray)=S at *;obtain⟨⟨R,C,l⟩,A1,n,cap1⟩:=a;simp only at u0 u1 u2 r1 r2 r3 r4 r5 hln hcp HOK hra⊢;have HRR:=Lib.hid r5;have hN:n<=4096:=by omega
 have HLN:=Lib.hid hln;have HEA:=Lib.hid hea;have HRT:=Lib.hid hrt;clear h hok hs htk r3 r4 r5 hln hea hrt;show Calls prog 8 _ w (zc5 w ⟨R,C,l.map (zcJ f)⟩);go_enter func8,ntmps8;go_wp2_with (go_at_call 18;with_reducible refine aM (hc _) λos1 d1=>?_);refine wp_loop_rounds 2 ?_;rw[rounds_succ];go_wp2_with (go_at_call 20;refine(hra _ (HOK.out.ext (by simp[go_sem]))).mono ?_;rintro e w' ⟨rfl,hb⟩;obtain⟨os',d',rfl⟩:=hb.more;clear hb);rw[rounds_succ];go_upto_region 14 with fail;refine zH λU hU=>?_;have hxU:Ext (w.alloc (Obj.cells #[.int .i64 0,.int .i64 0,.slice none 0 0] 27)) U:=by rw[hU];exact(by simp[go_sem])
 clear hU;obtain⟨os,d,rfl⟩:=hxU.more;go_region
 go_wp2_with fail;have hacc0:=Acc.start (more (w.alloc (Obj.cells #[.int .i64 0,.int .i64 0,.slice none 0 0] 27)) os (d+1)) R C;have hsz0:(more (w.alloc (Obj.cells #[.int .i64 0,.int .i64 0,.slice none 0 0] 27)) os (d+1)).heap.size=w.heap.size+1+os.size:=by simp
 rw[hsz0] at hacc0;go_loopw [10] (λi wr=>∃ (k cp:Nat) (G:Option Addr),k<=n∧i = .int .i64 k∧Acc (more (w.alloc (Obj.cells #[.int .i64 0,.int .i64 0,.slice none 0 0] 27)) os (d+1)) (w.heap.size+1+os.size) R C G cp k ((l.map (zcJ f)).take k) wr) (λi _=>n-(intOf i).toNat)
 case atStart=>exact⟨0,0,none,Nat.zero_le _,rfl,by simpa using hacc0⟩
 case round=>
  clear hacc0;obtain⟨k,cp,G,hk,rfl,hacc⟩:=hrel;have hlt0:=hacc.lt;have hxw:Ext w wr:=Ext.trans (by simp[go_sem]) hacc.ext;have p2:=hxw.cell_some u2;by_cases hlt:k<n
  ·obtain⟨b9,off9,rfl,hv,hxo⟩:=HOK.out.get hlt;have hxr:(zaI l k).right:=HRR.out _ (zim (by rw[HLN.out];exact hlt));have hmt:=map_take (t:=zcJ f) (l:=l) (k:=k) (by rw[HLN.out];exact hlt);obtain⟨v0,v1,v2,v3,v4,v5⟩:=hv;have hbl9:=za v0;generalize hz:(zcJ f) (zaI l k)=z;have HZ:=Lib.hid hmt;have hcall:=λW=>HEA.out (zaI l k) W hxr z hz;clear hmt;go_upto_region 18 with fail;clear p2;refine zdN (S:=zrL _ _ _ _ _ _ _) [(0,0),(1,0),(2,0),(3,0),(4,0),(5,0),(6,0),(7,0),(8,0),(9,0),(10,1),(11,1),(12,1),(13,0),(14,2)] [14] (by kernel_rfl) (by kernel_rfl) (by kernel_rfl) (λ_ _ d _ _ h=>by cases d <;> exact h) ⟨(hacc.of_ext (by simp[go_sem])).ext,(hacc.of_ext (by simp[go_sem])).row⟩ ?_
   (refine zn (v:=?_) rfl ?_ (λw1 h1=>?_) ?_;rotate_left 1;rfl;(obtain⟨h1e,h1r⟩:=h1;have c2:=cell_of_row _ _ 2 _ _ _ h1r;clear h1r;obtain⟨os1,d1,rfl⟩:=h1e.more;(try simp only[zc,Array.append_assoc] at c2);go_simp;first | done | rfl))
   try simp only[zq]
   (refine zn (v:=?_) rfl ?_ (λw1 h1=>?_) ?_;rotate_left 1;rfl;(obtain⟨h1e,h1r⟩:=h1;have c2:=cell_of_row _ _ 2 _ _ _ h1r;clear h1r;obtain⟨os1,d1,rfl⟩:=h1e.more;(try simp only[zc,Array.append_assoc] at c2);go_simp;first | done | rfl))
   try simp only[zq]
   (refine zn (v:=?_) rfl ?_ (λw1 h1=>?_) ?_;rotate_left 1;rfl;(obtain⟨h1e,h1r⟩:=h1;have c2:=cell_of_row _ _ 2 _ _ _ h1r;clear h1r;obtain⟨os1,d1,rfl⟩:=h1e.more;(try simp only[zc,Array.append_assoc] at c2);go_simp;first | done | rfl))
   try simp only[zq]
   (refine zn (v:=?_) rfl ?_ (λw1 h1=>?_) ?_;rotate_left 1;rfl;(obtain⟨h1e,h1r⟩:=h1;have c2:=cell_of_row _ _ 2 _ _ _ h1r;clear h1r;obtain⟨os1,d1,rfl⟩:=h1e.more;(try simp only[zc,Array.append_assoc] at c2);go_simp;first | done | rfl))
   try simp only[zq]
   (refine zn (v:=?_) rfl ?_ (λw1 h1=>?_) ?_;rotate_left 1;rfl;(obtain⟨h1e,h1r⟩:=h1;have c2:=cell_of_row _ _ 2 _ _ _ h1r;clear h1r;obtain⟨os1,d1,rfl⟩:=h1e.more;(try simp only[zc,Array.append_assoc] at c2);go_simp;first | done | rfl))
   try simp only[zq]
   (refine zn (v:=?_) rfl ?_ (λw1 h1=>?_) ?_;rotate_left 1;rfl;(obtain⟨h1e,h1r⟩:=h1;have c2:=cell_of_row _ _ 2 _ _ _ h1r;clear h1r;obtain⟨os1,d1,rfl⟩:=h1e.more;(try simp only[zc,Array.append_assoc] at c2);go_simp;first | done | rfl))
   try simp only[zq]
   (refine zn (v:=?_) rfl ?_ (λw1 h1=>?_) ?_;rotate_left 1;rfl;(obtain⟨h1e,h1r⟩:=h1;have c2:=cell_of_row _ _ 2 _ _ _ h1r;clear h1r;obtain⟨os1,d1,rfl⟩:=h1e.more;(try simp only[zc,Array.append_assoc] at c2);go_simp;first | done | rfl))
   try simp only[zq]
   (refine zn (v:=?_) rfl ?_ (λw1 h1=>?_) ?_;rotate_left 1;rfl;(obtain⟨h1e,h1r⟩:=h1;have c2:=cell_of_row _ _ 2 _ _ _ h1r;clear h1r;obtain⟨os1,d1,rfl⟩:=h1e.more;(try simp only[zc,Array.append_assoc] at c2);go_simp;first | done | rfl))
   try simp only[zq]
   (refine zn (v:=?_) rfl ?_ (λw1 h1=>?_) ?_;rotate_left 1;rfl;(obtain⟨h1e,h1r⟩:=h1;have c2:=cell_of_row _ _ 2 _ _ _ h1r;clear h1r;obtain⟨os1,d1,rfl⟩:=h1e.more;(try simp only[zc,Array.append_assoc] at c2);go_simp;first | done | rfl))
   try simp only[zq]
   (refine zn (v:=?_) rfl ?_ (λw1 h1=>?_) ?_;rotate_left 1;rfl;(obtain⟨h1e,h1r⟩:=h1;have c2:=cell_of_row _ _ 2 _ _ _ h1r;clear h1r;obtain⟨os1,d1,rfl⟩:=h1e.more;(try simp only[zc,Array.append_assoc] at c2);go_simp;first | done | rfl))
   try simp only[zq]
   (refine zg rfl ?_ (λK hK=>?_);rfl;go_simp;refine aM (hcall _) λos5 d5=>?_;refine hK _ _ ⟨(hacc.of_ext (by simp[go_sem])).ext,(hacc.of_ext (by simp[go_sem])).row⟩ ?_)
   try simp only[zq]
   (refine zg rfl ?_ (λK hK=>?_);rfl;go_simp;refine hK _ _ ⟨(hacc.of_ext (by simp[go_sem])).ext,(hacc.of_ext (by simp[go_sem])).row⟩ ?_)
   try simp only[zq]
   (refine zg rfl ?_ (λK hK=>?_);rfl)
   refine zeD _ _ _ _ rfl _ 38 i0 (VV 0 0 0 ⟨#[]⟩ false 0) 6 56 Tryz.underlying25 hi0 hz0 hz1 hz2 rfl (by decide) _ _ _ rfl (zL hacc.own (by simp[go_sem])) _ 1 1 (Val.cells z) rfl rfl (zap _ _ _ (by simp) rfl _) (zdf _) (by simp only[maxLen];omega) (by omega) (by have:=hacc.lt;simp;omega) ?_;intro v3 w3 ho3 hg3;obtain⟨A2,cap2,rfl,hrow3,hex3,hacc2⟩:=hacc.step (by simp[go_sem]) hg3 ho3;refine hK _ _ ⟨hex3,hrow3⟩ ?_;try simp only[zq]
   (refine zn (v:=?_) rfl ?_ (λw1 h1=>?_) ?_;rotate_left 1;rfl;(obtain⟨h1e,h1r⟩:=h1;have c2:=cell_of_row _ _ 2 _ _ _ h1r;clear h1r;obtain⟨os1,d1,rfl⟩:=h1e.more;(try simp only[zc,Array.append_assoc] at c2);go_simp;first | done | rfl))
   try simp only[zq]
   have c2:=cell_of_row _ _ 2 _ _ _ hrow3;have f2:=frozen_of_row _ _ 2 _ _ hrow3;clear hrow3 hex3 hg3 ho3
   (refine zU rfl ?_ (λK hK=>?_);rfl;go_simp;refine hK _ _ ?_)
   clear c2 f2;try simp only[Act.put]
   refine zi ?_;go_wp2_with fail;refine⟨⟨k+1,cap2,A2,by omega,by go_num,?_⟩,by simp[intOf];omega⟩;rw[HZ.out,hz];exact hacc2
  ·obtain rfl:k=n:=by omega
   have q0:wr.cell? ⟨w.heap.size,0,none⟩=some (.int .i64 0):=hacc.ext.cell_some (by simp[go_sem]);have q1:wr.cell? ⟨w.heap.size,1,none⟩=some (.int .i64 0):=hacc.ext.cell_some (by simp[go_sem]);have q2:wr.cell? ⟨w.heap.size,2,none⟩=some (.slice none 0 0):=hacc.ext.cell_some (by simp[go_sem]);have q3:wr.frozen? ⟨w.heap.size,0,none⟩=false:=(hacc.ext.frozen (p:=⟨w.heap.size,0,none⟩) (by simp;try omega)).trans (by simp[go_sem]);have q4:wr.frozen? ⟨w.heap.size,1,none⟩=false:=(hacc.ext.frozen (p:=⟨w.heap.size,1,none⟩) (by simp;try omega)).trans (by simp[go_sem]);have q5:wr.frozen? ⟨w.heap.size,2,none⟩=false:=(hacc.ext.frozen (p:=⟨w.heap.size,2,none⟩) (by simp;try omega)).trans (by simp[go_sem]);have c0:=cell_of_row _ _ 0 _ _ _ hacc.row;have c1:=cell_of_row _ _ 1 _ _ _ hacc.row;have c2:=cell_of_row _ _ 2 _ _ _ hacc.row;go_wp2_with fail;obtain⟨hrd,hcp9⟩:=hacc.rd;have hl:(l.map (zcJ f)).take k=l.map (zcJ f):=List.take_of_length_le (by rw[List.length_map,HLN.out];exact Nat.le_refl _);rw[hl] at hrd;refine rct (v:=AV R C (.slice G k cp)) rfl rfl (by simp[go_sem,q0,q1,q2]) ⟨G,k,cp,rfl,ArrN.arr (base:=w.heap.size) ⟨?_,by rw[List.length_map,HLN.out],hcp9,by omega,?_⟩,?_⟩
   ·exact Rd.mono (((hrd.set_far _ (by(try simp) <;> omega)).set_far _ (by(try simp) <;> omega)).set_far _ (by(try simp) <;> omega)) (by omega)
   ·intro y hy;obtain⟨v,hv,rfl⟩:=List.mem_map.1 hy;exact Val.right.ok (zfU HRT.out (HRR.out v hv))
   ·exact Ext.set (Ext.set (Ext.set (Ext.trans (by simp[go_sem]) hacc.ext) _ (by(try simp) <;> omega)) _ (by(try simp) <;> omega)) _ (by(try simp) <;> omega)
theorem zkz:([80,79,87,69,82],2,2)∈takesT:=by decide
theorem zm4 (A cap a c w) (h:ArgsIn w A 2 cap [a,c]) :
  Calls prog 8 #[.string ⟨#[80,79,87,69,82]⟩,.slice A 2 cap] w (zc5 w (zl4 [a,c])):=by
 have hc:=λW=>zdq _ 2 2 W zkz;obtain⟨b,off,rfl,⟨v0,v1,v2⟩,hoka⟩:=h.get (k:=0) (a:=a) rfl;obtain⟨b',off',e,⟨u0,u1,u2⟩,hokc⟩:=h.get (k:=1) (a:=c) rfl;obtain⟨rfl,rfl⟩:=aI e;have hbl:=za v0;have hcap:=h.cap;simp only[Nat.zero_mul,Nat.one_mul,Nat.add_zero] at v0 v1 v2 u0 u1 u2;have hra:=λW (hW:ArrIn W a.A a.n a.cap a.x.l)=>zan a.x.R a.x.C a.A a.n a.cap a.x.l W hW;rw[<-za7 _ _ _ hoka.arr.ok,show zA (a.x.R:Int) a.x.C a.x.l=true from hoka.right] at hra;have hrc:=λW (hW:ArrIn W c.A c.n c.cap c.x.l)=>zan c.x.R c.x.C c.A c.n c.cap c.x.l W hW;rw[<-za7 _ _ _ hokc.arr.ok,show zA (c.x.R:Int) c.x.C c.x.l=true from hokc.right] at hrc;have HOK:=Lib.hid hoka.arr;have HOC:=Lib.hid hokc.arr;have hop:=λW hA hB=>zmU .pow a.x.R a.x.C c.x.R c.x.C a.A c.A a.n a.cap c.n c.cap a.x.l c.x.l W hA hB _ rfl;have hpx:zl4 [a,c]=zaC (opV .pow) (a.x.R:Int) a.x.C a.x.l c.x.R c.x.C c.x.l:=rfl;rw[hpx];generalize zaC (opV .pow) (a.x.R:Int) a.x.C a.x.l c.x.R c.x.C c.x.l=X at *;clear h hoka hokc hpx;go_enter func8,ntmps8;go_wp2_with (go_at_call 18;with_reducible refine aM (hc _) λos1 d1=>?_);refine wp_loop_rounds 3 ?_;rw[rounds_succ];go_wp2_with (go_at_call 20;refine aM (hra _ (HOK.out.ext (by simp[go_sem]))) λos6 d6=>?_);rw[rounds_succ];go_wp2_with (go_at_call 20;refine aM (hrc _ (HOC.out.ext (by simp[go_sem]))) λos7 d7=>?_);rw[rounds_succ];go_upto_region 12 with fail;refine plP [(0,0),(1,0),(2,0),(3,0),(4,0),(5,0),(6,1),(7,0),(8,0),(9,2),(10,2)] [9,10] (by kernel_rfl) (λ_ _ d _ _ h=>by cases d <;> exact h) ?_;iterate 6(apply rdP rfl rfl;(intros;go_simp;first | done | rfl);try simp only[zq])
 (refine zg rfl ?_ (λK hK=>?_);rfl;go_simp;(refine(hop _ (HOK.out.ext (by simp[go_sem])) (HOC.out.ext (by simp[go_sem]))).mono ?_;rintro e w' ⟨D,m,cc,rfl,hD,hb⟩;obtain⟨os5,d5,rfl⟩:=hb.more;clear hb;have hDr:=hD.rd);refine hK _ _ ?_ ?_;(simp[go_sem]))
 try simp only[zq]
 iterate 2(apply rdP rfl rfl;(intros;go_simp;first | done | rfl);try simp only[zq])
 (refine zU rfl ?_ (λK hK=>?_);rfl;go_simp;refine hK _ _ ?_)
 try simp only[Act.put]
 (refine zU rfl ?_ (λK hK=>?_);rfl;go_simp;refine hK _ _ ?_)
 try simp only[zq]
 refine zi ?_;go_wp2_with fail;exact rct (v:=AV X.R X.C (.slice D m cc)) rfl rfl (by simp[go_sem]) ⟨D,m,cc,rfl,ArrN.arr (base:=w.heap.size) ⟨(by(try simp only[zc,zj,zh,Array.append_assoc] at hDr);exact hDr.sw (by simp <;> omega)),hD.len,hD.cap,hD.small,hD.ok⟩,by simp[go_sem]⟩
theorem zjp {s} {t:Val->Val->Val} (h:(s,t)∈zeW):(s,2,2)∈takesT∧((⟨s.toArray⟩:ByteArray).toList == [80,79,87,69,82])=false∧(((⟨s.toArray⟩:ByteArray).toList == [82,79,85,78,68])=true∨((⟨s.toArray⟩:ByteArray).toList == [82,79,85,78,68])=false∧((⟨s.toArray⟩:ByteArray).toList == [77,79,68])=true)∧∀ x y:Val,x.right->(t x y).right:=by
 simp only[ByteArray.toList_eq];simp only[zeW,List.mem_cons,List.not_mem_nil,or_false,Prod.mk.injEq] at h;rcases h with⟨rfl,rfl⟩ | ⟨rfl,rfl⟩
 ·exact⟨by decide,by decide,Or.inl (by decide),λx y hx=>zhj hx⟩
 ·exact⟨by decide,by decide,Or.inr ⟨by decide,by decide⟩,λx y _=>zgH⟩
theorem zo3 (s) (t:Val->Val->Val) (hs:(s,t)∈zeW) (A cap a c w) (h:ArgsIn w A 2 cap [a,c]) :
  Calls prog 8 #[.string ⟨s.toArray⟩,.slice A 2 cap] w (zc5 w (zej t [a,c])):=by
 obtain⟨htk,o1,o2,hrt⟩:=zjp hs;have hc:=λW=>zdq _ 2 2 W htk;have hbo:=λx y W hx hy z hz=>zqv s t hs x y W hx hy z hz;obtain⟨i0,hi0,hz0,hz1,hz2⟩:=info_parts zcn;obtain⟨b,off,rfl,⟨v0,v1,v2⟩,hoka⟩:=h.get (k:=0) (a:=a) rfl;obtain⟨b',off',e,⟨u0,u1,u2⟩,hokc⟩:=h.get (k:=1) (a:=c) rfl;obtain⟨rfl,rfl⟩:=aI e;have hbl:=za v0;have hcap:=h.cap;simp only[Nat.zero_mul,Nat.one_mul,Nat.add_zero] at v0 v1 v2 u0 u1 u2;have hra:=λW (hW:ArrIn W a.A a.n a.cap a.x.l)=>zan a.x.R a.x.C a.A a.n a.cap a.x.l W hW;rw[<-za7 _ _ _ hoka.arr.ok,show zA (a.x.R:Int) a.x.C a.x.l=true from hoka.right] at hra;have hrc:=λW (hW:ArrIn W c.A c.n c.cap c.x.l)=>zan c.x.R c.x.C c.A c.n c.cap c.x.l W hW;rw[<-za7 _ _ _ hokc.arr.ok,show zA (c.x.R:Int) c.x.C c.x.l=true from hokc.right] at hrc;have hr1:zA (a.x.R:Int) a.x.C a.x.l=true:=hoka.right;have hr2:zA (c.x.R:Int) c.x.C c.x.l=true:=hokc.right;have HOK:=Lib.hid hoka.arr;have HOC:=Lib.hid hokc.arr;obtain⟨⟨R1,C1,l⟩,A1,n,cap1⟩:=a;obtain⟨⟨R2,C2,l'⟩,A2',n',cap2'⟩:=c;simp only at v0 v1 v2 u0 u1 u2 HOK HOC hra hrc hr1 hr2;generalize (⟨s.toArray⟩:ByteArray)=S at *;obtain⟨a1,a2,a3,a4,a5,a6⟩:=za5 hr1;obtain⟨b1,b2,b3,b4,b5,b6⟩:=za5 hr2;have hpx:zej t [⟨⟨R1,C1,l⟩,A1,n,cap1⟩,⟨⟨R2,C2,l'⟩,A2',n',cap2'⟩]=zaC t (R1:Int) C1 l R2 C2 l':=rfl;rw[hpx];by_cases hf:max R1 R2*max C1 C2<=4096
 ·rw[show zaC t (R1:Int) C1 l R2 C2 l'=⟨max R1 R2,max C1 C2,zdA t R1 C1 l R2 C2 l'⟩ by simp[zaC,hr1,hr2,hf]];have hb6:=λW=>zb6 6 W;rw[show zE 6=6 by decide] at hb6;have HN:=Lib.hid (And.intro (show n=R1*C1 by have:=HOK.out.len;omega) (show n'=R2*C2 by have:=HOC.out.len;omega));have hN1:n<=4096:=by have:=HN.out;omega
  have hN2:n'<=4096:=by have:=HN.out;omega
  have HL:=Lib.hid (And.intro a4 b4);have HRR:=Lib.hid (And.intro (zC.1 hr1).2.2.2.2 (zC.1 hr2).2.2.2.2);have HCM:Hid ((zak R1 C1 R2 C2).getD (0,0)=(max R1 R2,max C1 C2)∧(zak R1 C1 R2 C2).isSome=true):=by show _∧_;simp[zak,hf]
  have HOKK:=Lib.hid (zir (t:=t) (λx y _ _ p _=>(hrt x y p).ok) HL.out.1 HL.out.2 HOK.out.ok HOC.out.ok HRR.out.1 HRR.out.2);have HLEN:=zfl t R1 C1 l R2 C2 l';have HF:=Lib.hid hf;have hm1:1<=max R1 R2:=by omega
  have hm2:1<=max C1 C2:=by omega
  have hm3:max R1 R2<=4096:=by omega
  have hm4:max C1 C2<=4096:=by omega
  have HRT:=Lib.hid hrt;have HBO:=Lib.hid hbo;have O2:=Lib.hid o2;clear a3 a4 b3 b4 hf hpx hrt hbo h hoka hokc hr1 hr2 hs htk o2;unfold zdA at HOKK HLEN⊢;generalize max R1 R2=M at *;generalize max C1 C2=N at *;have hMN:=HF.out;generalize hGG:(λi j=>zcK t (zr R1 C1 l i j) (zr R2 C2 l' i j))=GG at *;have HGG:=Lib.hid hGG;have hco:=λW=>zew R1 C1 R2 C2 A1 A2' n cap1 n' cap2' W ⟨a1,a5⟩ ⟨a2,a6⟩ ⟨b1,b5⟩ ⟨b2,b6⟩ M N true HCM.out.1 HCM.out.2;clear hGG;go_enter func8,ntmps8;go_wp2_with (go_at_call 18;with_reducible refine aM (hc _) λos1 d1=>?_);refine wp_loop_rounds 3 ?_;rw[rounds_succ];go_wp2_with (go_at_call 20;refine aM (hra _ (HOK.out.ext (by simp[go_sem]))) λos6 d6=>?_);rw[rounds_succ];go_wp2_with (go_at_call 20;refine aM (hrc _ (HOC.out.ext (by simp[go_sem]))) λos7 d7=>?_);rw[rounds_succ];clear hra hrc;go_upto_region 20 with fail;refine zH λU hU=>?_;have hxU:Ext (w.alloc (Obj.cells #[.int .i64 0,.int .i64 0,.slice none 0 0] 27)) U:=by rw[hU];exact(by simp[go_sem])
  clear hU;obtain⟨os8,d8,rfl⟩:=hxU.more;clear hxU;rcases O2.out with o2 | ⟨o2,o3⟩
  all_goals
   go_upto_region 22 with fail;refine plP [(0,0),(1,0),(2,0),(3,0),(4,0),(5,0),(6,1),(7,0),(8,0),(9,0),(10,0),(11,0),(12,0),(13,0)] [] (by kernel_rfl) (λ_ _ d _ _ h=>by cases d <;> exact h) ?_;iterate 6(apply rdP rfl rfl;(intros;go_simp;first | done | rfl);try simp only[zq])
   (refine zg rfl ?_ (λK hK=>?_);rfl;go_simp;(refine aM (hco _) λos3 d3=>?_);refine hK _ _ ?_ ?_;(simp[go_sem]))
   try simp only[zq]
   iterate 7(apply rdP rfl rfl;(intros;go_simp;first | done | rfl);try simp only[zq])
   refine zi ?_;clear hco;go_upto_region 25 with fail;refine zH λU hU=>?_;have hxU:Ext (w.alloc (Obj.cells #[.int .i64 0,.int .i64 0,.slice none 0 0] 27)) U:=by rw[hU];exact(by simp[go_sem])
   clear hU;obtain⟨os,d,rfl⟩:=hxU.more;go_wp2_with fail;have hst:=Acc.start (more (w.alloc (Obj.cells #[.int .i64 0,.int .i64 0,.slice none 0 0] 27)) os d) M N;have hsz0:(more (w.alloc (Obj.cells #[.int .i64 0,.int .i64 0,.slice none 0 0] 27)) os d).heap.size=w.heap.size+1+os.size:=by simp
   rw[hsz0] at hst;generalize hps:w.heap.size+1+os.size=ps at *;have hpsV:w.heap.size<ps:=by omega
   clear hps hsz0;go_loopw [15] (λi wr=>∃ (r cp:Nat) (G:Option Addr),r<=M∧i = .int .i64 r∧Acc (more (w.alloc (Obj.cells #[.int .i64 0,.int .i64 0,.slice none 0 0] 27)) os d) ps M N G cp (r*N) (zbX GG N (r*N)) wr) (λi _=>M-(intOf i).toNat)
   case atStart=>exact⟨0,0,none,Nat.zero_le _,rfl,by simpa[zbX] using hst⟩
   case round=>
    clear hst;obtain⟨r,cp,G,hr,rfl,hacc⟩:=hrel;by_cases hlt:r<M
    ·go_wp2;obtain⟨wo,rfl⟩:∃ wo:World,wo=wr:=⟨_,rfl⟩;go_loopw [16] (λi wr=>∃ (j cp:Nat) (G:Option Addr),j<=N∧i = .int .i64 j∧Acc (more (w.alloc (Obj.cells #[.int .i64 0,.int .i64 0,.slice none 0 0] 27)) os d) ps M N G cp (r*N+j) (zbX GG N (r*N+j)) wr) (λi _=>N-(intOf i).toNat)
     case atStart=>exact⟨0,cp,G,Nat.zero_le _,rfl,by simpa using hacc⟩
     case round=>
      clear hacc;obtain⟨j,cp,G,hj,rfl,hacc⟩:=hrel;have hlt0:=hacc.lt;by_cases hjt:j<N
      ·have hk:=(zcA M hlt hjt hMN).1;have hwW:Ext w wr:=Ext.trans (show Ext w (more (w.alloc (Obj.cells #[.int .i64 0,.int .i64 0,.slice none 0 0] 27)) os d) from(by simp[go_sem])) hacc.ext;have g0:=hwW.cell_some v0;have g1:=hwW.cell_some v1;have g2:=hwW.cell_some v2;have g3:=hwW.cell_some u0;have g4:=hwW.cell_some u1;have g5:=hwW.cell_some u2;have y0:=za g0;have c2':=cell_of_row _ _ 2 _ _ _ hacc.row;have hA':=HOK.out.ext hwW;have hB':=HOC.out.ext hwW;have hGv:GG r j=zcK t (zr R1 C1 l r j) (zr R2 C2 l' r j):=by rw[<-HGG.out]
       have hvs:=zg9 GG N r j hjt;generalize hx:zbU (zr R1 C1 l r j)=x;generalize hkx:(zr R1 C1 l r j).isSome=kx;generalize hy:zbU (zr R2 C2 l' r j)=y;generalize hky:(zr R2 C2 l' r j).isSome=ky;have HA:=Lib.hid (And.intro hx hkx);have HB:=Lib.hid (And.intro hy hky);cases hboth:(kx&&ky) with
       | false=>
        have hz:GG r j=zz 6:=by
         rw[hGv];cases e1:zr R1 C1 l r j with
         | none=>rfl
         | some x0=>
          cases e2:zr R2 C2 l' r j with
          | none=>rfl
          | some y0=>rw[<-hkx,<-hky,e1,e2] at hboth;cases hboth
        have HV:=Lib.hid (And.intro hz hvs);clear hz hvs hGv hx hkx hy hky;have hb2:kx=false∨kx=true∧ky=false:=by cases kx <;> simp_all
        clear hboth;rcases hb2 with rfl | ⟨rfl,rfl⟩
        all_goals
         go_wp2_with fail;refine aM (zdW R1 C1 r j A1 n cap1 l _ (hA'.ext (by simp[go_sem])) HN.out.1 hN1 x _ HA.out.1 HA.out.2) λos11 d11=>?_;go_wp2_with fail;refine aM (zdW R2 C2 r j A2' n' cap2' l' _ (hB'.ext (by simp[go_sem])) HN.out.2 hN2 y _ HB.out.1 HB.out.2) λos12 d12=>?_;go_upto_region 37 with(go_at_call 27;with_reducible refine aM (hb6 _) λos13 d13=>?_);go_wp2_with (at_builtin;refine wpList_append_own _ rfl _ _ _ rfl _ 38 i0 (VV 0 0 0 ⟨#[]⟩ false 0) 6 56 Tryz.underlying25 hi0 hz0 hz1 hz2 rfl (by decide) _ _ _ rfl (zL hacc.own (by simp[go_sem])) _ 1 1 (Val.cells (zz 6)) rfl rfl (zap _ _ _ (by simp) rfl _) (zdf _) (by simp only[maxLen];omega) (by omega) (by have:=hacc.lt;simp;omega) ?_;intro v3 w3 ho3 hg3 _;obtain⟨A2,cap2,rfl,hrow3,hex3,hacc2⟩:=hacc.step (by simp[go_sem]) hg3 ho3;have c2:=cell_of_row _ _ 2 _ _ _ hrow3;have f2:=frozen_of_row _ _ 2 _ _ hrow3;clear hrow3 hex3 hg3 ho3);refine⟨⟨j+1,cap2,A2,by omega,by go_num,?_⟩,by simp[intOf];omega⟩;rw[show r*N+(j+1)=r*N+j+1 by omega,HV.out.2,HV.out.1];exact hacc2
       | true=>
        simp only[Bool.and_eq_true] at hboth;obtain⟨rfl,rfl⟩:=hboth;obtain⟨x0,e1⟩:=Option.isSome_iff_exists.1 hkx;obtain⟨y0',e2⟩:=Option.isSome_iff_exists.1 hky;have e3:x0=x:=by rw[<-hx,e1];rfl
        have e4:y0'=y:=by rw[<-hy,e2];rfl
        subst e3 e4;have rx:x0.right:=zbY HL.out.1 HRR.out.1 e1;have ry:y0'.right:=zbY HL.out.2 HRR.out.2 e2;generalize hzz:t x0 y0'=z;have hz:GG r j=z:=by
         rw[hGv,e1,e2,<-hzz];exact zji (HRT.out x0 y0' rx)
        have hof:=λW=>HBO.out x0 y0' W rx ry z hzz;have HV:=Lib.hid (And.intro hz hvs);clear hz hvs hGv hx hkx hy hky e1 e2 hzz rx ry;go_wp2_with fail;refine aM (zdW R1 C1 r j A1 n cap1 l _ (hA'.ext (by simp[go_sem])) HN.out.1 hN1 x0 true HA.out.1 HA.out.2) λos11 d11=>?_;go_wp2_with fail;refine aM (zdW R2 C2 r j A2' n' cap2' l' _ (hB'.ext (by simp[go_sem])) HN.out.2 hN2 y0' true HB.out.1 HB.out.2) λos12 d12=>?_;go_upto_region 37 with(first | (go_at_call 27;with_reducible refine aM (hb6 _) λos13 d13=>?_) | (go_at_call 28;with_reducible refine aM (hof _) λos14 d14=>?_));go_wp2_with (at_builtin;refine wpList_append_own _ rfl _ _ _ rfl _ 38 i0 (VV 0 0 0 ⟨#[]⟩ false 0) 6 56 Tryz.underlying25 hi0 hz0 hz1 hz2 rfl (by decide) _ _ _ rfl (zL hacc.own (by simp[go_sem])) _ 1 1 (Val.cells z) rfl rfl (zap _ _ _ (by simp) rfl _) (zdf _) (by simp only[maxLen];omega) (by omega) (by have:=hacc.lt;simp;omega) ?_;intro v3 w3 ho3 hg3 _;obtain⟨A2,cap2,rfl,hrow3,hex3,hacc2⟩:=hacc.step (by simp[go_sem]) hg3 ho3;have c2:=cell_of_row _ _ 2 _ _ _ hrow3;have f2:=frozen_of_row _ _ 2 _ _ hrow3;clear hrow3 hex3 hg3 ho3);refine⟨⟨j+1,cap2,A2,by omega,by go_num,?_⟩,by simp[intOf];omega⟩;rw[show r*N+(j+1)=r*N+j+1 by omega,HV.out.2,HV.out.1];exact hacc2
      ·obtain rfl:j=N:=by omega
       go_wp2;refine⟨⟨r+1,cp,G,by omega,by go_num,by rw[Nat.succ_mul];exact hacc⟩,by simp[intOf];omega⟩
    ·obtain rfl:r=M:=by omega
     have q0:wr.cell? ⟨w.heap.size,0,none⟩=some (.int .i64 0):=hacc.ext.cell_some (by simp[go_sem]);have q1:wr.cell? ⟨w.heap.size,1,none⟩=some (.int .i64 0):=hacc.ext.cell_some (by simp[go_sem]);have q2:wr.cell? ⟨w.heap.size,2,none⟩=some (.slice none 0 0):=hacc.ext.cell_some (by simp[go_sem]);have q3:wr.frozen? ⟨w.heap.size,0,none⟩=false:=(hacc.ext.frozen (p:=⟨w.heap.size,0,none⟩) (by simp;try omega)).trans (by simp[go_sem]);have q4:wr.frozen? ⟨w.heap.size,1,none⟩=false:=(hacc.ext.frozen (p:=⟨w.heap.size,1,none⟩) (by simp;try omega)).trans (by simp[go_sem]);have q5:wr.frozen? ⟨w.heap.size,2,none⟩=false:=(hacc.ext.frozen (p:=⟨w.heap.size,2,none⟩) (by simp;try omega)).trans (by simp[go_sem]);have c0:=cell_of_row _ _ 0 _ _ _ hacc.row;have c1:=cell_of_row _ _ 1 _ _ _ hacc.row;have c2:=cell_of_row _ _ 2 _ _ _ hacc.row;go_wp2;obtain⟨hrd,hcp⟩:=hacc.rd;refine rct (v:=AV r N (.slice G (r*N) cp)) rfl rfl (by simp[go_sem,q0,q1,q2]) ⟨G,r*N,cp,rfl,ArrN.arr (base:=w.heap.size) ⟨?_,HLEN,hcp,by omega,HOKK.out⟩,?_⟩
     ·exact Rd.mono (((hrd.set_far _ (by(try simp) <;> omega)).set_far _ (by(try simp) <;> omega)).set_far _ (by(try simp) <;> omega)) (by omega)
     ·exact Ext.set (Ext.set (Ext.set (Ext.trans (by simp[go_sem]) hacc.ext) _ (by(try simp) <;> omega)) _ (by(try simp) <;> omega)) _ (by(try simp) <;> omega)
 ·rw[show zaC t (R1:Int) C1 l R2 C2 l'=zT 5 by simp[zaC,hr1,hr2,hf];rfl];have HCM:Hid ((zak R1 C1 R2 C2).getD (0,0)=(0,0)∧(zak R1 C1 R2 C2).isSome=false):=by show _∧_;simp[zak,hf]
  have hco:=λW=>zew R1 C1 R2 C2 A1 A2' n cap1 n' cap2' W ⟨a1,a5⟩ ⟨a2,a6⟩ ⟨b1,b5⟩ ⟨b2,b6⟩ 0 0 false HCM.out.1 HCM.out.2;clear hf a3 a4 b3 b4 hpx hrt hbo h hoka hokc hr1 hr2 hs htk;rcases o2 with o2 | ⟨o2,o3⟩
  all_goals
   go_enter func8,ntmps8;go_wp2_with (go_at_call 18;with_reducible refine aM (hc _) λos1 d1=>?_);refine wp_loop_rounds 3 ?_;rw[rounds_succ];go_wp2_with (go_at_call 20;refine aM (hra _ (HOK.out.ext (by simp[go_sem]))) λos6 d6=>?_);rw[rounds_succ];go_wp2_with (go_at_call 20;refine aM (hrc _ (HOC.out.ext (by simp[go_sem]))) λos7 d7=>?_);rw[rounds_succ];go_upto_region 22 with fail;refine plP [(0,0),(1,0),(2,0),(3,0),(4,0),(5,0),(6,1),(7,0),(8,0),(9,0),(10,0),(11,0),(12,0),(13,0)] [] (by kernel_rfl) (λ_ _ d _ _ h=>by cases d <;> exact h) ?_;iterate 6(apply rdP rfl rfl;(intros;go_simp;first | done | rfl);try simp only[zq])
   (refine zg rfl ?_ (λK hK=>?_);rfl;go_simp;(refine aM (hco _) λos3 d3=>?_);refine hK _ _ ?_ ?_;(simp[go_sem]))
   try simp only[zq]
   iterate 7(apply rdP rfl rfl;(intros;go_simp;first | done | rfl);try simp only[zq])
   refine zi ?_;go_wp2_with (first | (go_at_call 19;with_reducible refine aR (zgC 5 (by omega) _) λD m cc os5 d5 hD=>?_;have hDr:=hD.rd));exact rct (v:=AV (zT 5).R (zT 5).C (.slice D m cc)) rfl rfl (by simp[go_sem]) ⟨D,m,cc,rfl,ArrN.arr (base:=w.heap.size) ⟨(by(try simp only[zc,zj,zh,Array.append_assoc] at hDr);exact hDr.sw (by simp <;> omega)),hD.len,hD.cap,hD.small,hD.ok⟩,by simp[go_sem]⟩
theorem zuS (D1 D2 m1 c1 m2 c2):zej modV [zeo (zc4 [nV (-7,0)]) D1 m1 c1,zeo (zc4 [nV (3,0)]) D2 m2 c2]=zaj (nV (2,0)):=by
 have h7:(nV (-7,0)).right:=zaN (zl9 (by decide) (by decide) (by decide));have h3:(nV (3,0)).right:=zaN (zl9 (by decide) (by decide) (by decide));rw[zqn h7 h3 zgH];have h:=zoN (a:=-7) (b:=3) (n:=-3) (m:=2) ⟨by decide,λ_=>⟨by decide,by decide⟩,λh=>absurd h (by decide)⟩ (by decide) (by decide) (by decide);rw[zge (k:=-7) (by decide) (by decide) (by decide),zge (k:=3) (by decide) (by decide) (by decide),zge (k:=2) (by decide) (by decide) (by decide)] at h;rw[h]
theorem zmo {k} (h0:k≠0) (h1:k.natAbs<1000000000000000) (h2:k.natAbs%10≠0):(nV (k,0)).right:=zaN (zl9 h0 h1 h2)
theorem zmp (x):zdw 1 1 [x] 1 1 [x]=true:=by simp[zdw]
theorem zfY (w) (htab:Tab w) (hft:zbT w) :
  Tl prog 5 #[] w (.bool true):=by
 have HT:=Lib.hid htab;have HF:=Lib.hid hft;clear htab hft;go_enter func5,ntmps5;have r7:(nV (-7,0)).right:=zmo (by decide) (by decide) (by decide);have r3:(nV (3,0)).right:=zmo (by decide) (by decide) (by decide);have r1:(nV (1,0)).right:=zmo (by decide) (by decide) (by decide);have r5:(nV (5,0)).right:=zmo (by decide) (by decide) (by decide);have r2:(nV (2,0)).right:=zmo (by decide) (by decide) (by decide);go_wp2_with (first | (go_at_call 13;with_reducible refine aM (zc0 (-7) _) λos1 d1=>?_) | (go_at_call 13;with_reducible refine aM (zc0 3 _) λos2 d2=>?_) | (go_at_call 12;(with_reducible refine(ze3 (l:=[nV (-7,0)]) (n:=1) _ ?_).mono ?_);refine zi7 (x:=nV (-7,0)) ⟨?_,?_,?_,?_,?_,?_⟩ r7.ok;(focus(go_simp;done));(focus(go_simp;done));(focus(go_simp;done));(focus(go_simp;done));(focus(go_simp;done));(focus(go_simp;done));rintro e w' ⟨rfl,hA1,hb⟩;obtain⟨osr1,dr1,rfl⟩:=hb.more;clear hb) | (go_at_call 12;(with_reducible refine(ze3 (l:=[nV (3,0)]) (n:=1) _ ?_).mono ?_);refine zi7 (x:=nV (3,0)) ⟨?_,?_,?_,?_,?_,?_⟩ r3.ok;(focus(go_simp;done));(focus(go_simp;done));(focus(go_simp;done));(focus(go_simp;done));(focus(go_simp;done));(focus(go_simp;done));rintro e w' ⟨rfl,hA2,hb⟩;obtain⟨osr2,dr2,rfl⟩:=hb.more;clear hb));refine(zmb (zqo (hA1.ext (by simp[go_sem])) (zjP r7) (hA2.ext (by simp[go_sem])) (zjP r3) (by(go_simp;done)) (by(go_simp;done)) (by(go_simp;done)) (by(go_simp;done)) (by(go_simp;done)) (by(go_simp;done))) (by decide) (by decide) (zuS _ _ _ _ _ _) (λg=>zkq _ _ _ _ _ (HT.out.ext (by simp[go_sem])) g)).mono ?_;rintro e w' hc;obtain⟨D7,c7,rfl,hA7,hb⟩:=hc.here;obtain⟨os7,d7,rfl⟩:=hb.more;clear hb hc hA1 hA2
 (try simp only[zc,Array.append_assoc] at hA7)
 go_wp2_with (first | (go_at_call 13;with_reducible refine aM (zc0 1 _) λos3 d3=>?_) | (go_at_call 13;with_reducible refine aM (zc0 5 _) λos4 d4=>?_) | (go_at_call 12;(with_reducible refine(ze3 (l:=[nV (1,0),nV (5,0)]) (n:=2) _ ?_).mono ?_);refine zu8 (x:=nV (1,0)) (y:=nV (5,0)) ⟨?_,?_,?_,?_,?_,?_⟩ ⟨?_,?_,?_,?_,?_,?_⟩ r1.ok r5.ok;(focus(go_simp;done));(focus(go_simp;done));(focus(go_simp;done));(focus(go_simp;done));(focus(go_simp;done));(focus(go_simp;done));(focus(go_simp;done));(focus(go_simp;done));(focus(go_simp;done));(focus(go_simp;done));(focus(go_simp;done));(focus(go_simp;done));rintro e w' ⟨rfl,hA3,hb⟩;obtain⟨osr3,dr3,rfl⟩:=hb.more;clear hb) | (go_at_call 12;(with_reducible refine(ze3 (l:=[gt1V]) (n:=1) _ ?_).mono ?_);refine zi7 (x:=gt1V) ⟨?_,?_,?_,?_,?_,?_⟩ zkt.ok;(focus(go_simp;done));(focus(go_simp;done));(focus(go_simp;done));(focus(go_simp;done));(focus(go_simp;done));(focus(go_simp;done));rintro e w' ⟨rfl,hA4,hb⟩;obtain⟨osr4,dr4,rfl⟩:=hb.more;clear hb));refine(zmb (zqo (hA3.ext (by simp[go_sem])) (ztt r1 r5) (hA4.ext (by simp[go_sem])) (zjP zkt) (by(go_simp;done)) (by(go_simp;done)) (by(go_simp;done)) (by(go_simp;done)) (by(go_simp;done)) (by(go_simp;done))) (by decide) (by decide) (zsa _ _ _ _ _ _) (λg=>zgU _ _ _ _ _ (HT.out.ext (by simp[go_sem])) (HF.out.ext (by simp[go_sem])) g)).mono ?_;rintro e w' hc;obtain⟨D8,c8,rfl,hA8,hb⟩:=hc.here;obtain⟨os8,d8,rfl⟩:=hb.more;clear hb hc hA3 hA4
 (try simp only[zc,Array.append_assoc] at hA8)
 go_upto_region 3 with fail;refine zH λU hU=>?_;have hx0:Ext w U:=by rw[hU];exact(by simp[go_sem])
 have hA7u:ArrIn U D7 1 c7 [nV (2,0)]:=hA7.ext (by rw[hU];exact(by simp[go_sem]));have hA8u:ArrIn U D8 1 c8 [nV (1,0)]:=hA8.ext (by rw[hU];exact(by simp[go_sem]));have a0:U.cell? ⟨w.heap.size+os1.size+1+(osr1.size+os2.size)+1+osr2.size+1+os7.size,0,none⟩=some (.int .i64 1):=by rw[hU];go_simp
 have a1:U.cell? ⟨w.heap.size+os1.size+1+(osr1.size+os2.size)+1+osr2.size+1+os7.size,1,none⟩=some (.int .i64 1):=by rw[hU];go_simp
 have a2:U.cell? ⟨w.heap.size+os1.size+1+(osr1.size+os2.size)+1+osr2.size+1+os7.size,2,none⟩=some (.slice D7 1 c7):=by rw[hU];go_simp
 have b0:U.cell? ⟨w.heap.size+os1.size+1+(osr1.size+os2.size)+1+osr2.size+1+os7.size+1+(os3.size+os4.size)+1+osr3.size+1+osr4.size+1+os8.size,0,none⟩=some (.int .i64 1):=by rw[hU];go_simp
 have b1:U.cell? ⟨w.heap.size+os1.size+1+(osr1.size+os2.size)+1+osr2.size+1+os7.size+1+(os3.size+os4.size)+1+osr3.size+1+osr4.size+1+os8.size,1,none⟩=some (.int .i64 1):=by rw[hU];go_simp
 have b2:U.cell? ⟨w.heap.size+os1.size+1+(osr1.size+os2.size)+1+osr2.size+1+os7.size+1+(os3.size+os4.size)+1+osr3.size+1+osr4.size+1+os8.size,2,none⟩=some (.slice D8 1 c8):=by rw[hU];go_simp
 have la:=za a0;have lb:=za b0;clear hU hA7 hA8;generalize w.heap.size+os1.size+1+(osr1.size+os2.size)+1+osr2.size+1+os7.size+1+(os3.size+os4.size)+1+osr3.size+1+osr4.size+1+os8.size=pb at *;generalize w.heap.size+os1.size+1+(osr1.size+os2.size)+1+osr2.size+1+os7.size=pa at *;refine plP [(0,0),(1,0),(2,0),(3,0),(4,0),(5,0),(6,1),(7,1),(8,1),(9,1),(10,0),(11,0),(12,0),(13,1),(14,1),(15,1),(16,1),(17,0),(18,0)] [] (by kernel_rfl) (λ_ _ d _ _ h=>by cases d <;> exact h) ?_;iterate 6((first | refine zaM rfl rfl ?_ | refine zaZ rfl rfl rfl rfl rfl rfl ?_ | refine zbb rfl rfl rfl rfl rfl rfl ?_ | (apply rdP rfl rfl;(intros;go_simp;first | done | rfl)) | (refine zaA (v:=?_) (c:=?_) rfl rfl rfl rfl ?_ (λhc w1 h1=>?_) ?_;rotate_left 2;(first | exact zaO _ | exact zaP _ | exact zaq _ _ | exact zar _ _);(obtain⟨os1,d1,rfl⟩:=h1.more;(try simp only[zv hc]);(try(have hc1:=zO hc;(try simp only[zv hc1]);(try(have hc2:=zO hc1;(try simp only[zv hc2])))));go_simp;first | done | rfl)));try simp only[zq])
 (refine zg rfl ?_ (λK hK=>?_);(first | with_reducible rfl | rfl | (go_simp;done));go_simp;refine aM (zc0 2 _) λosn5 dn5=>?_;refine hK _ _ ?_ ?_;(simp[go_sem]))
 try simp only[zq]
 first | (refine zc7 rfl ?_ ?_ ?_;(first | with_reducible rfl | rfl | (go_simp;done));(simp[go_sem])) | (refine zg rfl ?_ (λK hK=>?_);(first | with_reducible rfl | rfl | (go_simp;done));go_simp;refine hK _ _ ?_ ?_;(simp[go_sem]))
 try simp only[zq]
 (refine zg rfl ?_ (λK hK=>?_);(first | with_reducible rfl | rfl | (go_simp;done));go_simp;refine(ze3 (l:=[nV (2,0)]) (n:=1) _ ?_).mono ?_;refine zi7 (x:=nV (2,0)) ⟨?_,?_,?_,?_,?_,?_⟩ r2.ok;(focus(go_simp;done));(focus(go_simp;done));(focus(go_simp;done));(focus(go_simp;done));(focus(go_simp;done));(focus(go_simp;done));rintro e w' ⟨rfl,hA5,hb⟩;obtain⟨osr5,dr5,rfl⟩:=hb.more;clear hb;(try simp only[zc,Array.append_assoc] at hA5);refine hK _ _ ?_ ?_;(simp[go_sem]))
 try simp only[zq]
 (refine zg rfl ?_ (λK hK=>?_);(first | with_reducible rfl | rfl | (go_simp;done));go_simp;refine(zeu 1 1 1 1 _ _ 1 _ 1 _ [nV (2,0)] [nV (2,0)] _ (hA7u.ext (by simp[go_sem])) (hA5.ext (by simp[go_sem]))).mono ?_;rintro e w' ⟨rfl,hb⟩;rw[zmp];obtain⟨oss5,dss5,rfl⟩:=hb.more;clear hb;refine hK _ _ ?_ ?_;(simp[go_sem]))
 try simp only[zq]
 iterate 3((first | refine zaM rfl rfl ?_ | refine zaZ rfl rfl rfl rfl rfl rfl ?_ | refine zbb rfl rfl rfl rfl rfl rfl ?_ | (apply rdP rfl rfl;(intros;go_simp;first | done | rfl)) | (refine zaA (v:=?_) (c:=?_) rfl rfl rfl rfl ?_ (λhc w1 h1=>?_) ?_;rotate_left 2;(first | exact zaO _ | exact zaP _ | exact zaq _ _ | exact zar _ _);(obtain⟨os1,d1,rfl⟩:=h1.more;(try simp only[zv hc]);(try(have hc1:=zO hc;(try simp only[zv hc1]);(try(have hc2:=zO hc1;(try simp only[zv hc2])))));go_simp;first | done | rfl)));try simp only[zq])
 (refine zg rfl ?_ (λK hK=>?_);(first | with_reducible rfl | rfl | (go_simp;done));go_simp;refine aM (zc0 1 _) λosn6 dn6=>?_;refine hK _ _ ?_ ?_;(simp[go_sem]))
 try simp only[zq]
 first | (refine zc7 rfl ?_ ?_ ?_;(first | with_reducible rfl | rfl | (go_simp;done));(simp[go_sem])) | (refine zg rfl ?_ (λK hK=>?_);(first | with_reducible rfl | rfl | (go_simp;done));go_simp;refine hK _ _ ?_ ?_;(simp[go_sem]))
 try simp only[zq]
 (refine zg rfl ?_ (λK hK=>?_);(first | with_reducible rfl | rfl | (go_simp;done));go_simp;refine(ze3 (l:=[nV (1,0)]) (n:=1) _ ?_).mono ?_;refine zi7 (x:=nV (1,0)) ⟨?_,?_,?_,?_,?_,?_⟩ r1.ok;(focus(go_simp;done));(focus(go_simp;done));(focus(go_simp;done));(focus(go_simp;done));(focus(go_simp;done));(focus(go_simp;done));rintro e w' ⟨rfl,hA6,hb⟩;obtain⟨osr6,dr6,rfl⟩:=hb.more;clear hb;(try simp only[zc,Array.append_assoc] at hA6);refine hK _ _ ?_ ?_;(simp[go_sem]))
 try simp only[zq]
 (refine zg rfl ?_ (λK hK=>?_);(first | with_reducible rfl | rfl | (go_simp;done));go_simp;refine(zeu 1 1 1 1 _ _ 1 _ 1 _ [nV (1,0)] [nV (1,0)] _ (hA8u.ext (by simp[go_sem])) (hA6.ext (by simp[go_sem]))).mono ?_;rintro e w' ⟨rfl,hb⟩;rw[zmp];obtain⟨oss6,dss6,rfl⟩:=hb.more;clear hb;refine hK _ _ ?_ ?_;(simp[go_sem]))
 try simp only[zq]
 iterate 2((first | refine zaZ rfl rfl rfl rfl rfl rfl ?_ | refine zbb rfl rfl rfl rfl rfl rfl ?_ | (apply rdP rfl rfl;(intros;go_simp;first | done | rfl)));try simp only[zq])
 refine zi ?_;go_wp2_with fail;go_ret;exact⟨rfl,hx0.trans (by simp[go_sem])⟩
def zhx (r c:Int) (n:Nat):Bool:=decide ((60:Int)<n)||decide (100000<r)||decide (100000<c)
theorem zqY (r c A n cap w) :
  Tl prog 14 #[AV r c (.slice A n cap)] w (.bool (zhx r c n)):=by
 unfold zhx;go_enter func14,ntmps14;go_upto_region 1 with(fail);refine wp_region_lit ?_;iterate 15((first | refine zaH rfl rfl rfl rfl rfl ?_ | refine zaY rfl rfl rfl rfl rfl ?_ | (refine zbE (v:=?_) rfl ?_ ?_;rotate_left 1;(go_simp;first | done | rfl)) | (refine zbk (v:=?_) (c:=?_) rfl rfl rfl ?_ (λhc=>?_) ?_;rotate_left 2;(first | exact zaO _ | exact zaP _ | exact zaq _ _ | exact zar _ _);((try simp only[zv hc]);(try(have hc1:=zO hc;(try simp only[zv hc1]);(try(have hc2:=zO hc1;(try simp only[zv hc2])))));go_simp;first | done | rfl)));try simp only[zq])
 refine wpList_nil ?_;try go_simp
 go_wp2;go_ret;exact⟨rfl,by simp[go_sem]⟩
theorem za3 {lo hi n gs F F'} (hl:gs.length=n) (hF:(∀ g∈gs,g.right=true)->lo<=n->n<=hi->F=F'):zS lo hi gs F=zS lo hi gs F':=by
 unfold zS;split
 ·rfl
 ·split
  ·rename_i h1 h2;exact hF (λg hg=>List.all_eq_true.1 h2 g hg) (by omega) (by omega)
  ·rfl
theorem zhP {s lo hi} (hs:(s,lo,hi)∈takesT) (A n cap gs w) (h:ArgsG w A n cap gs) (X) (hX:(∀ g∈gs,g.right=true)->lo<=n->n<=hi->Calls prog 8 #[.string ⟨s.toArray⟩,.slice A n cap] w (zc5 w X)) :
  Calls prog 8 #[.string ⟨s.toArray⟩,.slice A n cap] w (zc5 w (zS lo hi gs X)):=by
 have hl:=h.len;unfold zS;by_cases h1:gs.length<lo∨hi<gs.length
 ·rw[if_pos h1];exact zqW s lo hi hs A n cap gs w h (by omega)
 ·rw[if_neg h1];by_cases h2:gs.all GA.right=true
  ·rw[if_pos h2];exact hX (λg hg=>List.all_eq_true.1 h2 g hg) (by omega) (by omega)
  ·rw[if_neg h2];exact zqX s lo hi hs A n cap gs w h (by omega) (by omega) (λhb=>h2 (List.all_eq_true.2 hb))
theorem zbF (s lo hi) (F:List Ar->Val) (hs:(s,lo,hi,F)∈zeF) (A n cap gs w) (h:ArgsG w A n cap gs) :
  Calls prog 8 #[.string ⟨s.toArray⟩,.slice A n cap] w (zc5 w (zS lo hi gs (zaj (F (zK gs))))):=
 zhP (zhw hs) A n cap gs w h _ λhr h1 h2=>zm3 s lo hi F hs A n cap _ w (zX h hr) h1 h2 _ rfl
theorem ziB (s) (f:Nm->Nm) (hs:(s,f)∈zhO) (A n cap gs w) (h:ArgsG w A n cap gs) :
  Calls prog 8 #[.string ⟨s.toArray⟩,.slice A n cap] w (zc5 w (zS 1 1 gs (zdX f (zK gs)))):=
 zhP (zjo hs).1 A n cap gs w h _ λhr h1 h2=>by
  have hi:=zX h hr;obtain⟨a,hx,rfl,ha⟩:=zhK hi h1 h2;unfold zdX;rw[ha];rw[hx] at hi;exact zo2 s f hs A cap a w hi
theorem zmq (s) (t:Val->Val->Val) (hs:(s,t)∈zeW) (A n cap gs w) (h:ArgsG w A n cap gs) :
  Calls prog 8 #[.string ⟨s.toArray⟩,.slice A n cap] w (zc5 w (zS 2 2 gs (zej t (zK gs)))):=
 zhP (zjp hs).1 A n cap gs w h _ λhr h1 h2=>by
  have hi:=zX h hr;obtain⟨a,b,hx,rfl,ha,hb⟩:=zfm hi h1 h2;rw[hx] at hi⊢;exact zo3 s t hs A cap a b w hi
theorem zsp (A n cap gs w) (h:ArgsG w A n cap gs) :
  Calls prog 8 #[.string ⟨#[80,79,87,69,82]⟩,.slice A n cap] w (zc5 w (zS 2 2 gs (zl4 (zK gs)))):=
 zhP zkz A n cap gs w h _ λhr h1 h2=>by
  have hi:=zX h hr;obtain⟨a,b,hx,rfl,ha,hb⟩:=zfm hi h1 h2;rw[hx] at hi⊢;exact zm4 A cap a b w hi
theorem ztI {s:ByteArray} {l} (h:s.data.toList=l):s=⟨l.toArray⟩:=by
 cases s with | mk d=>simp only at h;rw[<-h]
theorem zo4 (s) (hs:s.data.toList∈names19) (A n cap gs w) (htab:Tab w) (hft:zbT w) (h:ArgsG w A n cap gs) :
  ∃ X:NA,((zs (zK gs)).length<=200->∀ W,Ext w W->Calls prog 7 #[.string s,.slice A n cap] W (zbh W X))∧(∀ W,Ext w W->Calls prog 8 #[.string s,.slice A n cap] W (zc5 W X)):=by
 simp only[names19,takesT,List.map_cons,List.map_nil,List.mem_cons,List.not_mem_nil,or_false] at hs;rcases hs with e | e | e | e | e | e | e | e | e | e | e | e | e | e | e | e | e | e | e <;> rw[ztI e]
 ·exact⟨_,λhB W hW=>zqf A n cap gs W (htab.ext hW) (h.ext hW),λW hW=>ziB _ _ List.mem_cons_self A n cap gs W (h.ext hW)⟩
 ·exact⟨zS 1 32 gs (zaj (ofV averV (zK gs))),λhB W hW=>by rw[<-za3 h.len (λ_ _ _=>zgf _ _)];exact zkJ A n cap gs W (htab.ext hW) (h.ext hW),λW hW=>by exact zbF _ 1 32 (ofV averV) (List.mem_cons_of_mem _ (List.mem_cons_of_mem _ (List.mem_cons_of_mem _ (List.mem_cons_of_mem _ (List.mem_cons_of_mem _ (List.mem_cons_of_mem _ (List.mem_cons_of_mem _ (List.mem_cons_of_mem _ List.mem_cons_self)))))))) A n cap gs W (h.ext hW)⟩
 ·exact⟨zS 1 32 gs (zaj (zcs isNum (zK gs))),λhB W hW=>by rw[<-za3 h.len (λ_ _ _=>zh4 _ _)];exact zmI A n cap gs W (htab.ext hW) (h.ext hW),λW hW=>by exact zbF _ 1 32 (zcs isNum) List.mem_cons_self A n cap gs W (h.ext hW)⟩
 ·exact⟨zS 1 32 gs (zaj (zcs notBlank (zK gs))),λhB W hW=>by rw[<-za3 h.len (λ_ _ _=>zh4 _ _)];exact zl3 A n cap gs W (htab.ext hW) (h.ext hW),λW hW=>by exact zbF _ 1 32 (zcs notBlank) (List.mem_cons_of_mem _ List.mem_cons_self) A n cap gs W (h.ext hW)⟩
 ·exact⟨zS 2 2 gs (zaj (zbg false (zK gs))),λhB W hW=>by rw[<-za3 h.len (λhr h1 h2=>by have e:n=2:=(by omega);subst e;exact zmR (zX h hr))];exact zgU A n cap gs W (htab.ext hW) (hft.ext hW) (h.ext hW),λW hW=>by exact zbF _ 2 2 (zbg false) (List.mem_cons_of_mem _ (List.mem_cons_of_mem _ List.mem_cons_self)) A n cap gs W (h.ext hW)⟩
 ·exact⟨_,λhB W hW=>zqg A n cap gs W (htab.ext hW) (h.ext hW),λW hW=>ziB _ _ (List.mem_cons_of_mem _ (List.mem_cons_of_mem _ List.mem_cons_self)) A n cap gs W (h.ext hW)⟩
 ·exact⟨zS 2 2 gs (zaj (zcj true (zK gs))),λhB W hW=>by rw[<-za3 h.len (λ_ _ _=>zme _ _)];exact zm1 A n cap gs W (h.ext hW),λW hW=>by exact zbF _ 2 2 (zcj true) (List.mem_cons_of_mem _ (List.mem_cons_of_mem _ (List.mem_cons_of_mem _ (List.mem_cons_of_mem _ List.mem_cons_self)))) A n cap gs W (h.ext hW)⟩
 ·exact⟨zS 1 32 gs (zaj (ofV (zbL 1) (zK gs))),λhB W hW=>by rw[<-za3 h.len (λ_ _ _=>zgf _ _)];exact zqT A n cap gs W (htab.ext hW) (h.ext hW),λW hW=>by exact zbF _ 1 32 (ofV (zbL 1)) (List.mem_cons_of_mem _ (List.mem_cons_of_mem _ (List.mem_cons_of_mem _ (List.mem_cons_of_mem _ (List.mem_cons_of_mem _ (List.mem_cons_of_mem _ (List.mem_cons_of_mem _ (List.mem_cons_of_mem _ (List.mem_cons_of_mem _ (List.mem_cons_of_mem _ (List.mem_cons_of_mem _ List.mem_cons_self))))))))))) A n cap gs W (h.ext hW)⟩
 ·exact⟨zS 1 32 gs (zaj (ofV medV (zK gs))),λhB W hW=>by rw[<-za3 h.len (λ_ _ _=>zgf _ _)];exact zmm A n cap gs W (htab.ext hW) (h.ext hW) (by omega),λW hW=>by exact zbF _ 1 32 (ofV medV) (List.mem_cons_of_mem _ (List.mem_cons_of_mem _ (List.mem_cons_of_mem _ (List.mem_cons_of_mem _ (List.mem_cons_of_mem _ (List.mem_cons_of_mem _ (List.mem_cons_of_mem _ (List.mem_cons_of_mem _ (List.mem_cons_of_mem _ List.mem_cons_self))))))))) A n cap gs W (h.ext hW)⟩
 ·exact⟨zS 1 32 gs (zaj (ofV (zbL (-1)) (zK gs))),λhB W hW=>by rw[<-za3 h.len (λ_ _ _=>zgf _ _)];exact zqS A n cap gs W (htab.ext hW) (h.ext hW),λW hW=>by exact zbF _ 1 32 (ofV (zbL (-1))) (List.mem_cons_of_mem _ (List.mem_cons_of_mem _ (List.mem_cons_of_mem _ (List.mem_cons_of_mem _ (List.mem_cons_of_mem _ (List.mem_cons_of_mem _ (List.mem_cons_of_mem _ (List.mem_cons_of_mem _ (List.mem_cons_of_mem _ (List.mem_cons_of_mem _ List.mem_cons_self)))))))))) A n cap gs W (h.ext hW)⟩
 ·exact⟨_,λhB W hW=>zkq A n cap gs W (htab.ext hW) (h.ext hW),λW hW=>zmq _ _ (List.mem_cons_of_mem _ List.mem_cons_self) A n cap gs W (h.ext hW)⟩
 ·exact⟨_,λhB W hW=>zmJ A n cap gs W (htab.ext hW) (h.ext hW),λW hW=>zsp A n cap gs W (h.ext hW)⟩
 ·exact⟨zS 1 32 gs (zaj (ofV prodV (zK gs))),λhB W hW=>by rw[<-za3 h.len (λ_ _ _=>zgf _ _)];exact zkI A n cap gs W (htab.ext hW) (h.ext hW),λW hW=>by exact zbF _ 1 32 (ofV prodV) (List.mem_cons_of_mem _ (List.mem_cons_of_mem _ (List.mem_cons_of_mem _ (List.mem_cons_of_mem _ (List.mem_cons_of_mem _ (List.mem_cons_of_mem _ (List.mem_cons_of_mem _ (List.mem_cons_of_mem _ (List.mem_cons_of_mem _ (List.mem_cons_of_mem _ (List.mem_cons_of_mem _ (List.mem_cons_of_mem _ List.mem_cons_self)))))))))))) A n cap gs W (h.ext hW)⟩
 ·exact⟨_,λhB W hW=>zmH A n cap gs W (htab.ext hW) (h.ext hW),λW hW=>zmq _ _ List.mem_cons_self A n cap gs W (h.ext hW)⟩
 ·exact⟨_,λhB W hW=>zoD A n cap gs W (htab.ext hW) (h.ext hW),λW hW=>ziB _ _ (List.mem_cons_of_mem _ List.mem_cons_self) A n cap gs W (h.ext hW)⟩
 ·exact⟨zS 2 2 gs (zaj (zcj false (zK gs))),λhB W hW=>by rw[<-za3 h.len (λ_ _ _=>zme _ _)];exact zm2 A n cap gs W (h.ext hW),λW hW=>by exact zbF _ 2 2 (zcj false) (List.mem_cons_of_mem _ (List.mem_cons_of_mem _ (List.mem_cons_of_mem _ (List.mem_cons_of_mem _ (List.mem_cons_of_mem _ List.mem_cons_self))))) A n cap gs W (h.ext hW)⟩
 ·exact⟨zS 1 32 gs (zaj (ofV sumV (zK gs))),λhB W hW=>by rw[<-za3 h.len (λ_ _ _=>zgf _ _)];exact zqj A n cap gs W (htab.ext hW) (h.ext hW),λW hW=>by exact zbF _ 1 32 (ofV sumV) (List.mem_cons_of_mem _ (List.mem_cons_of_mem _ (List.mem_cons_of_mem _ (List.mem_cons_of_mem _ (List.mem_cons_of_mem _ (List.mem_cons_of_mem _ List.mem_cons_self)))))) A n cap gs W (h.ext hW)⟩
 ·exact⟨zS 2 3 gs (zaj (zbg true (zK gs))),λhB W hW=>by rw[<-za3 h.len (λhr h1 h2=>zkv (zX h hr) h1)];exact zmK A n cap gs W (htab.ext hW) (hft.ext hW) (h.ext hW),λW hW=>by exact zbF _ 2 3 (zbg true) (List.mem_cons_of_mem _ (List.mem_cons_of_mem _ (List.mem_cons_of_mem _ List.mem_cons_self))) A n cap gs W (h.ext hW)⟩
 ·exact⟨zS 1 32 gs (zaj (spV (zK gs))),λhB W hW=>by rw[<-za3 h.len (λ_ _ _=>rfl)];exact zix A n cap gs W (htab.ext hW) (h.ext hW),λW hW=>by exact zbF _ 1 32 (spV) (List.mem_cons_of_mem _ (List.mem_cons_of_mem _ (List.mem_cons_of_mem _ (List.mem_cons_of_mem _ (List.mem_cons_of_mem _ (List.mem_cons_of_mem _ (List.mem_cons_of_mem _ List.mem_cons_self))))))) A n cap gs W (h.ext hW)⟩
theorem zqZ (gs):zs (zK gs)=gs.flatMap (·.l):=by
 unfold zs zK;rw[List.flatMap_map];rfl
theorem zq0 {gs:List GA} {k g} (h:gs[k]? = some g):((gs.take (k+1)).flatMap (·.l)).length=((gs.take k).flatMap (·.l)).length+g.l.length:=by
 rw[List.take_add_one,h,List.flatMap_append,List.length_append];simp
theorem ztJ {r c n} (h:zhx r c n=false):n<=60:=by
 unfold zhx at h;simp only[Bool.or_eq_false_iff,decide_eq_false_iff_not] at h;omega
def zuT (w:World) (gs:List GA) (e:Ending) (w':World):Prop:=∃ b:Bool,e = .returned (.bool b)∧(b=false->(zs (zK gs)).length<=200)∧Ext w w'
theorem zmr {s} (h:s ∉ names19) (p:Nat->Nat):zbP (zfg p) s=none:=by
 refine ziQ λq hq=>?_;intro e;apply h
 rw[<-e];have hk:∀ x∈(zfg p).map (·.1),x∈names19:=by
  show ∀ x∈([[83,85,77],[80,82,79,68,85,67,84],[77,73,78],[77,65,88],[67,79,85,78,84],[67,79,85,78,84,65],[65,86,69,82,65,71,69],[77,69,68,73,65,78],[83,85,77,80,82,79,68,85,67,84],[76,65,82,71,69],[83,77,65,76,76],[67,79,85,78,84,73,70],[83,85,77,73,70],[65,66,83],[83,73,71,78],[73,78,84],[82,79,85,78,68],[77,79,68],[80,79,87,69,82]]:List (List UInt8)),x∈names19;decide
 exact hk _ (List.mem_map.2 ⟨q,hq,rfl⟩)
theorem zfZ (A n cap gs w) (h:ArgsG w A n cap gs) :
  Calls prog 6 #[.slice A n cap] w (zuT w gs):=by
 have hsm:=h.small;have hcap:=h.cap;have H:=Lib.hid h;have HLN:=Lib.hid h.len;clear h;go_enter func6,ntmps6;go_wp2_with fail;go_loopw [3,4] (λm i wr=>∃ (k q:Nat),k<=n∧k<=40∧q<=k*60∧i = .int .i64 (k:Int)∧m = .int .i64 (q:Int)∧Hid (q=((gs.take k).flatMap (·.l)).length)∧Ext w wr) (λ_ i _=>40-(intOf i).toNat)
 case atStart=>exact⟨0,0,Nat.zero_le _,by omega,by omega,rfl,rfl,rfl,Ext.refl _⟩
 case round=>
  obtain⟨k,q,hk,hk4,hq60,rfl,rfl,HQ,hX⟩:=hrel;obtain⟨os,d,rfl⟩:=hX.more;clear hX;by_cases hlt:k<n
  ·by_cases h40:k<40
   ·obtain⟨g,b,off,hg,rfl,⟨v0,v1,v2⟩,harr⟩:=H.out.at hlt;have hbl:=za v0;have hgr:=λW=>zqY g.r g.c g.A g.n g.cap W;have HS:Hid (q+g.n=((gs.take (k+1)).flatMap (·.l)).length):=by rw[zq0 hg,<-HQ.out,harr.len];rfl
    clear hg;cases hgb:zhx g.r g.c g.n with
    | true=>
     rw[hgb] at hgr;clear harr;go_wp2_with (go_at_call 14;with_reducible refine aM (hgr _) λos1 d1=>?_);go_ret;exact⟨true,rfl,(λh=>by cases h),by simp[go_sem]⟩
    | false=>
     rw[hgb] at hgr;have h60:=ztJ hgb;clear hgb harr;go_wp2_with (go_at_call 14;with_reducible refine aM (hgr _) λos1 d1=>?_);exact⟨⟨k+1,q+g.n,by omega,by omega,by omega,by go_num,by go_num,HS,by simp[go_sem]⟩,by simp[intOf];omega⟩
   ·obtain rfl:k=40:=by omega
    have hn40:40<n:=by omega
    by_cases hq:200<q
    all_goals
     go_wp2_with fail;go_ret;exact⟨true,rfl,(λh=>by cases h),by simp[go_sem]⟩
  ·obtain rfl:n=k:=by omega
   by_cases hq:200<q
   ·go_wp2_with fail;go_ret;exact⟨true,rfl,(λh=>by cases h),by simp[go_sem]⟩
   ·have hn40:¬ 40<n:=by omega
    have hend:(gs.flatMap (·.l)).length<=200:=by
     have:=HQ.out;rw[List.take_of_length_le (by rw[HLN.out];exact Nat.le_refl _)] at this;omega
    have HE:=Lib.hid hend;clear hend;go_wp2_with fail;go_ret;exact⟨_,rfl,(λ_=>by rw[zqZ];exact HE.out),by simp[go_sem]⟩
theorem zjT (s A n cap gs w) (htab:Tab w) (hft:zbT w) (h:ArgsG w A n cap gs) :
  Tl prog 3 #[.string s,.slice A n cap] w (.bool true):=by
 have HT:=Lib.hid htab;have HF:=Lib.hid hft;have H:=Lib.hid h;by_cases hs:s.size<=100
 ·have hs':¬ 100<s.size:=by omega
  by_cases hm:s.data.toList∈names19
  ·obtain⟨X,hp,hd⟩:=zo4 s hm A n cap gs w htab hft h;have hs0:zdw X.R X.C X.l X.R X.C X.l=true:=by simp[zdw]
   have HP:=Lib.hid hp;have HD:=Lib.hid hd;clear hp hd hm htab hft h;go_enter func3,ntmps3;go_wp2_with (first | (go_at_call 5;with_reducible refine aM (zfY _ (HT.out.ext (by simp[go_sem])) (HF.out.ext (by simp[go_sem]))) λos1 d1=>?_) | (go_at_call 6;(with_reducible refine(zfZ _ _ _ _ _ (H.out.ext (by simp[go_sem]))).mono ?_);rintro e w' ⟨b,rfl,hgr,hb⟩;obtain⟨os9,d9,rfl⟩:=hb.more;clear hb;have HGR:=Lib.hid hgr;clear hgr;cases b) | (go_at_call 7;(with_reducible refine(HP.out (HGR.out (by simp)) _ (by simp[go_sem])).mono ?_);rintro e w' ⟨D,m,cc,rfl,hD,hb⟩;obtain⟨os4,d4,rfl⟩:=hb.more;clear hb;have HD4:=Lib.hid hD.arr;clear hD) | (go_at_call 8;(with_reducible refine(HD.out _ (by simp[go_sem])).mono ?_);rintro e w' ⟨D',m',cc',rfl,hD',hb⟩;obtain⟨os5,d5,rfl⟩:=hb.more;clear hb;have HD5:=Lib.hid hD';clear hD') | (go_at_call 9;(with_reducible refine(zeu _ _ _ _ _ _ _ _ _ _ X.l X.l _ (HD4.out.ext (by simp[go_sem])) (HD5.out.ext (by simp[go_sem]))).mono ?_);rw[hs0];rintro e w' ⟨rfl,hb⟩;obtain⟨os6,d6,rfl⟩:=hb.more;clear hb));all_goals
    go_ret;exact⟨rfl,by simp[go_sem]⟩
  ·have hp:=λW=>zr2 s (by simp only[maxLen];omega) (λp=>zmr hm p) A n cap W;have hd:=λW=>zso s A n cap W hm;have h0:∀ W,ArrIn W none 0 0 []:=λW=>⟨Rd.nil _ _ _,rfl,Nat.le_refl _,by omega,λx hx=>by cases hx⟩;have hs0:zdw 0 0 [] 0 0 []=true:=by simp[zdw]
   clear hm htab hft h;go_enter func3,ntmps3;go_wp2_with (first | (go_at_call 5;with_reducible refine aM (zfY _ (HT.out.ext (by simp[go_sem])) (HF.out.ext (by simp[go_sem]))) λos1 d1=>?_) | (go_at_call 6;(with_reducible refine(zfZ _ _ _ _ _ (H.out.ext (by simp[go_sem]))).mono ?_);rintro e w' ⟨b,rfl,hgr,hb⟩;obtain⟨os9,d9,rfl⟩:=hb.more;clear hb;have HGR:=Lib.hid hgr;clear hgr;cases b) | (go_at_call 7;with_reducible refine aM (hp _) λos4 d4=>?_) | (go_at_call 8;with_reducible refine aM (hd _) λos5 d5=>?_) | (go_at_call 9;(with_reducible refine(zeu 0 0 0 0 none none 0 0 0 0 [] [] _ (h0 _) (h0 _)).mono ?_);rw[hs0];rintro e w' ⟨rfl,hb⟩;obtain⟨os6,d6,rfl⟩:=hb.more;clear hb));all_goals
    go_ret;exact⟨rfl,by simp[go_sem]⟩
 ·have hs':100<s.size:=by omega
  clear htab hft h;go_enter func3,ntmps3;go_wp2_with (first | (go_at_call 5;with_reducible refine aM (zfY _ (HT.out.ext (by simp[go_sem])) (HF.out.ext (by simp[go_sem]))) λos1 d1=>?_) | (go_at_call 6;(with_reducible refine(zfZ _ _ _ _ _ (H.out.ext (by simp[go_sem]))).mono ?_);rintro e w' ⟨b,rfl,hgr,hb⟩;obtain⟨os9,d9,rfl⟩:=hb.more;clear hb;have HGR:=Lib.hid hgr;clear hgr;cases b));all_goals
   go_ret;exact⟨rfl,by simp[go_sem]⟩
end Go.Proofs.YtinjdacijiohiaaGreatDoor
namespace Go.Proofs.YtinjdacijiohiaaGreatDoor
open _root_.Go.Proofs.Tryz
open Go.ChangeAt Go.ChangeShapes Go.Deep Go.RowKit Go.WideShapes
theorem own:ownKnob Tryz.prog.godebug=none:=by kernel_rfl
theorem zjU:laidOutB prog=true:=by kernel_rfl
theorem zq1:Tryz.prog.cellsOf 36=2:=by kernel_rfl
theorem zd1:Tryz.prog.cellsOf 3=1:=by kernel_rfl
theorem zo5:(Rows.laid_internal_strconv_uint64pow10:DataW Unit)=Lib.tabData .u64 Lib.pow10Tab:=by
 unfold Rows.laid_internal_strconv_uint64pow10 Lib.tabData Lib.pow10Tab;simp[List.range_succ]
theorem zvs : Tryz.prog.globalNamed "internal/strconv.uint64pow10" = some 3 := by kernel_rfl
theorem zvt:(Tryz.prog.globals[3]?).map (·.type)=some 210:=by kernel_rfl
set_option maxRecDepth 100000
section
variable {H:Type} {enc:TypeId×Value->H} {w:World} {base:Nat} {spare:Nat->Bool} {held:Bool}
theorem zjq {n:Int} (h:(Lit.int .i64 n).wf=true):I64 n:=by
 simpa[Lit.wf,IntKind.min,IntKind.max,IntKind.signed,IntKind.bits,I64] using h
theorem zhy {t:TypeId} {v:Value} {d:DataW H} {p:List MemPlace} (h:DataW.Trod enc prog w base spare held t v d p):∀ x∈p,x.block<w.heap.size:=by
 obtain⟨m,hm⟩:=h;exact DataW.trod_lt m _ _ _ hm
theorem zsq {r:Reach} {b0:Nat} {v:Value} {d:DataW H} {p:List MemPlace} (hv:Value.okWide prog w r b0 9 v) (_h:DataW.Trod enc prog w base spare held 9 v d p):∃ s:ByteArray,v = .string s∧True:=by
 obtain⟨s,rfl⟩:=okWide_string Tryz.underlying9 hv;exact⟨s,rfl,trivial⟩
end
theorem zkA:Tryz.prog.cellsOf 38=6:=by kernel_rfl
theorem zms:Tryz.prog.cellsOf 9=1:=by kernel_rfl
theorem zo6:Tryz.prog.cellsOf 4=1:=by kernel_rfl
theorem zkB:Tryz.prog.cellsOf 27=3:=by kernel_rfl
set_option maxRecDepth 100000
section
variable {H:Type} {enc:TypeId×Value->H} {w:World} {base:Nat} {spare:Nat->Bool} {held:Bool}
theorem zsr {fuel:Nat} {c1 c2:Value} {x:DataW H×List MemPlace} (h:DataW.trod enc prog w base spare held fuel 36 [c1,c2]=some x):∃ m e:Int,[c1,c2]=[.int .i64 m,.int .i64 e]∧I64 m∧I64 e:=by
 obtain⟨xs,n,rfl,_,hl,hxs,hf⟩:=DataW.trod_struct Tryz.underlying36 h;obtain⟨y0,hy0⟩:∃ y,xs[0]? = some y:=⟨_,List.getElem?_eq_getElem (by rw[hxs];decide)⟩;have g0:DataW.trod enc prog w base spare held n 3 [c1]=some y0:=by rw[<-hy0];have:=hf 0 _ rfl;simpa[zd1] using this
 obtain⟨y1,hy1⟩:∃ y,xs[1]? = some y:=⟨_,List.getElem?_eq_getElem (by rw[hxs];decide)⟩;have g1:DataW.trod enc prog w base spare held n 3 [c2]=some y1:=by rw[<-hy1];have:=hf 1 _ rfl;simpa[zd1] using this
 obtain⟨m,e0,_,w0⟩:=DataW.trod_int Tryz.underlying3 g0;obtain⟨e,e1,_,w1⟩:=DataW.trod_int Tryz.underlying3 g1;simp only[List.cons.injEq,and_true] at e0 e1;subst e0 e1;exact⟨m,e,rfl,zjq w0,zjq w1⟩
theorem zss {fuel:Nat} {cs:List Value} {x:DataW H×List MemPlace} (h:DataW.trod enc prog w base spare held fuel 38 cs=some x):∃ y:Val,cs=y.cells∧y.ok:=by
 obtain⟨xs,n,rfl,_,hl,hxs,hf⟩:=DataW.trod_struct Tryz.underlying38 h;rw[zkA] at hl;match cs,hl with
 | [c0,c1,c2,c3,c4,c5],_=>
  obtain⟨y0,hy0⟩:∃ y,xs[0]? = some y:=⟨_,List.getElem?_eq_getElem (by rw[hxs];decide)⟩;have g0:DataW.trod enc prog w base spare held n 3 [c0]=some y0:=by rw[<-hy0];have:=hf 0 _ rfl;simpa[zd1] using this
  obtain⟨y1,hy1⟩:∃ y,xs[1]? = some y:=⟨_,List.getElem?_eq_getElem (by rw[hxs];decide)⟩;have g1:DataW.trod enc prog w base spare held n 36 [c1,c2]=some y1:=by rw[<-hy1];have:=hf 1 _ rfl;simpa[zq1] using this
  obtain⟨y2,hy2⟩:∃ y,xs[2]? = some y:=⟨_,List.getElem?_eq_getElem (by rw[hxs];decide)⟩;have g2:DataW.trod enc prog w base spare held n 9 [c3]=some y2:=by rw[<-hy2];have:=hf 2 _ rfl;simpa[zms] using this
  obtain⟨y3,hy3⟩:∃ y,xs[3]? = some y:=⟨_,List.getElem?_eq_getElem (by rw[hxs];decide)⟩;have g3:DataW.trod enc prog w base spare held n 4 [c4]=some y3:=by rw[<-hy3];have:=hf 3 _ rfl;simpa[zo6] using this
  obtain⟨y4,hy4⟩:∃ y,xs[4]? = some y:=⟨_,List.getElem?_eq_getElem (by rw[hxs];decide)⟩;have g4:DataW.trod enc prog w base spare held n 3 [c5]=some y4:=by rw[<-hy4];have:=hf 4 _ rfl;simpa[zd1] using this
  obtain⟨k,e0,_,w0⟩:=DataW.trod_int Tryz.underlying3 g0;obtain⟨m,ex,e1,w1,w2⟩:=zsr g1;obtain⟨t,e3,_,w3⟩:=DataW.trod_string Tryz.underlying9 g2;obtain⟨b,e4,_⟩:=DataW.trod_bool Tryz.underlying4 g3;obtain⟨f,e5,_,w5⟩:=DataW.trod_int Tryz.underlying3 g4;simp only[List.cons.injEq,and_true] at e0 e1 e3 e4 e5;obtain⟨rfl,rfl⟩:=e1;subst e0 e3 e4 e5;exact⟨⟨k,m,ex,t,b,f⟩,rfl,zjq w0,w1,w2,w3,zjq w5⟩
theorem zq2 {fuel:Nat} {a:Option Addr} {len cap:Nat} {x:DataW H×List MemPlace} (h:DataW.trod enc prog w base spare held fuel 25 [.slice a len cap]=some x):∃ l,ArrIn w a len cap l:=by
 rcases open_slice Tryz.underlying25 h with⟨hcs,_⟩ | ⟨ad,len',cap',m,n,D,Pl,hcs,hb,hl,hm,hmm,_,hi⟩
 ·simp only[List.cons.injEq,Value.slice.injEq,and_true] at hcs;obtain⟨rfl,rfl,rfl⟩:=hcs;exact⟨[],SlV.nil _ _ _,rfl,Nat.le_refl _,by omega,by simp⟩
 ·simp only[List.cons.injEq,Value.slice.injEq,and_true] at hcs;obtain⟨rfl,rfl,rfl⟩:=hcs;have hlm:len<=m:=by rw[hmm];split <;> omega
  obtain⟨X,hX⟩:=choose_lt (α:=Val) (n:=len) (p:=λi y=>w.cells? base (ad.add (i*6)) 6=some y.cells∧y.ok) (λi hil=>by
   obtain⟨cs',h1,h2⟩:=hi i (by omega)
   rw[zkA] at h1
   obtain⟨y,rfl,hy⟩:=zss h2
   exact⟨y,h1,hy⟩)
  refine⟨(List.range len).map X,?_,by simp,hl,by simp only[maxLen] at hm;omega,?_⟩
  ·intro j u hu;have hj:j/6<len:=by
    have:=(List.getElem?_eq_some_iff.1 hu).1;rw[zdu] at this;simp at this
    omega
   have hat:=zgX ((List.range len).map X) (j/6) (X (j/6)) (by simp[hj]) (j%6) (by omega);rw[show j/6*6+j%6=j by omega,hu] at hat;obtain⟨_,_,hc⟩:=World.cells?_some (hX (j/6) hj).1;have h6:=hc (j%6) (by omega);rw[<-hat,Go.Deep.add_add,show j/6*6+j%6=j by omega] at h6;obtain⟨b,off,spot⟩:=ad;have hsp:spot=none:=by
    obtain⟨_,_,hc0⟩:=World.cells?_some (hX 0 (by omega)).1;have h0:=hc0 0 (by omega);simp[Addr.add,Val.cells] at h0
    exact World.cell?_spot h0
   subst hsp;rw[Addr.add_mid] at h6;exact⟨b,off,rfl,Nat.zero_le _,h6⟩
  ·intro y hy;simp only[List.mem_map,List.mem_range] at hy;obtain⟨i,hi',rfl⟩:=hy;exact(hX i hi').2
end
end Go.Proofs.YtinjdacijiohiaaGreatDoor
namespace Go.Proofs.YtinjdacijiohiaaGreatDoor
open _root_.Go.Proofs.Tryz
open Go.ChangeAt Go.ChangeShapes Go.RowKit Go.WideShapes
theorem zmt {P f} {fn : Func} {s : ChangeSpec} {c : OpenClaim} (h1 : laidOutB P = true) (h2 : mapsRowed P = true) (h3 : (c.inPlace == P.inPlace f) = true) (h4 : (c.unfollowed == P.unfollowed f) = true) (h5 : (c.recurses == P.recurses f) = true) (h6 : (c.named == P.varsNamed f) = true) (h7 : (c.plainKeys == P.plainKeys) = true) (h8 : P.stopsHeard = true) (h9 : P.mayEnter = true) (h10 : (c.lifted == P.liftsFinal) = true) (h11 : (P.make == some c.make) = true) (hr : (c.wf (OpenSpec.ofChange s) && fn.params.all (P.readableRec ·) && namedTie P c.named s.vars &&
      (c.stops == []) && (P.stops == []) && (c.knobs == []) && (P.stopKnobs == []) &&
      (c.maps == (fn.params.toList ++ s.plain.varTypes P).any (P.mapsRec ·)) && (c.ifaces == (fn.params.toList ++ s.plain.varTypes P).any (P.ifacesRec ·)) && (c.mapsOut == P.mapsAmong fn.resultTypes.toList) &&
      (c.loops == (fn.params.toList ++ s.plain.varTypes P).any (P.loopsFrom ·)) && (c.wideKeys == (fn.params.toList ++ s.plain.varTypes P ++ fn.resultTypes.toList).any (P.wideKeysFrom ·)) &&
      s.vars.all (P.varReadable ·) && fn.resultTypes.all (fun t => P.readableRec t && decide (t < P.types.size)) && (c.ifacesOut == fn.resultTypes.toList.any (P.ifacesRec ·)) && (c.loopsOut == fn.resultTypes.toList.any (P.loopsFrom ·)) && c.shortTexts.isNone && (c.kinds == (if c.domain.isEmpty then [] else fn.params.toList.map fun t => match P.underlying t with | some (.int k) => some k | _ => none)) && (c.pinned == c.pinnedBy) &&
      (c.veiled == (fn.params.toList ++ s.plain.varTypes P ++ fn.resultTypes.toList).any (P.veiledRec ·)) && c.veiledFits P fn.params.toList (fn.params.toList ++ s.plain.varTypes P ++ fn.resultTypes.toList)) = true) :
    joinedFacts P f fn s c = true := by
  simp only [joinedFacts, h1, h2, h3, h4, h5, h6, h7, h8, h9, h10, h11, Bool.and_true]
  exact hr
theorem zq3:mapsRowed prog=true:=by kernel_rfl
theorem zo7:Program.stopsHeard prog=true:=by kernel_rfl
theorem zst:Program.mayEnter prog=true:=by kernel_rfl
end Go.Proofs.YtinjdacijiohiaaGreatDoor
namespace Go.Proofs.YtinjdacijiohiaaGreatDoor
open _root_.Go.Proofs.Tryz
open Go.ChangeAt Go.ChangeShapes Go.Deep Go.RowKit Go.WideShapes
def zjr : List (String × DataW Unit) := [("math/bits.deBruijn32tab", Rows.laid_math_bits_deBruijn32tab), ("math/bits.deBruijn64tab", Rows.laid_math_bits_deBruijn64tab), ("internal/strconv.uint64pow10", Rows.laid_internal_strconv_uint64pow10), ("counterpane/value.faultTexts", Rows.laid_counterpane_value_faultTexts)]
def zhQ {H:Type} (ss:List (List UInt8)):DataW H:=.agg (ss.map λs=>.lit (.string s))
theorem zkP {H:Type} {enc:TypeId×Value->H} {P w base} {sp:Nat->Bool} {held fuel t e n cs ss p} (ht:P.underlying t=some (.array n e)) (he:P.underlying e=some .string) (hce:P.cellsOf e=1) (hct:P.cellsOf t=n) (h:DataW.trod enc P w base sp held fuel t cs=some (zhQ ss,p)):cs=ss.map λs=>Value.string ⟨s.toArray⟩:=by
 cases fuel with
 | zero=>simp[DataW.trod] at h
 | succ fuel=>
  simp only[DataW.trod,ht,hce,hct,Nat.mul_one] at h;split at h
  ·rename_i hl;obtain⟨xs,hm,hx⟩:=Option.map_eq_some_iff.1 h;have hxs:xs.map (·.1)=ss.map λs=>(DataW.lit (.string s):DataW H):=by
    have:=congrArg Prod.fst hx;simpa[zhQ] using this
   have hxl:xs.length=n:=by simpa using Lib.mapM_length hm
   have hzl:ss.length=n:=by
    have:=congrArg List.length hxs;simp at this
    omega
   apply List.ext_getElem?
   intro i;by_cases hi:i<n
   ·obtain⟨b,hb,hf⟩:=Lib.mapM_at hm i i (by simp[hi]);obtain⟨z,hc,rfl,_⟩:=DataW.trod_string he hf;have h1:cs[i]? = some (.string z):=by
     have:=congrArg (·[0]?) hc;simpa[List.getElem?_take,List.getElem?_drop] using this
    have h2:(xs.map (·.1))[i]? = some (DataW.lit (.string z.data.toList):DataW H):=by simp[hb]
    rw[hxs] at h2;simp only[List.getElem?_map,Option.map_eq_some_iff,DataW.lit.injEq,Lit.string.injEq] at h2;obtain⟨z',hz',e⟩:=h2;have e2:z=⟨z'.toArray⟩:=by cases z with | mk d=>simp only at e;rw[e]
    simp[h1,hz',e2]
   ·rw[List.getElem?_eq_none (by omega),List.getElem?_eq_none (by simp;omega)]
  ·cases h
theorem zm5:(Rows.laid_counterpane_value_faultTexts:DataW Unit)=zhQ (zdV.map λs=>s.data.toList):=by
 unfold Rows.laid_counterpane_value_faultTexts zhQ zdV;rfl
theorem ztK:(Tryz.prog.globals[2]?).map (·.type)=some 196:=by kernel_rfl
theorem zkQ {W} (h:laidMetH prog zjr W):Tab W∧zbT W:=by
 rw[MakeChecks.laidMetH_plain _ _ _ (by kernel_rfl)] at h;obtain⟨ps,⟨g0,t0,cs0,f0,p0,q0,hg0,ht0,hv0,hd0,⟨g1,t1,cs1,f1,p1,q1,hg1,ht1,hv1,hd1,⟨g2,t2,cs2,f2,p2,q2,hg2,ht2,hv2,hd2,⟨g3,t3,cs3,f3,p3,q3,hg3,ht3,hv3,hd3,_,_⟩,_⟩,_⟩,_⟩,_,_⟩:=h;obtain rfl:=Option.some.inj (zvs.symm.trans hg2);obtain rfl:=Option.some.inj (zvt.symm.trans ht2);obtain rfl:=Option.some.inj (znG.symm.trans hg3);obtain rfl:=Option.some.inj (ztK.symm.trans ht3);constructor
 ·rw[zo5] at hd2;unfold Tab Lib.TabIs;rw[hv2,<-Lib.cells_of_tab Tryz.underlying210 Tryz.underlying105 (by kernel_rfl) (by kernel_rfl) hd2]
 ·rw[zm5] at hd3;unfold zbT;rw[hv3,show zdV.map Value.string=cs3.toList from ?_];have:=zkP Tryz.underlying196 Tryz.underlying9 (by kernel_rfl) (by kernel_rfl) hd3;rw[this];rfl
theorem zq4 (os:Os) (args):laidMetH prog zjr ((World.doorLaid prog 400 os).forCall (λ_ _=>0) ⟨#[],args,[]⟩).memory:=
 laidMetH_of_parts3 (fuel:=8) (laidMet_of_run' 8 (by kernel_rfl) (by kernel_rfl)) (by kernel_rfl) (by kernel_rfl)
set_option maxRecDepth 100000
variable {H:Type} {enc:TypeId×Value->H} {w:World} {base:Nat} {spare:Nat->Bool} {held:Bool}
theorem zq5:Tryz.prog.cellsOf 25=1:=by kernel_rfl
theorem zq6 {fuel:Nat} {cs:List Value} {x:DataW H×List MemPlace} (h:DataW.trod enc prog w base spare held fuel 27 cs=some x):∃ g:GA,cs=g.cells∧ArrIn w g.A g.n g.cap g.l:=by
 obtain⟨xs,n,rfl,_,hl,hxs,hf⟩:=DataW.trod_struct Tryz.underlying27 h;rw[zkB] at hl;match cs,hl with
 | [c0,c1,c2],_=>
  obtain⟨y0,hy0⟩:∃ y,xs[0]? = some y:=⟨_,List.getElem?_eq_getElem (by rw[hxs];decide)⟩;have g0:DataW.trod enc prog w base spare held n 3 [c0]=some y0:=by rw[<-hy0];have:=hf 0 _ rfl;simpa[zd1] using this
  obtain⟨y1,hy1⟩:∃ y,xs[1]? = some y:=⟨_,List.getElem?_eq_getElem (by rw[hxs];decide)⟩;have g1:DataW.trod enc prog w base spare held n 3 [c1]=some y1:=by rw[<-hy1];have:=hf 1 _ rfl;simpa[zd1] using this
  obtain⟨y2,hy2⟩:∃ y,xs[2]? = some y:=⟨_,List.getElem?_eq_getElem (by rw[hxs];decide)⟩;have g2:DataW.trod enc prog w base spare held n 25 [c2]=some y2:=by rw[<-hy2];have:=hf 2 _ rfl;simpa[zq5] using this
  obtain⟨a,e0,_,w0⟩:=DataW.trod_int Tryz.underlying3 g0;obtain⟨c,e1,_,w1⟩:=DataW.trod_int Tryz.underlying3 g1;obtain⟨A,m,cap,e2⟩:=Joins.slice_form Tryz.underlying25 g2;simp only[List.cons.injEq,and_true] at e0 e1 e2;subst e0 e1 e2;obtain⟨l,hl⟩:=zq2 g2;exact⟨⟨a,c,A,m,cap,l⟩,rfl,hl⟩
theorem zgW:∀ gs:List GA,(zeb gs).length=gs.length*3
 | []=>rfl
 | g::gs=>by
  show(GA.cells g++zeb gs).length=_;rw[List.length_append,zgW gs];simp[GA.cells];omega
theorem ztL {fuel:Nat} {a:Option Addr} {len cap:Nat} {x:DataW H×List MemPlace} (h:DataW.trod enc prog w base spare held fuel 22 [.slice a len cap]=some x):∃ gs,ArgsG w a len cap gs:=by
 rcases open_slice Tryz.underlying22 h with⟨hcs,_⟩ | ⟨ad,len',cap',m,n,D,Pl,hcs,hb,hl,hm,hmm,_,hi⟩
 ·simp only[List.cons.injEq,Value.slice.injEq,and_true] at hcs;obtain⟨rfl,rfl,rfl⟩:=hcs;exact⟨[],Rd.nil _ _ _,rfl,Nat.le_refl _,by omega,by simp⟩
 ·simp only[List.cons.injEq,Value.slice.injEq,and_true] at hcs;obtain⟨rfl,rfl,rfl⟩:=hcs;have hlm:len<=m:=by rw[hmm];split <;> omega
  haveI:Inhabited GA:=⟨⟨0,0,none,0,0,[]⟩⟩
  obtain⟨X,hX⟩:=choose_lt (α:=GA) (n:=len) (p:=λi y=>w.cells? base (ad.add (i*3)) 3=some y.cells∧ArrIn w y.A y.n y.cap y.l) (λi hil=>by
   obtain⟨cs',h1,h2⟩:=hi i (by omega)
   rw[zkB] at h1
   obtain⟨y,rfl,hy⟩:=zq6 h2
   exact⟨y,h1,hy⟩)
  refine⟨(List.range len).map X,?_,by simp,hl,by simp only[maxLen] at hm;omega,?_⟩
  ·intro j u hu;have hj:j/3<len:=by
    have:=(List.getElem?_eq_some_iff.1 hu).1;rw[zgW] at this;simp at this
    omega
   have hat:=zhe ((List.range len).map X) (j/3) (X (j/3)) (by simp[hj]) (j%3) (by omega);rw[show j/3*3+j%3=j by omega,hu] at hat;obtain⟨_,_,hc⟩:=World.cells?_some (hX (j/3) hj).1;have h6:=hc (j%3) (by omega);rw[<-hat,Go.Deep.add_add,show j/3*3+j%3=j by omega] at h6;obtain⟨b,off,spot⟩:=ad;have hsp:spot=none:=by
    obtain⟨_,_,hc0⟩:=World.cells?_some (hX 0 (by omega)).1;have h0:=hc0 0 (by omega);simp[Addr.add,GA.cells] at h0
    exact World.cell?_spot h0
   subst hsp;rw[Addr.add_mid] at h6;exact⟨b,off,rfl,Nat.zero_le _,h6⟩
  ·intro y hy;simp only[List.mem_map,List.mem_range] at hy;obtain⟨i,hi',rfl⟩:=hy;exact(hX i hi').2
theorem zq7 {r:Reach} {b0:Nat} {v:Value} {d:DataW H} {p:List MemPlace} (hv:Value.okWide prog w r b0 22 v) (h:DataW.Trod enc prog w base spare held 22 v d p) :
  ∃ (A:Option Addr) (n cap:Nat) (gs:List GA),v = .slice A n cap∧ArgsG w A n cap gs:=by
 obtain⟨A,n,cap,rfl⟩:=okWide_slice Tryz.underlying22 hv;obtain⟨fuel,hf⟩:=h;obtain⟨gs,hl⟩:=ztL hf;exact⟨A,n,cap,gs,rfl,hl⟩
end Go.Proofs.YtinjdacijiohiaaGreatDoor
