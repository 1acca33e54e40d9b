/- What the rows' proofs lean on: the contracts of the functions that they reach, and plain facts (part C7). -/
import Derived.Test.YtinjdacijiohiaaGreatDoorC6
set_option linter.unusedSimpArgs false
set_option linter.unusedVariables false
set_option maxRecDepth 100000
set_option maxHeartbeats 16000000
namespace Go.Proofs.YtinjdacijiohiaaGreatDoor
open _root_.Go.Proofs.Tryz
open Go.RowKit NM
def ofV (F:List Nm->Val) (xs:List Ar):Val:=if ffL (zs xs)=0 then F (zu (zs xs)) else zx (ffL (zs xs))
theorem zgf (F:List Nm->Val) (xs):zbx F xs=zaj (ofV F xs):=by unfold zbx ofV;split <;> rfl
def zcs (q:Val->Bool) (xs:List Ar):Val:=zdJ (((zs xs).filter q).length:Int)
theorem zh4 (q:Val->Bool) (xs):zdh q (zs xs)=zaj (zcs q xs):=rfl
def zeF:List (List UInt8×Nat×Nat×(List Ar->Val)):=[([67,79,85,78,84],1,32,zcs isNum),([67,79,85,78,84,65],1,32,zcs notBlank),([67,79,85,78,84,73,70],2,2,zbg false),([83,85,77,73,70],2,3,zbg true),([76,65,82,71,69],2,2,zcj true),([83,77,65,76,76],2,2,zcj false),([83,85,77],1,32,ofV sumV),([83,85,77,80,82,79,68,85,67,84],1,32,spV),([65,86,69,82,65,71,69],1,32,ofV averV),([77,69,68,73,65,78],1,32,ofV medV),([77,73,78],1,32,ofV (zbL (-1))),([77,65,88],1,32,ofV (zbL 1)),([80,82,79,68,85,67,84],1,32,ofV prodV)]
theorem zsh:zdJ 0=nV (0,0):=by unfold zdJ;rw[show zl 0=(0,0) by unfold zl;rw[show rndI 0 0=some (0,0) from rnd_nought _ _ _];rfl];rfl
theorem zgM:∀ l:List Val,(zu l).length=(l.filter isNum).length
 | []=>rfl
 | v::l=>by
  unfold zu;rw[List.filter_cons];by_cases h:v.kind=1
  ·rw[if_pos h,if_pos (by unfold isNum;simpa using h),List.length_cons,List.length_cons,zgM l]
  ·rw[if_neg h,if_neg (by unfold isNum;simpa using h),zgM l]
theorem zoS (q:Val->Bool) {l:List Val} {k x} (h:l[k]? = some x):((l.take (k+1)).filter q).length=((l.take k).filter q).length+if q x then 1 else 0:=by
 rw[List.take_add_one,h,List.filter_append,List.length_append];cases hq:q x <;> simp[hq]
theorem zsi {s lo hi} {F:List Ar->Val} (h:(s,lo,hi,F)∈zeF):1<=lo∧hi<=32:=by
 simp only[zeF,List.mem_cons,List.not_mem_nil,or_false,Prod.mk.injEq] at h;rcases h with⟨rfl,rfl,rfl,rfl⟩ | ⟨rfl,rfl,rfl,rfl⟩ | ⟨rfl,rfl,rfl,rfl⟩ | ⟨rfl,rfl,rfl,rfl⟩ | ⟨rfl,rfl,rfl,rfl⟩ | ⟨rfl,rfl,rfl,rfl⟩ | ⟨rfl,rfl,rfl,rfl⟩ | ⟨rfl,rfl,rfl,rfl⟩ | ⟨rfl,rfl,rfl,rfl⟩ | ⟨rfl,rfl,rfl,rfl⟩ | ⟨rfl,rfl,rfl,rfl⟩ | ⟨rfl,rfl,rfl,rfl⟩ | ⟨rfl,rfl,rfl,rfl⟩ <;> decide
theorem zoT (s lo hi) (F:List Ar->Val) (hs:(s,lo,hi,F)∈zeF) (A n cap xs w) (h:ArgsIn w A n cap xs) (h1:lo<=n) (h2:n<=hi) (z) (hz:F xs=z) :
  Tl prog 24 #[.string ⟨s.toArray⟩,.slice A n cap] w (VV z.kind z.mant z.exp z.text z.truth z.fault):=by
 have hlh:=zsi hs;have hn:n<=32:=by omega
 have hn1:1<=n:=by omega
 have hall:=λW hW=>zr6 A n cap xs W hW (by omega);have hR:=zcg h;have hfb:=zjc hR;have HRT:=Lib.hid (zb4 hR);have H:=Lib.hid h;have HZ:=Lib.hid hz;have hbad:=λf W=>zb6 f W;have hc0:=λW=>zek 0 W (by decide);have HS:=Lib.hid hs;have HLH:=Lib.hid (And.intro h1 h2);clear h hz hR hs hlh h1 h2;go_enter func24,ntmps24;go_upto_region 2 with((go_at_call 69;(with_reducible refine(hall _ (H.out.ext (by simp[go_sem]))).mono ?_);rintro e w' ⟨D1,m1,c1,rfl,hD1,hm1,hb⟩;obtain⟨os1,d1,rfl⟩:=hb.more;clear hb));have hnm:=λW hW=>zfn D1 m1 c1 (zs xs) W hW (by omega);have hfi:=λW hW=>zgI D1 m1 c1 (zs xs) W hW;have HD1:=Lib.hid hD1.arr;have hln:=hD1.arr.len;have hmc:=hD1.arr.cap;have hnl:=zbf (zs xs);clear hD1 hall;go_upto_region 3 with((go_at_call 70;(with_reducible refine(hnm _ (HD1.out.ext (by simp[go_sem]))).mono ?_);rintro e w' ⟨v,rfl,hN,hb⟩;obtain⟨os2,d2,rfl⟩:=hb.more;clear hb));obtain⟨D2,c2,rfl,hI2⟩:=hN.in (by omega) HRT.out;obtain⟨L,hL⟩:∃ L,zu (zs xs)=L:=⟨_,rfl⟩;rw[hL] at hI2 HRT hnl⊢;have HL:=Lib.hid hL;have HNC:Hid (L.length=((zs xs).filter isNum).length):=by rw[<-hL];exact zgM _
 obtain⟨K,hK⟩:∃ K,L.length=K:=⟨_,rfl⟩;rw[hK] at hI2 hnl⊢;have HK:=Lib.hid hK;have hcK:=hI2.cap;have HLN:=Lib.hid hln;have hK2:K<=409600:=by omega
 refine zH λU hU=>?_;have hxU:Ext (w.alloc (Obj.cells #[.int .i64 0,.int .i64 0,.int .i64 0,.string ⟨#[]⟩,.bool false,.int .i64 0] 38)) U:=by rw[hU];exact(by simp[go_sem])
 replace HD1:Hid (ArrIn U D1 m1 c1 (zs xs)):=by rw[hU];exact HD1.out.ext (by simp[go_sem])
 have HN:Hid (NmIn U D2 K c2 L):=by rw[hU];exact hI2.ext (by simp[go_sem])
 clear hN hI2 hL hK hnm hln hnl hU;obtain⟨os3,d3,rfl⟩:=hxU.more;clear hxU;go_wp2_with fail;go_loopw [7,8] (λc i wr=>∃ (k N:Nat) (os:Array Obj) (d:Nat),k<=m1∧N<=k∧i = .int .i64 (k:Int)∧c = .int .i64 (N:Int)∧Hid (N=(((zs xs).take k).filter notBlank).length)∧wr=more (w.alloc (Obj.cells #[.int .i64 0,.int .i64 0,.int .i64 0,.string ⟨#[]⟩,.bool false,.int .i64 0] 38)) os d∧Hid (Ext (more (w.alloc (Obj.cells #[.int .i64 0,.int .i64 0,.int .i64 0,.string ⟨#[]⟩,.bool false,.int .i64 0] 38)) os3 d3) wr)) (λ_ i _=>m1-(intOf i).toNat)
 case atStart=>exact⟨0,0,_,_,Nat.zero_le _,Nat.le_refl _,rfl,rfl,rfl,rfl,Ext.refl _⟩
 case round=>
  obtain⟨k,N,os,d,hk,hNk,rfl,rfl,HC,rfl,HX⟩:=hrel;by_cases hlt:k<m1
  ·obtain⟨x,b,off,hx,hxo,rfl,hat⟩:=(HD1.out.ext HX.out).at hlt;obtain⟨v0,v1,v2,v3,v4,v5⟩:=hat;have hbl:=za v0;have HC2:Hid (N+(if notBlank x then 1 else 0)=(((zs xs).take (k+1)).filter notBlank).length):=by rw[zoS _ hx,<-HC.out];rfl
   clear hx HC;by_cases hk0:x.kind=0
   ·have hk0':(x.kind != 0)=false:=by rw[hk0];rfl
    rw[show notBlank x=false from hk0'] at HC2;clear hk0;go_wp2_with fail;exact⟨⟨k+1,N,_,_,by omega,by omega,by go_num,rfl,HC2,rfl,HX.out.trans (by simp[go_sem])⟩,by simp[intOf];omega⟩
   ·have hk0':(x.kind != 0)=true:=by simpa using hk0
    rw[show notBlank x=true from hk0'] at HC2;clear hk0;go_wp2_with fail;exact⟨⟨k+1,N+1,_,_,by omega,by omega,by go_num,by go_num,HC2,rfl,HX.out.trans (by simp[go_sem])⟩,by simp[intOf];omega⟩
  ·obtain rfl:m1=k:=by omega
   have HCN:Hid (K=((zs xs).filter isNum).length∧N=((zs xs).filter notBlank).length):=by
    refine⟨by rw[<-HK.out];exact HNC.out,?_⟩;have:=HC.out;rw[List.take_of_length_le (by rw[HLN.out];exact Nat.le_refl _)] at this;exact this
   replace HD1:=Lib.hid (HD1.out.ext HX.out);replace HN:=Lib.hid (HN.out.ext HX.out);have hs:=HS.out;have hlh:=HLH.out;clear HC HNC HX HS HLH HLN;simp only[zeF,List.mem_cons,List.not_mem_nil,or_false,Prod.mk.injEq] at hs;rcases hs with⟨rfl,rfl,rfl,rfl⟩ | ⟨rfl,rfl,rfl,rfl⟩ | ⟨rfl,rfl,rfl,rfl⟩ | ⟨rfl,rfl,rfl,rfl⟩ | ⟨rfl,rfl,rfl,rfl⟩ | ⟨rfl,rfl,rfl,rfl⟩ | ⟨rfl,rfl,rfl,rfl⟩ | ⟨rfl,rfl,rfl,rfl⟩ | ⟨rfl,rfl,rfl,rfl⟩ | ⟨rfl,rfl,rfl,rfl⟩ | ⟨rfl,rfl,rfl,rfl⟩ | ⟨rfl,rfl,rfl,rfl⟩ | ⟨rfl,rfl,rfl,rfl⟩
   ·
    have hct:=λW=>zek (K:Int) W (by have:T 15=1000000000000000:=(by decide);omega);obtain rfl:zdJ (K:Int)=z:=by rw[<-HZ.out];unfold zcs;rw[<-HCN.out.1]
    clear HZ HCN;go_wp2_with (first | (go_at_call 66;with_reducible refine aM (hct _) λos3 d3=>?_));exact rc1 (v:=VV 1 (zl (K:Int)).1 (zl (K:Int)).2 ⟨#[]⟩ false 0) rfl rfl (by simp[go_sem]) ⟨rfl,by simp[go_sem]⟩
   ·
    have hct:=λW=>zek (N:Int) W (by have:T 15=1000000000000000:=(by decide);omega);obtain rfl:zdJ (N:Int)=z:=by rw[<-HZ.out];unfold zcs;rw[<-HCN.out.2]
    clear HZ HCN;go_wp2_with (first | (go_at_call 66;with_reducible refine aM (hct _) λos3 d3=>?_));exact rc1 (v:=VV 1 (zl (N:Int)).1 (zl (N:Int)).2 ⟨#[]⟩ false 0) rfl rfl (by simp[go_sem]) ⟨rfl,by simp[go_sem]⟩
   ·
    have hsf:=λW hW=>zjg false A n cap xs W hW (by omega) (by omega);rw[HZ.out] at hsf;clear HZ HCN;go_wp2_with (first | (go_at_call 71;with_reducible refine aM (hsf _ (H.out.ext (by simp[go_sem]))) λos3 d3=>?_));exact rc1 (v:=VV z.kind z.mant z.exp z.text z.truth z.fault) rfl rfl (by simp[go_sem]) ⟨rfl,by simp[go_sem]⟩
   ·
    have hsf:=λW hW=>zjg true A n cap xs W hW (by omega) (by omega);rw[HZ.out] at hsf;clear HZ HCN;go_wp2_with (first | (go_at_call 71;with_reducible refine aM (hsf _ (H.out.ext (by simp[go_sem]))) λos3 d3=>?_));exact rc1 (v:=VV z.kind z.mant z.exp z.text z.truth z.fault) rfl rfl (by simp[go_sem]) ⟨rfl,by simp[go_sem]⟩
   ·
    have hsf:=λW hW=>zmf true A n cap xs W hW (by omega);rw[HZ.out] at hsf;clear HZ HCN;go_wp2_with (first | (go_at_call 72;with_reducible refine aM (hsf _ (H.out.ext (by simp[go_sem]))) λos3 d3=>?_));exact rc1 (v:=VV z.kind z.mant z.exp z.text z.truth z.fault) rfl rfl (by simp[go_sem]) ⟨rfl,by simp[go_sem]⟩
   ·
    have hsf:=λW hW=>zmf false A n cap xs W hW (by omega);rw[HZ.out] at hsf;clear HZ HCN;go_wp2_with (first | (go_at_call 72;with_reducible refine aM (hsf _ (H.out.ext (by simp[go_sem]))) λos3 d3=>?_));exact rc1 (v:=VV z.kind z.mant z.exp z.text z.truth z.fault) rfl rfl (by simp[go_sem]) ⟨rfl,by simp[go_sem]⟩
   ·
    obtain hff | hff:ffL (zs xs)=0∨ffL (zs xs)≠0:=by omega
    rotate_left
    focus
     have hz0:zx (ffL (zs xs))=z:=by rw[<-HZ.out];unfold ofV;rw[if_neg hff]
     clear HZ HCN;generalize ffL (zs xs)=F at *;subst hz0;have hF0:0<F:=by omega
     have hbF:=λW=>hbad F W;go_wp2_with (first | (go_at_call 73;with_reducible refine aM (hfi _ (HD1.out.ext (by simp[go_sem]))) λos3 d3=>?_) | (go_at_call 27;with_reducible refine aM (hbF _) λos4 d4=>?_));exact rc1 (v:=VV 4 0 0 ⟨#[]⟩ false (zE F)) rfl rfl (by simp[go_sem]) ⟨rfl,by simp[go_sem]⟩
    have hz:sumV L=z:=by rw[<-HZ.out];unfold ofV;rw[if_pos hff,HL.out]
    rw[hff] at hfi;clear HZ HCN hff hfb;have hsm:=λW hW=>zis D2 K c2 L W hW;have hmd:=λW=>zdk (zbC (0,0) L) W;rw[show zo (zbC (0,0) L)=z from hz] at hmd;generalize zbC (0,0) L=r at *;go_wp2_with (first | (go_at_call 73;with_reducible refine aM (hfi _ (HD1.out.ext (by simp[go_sem]))) λos3 d3=>?_) | (go_at_call 75;with_reducible refine aM (hsm _ (HN.out.ext (by simp[go_sem]))) λos4 d4=>?_) | (go_at_call 74;with_reducible refine aM (hmd _) λos5 d5=>?_));exact rc1 (v:=VV z.kind z.mant z.exp z.text z.truth z.fault) rfl rfl (by simp[go_sem]) ⟨rfl,by simp[go_sem]⟩
   ·
    obtain hff | hff:ffL (zs xs)=0∨ffL (zs xs)≠0:=by omega
    rotate_left
    focus
     have hz0:zx (ffL (zs xs))=z:=by rw[<-HZ.out];unfold spV;rw[if_neg hff]
     clear HZ HCN;generalize ffL (zs xs)=F at *;subst hz0;have hF0:0<F:=by omega
     have hbF:=λW=>hbad F W;go_wp2_with (first | (go_at_call 73;with_reducible refine aM (hfi _ (HD1.out.ext (by simp[go_sem]))) λos3 d3=>?_) | (go_at_call 27;with_reducible refine aM (hbF _) λos4 d4=>?_));exact rc1 (v:=VV 4 0 0 ⟨#[]⟩ false (zE F)) rfl rfl (by simp[go_sem]) ⟨rfl,by simp[go_sem]⟩
    have hsf:=λW hW=>zjh A n cap xs W hW (by omega) (by omega) hff;rw[HZ.out] at hsf;rw[hff] at hfi;clear HZ HCN hff hfb;go_wp2_with (first | (go_at_call 73;with_reducible refine aM (hfi _ (HD1.out.ext (by simp[go_sem]))) λos3 d3=>?_) | (go_at_call 76;with_reducible refine aM (hsf _ (H.out.ext (by simp[go_sem]))) λos4 d4=>?_));exact rc1 (v:=VV z.kind z.mant z.exp z.text z.truth z.fault) rfl rfl (by simp[go_sem]) ⟨rfl,by simp[go_sem]⟩
   ·
    obtain hff | hff:ffL (zs xs)=0∨ffL (zs xs)≠0:=by omega
    rotate_left
    focus
     have hz0:zx (ffL (zs xs))=z:=by rw[<-HZ.out];unfold ofV;rw[if_neg hff]
     clear HZ HCN;generalize ffL (zs xs)=F at *;subst hz0;have hF0:0<F:=by omega
     have hbF:=λW=>hbad F W;go_wp2_with (first | (go_at_call 73;with_reducible refine aM (hfi _ (HD1.out.ext (by simp[go_sem]))) λos3 d3=>?_) | (go_at_call 27;with_reducible refine aM (hbF _) λos4 d4=>?_));exact rc1 (v:=VV 4 0 0 ⟨#[]⟩ false (zE F)) rfl rfl (by simp[go_sem]) ⟨rfl,by simp[go_sem]⟩
    have hz:averV L=z:=by rw[<-HZ.out];unfold ofV;rw[if_pos hff,HL.out]
    rw[hff] at hfi;clear HZ HCN hff hfb;obtain hK | hK:K=0∨0<K:=by omega
    focus
     subst hK;obtain rfl:L=[]:=List.length_eq_zero_iff.1 HK.out;obtain rfl:zz 1=z:=hz;go_wp2_with (first | (go_at_call 73;with_reducible refine aM (hfi _ (HD1.out.ext (by simp[go_sem]))) λos3 d3=>?_) | ((go_at_call 27;with_reducible refine aM (hbad 1 _) λos4 d4=>?_)));exact rc1 (v:=VV 4 0 0 ⟨#[]⟩ false (zE 1)) rfl rfl (by simp[go_sem]) ⟨rfl,by simp[go_sem]⟩
    have hsf:=λW hW=>zqw D2 K c2 L (K:Int) W hW (by have:T 15=1000000000000000:=(by decide);omega);rw[show zec L (K:Int)=z by rw[<-hz];unfold averV;rw[if_neg (by rw[HK.out];omega),HK.out]] at hsf;have hK':((K:Int)==0)=false:=by rw[beq_eq_false_iff_ne];omega
    clear hz hK;go_wp2_with (first | (go_at_call 73;with_reducible refine aM (hfi _ (HD1.out.ext (by simp[go_sem]))) λos3 d3=>?_) | (go_at_call 77;with_reducible refine aM (hsf _ (HN.out.ext (by simp[go_sem]))) λos4 d4=>?_));exact rc1 (v:=VV z.kind z.mant z.exp z.text z.truth z.fault) rfl rfl (by simp[go_sem]) ⟨rfl,by simp[go_sem]⟩
   ·
    obtain hff | hff:ffL (zs xs)=0∨ffL (zs xs)≠0:=by omega
    rotate_left
    focus
     have hz0:zx (ffL (zs xs))=z:=by rw[<-HZ.out];unfold ofV;rw[if_neg hff]
     clear HZ HCN;generalize ffL (zs xs)=F at *;subst hz0;have hF0:0<F:=by omega
     have hbF:=λW=>hbad F W;go_wp2_with (first | (go_at_call 73;with_reducible refine aM (hfi _ (HD1.out.ext (by simp[go_sem]))) λos3 d3=>?_) | (go_at_call 27;with_reducible refine aM (hbF _) λos4 d4=>?_));exact rc1 (v:=VV 4 0 0 ⟨#[]⟩ false (zE F)) rfl rfl (by simp[go_sem]) ⟨rfl,by simp[go_sem]⟩
    have hz:medV L=z:=by rw[<-HZ.out];unfold ofV;rw[if_pos hff,HL.out]
    rw[hff] at hfi;clear HZ HCN hff hfb;obtain hK | hK:K=0∨0<K:=by omega
    focus
     subst hK;obtain rfl:L=[]:=List.length_eq_zero_iff.1 HK.out;obtain rfl:zz 5=z:=hz;go_wp2_with (first | (go_at_call 73;with_reducible refine aM (hfi _ (HD1.out.ext (by simp[go_sem]))) λos3 d3=>?_) | ((go_at_call 27;with_reducible refine aM (hbad 5 _) λos4 d4=>?_)));exact rc1 (v:=VV 4 0 0 ⟨#[]⟩ false (zE 5)) rfl rfl (by simp[go_sem]) ⟨rfl,by simp[go_sem]⟩
    have hso:=λW hW=>zel D2 K c2 L W hW (by omega) HRT.out;have hsf:=λD c W hW=>zmO D K c L W hW hK (by omega);rw[hz] at hsf;have hK':((K:Int)==0)=false:=by rw[beq_eq_false_iff_ne];omega
    clear hz hK;go_wp2_with (first | (go_at_call 73;with_reducible refine aM (hfi _ (HD1.out.ext (by simp[go_sem]))) λos3 d3=>?_) | (go_at_call 79;(with_reducible refine(hso _ (HN.out.ext (by simp[go_sem]))).mono ?_);rintro e w' ⟨D5,c5,rfl,hI5,hb⟩;obtain⟨os5,d5,rfl⟩:=hb.more;clear hb;(try simp only[zc,zj,zh,Array.append_assoc] at hI5)) | (go_at_call 78;with_reducible refine aM (hsf _ _ _ (hI5.ext (by simp[go_sem]))) λos6 d6=>?_));exact rc1 (v:=VV z.kind z.mant z.exp z.text z.truth z.fault) rfl rfl (by simp[go_sem]) ⟨rfl,by simp[go_sem]⟩
   ·
    obtain hff | hff:ffL (zs xs)=0∨ffL (zs xs)≠0:=by omega
    rotate_left
    focus
     have hz0:zx (ffL (zs xs))=z:=by rw[<-HZ.out];unfold ofV;rw[if_neg hff]
     clear HZ HCN;generalize ffL (zs xs)=F at *;subst hz0;have hF0:0<F:=by omega
     have hbF:=λW=>hbad F W;go_wp2_with (first | (go_at_call 73;with_reducible refine aM (hfi _ (HD1.out.ext (by simp[go_sem]))) λos3 d3=>?_) | (go_at_call 27;with_reducible refine aM (hbF _) λos4 d4=>?_));exact rc1 (v:=VV 4 0 0 ⟨#[]⟩ false (zE F)) rfl rfl (by simp[go_sem]) ⟨rfl,by simp[go_sem]⟩
    have hz:(zbL (-1)) L=z:=by rw[<-HZ.out];unfold ofV;rw[if_pos hff,HL.out]
    rw[hff] at hfi;clear HZ HCN hff hfb;obtain hK | hK:K=0∨0<K:=by omega
    focus
     subst hK;obtain rfl:L=[]:=List.length_eq_zero_iff.1 HK.out;obtain rfl:zdJ 0=z:=zsh.trans hz;go_wp2_with (first | (go_at_call 73;with_reducible refine aM (hfi _ (HD1.out.ext (by simp[go_sem]))) λos3 d3=>?_) | ((go_at_call 66;with_reducible refine aM (hc0 _) λos4 d4=>?_)));exact rc1 (v:=VV 1 (zl 0).1 (zl 0).2 ⟨#[]⟩ false 0) rfl rfl (by simp[go_sem]) ⟨rfl,by simp[go_sem]⟩
    have hso:=λW hW=>zel D2 K c2 L W hW (by omega) HRT.out;have hK':((K:Int)==0)=false:=by rw[beq_eq_false_iff_ne];omega
    have hE:nV (atN (zZ L) 0)=z:=by rw[<-hz,zoP HRT.out (by rw[HK.out];exact hK)]
    have HE:=Lib.hid hE;clear hz hE;go_upto_region 40 with(first | (go_at_call 73;with_reducible refine aM (hfi _ (HD1.out.ext (by simp[go_sem]))) λos3 d3=>?_) | (go_at_call 79;(with_reducible refine(hso _ (HN.out.ext (by simp[go_sem]))).mono ?_);rintro e w' ⟨D5,c5,rfl,hI5,hb⟩;obtain⟨os5,d5,rfl⟩:=hb.more;clear hb;(try simp only[zc,zj,zh,Array.append_assoc] at hI5)));obtain⟨p,b,off,hp,hpr,rfl,e0,e1⟩:=hI5.at (k:=0) (by omega);have hpa:atN (zZ L) 0=p:=by unfold atN;rw[List.getD_eq_getElem?_getD,hp];rfl
    obtain⟨pm,pe⟩:=p;have hve:=Lib.hid (show nV (pm,pe)=z by rw[<-HE.out,hpa]);simp only[Nat.zero_mul,Nat.add_zero] at e0 e1;have hbl:=za e0;have hnb:=λW=>zaK pm pe W;clear HE hpa hp hpr hI5;go_wp2_with (first | (go_at_call 67;with_reducible refine aM (hnb _) λos6 d6=>?_));exact rc1 (v:=VV 1 pm pe ⟨#[]⟩ false 0) rfl rfl (by simp[go_sem]) ⟨by rw[<-hve.out];rfl,by simp[go_sem]⟩
   ·
    obtain hff | hff:ffL (zs xs)=0∨ffL (zs xs)≠0:=by omega
    rotate_left
    focus
     have hz0:zx (ffL (zs xs))=z:=by rw[<-HZ.out];unfold ofV;rw[if_neg hff]
     clear HZ HCN;generalize ffL (zs xs)=F at *;subst hz0;have hF0:0<F:=by omega
     have hbF:=λW=>hbad F W;go_wp2_with (first | (go_at_call 73;with_reducible refine aM (hfi _ (HD1.out.ext (by simp[go_sem]))) λos3 d3=>?_) | (go_at_call 27;with_reducible refine aM (hbF _) λos4 d4=>?_));exact rc1 (v:=VV 4 0 0 ⟨#[]⟩ false (zE F)) rfl rfl (by simp[go_sem]) ⟨rfl,by simp[go_sem]⟩
    have hz:(zbL 1) L=z:=by rw[<-HZ.out];unfold ofV;rw[if_pos hff,HL.out]
    rw[hff] at hfi;clear HZ HCN hff hfb;obtain hK | hK:K=0∨0<K:=by omega
    focus
     subst hK;obtain rfl:L=[]:=List.length_eq_zero_iff.1 HK.out;obtain rfl:zdJ 0=z:=zsh.trans hz;go_wp2_with (first | (go_at_call 73;with_reducible refine aM (hfi _ (HD1.out.ext (by simp[go_sem]))) λos3 d3=>?_) | ((go_at_call 66;with_reducible refine aM (hc0 _) λos4 d4=>?_)));exact rc1 (v:=VV 1 (zl 0).1 (zl 0).2 ⟨#[]⟩ false 0) rfl rfl (by simp[go_sem]) ⟨rfl,by simp[go_sem]⟩
    have hso:=λW hW=>zel D2 K c2 L W hW (by omega) HRT.out;have hK':((K:Int)==0)=false:=by rw[beq_eq_false_iff_ne];omega
    have hE:nV (atN (zZ L) (K-1))=z:=by rw[<-hz,zqr HRT.out (by rw[HK.out];exact hK),HK.out]
    have HE:=Lib.hid hE;clear hz hE;go_upto_region 40 with(first | (go_at_call 73;with_reducible refine aM (hfi _ (HD1.out.ext (by simp[go_sem]))) λos3 d3=>?_) | (go_at_call 79;(with_reducible refine(hso _ (HN.out.ext (by simp[go_sem]))).mono ?_);rintro e w' ⟨D5,c5,rfl,hI5,hb⟩;obtain⟨os5,d5,rfl⟩:=hb.more;clear hb;(try simp only[zc,zj,zh,Array.append_assoc] at hI5)));obtain⟨p,b,off,hp,hpr,rfl,e0,e1⟩:=hI5.at (k:=(K-1)) (by omega);have hpa:atN (zZ L) (K-1)=p:=by unfold atN;rw[List.getD_eq_getElem?_getD,hp];rfl
    obtain⟨pm,pe⟩:=p;have hve:=Lib.hid (show nV (pm,pe)=z by rw[<-HE.out,hpa]);simp only at e0 e1;have hbl:=za e0;have hnb:=λW=>zaK pm pe W;clear HE hpa hp hpr hI5;have hJ:IntKind.i64.wrap ((K:Int)-1)=((K-1:Nat):Int):=by rw[IntKind.wrap_i64];omega
    have hJK:K-1<K:=by omega
    generalize K-1=J at *;go_wp2_with (first | (go_at_call 67;with_reducible refine aM (hnb _) λos6 d6=>?_));exact rc1 (v:=VV 1 pm pe ⟨#[]⟩ false 0) rfl rfl (by simp[go_sem]) ⟨by rw[<-hve.out];rfl,by simp[go_sem]⟩
   ·
    obtain hff | hff:ffL (zs xs)=0∨ffL (zs xs)≠0:=by omega
    rotate_left
    focus
     have hz0:zx (ffL (zs xs))=z:=by rw[<-HZ.out];unfold ofV;rw[if_neg hff]
     clear HZ HCN;generalize ffL (zs xs)=F at *;subst hz0;have hF0:0<F:=by omega
     have hbF:=λW=>hbad F W;go_wp2_with (first | (go_at_call 73;with_reducible refine aM (hfi _ (HD1.out.ext (by simp[go_sem]))) λos3 d3=>?_) | (go_at_call 27;with_reducible refine aM (hbF _) λos4 d4=>?_));exact rc1 (v:=VV 4 0 0 ⟨#[]⟩ false (zE F)) rfl rfl (by simp[go_sem]) ⟨rfl,by simp[go_sem]⟩
    have hz:prodV L=z:=by rw[<-HZ.out];unfold ofV;rw[if_pos hff,HL.out]
    rw[hff] at hfi;clear HZ HCN hff hfb;obtain hK | hK:K=0∨0<K:=by omega
    focus
     subst hK;obtain rfl:L=[]:=List.length_eq_zero_iff.1 HK.out;obtain rfl:zdJ 0=z:=zsh.trans hz;go_wp2_with (first | (go_at_call 73;with_reducible refine aM (hfi _ (HD1.out.ext (by simp[go_sem]))) λos3 d3=>?_) | ((go_at_call 66;with_reducible refine aM (hc0 _) λos4 d4=>?_)));exact rc1 (v:=VV 1 (zl 0).1 (zl 0).2 ⟨#[]⟩ false 0) rfl rfl (by simp[go_sem]) ⟨rfl,by simp[go_sem]⟩
    have hso:=λW hW=>zel D2 K c2 L W hW (by omega) HRT.out;have hpr:=λW hW=>zhk D2 K c2 L W hW;have hmd:=λW=>zdk (zbD (1,0) L) W;rw[show zo (zbD (1,0) L)=z by rw[<-hz];unfold prodV;rw[if_neg (by rw[HK.out];omega)]] at hmd;generalize zbD (1,0) L=r at *;have hK':((K:Int)==0)=false:=by rw[beq_eq_false_iff_ne];omega
    clear hz hK;go_wp2_with (first | (go_at_call 73;with_reducible refine aM (hfi _ (HD1.out.ext (by simp[go_sem]))) λos3 d3=>?_) | (go_at_call 79;(with_reducible refine(hso _ (HN.out.ext (by simp[go_sem]))).mono ?_);rintro e w' ⟨D5,c5,rfl,hI5,hb⟩;obtain⟨os5,d5,rfl⟩:=hb.more;clear hb;(try simp only[zc,zj,zh,Array.append_assoc] at hI5)) | (go_at_call 80;with_reducible refine aM (hpr _ (HN.out.ext (by simp[go_sem]))) λos6 d6=>?_) | (go_at_call 74;with_reducible refine aM (hmd _) λos7 d7=>?_));exact rc1 (v:=VV z.kind z.mant z.exp z.text z.truth z.fault) rfl rfl (by simp[go_sem]) ⟨rfl,by simp[go_sem]⟩
theorem zaG (g:Sg) (w) :
  Tl prog 61 #[.string ⟨g.key.toArray⟩] w (.int .i64 g.level):=by
 cases g
 all_goals
  simp only[Sg.key,Sg.level];go_enter func61,ntmps61;go_wp2_with fail;go_ret;exact⟨rfl,by simp[go_sem]⟩
theorem ztA (m e w) :
  Calls prog 129 #[NV m e,.bool false] w λr w'=>r = .returned (VV 4 0 0 ⟨#[]⟩ false 5)∧Ext w w':=by
 have hbad:=λW=>zah 5 W;rw[show zE 5=5 by decide] at hbad;go_enter func129,ntmps129;go_wp2_with (go_at_call 63;with_reducible refine aM (hbad _) λos d=>?_);exact rc1 rfl rfl (by simp[go_sem]) ⟨rfl,by simp[go_sem]⟩
theorem zsj (m e w) :
  Calls prog 129 #[NV m e,.bool true] w λr w'=>r = .returned (VV 1 m e ⟨#[]⟩ false 0)∧Ext w w':=by
 have hof:=λW=>zaK m e W;go_enter func129,ntmps129;go_wp2_with (go_at_call 67;with_reducible refine aM (hof _) λos d=>?_);exact rc1 rfl rfl (by simp[go_sem]) ⟨rfl,by simp[go_sem]⟩
theorem zdY (r:Option (Int×Int)) (w) :
  Tl prog 129 #[NV (rm r) (re r),.bool r.isSome] w (VV (zo r).kind (zo r).mant (zo r).exp (zo r).text (zo r).truth (zo r).fault):=by
 cases r with
 | none=>exact ztA _ _ w
 | some p=>exact zsj _ _ w
theorem zmT {m e} (h:Rt m e):zB m e=(m,e)↔0<=e:=by
 unfold zB;rw[if_neg (λh'=>h' h)];by_cases he:0<=e
 ·rw[if_pos he];exact⟨λ_=>he,λ_=>rfl⟩
 ·rw[if_neg he];refine⟨λh'=>?_,λh'=>absurd h' he⟩;exfalso
  have h2:(trim (zau m (-e).toNat) 0).2=e:=congrArg Prod.snd h';by_cases hz:zau m (-e).toNat=0
  ·rw[hz,trim_zero] at h2;simp only at h2;omega
  ·obtain⟨k,_,hk,_⟩:=trim_spec (zau m (-e).toNat) 0 hz;omega
theorem zqE (x y w) (hx:x.right) (hy:y.right) (z) (hz:zM (Sg.pred .eq) x y=z) :
  Tl prog 126 #[.string ⟨#[61]⟩,VV x.kind x.mant x.exp x.text x.truth x.fault,VV y.kind y.mant y.exp y.text y.truth y.fault] w (VV z.kind z.mant z.exp z.text z.truth z.fault):=by
 have hcm:=λW=>zb5 x y W hx hy;have htr:=λb W=>zch b W;by_cases h1:x.kind=4
 ·obtain rfl:z=x:=by rw[<-hz];unfold zM;simp[h1]
  have q1:(z.kind==4)=true:=by simp[h1]
  clear h1 hz hx hy hcm htr;generalize z.kind=xk at *;generalize z.mant=xm at *;generalize z.exp=xe at *;generalize z.text=xt at *;generalize z.truth=xb at *;generalize z.fault=xf at *;generalize y.kind=yk at *;generalize y.mant=ym at *;generalize y.exp=ye at *;generalize y.text=yt at *;generalize y.truth=yb at *;generalize y.fault=yf at *;go_enter func126,ntmps126;go_wp2_with fail;exact rc1 rfl rfl (by simp[go_sem]) ⟨rfl,by simp[go_sem]⟩
 ·have q1:(x.kind==4)=false:=by simp[h1]
  by_cases h2:y.kind=4
  ·obtain rfl:z=y:=by rw[<-hz];unfold zM;simp[h1,h2]
   have q2:(z.kind==4)=true:=by simp[h2]
   clear h1 h2 hz hx hy hcm htr;generalize x.kind=xk at *;generalize x.mant=xm at *;generalize x.exp=xe at *;generalize x.text=xt at *;generalize x.truth=xb at *;generalize x.fault=xf at *;generalize z.kind=yk at *;generalize z.mant=ym at *;generalize z.exp=ye at *;generalize z.text=yt at *;generalize z.truth=yb at *;generalize z.fault=yf at *;go_enter func126,ntmps126;go_wp2_with fail;exact rc1 rfl rfl (by simp[go_sem]) ⟨rfl,by simp[go_sem]⟩
  ·obtain rfl:z=zW (Sg.pred .eq (zaB x y)):=by rw[<-hz];unfold zM;simp[h1,h2]
   have q2:(y.kind==4)=false:=by simp[h2]
   clear h1 h2 hz hx hy;simp only[zW,Sg.pred];generalize zaB x y=n at *;generalize x.kind=xk at *;generalize x.mant=xm at *;generalize x.exp=xe at *;generalize x.text=xt at *;generalize x.truth=xb at *;generalize x.fault=xf at *;generalize y.kind=yk at *;generalize y.mant=ym at *;generalize y.exp=ye at *;generalize y.text=yt at *;generalize y.truth=yb at *;generalize y.fault=yf at *;go_enter func126,ntmps126;go_wp2_with (first | (go_at_call 182;with_reducible refine aM (hcm _) λos d=>?_) | (go_at_call 183;with_reducible refine aM (htr _ _) λos d=>?_));exact rc1 rfl rfl (by simp[go_sem]) ⟨rfl,by simp[go_sem]⟩
theorem zuK (x y w) (hx:x.right) (hy:y.right) (z) (hz:zM (Sg.pred .eq) x y=z) :
  Tl prog 62 #[.string ⟨#[61]⟩,VV x.kind x.mant x.exp x.text x.truth x.fault,VV y.kind y.mant y.exp y.text y.truth y.fault] w (VV z.kind z.mant z.exp z.text z.truth z.fault):=by
 have hlv:=λW=>zaG .eq W;simp only[Sg.key,Sg.level] at hlv;have htr:=λW=>zqE x y W hx hy z hz;clear hx hy hz;generalize x.kind=xk at *;generalize x.mant=xm at *;generalize x.exp=xe at *;generalize x.text=xt at *;generalize x.truth=xb at *;generalize x.fault=xf at *;generalize y.kind=yk at *;generalize y.mant=ym at *;generalize y.exp=ye at *;generalize y.text=yt at *;generalize y.truth=yb at *;generalize y.fault=yf at *;generalize z.kind=zk at *;generalize z.mant=zm at *;generalize z.exp=ze at *;generalize z.text=zt at *;generalize z.truth=zb at *;generalize z.fault=zf at *;go_enter func62,ntmps62;go_wp2_with (first | (go_at_call 61;with_reducible refine aM (hlv _) λos d=>?_) | (go_at_call 126;with_reducible refine aM (htr _) λos d=>?_));exact rc1 rfl rfl (by simp[go_sem]) ⟨rfl,by simp[go_sem]⟩
theorem zqF (x y w) (hx:x.right) (hy:y.right) (z) (hz:zM (Sg.pred .ne) x y=z) :
  Tl prog 126 #[.string ⟨#[60,62]⟩,VV x.kind x.mant x.exp x.text x.truth x.fault,VV y.kind y.mant y.exp y.text y.truth y.fault] w (VV z.kind z.mant z.exp z.text z.truth z.fault):=by
 have hcm:=λW=>zb5 x y W hx hy;have htr:=λb W=>zch b W;by_cases h1:x.kind=4
 ·obtain rfl:z=x:=by rw[<-hz];unfold zM;simp[h1]
  have q1:(z.kind==4)=true:=by simp[h1]
  clear h1 hz hx hy hcm htr;generalize z.kind=xk at *;generalize z.mant=xm at *;generalize z.exp=xe at *;generalize z.text=xt at *;generalize z.truth=xb at *;generalize z.fault=xf at *;generalize y.kind=yk at *;generalize y.mant=ym at *;generalize y.exp=ye at *;generalize y.text=yt at *;generalize y.truth=yb at *;generalize y.fault=yf at *;go_enter func126,ntmps126;go_wp2_with fail;exact rc1 rfl rfl (by simp[go_sem]) ⟨rfl,by simp[go_sem]⟩
 ·have q1:(x.kind==4)=false:=by simp[h1]
  by_cases h2:y.kind=4
  ·obtain rfl:z=y:=by rw[<-hz];unfold zM;simp[h1,h2]
   have q2:(z.kind==4)=true:=by simp[h2]
   clear h1 h2 hz hx hy hcm htr;generalize x.kind=xk at *;generalize x.mant=xm at *;generalize x.exp=xe at *;generalize x.text=xt at *;generalize x.truth=xb at *;generalize x.fault=xf at *;generalize z.kind=yk at *;generalize z.mant=ym at *;generalize z.exp=ye at *;generalize z.text=yt at *;generalize z.truth=yb at *;generalize z.fault=yf at *;go_enter func126,ntmps126;go_wp2_with fail;exact rc1 rfl rfl (by simp[go_sem]) ⟨rfl,by simp[go_sem]⟩
  ·obtain rfl:z=zW (Sg.pred .ne (zaB x y)):=by rw[<-hz];unfold zM;simp[h1,h2]
   have q2:(y.kind==4)=false:=by simp[h2]
   clear h1 h2 hz hx hy;simp only[zW,Sg.pred];generalize zaB x y=n at *;generalize x.kind=xk at *;generalize x.mant=xm at *;generalize x.exp=xe at *;generalize x.text=xt at *;generalize x.truth=xb at *;generalize x.fault=xf at *;generalize y.kind=yk at *;generalize y.mant=ym at *;generalize y.exp=ye at *;generalize y.text=yt at *;generalize y.truth=yb at *;generalize y.fault=yf at *;go_enter func126,ntmps126;go_wp2_with (first | (go_at_call 182;with_reducible refine aM (hcm _) λos d=>?_) | (go_at_call 183;with_reducible refine aM (htr _ _) λos d=>?_));exact rc1 rfl rfl (by simp[go_sem]) ⟨rfl,by simp[go_sem]⟩
theorem zuL (x y w) (hx:x.right) (hy:y.right) (z) (hz:zM (Sg.pred .ne) x y=z) :
  Tl prog 62 #[.string ⟨#[60,62]⟩,VV x.kind x.mant x.exp x.text x.truth x.fault,VV y.kind y.mant y.exp y.text y.truth y.fault] w (VV z.kind z.mant z.exp z.text z.truth z.fault):=by
 have hlv:=λW=>zaG .ne W;simp only[Sg.key,Sg.level] at hlv;have htr:=λW=>zqF x y W hx hy z hz;clear hx hy hz;generalize x.kind=xk at *;generalize x.mant=xm at *;generalize x.exp=xe at *;generalize x.text=xt at *;generalize x.truth=xb at *;generalize x.fault=xf at *;generalize y.kind=yk at *;generalize y.mant=ym at *;generalize y.exp=ye at *;generalize y.text=yt at *;generalize y.truth=yb at *;generalize y.fault=yf at *;generalize z.kind=zk at *;generalize z.mant=zm at *;generalize z.exp=ze at *;generalize z.text=zt at *;generalize z.truth=zb at *;generalize z.fault=zf at *;go_enter func62,ntmps62;go_wp2_with (first | (go_at_call 61;with_reducible refine aM (hlv _) λos d=>?_) | (go_at_call 126;with_reducible refine aM (htr _) λos d=>?_));exact rc1 rfl rfl (by simp[go_sem]) ⟨rfl,by simp[go_sem]⟩
theorem zqG (x y w) (hx:x.right) (hy:y.right) (z) (hz:zM (Sg.pred .lt) x y=z) :
  Tl prog 126 #[.string ⟨#[60]⟩,VV x.kind x.mant x.exp x.text x.truth x.fault,VV y.kind y.mant y.exp y.text y.truth y.fault] w (VV z.kind z.mant z.exp z.text z.truth z.fault):=by
 have hcm:=λW=>zb5 x y W hx hy;have htr:=λb W=>zch b W;by_cases h1:x.kind=4
 ·obtain rfl:z=x:=by rw[<-hz];unfold zM;simp[h1]
  have q1:(z.kind==4)=true:=by simp[h1]
  clear h1 hz hx hy hcm htr;generalize z.kind=xk at *;generalize z.mant=xm at *;generalize z.exp=xe at *;generalize z.text=xt at *;generalize z.truth=xb at *;generalize z.fault=xf at *;generalize y.kind=yk at *;generalize y.mant=ym at *;generalize y.exp=ye at *;generalize y.text=yt at *;generalize y.truth=yb at *;generalize y.fault=yf at *;go_enter func126,ntmps126;go_wp2_with fail;exact rc1 rfl rfl (by simp[go_sem]) ⟨rfl,by simp[go_sem]⟩
 ·have q1:(x.kind==4)=false:=by simp[h1]
  by_cases h2:y.kind=4
  ·obtain rfl:z=y:=by rw[<-hz];unfold zM;simp[h1,h2]
   have q2:(z.kind==4)=true:=by simp[h2]
   clear h1 h2 hz hx hy hcm htr;generalize x.kind=xk at *;generalize x.mant=xm at *;generalize x.exp=xe at *;generalize x.text=xt at *;generalize x.truth=xb at *;generalize x.fault=xf at *;generalize z.kind=yk at *;generalize z.mant=ym at *;generalize z.exp=ye at *;generalize z.text=yt at *;generalize z.truth=yb at *;generalize z.fault=yf at *;go_enter func126,ntmps126;go_wp2_with fail;exact rc1 rfl rfl (by simp[go_sem]) ⟨rfl,by simp[go_sem]⟩
  ·obtain rfl:z=zW (Sg.pred .lt (zaB x y)):=by rw[<-hz];unfold zM;simp[h1,h2]
   have q2:(y.kind==4)=false:=by simp[h2]
   clear h1 h2 hz hx hy;simp only[zW,Sg.pred];generalize zaB x y=n at *;generalize x.kind=xk at *;generalize x.mant=xm at *;generalize x.exp=xe at *;generalize x.text=xt at *;generalize x.truth=xb at *;generalize x.fault=xf at *;generalize y.kind=yk at *;generalize y.mant=ym at *;generalize y.exp=ye at *;generalize y.text=yt at *;generalize y.truth=yb at *;generalize y.fault=yf at *;go_enter func126,ntmps126;go_wp2_with (first | (go_at_call 182;with_reducible refine aM (hcm _) λos d=>?_) | (go_at_call 183;with_reducible refine aM (htr _ _) λos d=>?_));exact rc1 rfl rfl (by simp[go_sem]) ⟨rfl,by simp[go_sem]⟩
theorem zuM (x y w) (hx:x.right) (hy:y.right) (z) (hz:zM (Sg.pred .lt) x y=z) :
  Tl prog 62 #[.string ⟨#[60]⟩,VV x.kind x.mant x.exp x.text x.truth x.fault,VV y.kind y.mant y.exp y.text y.truth y.fault] w (VV z.kind z.mant z.exp z.text z.truth z.fault):=by
 have hlv:=λW=>zaG .lt W;simp only[Sg.key,Sg.level] at hlv;have htr:=λW=>zqG x y W hx hy z hz;clear hx hy hz;generalize x.kind=xk at *;generalize x.mant=xm at *;generalize x.exp=xe at *;generalize x.text=xt at *;generalize x.truth=xb at *;generalize x.fault=xf at *;generalize y.kind=yk at *;generalize y.mant=ym at *;generalize y.exp=ye at *;generalize y.text=yt at *;generalize y.truth=yb at *;generalize y.fault=yf at *;generalize z.kind=zk at *;generalize z.mant=zm at *;generalize z.exp=ze at *;generalize z.text=zt at *;generalize z.truth=zb at *;generalize z.fault=zf at *;go_enter func62,ntmps62;go_wp2_with (first | (go_at_call 61;with_reducible refine aM (hlv _) λos d=>?_) | (go_at_call 126;with_reducible refine aM (htr _) λos d=>?_));exact rc1 rfl rfl (by simp[go_sem]) ⟨rfl,by simp[go_sem]⟩
theorem zqH (x y w) (hx:x.right) (hy:y.right) (z) (hz:zM (Sg.pred .le) x y=z) :
  Tl prog 126 #[.string ⟨#[60,61]⟩,VV x.kind x.mant x.exp x.text x.truth x.fault,VV y.kind y.mant y.exp y.text y.truth y.fault] w (VV z.kind z.mant z.exp z.text z.truth z.fault):=by
 have hcm:=λW=>zb5 x y W hx hy;have htr:=λb W=>zch b W;by_cases h1:x.kind=4
 ·obtain rfl:z=x:=by rw[<-hz];unfold zM;simp[h1]
  have q1:(z.kind==4)=true:=by simp[h1]
  clear h1 hz hx hy hcm htr;generalize z.kind=xk at *;generalize z.mant=xm at *;generalize z.exp=xe at *;generalize z.text=xt at *;generalize z.truth=xb at *;generalize z.fault=xf at *;generalize y.kind=yk at *;generalize y.mant=ym at *;generalize y.exp=ye at *;generalize y.text=yt at *;generalize y.truth=yb at *;generalize y.fault=yf at *;go_enter func126,ntmps126;go_wp2_with fail;exact rc1 rfl rfl (by simp[go_sem]) ⟨rfl,by simp[go_sem]⟩
 ·have q1:(x.kind==4)=false:=by simp[h1]
  by_cases h2:y.kind=4
  ·obtain rfl:z=y:=by rw[<-hz];unfold zM;simp[h1,h2]
   have q2:(z.kind==4)=true:=by simp[h2]
   clear h1 h2 hz hx hy hcm htr;generalize x.kind=xk at *;generalize x.mant=xm at *;generalize x.exp=xe at *;generalize x.text=xt at *;generalize x.truth=xb at *;generalize x.fault=xf at *;generalize z.kind=yk at *;generalize z.mant=ym at *;generalize z.exp=ye at *;generalize z.text=yt at *;generalize z.truth=yb at *;generalize z.fault=yf at *;go_enter func126,ntmps126;go_wp2_with fail;exact rc1 rfl rfl (by simp[go_sem]) ⟨rfl,by simp[go_sem]⟩
  ·obtain rfl:z=zW (Sg.pred .le (zaB x y)):=by rw[<-hz];unfold zM;simp[h1,h2]
   have q2:(y.kind==4)=false:=by simp[h2]
   clear h1 h2 hz hx hy;simp only[zW,Sg.pred];generalize zaB x y=n at *;generalize x.kind=xk at *;generalize x.mant=xm at *;generalize x.exp=xe at *;generalize x.text=xt at *;generalize x.truth=xb at *;generalize x.fault=xf at *;generalize y.kind=yk at *;generalize y.mant=ym at *;generalize y.exp=ye at *;generalize y.text=yt at *;generalize y.truth=yb at *;generalize y.fault=yf at *;go_enter func126,ntmps126;go_wp2_with (first | (go_at_call 182;with_reducible refine aM (hcm _) λos d=>?_) | (go_at_call 183;with_reducible refine aM (htr _ _) λos d=>?_));exact rc1 rfl rfl (by simp[go_sem]) ⟨rfl,by simp[go_sem]⟩
theorem zuN (x y w) (hx:x.right) (hy:y.right) (z) (hz:zM (Sg.pred .le) x y=z) :
  Tl prog 62 #[.string ⟨#[60,61]⟩,VV x.kind x.mant x.exp x.text x.truth x.fault,VV y.kind y.mant y.exp y.text y.truth y.fault] w (VV z.kind z.mant z.exp z.text z.truth z.fault):=by
 have hlv:=λW=>zaG .le W;simp only[Sg.key,Sg.level] at hlv;have htr:=λW=>zqH x y W hx hy z hz;clear hx hy hz;generalize x.kind=xk at *;generalize x.mant=xm at *;generalize x.exp=xe at *;generalize x.text=xt at *;generalize x.truth=xb at *;generalize x.fault=xf at *;generalize y.kind=yk at *;generalize y.mant=ym at *;generalize y.exp=ye at *;generalize y.text=yt at *;generalize y.truth=yb at *;generalize y.fault=yf at *;generalize z.kind=zk at *;generalize z.mant=zm at *;generalize z.exp=ze at *;generalize z.text=zt at *;generalize z.truth=zb at *;generalize z.fault=zf at *;go_enter func62,ntmps62;go_wp2_with (first | (go_at_call 61;with_reducible refine aM (hlv _) λos d=>?_) | (go_at_call 126;with_reducible refine aM (htr _) λos d=>?_));exact rc1 rfl rfl (by simp[go_sem]) ⟨rfl,by simp[go_sem]⟩
theorem zqI (x y w) (hx:x.right) (hy:y.right) (z) (hz:zM (Sg.pred .gt) x y=z) :
  Tl prog 126 #[.string ⟨#[62]⟩,VV x.kind x.mant x.exp x.text x.truth x.fault,VV y.kind y.mant y.exp y.text y.truth y.fault] w (VV z.kind z.mant z.exp z.text z.truth z.fault):=by
 have hcm:=λW=>zb5 x y W hx hy;have htr:=λb W=>zch b W;by_cases h1:x.kind=4
 ·obtain rfl:z=x:=by rw[<-hz];unfold zM;simp[h1]
  have q1:(z.kind==4)=true:=by simp[h1]
  clear h1 hz hx hy hcm htr;generalize z.kind=xk at *;generalize z.mant=xm at *;generalize z.exp=xe at *;generalize z.text=xt at *;generalize z.truth=xb at *;generalize z.fault=xf at *;generalize y.kind=yk at *;generalize y.mant=ym at *;generalize y.exp=ye at *;generalize y.text=yt at *;generalize y.truth=yb at *;generalize y.fault=yf at *;go_enter func126,ntmps126;go_wp2_with fail;exact rc1 rfl rfl (by simp[go_sem]) ⟨rfl,by simp[go_sem]⟩
 ·have q1:(x.kind==4)=false:=by simp[h1]
  by_cases h2:y.kind=4
  ·obtain rfl:z=y:=by rw[<-hz];unfold zM;simp[h1,h2]
   have q2:(z.kind==4)=true:=by simp[h2]
   clear h1 h2 hz hx hy hcm htr;generalize x.kind=xk at *;generalize x.mant=xm at *;generalize x.exp=xe at *;generalize x.text=xt at *;generalize x.truth=xb at *;generalize x.fault=xf at *;generalize z.kind=yk at *;generalize z.mant=ym at *;generalize z.exp=ye at *;generalize z.text=yt at *;generalize z.truth=yb at *;generalize z.fault=yf at *;go_enter func126,ntmps126;go_wp2_with fail;exact rc1 rfl rfl (by simp[go_sem]) ⟨rfl,by simp[go_sem]⟩
  ·obtain rfl:z=zW (Sg.pred .gt (zaB x y)):=by rw[<-hz];unfold zM;simp[h1,h2]
   have q2:(y.kind==4)=false:=by simp[h2]
   clear h1 h2 hz hx hy;simp only[zW,Sg.pred];generalize zaB x y=n at *;generalize x.kind=xk at *;generalize x.mant=xm at *;generalize x.exp=xe at *;generalize x.text=xt at *;generalize x.truth=xb at *;generalize x.fault=xf at *;generalize y.kind=yk at *;generalize y.mant=ym at *;generalize y.exp=ye at *;generalize y.text=yt at *;generalize y.truth=yb at *;generalize y.fault=yf at *;go_enter func126,ntmps126;go_wp2_with (first | (go_at_call 182;with_reducible refine aM (hcm _) λos d=>?_) | (go_at_call 183;with_reducible refine aM (htr _ _) λos d=>?_));exact rc1 rfl rfl (by simp[go_sem]) ⟨rfl,by simp[go_sem]⟩
theorem zuO (x y w) (hx:x.right) (hy:y.right) (z) (hz:zM (Sg.pred .gt) x y=z) :
  Tl prog 62 #[.string ⟨#[62]⟩,VV x.kind x.mant x.exp x.text x.truth x.fault,VV y.kind y.mant y.exp y.text y.truth y.fault] w (VV z.kind z.mant z.exp z.text z.truth z.fault):=by
 have hlv:=λW=>zaG .gt W;simp only[Sg.key,Sg.level] at hlv;have htr:=λW=>zqI x y W hx hy z hz;clear hx hy hz;generalize x.kind=xk at *;generalize x.mant=xm at *;generalize x.exp=xe at *;generalize x.text=xt at *;generalize x.truth=xb at *;generalize x.fault=xf at *;generalize y.kind=yk at *;generalize y.mant=ym at *;generalize y.exp=ye at *;generalize y.text=yt at *;generalize y.truth=yb at *;generalize y.fault=yf at *;generalize z.kind=zk at *;generalize z.mant=zm at *;generalize z.exp=ze at *;generalize z.text=zt at *;generalize z.truth=zb at *;generalize z.fault=zf at *;go_enter func62,ntmps62;go_wp2_with (first | (go_at_call 61;with_reducible refine aM (hlv _) λos d=>?_) | (go_at_call 126;with_reducible refine aM (htr _) λos d=>?_));exact rc1 rfl rfl (by simp[go_sem]) ⟨rfl,by simp[go_sem]⟩
theorem zqJ (x y w) (hx:x.right) (hy:y.right) (z) (hz:zM (Sg.pred .ge) x y=z) :
  Tl prog 126 #[.string ⟨#[62,61]⟩,VV x.kind x.mant x.exp x.text x.truth x.fault,VV y.kind y.mant y.exp y.text y.truth y.fault] w (VV z.kind z.mant z.exp z.text z.truth z.fault):=by
 have hcm:=λW=>zb5 x y W hx hy;have htr:=λb W=>zch b W;by_cases h1:x.kind=4
 ·obtain rfl:z=x:=by rw[<-hz];unfold zM;simp[h1]
  have q1:(z.kind==4)=true:=by simp[h1]
  clear h1 hz hx hy hcm htr;generalize z.kind=xk at *;generalize z.mant=xm at *;generalize z.exp=xe at *;generalize z.text=xt at *;generalize z.truth=xb at *;generalize z.fault=xf at *;generalize y.kind=yk at *;generalize y.mant=ym at *;generalize y.exp=ye at *;generalize y.text=yt at *;generalize y.truth=yb at *;generalize y.fault=yf at *;go_enter func126,ntmps126;go_wp2_with fail;exact rc1 rfl rfl (by simp[go_sem]) ⟨rfl,by simp[go_sem]⟩
 ·have q1:(x.kind==4)=false:=by simp[h1]
  by_cases h2:y.kind=4
  ·obtain rfl:z=y:=by rw[<-hz];unfold zM;simp[h1,h2]
   have q2:(z.kind==4)=true:=by simp[h2]
   clear h1 h2 hz hx hy hcm htr;generalize x.kind=xk at *;generalize x.mant=xm at *;generalize x.exp=xe at *;generalize x.text=xt at *;generalize x.truth=xb at *;generalize x.fault=xf at *;generalize z.kind=yk at *;generalize z.mant=ym at *;generalize z.exp=ye at *;generalize z.text=yt at *;generalize z.truth=yb at *;generalize z.fault=yf at *;go_enter func126,ntmps126;go_wp2_with fail;exact rc1 rfl rfl (by simp[go_sem]) ⟨rfl,by simp[go_sem]⟩
  ·obtain rfl:z=zW (Sg.pred .ge (zaB x y)):=by rw[<-hz];unfold zM;simp[h1,h2]
   have q2:(y.kind==4)=false:=by simp[h2]
   clear h1 h2 hz hx hy;simp only[zW,Sg.pred];generalize zaB x y=n at *;generalize x.kind=xk at *;generalize x.mant=xm at *;generalize x.exp=xe at *;generalize x.text=xt at *;generalize x.truth=xb at *;generalize x.fault=xf at *;generalize y.kind=yk at *;generalize y.mant=ym at *;generalize y.exp=ye at *;generalize y.text=yt at *;generalize y.truth=yb at *;generalize y.fault=yf at *;go_enter func126,ntmps126;go_wp2_with (first | (go_at_call 182;with_reducible refine aM (hcm _) λos d=>?_) | (go_at_call 183;with_reducible refine aM (htr _ _) λos d=>?_));exact rc1 rfl rfl (by simp[go_sem]) ⟨rfl,by simp[go_sem]⟩
theorem zuP (x y w) (hx:x.right) (hy:y.right) (z) (hz:zM (Sg.pred .ge) x y=z) :
  Tl prog 62 #[.string ⟨#[62,61]⟩,VV x.kind x.mant x.exp x.text x.truth x.fault,VV y.kind y.mant y.exp y.text y.truth y.fault] w (VV z.kind z.mant z.exp z.text z.truth z.fault):=by
 have hlv:=λW=>zaG .ge W;simp only[Sg.key,Sg.level] at hlv;have htr:=λW=>zqJ x y W hx hy z hz;clear hx hy hz;generalize x.kind=xk at *;generalize x.mant=xm at *;generalize x.exp=xe at *;generalize x.text=xt at *;generalize x.truth=xb at *;generalize x.fault=xf at *;generalize y.kind=yk at *;generalize y.mant=ym at *;generalize y.exp=ye at *;generalize y.text=yt at *;generalize y.truth=yb at *;generalize y.fault=yf at *;generalize z.kind=zk at *;generalize z.mant=zm at *;generalize z.exp=ze at *;generalize z.text=zt at *;generalize z.truth=zb at *;generalize z.fault=zf at *;go_enter func62,ntmps62;go_wp2_with (first | (go_at_call 61;with_reducible refine aM (hlv _) λos d=>?_) | (go_at_call 126;with_reducible refine aM (htr _) λos d=>?_));exact rc1 rfl rfl (by simp[go_sem]) ⟨rfl,by simp[go_sem]⟩
theorem zsk (x y w) (hx:x.right) (hy:y.right) (z) (hz:zd8 x y=z) :
  Tl prog 62 #[.string ⟨#[38]⟩,VV x.kind x.mant x.exp x.text x.truth x.fault,VV y.kind y.mant y.exp y.text y.truth y.fault] w (VV z.kind z.mant z.exp z.text z.truth z.fault):=by
 have hlv:=λW=>zaG .join W;simp only[Sg.key,Sg.level] at hlv;have ht1:=λW=>zhX x W hx;have ht2:=λW=>zhX y W hy;simp only[ttV] at ht1 ht2;have s1:=zhL hx;have s2:=zhL hy;by_cases h1:ttF x=0
 ·by_cases h2:ttF y=0
  ·obtain rfl:z=zQ (ttS x++ttS y):=by rw[<-hz];unfold zd8;simp[h1,h2]
   rw[h1] at ht1;rw[h2] at ht2;have htx:=λW=>zi4 (ttS x++ttS y) W (by rw[ByteArray.size_append];omega);have hsz:¬ 9223372036854775807<(ttS x).size+(ttS y).size:=by omega
   have e1:(zQ (ttS x++ttS y)).mant=0:=by unfold zQ;split <;> rfl
   have e2:(zQ (ttS x++ttS y)).exp=0:=by unfold zQ;split <;> rfl
   have e3:(zQ (ttS x++ttS y)).truth=false:=by unfold zQ;split <;> rfl
   rw[e1,e2,e3];clear hx hy hz h1 h2 e1 e2 e3 s1 s2;generalize (zQ (ttS x++ttS y)).kind=zk at *;generalize (zQ (ttS x++ttS y)).text=zt at *;generalize (zQ (ttS x++ttS y)).fault=zf at *;generalize ttS x=X at *;generalize ttS y=Y at *;generalize x.kind=xk at *;generalize x.mant=xm at *;generalize x.exp=xe at *;generalize x.text=xt at *;generalize x.truth=xb at *;generalize x.fault=xf at *;generalize y.kind=yk at *;generalize y.mant=ym at *;generalize y.exp=ye at *;generalize y.text=yt at *;generalize y.truth=yb at *;generalize y.fault=yf at *;go_enter func62,ntmps62;go_wp2_with (first | (go_at_call 61;with_reducible refine aM (hlv _) λos d=>?_) | (go_at_call 127;with_reducible refine aM (ht1 _) λos d=>?_) | (go_at_call 127;with_reducible refine aM (ht2 _) λos d=>?_) | (go_at_call 128;with_reducible refine aM (htx _) λos d=>?_));exact rc1 rfl rfl (by simp[go_sem]) ⟨rfl,by simp[go_sem]⟩
  ·obtain rfl:z=zx (ttF y):=by rw[<-hz];unfold zd8;simp[h1,h2]
   rw[h1] at ht1;have hbad:=λW=>zah (ttF y) W;have q0:(ttF y != 0)=true:=by simpa using h2
   generalize ttF y=f at *;simp only[zx,zz];clear hx hy hz h1 h2 s1 s2;generalize ttS x=X at *;generalize ttS y=Y at *;generalize x.kind=xk at *;generalize x.mant=xm at *;generalize x.exp=xe at *;generalize x.text=xt at *;generalize x.truth=xb at *;generalize x.fault=xf at *;generalize y.kind=yk at *;generalize y.mant=ym at *;generalize y.exp=ye at *;generalize y.text=yt at *;generalize y.truth=yb at *;generalize y.fault=yf at *;go_enter func62,ntmps62;go_wp2_with (first | (go_at_call 61;with_reducible refine aM (hlv _) λos d=>?_) | (go_at_call 127;with_reducible refine aM (ht1 _) λos d=>?_) | (go_at_call 127;with_reducible refine aM (ht2 _) λos d=>?_) | (go_at_call 63;with_reducible refine aM (hbad _) λos d=>?_));exact rc1 rfl rfl (by simp[go_sem]) ⟨rfl,by simp[go_sem]⟩
 ·obtain rfl:z=zx (ttF x):=by rw[<-hz];unfold zd8;simp[h1]
  have hbad:=λW=>zah (ttF x) W;have q0:(ttF x != 0)=true:=by simpa using h1
  generalize ttF x=f at *;simp only[zx,zz];clear hx hy hz h1 s1 s2 ht2;generalize ttS x=X at *;generalize x.kind=xk at *;generalize x.mant=xm at *;generalize x.exp=xe at *;generalize x.text=xt at *;generalize x.truth=xb at *;generalize x.fault=xf at *;generalize y.kind=yk at *;generalize y.mant=ym at *;generalize y.exp=ye at *;generalize y.text=yt at *;generalize y.truth=yb at *;generalize y.fault=yf at *;go_enter func62,ntmps62;go_wp2_with (first | (go_at_call 61;with_reducible refine aM (hlv _) λos d=>?_) | (go_at_call 127;with_reducible refine aM (ht1 _) λos d=>?_) | (go_at_call 63;with_reducible refine aM (hbad _) λos d=>?_));exact rc1 rfl rfl (by simp[go_sem]) ⟨rfl,by simp[go_sem]⟩
theorem ztB (x y w) (hx:x.right) (hy:y.right) (z) (hz:zad addS x y=z) :
  Tl prog 62 #[.string ⟨#[43]⟩,VV x.kind x.mant x.exp x.text x.truth x.fault,VV y.kind y.mant y.exp y.text y.truth y.fault] w (VV z.kind z.mant z.exp z.text z.truth z.fault):=by
 have hlv:=λW=>zaG .add W;simp only[Sg.key,Sg.level] at hlv;have ht1:=λW=>zaS x W hx;have ht2:=λW=>zaS y W hy;simp only[tnV] at ht1 ht2;by_cases h1:tnF x=0
 ·rw[h1] at ht1;by_cases h2:tnF y=0
  ·rw[h2] at ht2;have rx:=zay hx;have ry:=zay hy;obtain rfl:z=zo (addS (tnP x).1 (tnP x).2 (tnP y).1 (tnP y).2):=by rw[<-hz];unfold zad;simp[h1,h2]
   have hfn:=λW=>ze8 (tnP x).1 (tnP x).2 (tnP y).1 (tnP y).2 W (zR rx).1 (zR ry).1;have htd:=λW=>zdY (addS (tnP x).1 (tnP x).2 (tnP y).1 (tnP y).2) W;clear hx hy hz h1 h2 rx ry;generalize addS (tnP x).1 (tnP x).2 (tnP y).1 (tnP y).2=R at *;generalize (tnP x).1=a at *;generalize (tnP x).2=b at *;generalize (tnP y).1=c at *;generalize (tnP y).2=d at *;generalize zo R=z at *;simp only[rnV] at hfn;generalize x.kind=xk at *;generalize x.mant=xm at *;generalize x.exp=xe at *;generalize x.text=xt at *;generalize x.truth=xb at *;generalize x.fault=xf at *;generalize y.kind=yk at *;generalize y.mant=ym at *;generalize y.exp=ye at *;generalize y.text=yt at *;generalize y.truth=yb at *;generalize y.fault=yf at *;generalize z.kind=zk at *;generalize z.mant=zm at *;generalize z.exp=ze at *;generalize z.text=zt at *;generalize z.truth=zb at *;generalize z.fault=zf at *;go_enter func62,ntmps62;go_wp2_with (first | (go_at_call 61;with_reducible refine aM (hlv _) λos d=>?_) | (go_at_call 64;with_reducible refine aM (ht1 _) λos d=>?_) | (go_at_call 64;with_reducible refine aM (ht2 _) λos d=>?_) | (go_at_call 130;with_reducible refine aM (hfn _) λos d=>?_) | (go_at_call 129;with_reducible refine aM (htd _) λos d=>?_));exact rc1 rfl rfl (by simp[go_sem]) ⟨rfl,by simp[go_sem]⟩
  ·obtain rfl:z=zx (tnF y):=by rw[<-hz];unfold zad;simp[h1,h2]
   have hbad:=λW=>zah (tnF y) W;have q0:(tnF y != 0)=true:=by simpa using h2
   generalize tnF y=f at *;simp only[zx,zz];clear hx hy hz h1 h2;generalize (tnP x).1=a at *;generalize (tnP x).2=b at *;generalize (tnP y).1=c at *;generalize (tnP y).2=d at *;generalize x.kind=xk at *;generalize x.mant=xm at *;generalize x.exp=xe at *;generalize x.text=xt at *;generalize x.truth=xb at *;generalize x.fault=xf at *;generalize y.kind=yk at *;generalize y.mant=ym at *;generalize y.exp=ye at *;generalize y.text=yt at *;generalize y.truth=yb at *;generalize y.fault=yf at *;go_enter func62,ntmps62;go_wp2_with (first | (go_at_call 61;with_reducible refine aM (hlv _) λos d=>?_) | (go_at_call 64;with_reducible refine aM (ht1 _) λos d=>?_) | (go_at_call 64;with_reducible refine aM (ht2 _) λos d=>?_) | (go_at_call 63;with_reducible refine aM (hbad _) λos d=>?_));exact rc1 rfl rfl (by simp[go_sem]) ⟨rfl,by simp[go_sem]⟩
 ·obtain rfl:z=zx (tnF x):=by rw[<-hz];unfold zad;simp[h1]
  have hbad:=λW=>zah (tnF x) W;have q0:(tnF x != 0)=true:=by simpa using h1
  generalize tnF x=f at *;simp only[zx,zz];clear hx hy hz h1 ht2;generalize (tnP x).1=a at *;generalize (tnP x).2=b at *;generalize x.kind=xk at *;generalize x.mant=xm at *;generalize x.exp=xe at *;generalize x.text=xt at *;generalize x.truth=xb at *;generalize x.fault=xf at *;generalize y.kind=yk at *;generalize y.mant=ym at *;generalize y.exp=ye at *;generalize y.text=yt at *;generalize y.truth=yb at *;generalize y.fault=yf at *;go_enter func62,ntmps62;go_wp2_with (first | (go_at_call 61;with_reducible refine aM (hlv _) λos d=>?_) | (go_at_call 64;with_reducible refine aM (ht1 _) λos d=>?_) | (go_at_call 63;with_reducible refine aM (hbad _) λos d=>?_));exact rc1 rfl rfl (by simp[go_sem]) ⟨rfl,by simp[go_sem]⟩
theorem ztC (x y w) (hx:x.right) (hy:y.right) (z) (hz:zad subS x y=z) :
  Tl prog 62 #[.string ⟨#[45]⟩,VV x.kind x.mant x.exp x.text x.truth x.fault,VV y.kind y.mant y.exp y.text y.truth y.fault] w (VV z.kind z.mant z.exp z.text z.truth z.fault):=by
 have hlv:=λW=>zaG .sub W;simp only[Sg.key,Sg.level] at hlv;have ht1:=λW=>zaS x W hx;have ht2:=λW=>zaS y W hy;simp only[tnV] at ht1 ht2;by_cases h1:tnF x=0
 ·rw[h1] at ht1;by_cases h2:tnF y=0
  ·rw[h2] at ht2;have rx:=zay hx;have ry:=zay hy;obtain rfl:z=zo (subS (tnP x).1 (tnP x).2 (tnP y).1 (tnP y).2):=by rw[<-hz];unfold zad;simp[h1,h2]
   have hfn:=λW=>zlf (tnP x).1 (tnP x).2 (tnP y).1 (tnP y).2 W (zR rx).1 (zR ry).1;have htd:=λW=>zdY (subS (tnP x).1 (tnP x).2 (tnP y).1 (tnP y).2) W;clear hx hy hz h1 h2 rx ry;generalize subS (tnP x).1 (tnP x).2 (tnP y).1 (tnP y).2=R at *;generalize (tnP x).1=a at *;generalize (tnP x).2=b at *;generalize (tnP y).1=c at *;generalize (tnP y).2=d at *;generalize zo R=z at *;simp only[rnV] at hfn;generalize x.kind=xk at *;generalize x.mant=xm at *;generalize x.exp=xe at *;generalize x.text=xt at *;generalize x.truth=xb at *;generalize x.fault=xf at *;generalize y.kind=yk at *;generalize y.mant=ym at *;generalize y.exp=ye at *;generalize y.text=yt at *;generalize y.truth=yb at *;generalize y.fault=yf at *;generalize z.kind=zk at *;generalize z.mant=zm at *;generalize z.exp=ze at *;generalize z.text=zt at *;generalize z.truth=zb at *;generalize z.fault=zf at *;go_enter func62,ntmps62;go_wp2_with (first | (go_at_call 61;with_reducible refine aM (hlv _) λos d=>?_) | (go_at_call 64;with_reducible refine aM (ht1 _) λos d=>?_) | (go_at_call 64;with_reducible refine aM (ht2 _) λos d=>?_) | (go_at_call 131;with_reducible refine aM (hfn _) λos d=>?_) | (go_at_call 129;with_reducible refine aM (htd _) λos d=>?_));exact rc1 rfl rfl (by simp[go_sem]) ⟨rfl,by simp[go_sem]⟩
  ·obtain rfl:z=zx (tnF y):=by rw[<-hz];unfold zad;simp[h1,h2]
   have hbad:=λW=>zah (tnF y) W;have q0:(tnF y != 0)=true:=by simpa using h2
   generalize tnF y=f at *;simp only[zx,zz];clear hx hy hz h1 h2;generalize (tnP x).1=a at *;generalize (tnP x).2=b at *;generalize (tnP y).1=c at *;generalize (tnP y).2=d at *;generalize x.kind=xk at *;generalize x.mant=xm at *;generalize x.exp=xe at *;generalize x.text=xt at *;generalize x.truth=xb at *;generalize x.fault=xf at *;generalize y.kind=yk at *;generalize y.mant=ym at *;generalize y.exp=ye at *;generalize y.text=yt at *;generalize y.truth=yb at *;generalize y.fault=yf at *;go_enter func62,ntmps62;go_wp2_with (first | (go_at_call 61;with_reducible refine aM (hlv _) λos d=>?_) | (go_at_call 64;with_reducible refine aM (ht1 _) λos d=>?_) | (go_at_call 64;with_reducible refine aM (ht2 _) λos d=>?_) | (go_at_call 63;with_reducible refine aM (hbad _) λos d=>?_));exact rc1 rfl rfl (by simp[go_sem]) ⟨rfl,by simp[go_sem]⟩
 ·obtain rfl:z=zx (tnF x):=by rw[<-hz];unfold zad;simp[h1]
  have hbad:=λW=>zah (tnF x) W;have q0:(tnF x != 0)=true:=by simpa using h1
  generalize tnF x=f at *;simp only[zx,zz];clear hx hy hz h1 ht2;generalize (tnP x).1=a at *;generalize (tnP x).2=b at *;generalize x.kind=xk at *;generalize x.mant=xm at *;generalize x.exp=xe at *;generalize x.text=xt at *;generalize x.truth=xb at *;generalize x.fault=xf at *;generalize y.kind=yk at *;generalize y.mant=ym at *;generalize y.exp=ye at *;generalize y.text=yt at *;generalize y.truth=yb at *;generalize y.fault=yf at *;go_enter func62,ntmps62;go_wp2_with (first | (go_at_call 61;with_reducible refine aM (hlv _) λos d=>?_) | (go_at_call 64;with_reducible refine aM (ht1 _) λos d=>?_) | (go_at_call 63;with_reducible refine aM (hbad _) λos d=>?_));exact rc1 rfl rfl (by simp[go_sem]) ⟨rfl,by simp[go_sem]⟩
theorem ztD (x y w) (hx:x.right) (hy:y.right) (z) (hz:zad mulS x y=z) :
  Tl prog 62 #[.string ⟨#[42]⟩,VV x.kind x.mant x.exp x.text x.truth x.fault,VV y.kind y.mant y.exp y.text y.truth y.fault] w (VV z.kind z.mant z.exp z.text z.truth z.fault):=by
 have hlv:=λW=>zaG .mul W;simp only[Sg.key,Sg.level] at hlv;have ht1:=λW=>zaS x W hx;have ht2:=λW=>zaS y W hy;simp only[tnV] at ht1 ht2;by_cases h1:tnF x=0
 ·rw[h1] at ht1;by_cases h2:tnF y=0
  ·rw[h2] at ht2;have rx:=zay hx;have ry:=zay hy;obtain rfl:z=zo (mulS (tnP x).1 (tnP x).2 (tnP y).1 (tnP y).2):=by rw[<-hz];unfold zad;simp[h1,h2]
   have hfn:=λW=>zgl (tnP x).1 (tnP x).2 (tnP y).1 (tnP y).2 W (zR rx).1 (zR ry).1;have htd:=λW=>zdY (mulS (tnP x).1 (tnP x).2 (tnP y).1 (tnP y).2) W;clear hx hy hz h1 h2 rx ry;generalize mulS (tnP x).1 (tnP x).2 (tnP y).1 (tnP y).2=R at *;generalize (tnP x).1=a at *;generalize (tnP x).2=b at *;generalize (tnP y).1=c at *;generalize (tnP y).2=d at *;generalize zo R=z at *;simp only[rnV] at hfn;generalize x.kind=xk at *;generalize x.mant=xm at *;generalize x.exp=xe at *;generalize x.text=xt at *;generalize x.truth=xb at *;generalize x.fault=xf at *;generalize y.kind=yk at *;generalize y.mant=ym at *;generalize y.exp=ye at *;generalize y.text=yt at *;generalize y.truth=yb at *;generalize y.fault=yf at *;generalize z.kind=zk at *;generalize z.mant=zm at *;generalize z.exp=ze at *;generalize z.text=zt at *;generalize z.truth=zb at *;generalize z.fault=zf at *;go_enter func62,ntmps62;go_wp2_with (first | (go_at_call 61;with_reducible refine aM (hlv _) λos d=>?_) | (go_at_call 64;with_reducible refine aM (ht1 _) λos d=>?_) | (go_at_call 64;with_reducible refine aM (ht2 _) λos d=>?_) | (go_at_call 132;with_reducible refine aM (hfn _) λos d=>?_) | (go_at_call 129;with_reducible refine aM (htd _) λos d=>?_));exact rc1 rfl rfl (by simp[go_sem]) ⟨rfl,by simp[go_sem]⟩
  ·obtain rfl:z=zx (tnF y):=by rw[<-hz];unfold zad;simp[h1,h2]
   have hbad:=λW=>zah (tnF y) W;have q0:(tnF y != 0)=true:=by simpa using h2
   generalize tnF y=f at *;simp only[zx,zz];clear hx hy hz h1 h2;generalize (tnP x).1=a at *;generalize (tnP x).2=b at *;generalize (tnP y).1=c at *;generalize (tnP y).2=d at *;generalize x.kind=xk at *;generalize x.mant=xm at *;generalize x.exp=xe at *;generalize x.text=xt at *;generalize x.truth=xb at *;generalize x.fault=xf at *;generalize y.kind=yk at *;generalize y.mant=ym at *;generalize y.exp=ye at *;generalize y.text=yt at *;generalize y.truth=yb at *;generalize y.fault=yf at *;go_enter func62,ntmps62;go_wp2_with (first | (go_at_call 61;with_reducible refine aM (hlv _) λos d=>?_) | (go_at_call 64;with_reducible refine aM (ht1 _) λos d=>?_) | (go_at_call 64;with_reducible refine aM (ht2 _) λos d=>?_) | (go_at_call 63;with_reducible refine aM (hbad _) λos d=>?_));exact rc1 rfl rfl (by simp[go_sem]) ⟨rfl,by simp[go_sem]⟩
 ·obtain rfl:z=zx (tnF x):=by rw[<-hz];unfold zad;simp[h1]
  have hbad:=λW=>zah (tnF x) W;have q0:(tnF x != 0)=true:=by simpa using h1
  generalize tnF x=f at *;simp only[zx,zz];clear hx hy hz h1 ht2;generalize (tnP x).1=a at *;generalize (tnP x).2=b at *;generalize x.kind=xk at *;generalize x.mant=xm at *;generalize x.exp=xe at *;generalize x.text=xt at *;generalize x.truth=xb at *;generalize x.fault=xf at *;generalize y.kind=yk at *;generalize y.mant=ym at *;generalize y.exp=ye at *;generalize y.text=yt at *;generalize y.truth=yb at *;generalize y.fault=yf at *;go_enter func62,ntmps62;go_wp2_with (first | (go_at_call 61;with_reducible refine aM (hlv _) λos d=>?_) | (go_at_call 64;with_reducible refine aM (ht1 _) λos d=>?_) | (go_at_call 63;with_reducible refine aM (hbad _) λos d=>?_));exact rc1 rfl rfl (by simp[go_sem]) ⟨rfl,by simp[go_sem]⟩
theorem ztE (x y w) (hx:x.right) (hy:y.right) (z) (hz:zdp x y=z) :
  Tl prog 62 #[.string ⟨#[47]⟩,VV x.kind x.mant x.exp x.text x.truth x.fault,VV y.kind y.mant y.exp y.text y.truth y.fault] w (VV z.kind z.mant z.exp z.text z.truth z.fault):=by
 have hlv:=λW=>zaG .div W;simp only[Sg.key,Sg.level] at hlv;have ht1:=λW=>zaS x W hx;have ht2:=λW=>zaS y W hy;simp only[tnV] at ht1 ht2;by_cases h1:tnF x=0
 ·rw[h1] at ht1;by_cases h2:tnF y=0
  ·rw[h2] at ht2;have rx:=zay hx;have ry:=zay hy;by_cases h0:(tnP y).1=0
   ·obtain rfl:z=zz 1:=by rw[<-hz];unfold zdp;simp[h1,h2,h0]
    have q0:((tnP y).1==0)=true:=by simpa using h0
    have hbad:=λW=>zah 1 W;rw[show zE 1=1 by decide] at hbad;simp only[zz];clear hx hy hz h1 h2 rx ry h0;generalize (tnP x).1=a at *;generalize (tnP x).2=b at *;generalize (tnP y).1=c at *;generalize (tnP y).2=d at *;generalize x.kind=xk at *;generalize x.mant=xm at *;generalize x.exp=xe at *;generalize x.text=xt at *;generalize x.truth=xb at *;generalize x.fault=xf at *;generalize y.kind=yk at *;generalize y.mant=ym at *;generalize y.exp=ye at *;generalize y.text=yt at *;generalize y.truth=yb at *;generalize y.fault=yf at *;go_enter func62,ntmps62;go_wp2_with (first | (go_at_call 61;with_reducible refine aM (hlv _) λos d=>?_) | (go_at_call 64;with_reducible refine aM (ht1 _) λos d=>?_) | (go_at_call 64;with_reducible refine aM (ht2 _) λos d=>?_) | (go_at_call 63;with_reducible refine aM (hbad _) λos d=>?_));exact rc1 rfl rfl (by simp[go_sem]) ⟨rfl,by simp[go_sem]⟩
   ·obtain rfl:z=zo (divS (tnP x).1 (tnP x).2 (tnP y).1 (tnP y).2):=by rw[<-hz];unfold zdp;simp[h1,h2,h0]
    have q0:((tnP y).1==0)=false:=by simpa using h0
    clear h0;have hfn:=λW=>zfb (tnP x).1 (tnP x).2 (tnP y).1 (tnP y).2 W (zR rx).1 (zR ry).1;have htd:=λW=>zdY (divS (tnP x).1 (tnP x).2 (tnP y).1 (tnP y).2) W;clear hx hy hz h1 h2 rx ry;generalize divS (tnP x).1 (tnP x).2 (tnP y).1 (tnP y).2=R at *;generalize (tnP x).1=a at *;generalize (tnP x).2=b at *;generalize (tnP y).1=c at *;generalize (tnP y).2=d at *;generalize zo R=z at *;simp only[rnV] at hfn;generalize x.kind=xk at *;generalize x.mant=xm at *;generalize x.exp=xe at *;generalize x.text=xt at *;generalize x.truth=xb at *;generalize x.fault=xf at *;generalize y.kind=yk at *;generalize y.mant=ym at *;generalize y.exp=ye at *;generalize y.text=yt at *;generalize y.truth=yb at *;generalize y.fault=yf at *;generalize z.kind=zk at *;generalize z.mant=zm at *;generalize z.exp=ze at *;generalize z.text=zt at *;generalize z.truth=zb at *;generalize z.fault=zf at *;go_enter func62,ntmps62;go_wp2_with (first | (go_at_call 61;with_reducible refine aM (hlv _) λos d=>?_) | (go_at_call 64;with_reducible refine aM (ht1 _) λos d=>?_) | (go_at_call 64;with_reducible refine aM (ht2 _) λos d=>?_) | (go_at_call 133;with_reducible refine aM (hfn _) λos d=>?_) | (go_at_call 129;with_reducible refine aM (htd _) λos d=>?_));exact rc1 rfl rfl (by simp[go_sem]) ⟨rfl,by simp[go_sem]⟩
  ·obtain rfl:z=zx (tnF y):=by rw[<-hz];unfold zdp;simp[h1,h2]
   have hbad:=λW=>zah (tnF y) W;have q0:(tnF y != 0)=true:=by simpa using h2
   generalize tnF y=f at *;simp only[zx,zz];clear hx hy hz h1 h2;generalize (tnP x).1=a at *;generalize (tnP x).2=b at *;generalize (tnP y).1=c at *;generalize (tnP y).2=d at *;generalize x.kind=xk at *;generalize x.mant=xm at *;generalize x.exp=xe at *;generalize x.text=xt at *;generalize x.truth=xb at *;generalize x.fault=xf at *;generalize y.kind=yk at *;generalize y.mant=ym at *;generalize y.exp=ye at *;generalize y.text=yt at *;generalize y.truth=yb at *;generalize y.fault=yf at *;go_enter func62,ntmps62;go_wp2_with (first | (go_at_call 61;with_reducible refine aM (hlv _) λos d=>?_) | (go_at_call 64;with_reducible refine aM (ht1 _) λos d=>?_) | (go_at_call 64;with_reducible refine aM (ht2 _) λos d=>?_) | (go_at_call 63;with_reducible refine aM (hbad _) λos d=>?_));exact rc1 rfl rfl (by simp[go_sem]) ⟨rfl,by simp[go_sem]⟩
 ·obtain rfl:z=zx (tnF x):=by rw[<-hz];unfold zdp;simp[h1]
  have hbad:=λW=>zah (tnF x) W;have q0:(tnF x != 0)=true:=by simpa using h1
  generalize tnF x=f at *;simp only[zx,zz];clear hx hy hz h1 ht2;generalize (tnP x).1=a at *;generalize (tnP x).2=b at *;generalize x.kind=xk at *;generalize x.mant=xm at *;generalize x.exp=xe at *;generalize x.text=xt at *;generalize x.truth=xb at *;generalize x.fault=xf at *;generalize y.kind=yk at *;generalize y.mant=ym at *;generalize y.exp=ye at *;generalize y.text=yt at *;generalize y.truth=yb at *;generalize y.fault=yf at *;go_enter func62,ntmps62;go_wp2_with (first | (go_at_call 61;with_reducible refine aM (hlv _) λos d=>?_) | (go_at_call 64;with_reducible refine aM (ht1 _) λos d=>?_) | (go_at_call 63;with_reducible refine aM (hbad _) λos d=>?_));exact rc1 rfl rfl (by simp[go_sem]) ⟨rfl,by simp[go_sem]⟩
theorem ztF (x y w) (hx:x.right) (hy:y.right) (z) (hz:zcG x y=z) :
  Tl prog 62 #[.string ⟨#[94]⟩,VV x.kind x.mant x.exp x.text x.truth x.fault,VV y.kind y.mant y.exp y.text y.truth y.fault] w (VV z.kind z.mant z.exp z.text z.truth z.fault):=by
 have hlv:=λW=>zaG .pow W;simp only[Sg.key,Sg.level] at hlv;have ht1:=λW=>zaS x W hx;have ht2:=λW=>zaS y W hy;simp only[tnV] at ht1 ht2;by_cases h1:tnF x=0
 ·rw[h1] at ht1;by_cases h2:tnF y=0
  ·rw[h2] at ht2;have rx:=zay hx;have ry:=zay hy;have hin:=λW=>zlw (tnP y).1 (tnP y).2 W (zR ry).1;simp only[inV] at hin;have hfw:=zmT ry;by_cases he:(tnP y).2<0
   ·have hne:zB (tnP y).1 (tnP y).2≠tnP y:=λh=>by have:=hfw.1 h;omega
    obtain rfl:z=zz 5:=by rw[<-hz];unfold zcG;simp[h1,h2,hne]
    have q0:decide ((tnP y).2<0)=true:=decide_eq_true he;have hbad:=λW=>zah 5 W;rw[show zE 5=5 by decide] at hbad;simp only[zz];clear hx hy hz h1 h2 rx ry he hne hfw;generalize hI:zbo (tnP y).1 (tnP y).2=I at *;generalize (tnP x).1=a at *;generalize (tnP x).2=b at *;generalize (tnP y).1=c at *;generalize (tnP y).2=d at *;generalize x.kind=xk at *;generalize x.mant=xm at *;generalize x.exp=xe at *;generalize x.text=xt at *;generalize x.truth=xb at *;generalize x.fault=xf at *;generalize y.kind=yk at *;generalize y.mant=ym at *;generalize y.exp=ye at *;generalize y.text=yt at *;generalize y.truth=yb at *;generalize y.fault=yf at *;go_enter func62,ntmps62;go_wp2_with (first | (go_at_call 61;with_reducible refine aM (hlv _) λos d=>?_) | (go_at_call 64;with_reducible refine aM (ht1 _) λos d=>?_) | (go_at_call 64;with_reducible refine aM (ht2 _) λos d=>?_) | (go_at_call 134;with_reducible refine aM (hin _) λos d=>?_) | (go_at_call 63;with_reducible refine aM (hbad _) λos d=>?_));exact rc1 rfl rfl (by simp[go_sem]) ⟨rfl,by simp[go_sem]⟩
   ·have heq:zB (tnP y).1 (tnP y).2=tnP y:=hfw.2 (by omega);have q0:decide ((tnP y).2<0)=false:=decide_eq_false he;clear hfw;by_cases hd:(tnP x).1=0∧(tnP y).1<0
    ·obtain rfl:z=zz 1:=by rw[<-hz];unfold zcG;simp[h1,h2,heq,hd]
     have q1:((tnP x).1==0)=true:=by simpa using hd.1
     have q2:decide ((tnP y).1<0)=true:=decide_eq_true hd.2;have hbad:=λW=>zah 1 W;rw[show zE 1=1 by decide] at hbad;simp only[zz];clear hx hy hz h1 h2 rx ry he heq hd;generalize hI:zbo (tnP y).1 (tnP y).2=I at *;generalize (tnP x).1=a at *;generalize (tnP x).2=b at *;generalize (tnP y).1=c at *;generalize (tnP y).2=d at *;generalize x.kind=xk at *;generalize x.mant=xm at *;generalize x.exp=xe at *;generalize x.text=xt at *;generalize x.truth=xb at *;generalize x.fault=xf at *;generalize y.kind=yk at *;generalize y.mant=ym at *;generalize y.exp=ye at *;generalize y.text=yt at *;generalize y.truth=yb at *;generalize y.fault=yf at *;go_enter func62,ntmps62;go_wp2_with (first | (go_at_call 61;with_reducible refine aM (hlv _) λos d=>?_) | (go_at_call 64;with_reducible refine aM (ht1 _) λos d=>?_) | (go_at_call 64;with_reducible refine aM (ht2 _) λos d=>?_) | (go_at_call 134;with_reducible refine aM (hin _) λos d=>?_) | (go_at_call 63;with_reducible refine aM (hbad _) λos d=>?_));exact rc1 rfl rfl (by simp[go_sem]) ⟨rfl,by simp[go_sem]⟩
    ·by_cases ha0:(tnP x).1=0
     ·have q1:((tnP x).1==0)=true:=by simpa using ha0
      have q2:decide ((tnP y).1<0)=false:=decide_eq_false (λh=>hd ⟨ha0,h⟩);clear ha0;cases hI0:zbo (tnP y).1 (tnP y).2 with
      | none=>
       obtain rfl:z=zz 5:=by rw[<-hz];unfold zcG;simp[h1,h2,heq,hd,hI0]
       rw[hI0] at hin;simp only[Option.getD_none,Option.isSome_none] at hin;have hbad:=λW=>zah 5 W;rw[show zE 5=5 by decide] at hbad;simp only[zz];clear hx hy hz h1 h2 rx ry he heq hd hI0;generalize (tnP x).1=a at *;generalize (tnP x).2=b at *;generalize (tnP y).1=c at *;generalize (tnP y).2=d at *;generalize x.kind=xk at *;generalize x.mant=xm at *;generalize x.exp=xe at *;generalize x.text=xt at *;generalize x.truth=xb at *;generalize x.fault=xf at *;generalize y.kind=yk at *;generalize y.mant=ym at *;generalize y.exp=ye at *;generalize y.text=yt at *;generalize y.truth=yb at *;generalize y.fault=yf at *;go_enter func62,ntmps62;go_wp2_with (first | (go_at_call 61;with_reducible refine aM (hlv _) λos d=>?_) | (go_at_call 64;with_reducible refine aM (ht1 _) λos d=>?_) | (go_at_call 64;with_reducible refine aM (ht2 _) λos d=>?_) | (go_at_call 134;with_reducible refine aM (hin _) λos d=>?_) | (go_at_call 63;with_reducible refine aM (hbad _) λos d=>?_));exact rc1 rfl rfl (by simp[go_sem]) ⟨rfl,by simp[go_sem]⟩
      | some n=>
       obtain rfl:z=zo (zbd (tnP x).1 (tnP x).2 n):=by rw[<-hz];unfold zcG;simp[h1,h2,heq,hd,hI0]
       rw[hI0] at hin;simp only[Option.getD_some,Option.isSome_some] at hin;have hni:=zgF hI0;have hfn:=λW=>zlm (tnP x).1 (tnP x).2 n W (zR rx).1 hni;have htd:=λW=>zdY (zbd (tnP x).1 (tnP x).2 n) W;clear hx hy hz h1 h2 rx ry he heq hd hI0 hni;generalize zbd (tnP x).1 (tnP x).2 n=R at *;generalize (tnP x).1=a at *;generalize (tnP x).2=b at *;generalize (tnP y).1=c at *;generalize (tnP y).2=d at *;generalize zo R=z at *;simp only[rnV] at hfn;generalize x.kind=xk at *;generalize x.mant=xm at *;generalize x.exp=xe at *;generalize x.text=xt at *;generalize x.truth=xb at *;generalize x.fault=xf at *;generalize y.kind=yk at *;generalize y.mant=ym at *;generalize y.exp=ye at *;generalize y.text=yt at *;generalize y.truth=yb at *;generalize y.fault=yf at *;generalize z.kind=zk at *;generalize z.mant=zm at *;generalize z.exp=ze at *;generalize z.text=zt at *;generalize z.truth=zb at *;generalize z.fault=zf at *;go_enter func62,ntmps62;go_wp2_with (first | (go_at_call 61;with_reducible refine aM (hlv _) λos d=>?_) | (go_at_call 64;with_reducible refine aM (ht1 _) λos d=>?_) | (go_at_call 64;with_reducible refine aM (ht2 _) λos d=>?_) | (go_at_call 134;with_reducible refine aM (hin _) λos d=>?_) | (go_at_call 135;with_reducible refine aM (hfn _) λos d=>?_) | (go_at_call 129;with_reducible refine aM (htd _) λos d=>?_));exact rc1 rfl rfl (by simp[go_sem]) ⟨rfl,by simp[go_sem]⟩
     ·have q1:((tnP x).1==0)=false:=by simpa using ha0
      clear ha0;cases hI0:zbo (tnP y).1 (tnP y).2 with
      | none=>
       obtain rfl:z=zz 5:=by rw[<-hz];unfold zcG;simp[h1,h2,heq,hd,hI0]
       rw[hI0] at hin;simp only[Option.getD_none,Option.isSome_none] at hin;have hbad:=λW=>zah 5 W;rw[show zE 5=5 by decide] at hbad;simp only[zz];clear hx hy hz h1 h2 rx ry he heq hd hI0;generalize (tnP x).1=a at *;generalize (tnP x).2=b at *;generalize (tnP y).1=c at *;generalize (tnP y).2=d at *;generalize x.kind=xk at *;generalize x.mant=xm at *;generalize x.exp=xe at *;generalize x.text=xt at *;generalize x.truth=xb at *;generalize x.fault=xf at *;generalize y.kind=yk at *;generalize y.mant=ym at *;generalize y.exp=ye at *;generalize y.text=yt at *;generalize y.truth=yb at *;generalize y.fault=yf at *;go_enter func62,ntmps62;go_wp2_with (first | (go_at_call 61;with_reducible refine aM (hlv _) λos d=>?_) | (go_at_call 64;with_reducible refine aM (ht1 _) λos d=>?_) | (go_at_call 64;with_reducible refine aM (ht2 _) λos d=>?_) | (go_at_call 134;with_reducible refine aM (hin _) λos d=>?_) | (go_at_call 63;with_reducible refine aM (hbad _) λos d=>?_));exact rc1 rfl rfl (by simp[go_sem]) ⟨rfl,by simp[go_sem]⟩
      | some n=>
       obtain rfl:z=zo (zbd (tnP x).1 (tnP x).2 n):=by rw[<-hz];unfold zcG;simp[h1,h2,heq,hd,hI0]
       rw[hI0] at hin;simp only[Option.getD_some,Option.isSome_some] at hin;have hni:=zgF hI0;have hfn:=λW=>zlm (tnP x).1 (tnP x).2 n W (zR rx).1 hni;have htd:=λW=>zdY (zbd (tnP x).1 (tnP x).2 n) W;clear hx hy hz h1 h2 rx ry he heq hd hI0 hni;generalize zbd (tnP x).1 (tnP x).2 n=R at *;generalize (tnP x).1=a at *;generalize (tnP x).2=b at *;generalize (tnP y).1=c at *;generalize (tnP y).2=d at *;generalize zo R=z at *;simp only[rnV] at hfn;generalize x.kind=xk at *;generalize x.mant=xm at *;generalize x.exp=xe at *;generalize x.text=xt at *;generalize x.truth=xb at *;generalize x.fault=xf at *;generalize y.kind=yk at *;generalize y.mant=ym at *;generalize y.exp=ye at *;generalize y.text=yt at *;generalize y.truth=yb at *;generalize y.fault=yf at *;generalize z.kind=zk at *;generalize z.mant=zm at *;generalize z.exp=ze at *;generalize z.text=zt at *;generalize z.truth=zb at *;generalize z.fault=zf at *;go_enter func62,ntmps62;go_wp2_with (first | (go_at_call 61;with_reducible refine aM (hlv _) λos d=>?_) | (go_at_call 64;with_reducible refine aM (ht1 _) λos d=>?_) | (go_at_call 64;with_reducible refine aM (ht2 _) λos d=>?_) | (go_at_call 134;with_reducible refine aM (hin _) λos d=>?_) | (go_at_call 135;with_reducible refine aM (hfn _) λos d=>?_) | (go_at_call 129;with_reducible refine aM (htd _) λos d=>?_));exact rc1 rfl rfl (by simp[go_sem]) ⟨rfl,by simp[go_sem]⟩
  ·obtain rfl:z=zx (tnF y):=by rw[<-hz];unfold zcG;simp[h1,h2]
   have hbad:=λW=>zah (tnF y) W;have q0:(tnF y != 0)=true:=by simpa using h2
   generalize tnF y=f at *;simp only[zx,zz];clear hx hy hz h1 h2;generalize (tnP x).1=a at *;generalize (tnP x).2=b at *;generalize (tnP y).1=c at *;generalize (tnP y).2=d at *;generalize x.kind=xk at *;generalize x.mant=xm at *;generalize x.exp=xe at *;generalize x.text=xt at *;generalize x.truth=xb at *;generalize x.fault=xf at *;generalize y.kind=yk at *;generalize y.mant=ym at *;generalize y.exp=ye at *;generalize y.text=yt at *;generalize y.truth=yb at *;generalize y.fault=yf at *;go_enter func62,ntmps62;go_wp2_with (first | (go_at_call 61;with_reducible refine aM (hlv _) λos d=>?_) | (go_at_call 64;with_reducible refine aM (ht1 _) λos d=>?_) | (go_at_call 64;with_reducible refine aM (ht2 _) λos d=>?_) | (go_at_call 63;with_reducible refine aM (hbad _) λos d=>?_));exact rc1 rfl rfl (by simp[go_sem]) ⟨rfl,by simp[go_sem]⟩
 ·obtain rfl:z=zx (tnF x):=by rw[<-hz];unfold zcG;simp[h1]
  have hbad:=λW=>zah (tnF x) W;have q0:(tnF x != 0)=true:=by simpa using h1
  generalize tnF x=f at *;simp only[zx,zz];clear hx hy hz h1 ht2;generalize (tnP x).1=a at *;generalize (tnP x).2=b at *;generalize x.kind=xk at *;generalize x.mant=xm at *;generalize x.exp=xe at *;generalize x.text=xt at *;generalize x.truth=xb at *;generalize x.fault=xf at *;generalize y.kind=yk at *;generalize y.mant=ym at *;generalize y.exp=ye at *;generalize y.text=yt at *;generalize y.truth=yb at *;generalize y.fault=yf at *;go_enter func62,ntmps62;go_wp2_with (first | (go_at_call 61;with_reducible refine aM (hlv _) λos d=>?_) | (go_at_call 64;with_reducible refine aM (ht1 _) λos d=>?_) | (go_at_call 63;with_reducible refine aM (hbad _) λos d=>?_));exact rc1 rfl rfl (by simp[go_sem]) ⟨rfl,by simp[go_sem]⟩
theorem zji {x} (h:valRight x=true):zaQ x=x:=by unfold zaQ;rw[if_pos h]
theorem map_take {t:Val->Val} {l k} (h:k<l.length):(l.map t).take (k+1)=(l.map t).take k++[t (zaI l k)]:=by
 rw[List.take_succ_eq_append_getElem (by rw[List.length_map];exact h),List.getElem_map,zjK h]
end Go.Proofs.YtinjdacijiohiaaGreatDoor
namespace Go.Proofs.YtinjdacijiohiaaGreatDoor
open _root_.Go.Proofs.Tryz
open Go.RowKit
theorem zdZ {W W'} {p:Nat} {o} (h:W.heap[p]? = some o) (hx:Ext W W'):W'.heap[p]? = some o:=(hx.block (zG h)).trans h
theorem Acc.row_kept {w0 s0 r c A cap k l} {wr w1 w3:World} (_h:Acc w0 s0 r c A cap k l wr) {p o} (hp:(Value.slice A k cap).ownBlock≠some p) (hg:w1.grownBy w3 (Value.slice A k cap).ownBlock) (hr:w1.heap[p]? = some o):w3.heap[p]? = some o:=by
 rw[hg.block p (zG hr) (λe=>hp e.symm)];exact hr
theorem Acc.own_ne {w0 s0 r c A cap k l wr} (h:Acc w0 s0 r c A cap k l wr) {p} (hp:wr.heap.size<=p):(Value.slice A k cap).ownBlock≠some p:=λe=>by have:=zub h.own _ e;omega
end Go.Proofs.YtinjdacijiohiaaGreatDoor
namespace Go.Proofs.YtinjdacijiohiaaGreatDoor
open _root_.Go.Proofs.Tryz
open Go.RowKit NM
theorem ztG (g:Sg) (x y w) (hx:x.right) (hy:y.right) :
  Tl prog 62 #[.string ⟨g.key.toArray⟩,VV x.kind x.mant x.exp x.text x.truth x.fault,VV y.kind y.mant y.exp y.text y.truth y.fault] w (VV (opV g x y).kind (opV g x y).mant (opV g x y).exp (opV g x y).text (opV g x y).truth (opV g x y).fault):=by
 cases g
 ·exact ztB x y w hx hy _ rfl
 ·exact ztC x y w hx hy _ rfl
 ·exact ztD x y w hx hy _ rfl
 ·exact ztE x y w hx hy _ rfl
 ·exact ztF x y w hx hy _ rfl
 ·exact zsk x y w hx hy _ rfl
 ·exact zuK x y w hx hy _ rfl
 ·exact zuL x y w hx hy _ rfl
 ·exact zuM x y w hx hy _ rfl
 ·exact zuN x y w hx hy _ rfl
 ·exact zuO x y w hx hy _ rfl
 ·exact zuP x y w hx hy _ rfl
theorem ziy (g:Sg):(g.level==0)=false:=by cases g <;> rfl
theorem zkK (g:Sg) (r c r' c' A B n cap n' cap' l l' w) (h:ArrIn w A n cap l) (h':ArrIn w B n' cap' l') (hr:(zA r c l&&zA r' c' l')=false) :
  Calls prog 21 #[.string ⟨g.key.toArray⟩,AV r c (.slice A n cap),AV r' c' (.slice B n' cap')] w λe w'=>∃ D m cc,e = .returned (.tuple #[AV 1 1 (.slice D m cc),.bool true])∧ArrN w.heap.size w' D m cc [bad9]∧Ext w w':=by
 have hlv:=λW=>zaG g W;have q:=ziy g;generalize g.level=lv at *;generalize (⟨g.key.toArray⟩:ByteArray)=sb at *;by_cases hq1:zA r c l=true
 ·have hf1:zas r c l=true:=by rw[<-za7 _ _ l h.ok];exact hq1
  have hf2:zas r' c' l'=false:=by rw[<-za7 _ _ l' h'.ok];simpa[hq1] using hr
  clear hr hq1;go_enter func21,ntmps21;go_wp2_with (go_at_call 61;with_reducible refine aM (hlv _) λos d=>?_);refine aM (zan _ _ _ _ _ _ _ (h.ext (by simp[go_sem]))) λos1 d1=>?_;go_wp2_with fail;refine aM (zan _ _ _ _ _ _ _ (h'.ext (by simp[go_sem]))) λos2 d2=>?_;go_wp2_with fail;refine(zd7 9 _).mono ?_;rintro e w' ⟨⟨D,cc,rfl,hs,hcc⟩,hb⟩;obtain⟨os2,d2,rfl⟩:=hb.more;clear hb;go_wp2_with fail;exact rct rfl rfl (by simp[go_sem]) ⟨D,1,cc,rfl,⟨(by(try simp only[zc,zj,zh,Array.append_assoc] at hs);exact hs.sw (by simp <;> omega)),rfl,hcc,by omega,by simpa using zf6⟩,by simp[go_sem]⟩
 ·have hf1:zas r c l=false:=by rw[<-za7 _ _ l h.ok];simpa using hq1
  clear hr hq1;go_enter func21,ntmps21;go_wp2_with (go_at_call 61;with_reducible refine aM (hlv _) λos d=>?_);refine aM (zan _ _ _ _ _ _ _ (h.ext (by simp[go_sem]))) λos1 d1=>?_;go_wp2_with fail;refine(zd7 9 _).mono ?_;rintro e w' ⟨⟨D,cc,rfl,hs,hcc⟩,hb⟩;obtain⟨os2,d2,rfl⟩:=hb.more;clear hb;go_wp2_with fail;exact rct rfl rfl (by simp[go_sem]) ⟨D,1,cc,rfl,⟨(by(try simp only[zc,zj,zh,Array.append_assoc] at hs);exact hs.sw (by simp <;> omega)),rfl,hcc,by omega,by simpa using zf6⟩,by simp[go_sem]⟩
theorem zkL (g:Sg) (R1 C1 R2 C2:Nat) (A B n cap n' cap' l l' w) (h:ArrIn w A n cap l) (h':ArrIn w B n' cap' l') (hr1:zA R1 C1 l=true) (hr2:zA R2 C2 l'=true) (hf:¬ max R1 R2*max C1 C2<=4096) :
  Calls prog 21 #[.string ⟨g.key.toArray⟩,AV R1 C1 (.slice A n cap),AV R2 C2 (.slice B n' cap')] w λe w'=>∃ D m cc,e = .returned (.tuple #[AV 1 1 (.slice D m cc),.bool true])∧ArrN w.heap.size w' D m cc [zz 5]∧Ext w w':=by
 have hlv:=λW=>zaG g W;have q:=ziy g;generalize g.level=lv at *;generalize (⟨g.key.toArray⟩:ByteArray)=sb at *;have hf1:zas R1 C1 l=true:=by rw[<-za7 _ _ l h.ok];exact hr1
 have hf2:zas R2 C2 l'=true:=by rw[<-za7 _ _ l' h'.ok];exact hr2
 obtain⟨a1,a2,a3,a4,a5,a6⟩:=za5 hr1;obtain⟨b1,b2,b3,b4,b5,b6⟩:=za5 hr2;have HCM:Hid ((zak R1 C1 R2 C2).getD (0,0)=(0,0)∧(zak R1 C1 R2 C2).isSome=false):=by show _∧_;simp[zak,hf]
 clear hf a3 a4 b3 b4;go_enter func21,ntmps21;go_wp2_with (go_at_call 61;with_reducible refine aM (hlv _) λos d=>?_);refine aM (zan _ _ _ _ _ _ _ (h.ext (by simp[go_sem]))) λos1 d1=>?_;go_wp2_with fail;refine aM (zan _ _ _ _ _ _ _ (h'.ext (by simp[go_sem]))) λos2 d2=>?_;go_wp2_with fail;refine aM (zew R1 C1 R2 C2 _ _ _ _ _ _ _ ⟨a1,a5⟩ ⟨a2,a6⟩ ⟨b1,b5⟩ ⟨b2,b6⟩ 0 0 false HCM.out.1 HCM.out.2) λos3 d3=>?_;go_wp2_with fail;refine(zd7 5 _).mono ?_;rintro e w' ⟨⟨D,cc,rfl,hs,hcc⟩,hb⟩;obtain⟨os2,d2,rfl⟩:=hb.more;clear hb;go_wp2_with fail;exact rct rfl rfl (by simp[go_sem]) ⟨D,1,cc,rfl,⟨(by(try simp only[zc,zj,zh,Array.append_assoc] at hs);exact hs.sw (by simp <;> omega)),rfl,hcc,by omega,by simpa using zhG 5 ⟨by omega,by omega⟩⟩,by simp[go_sem]⟩
theorem zkM (g:Sg) (R1 C1 R2 C2:Nat) (A B n cap n' cap' l l' w) (h:ArrIn w A n cap l) (h':ArrIn w B n' cap' l') (hr1:zA R1 C1 l=true) (hr2:zA R2 C2 l'=true) (hf:max R1 R2*max C1 C2<=4096) :
  Calls prog 21 #[.string ⟨g.key.toArray⟩,AV R1 C1 (.slice A n cap),AV R2 C2 (.slice B n' cap')] w λe w'=>∃ D m cc,e = .returned (.tuple #[AV (max R1 R2:Nat) (max C1 C2:Nat) (.slice D m cc),.bool true])∧ArrN w.heap.size w' D m cc (zdA (opV g) R1 C1 l R2 C2 l')∧Ext w w':=by
 obtain⟨i0,hi0,hz0,hz1,hz2⟩:=info_parts zcn;have hlv:=λW=>zaG g W;have q:=ziy g;have ho2:=λx y W hx hy=>ztG g x y W hx hy;generalize g.level=lv at *;generalize (⟨g.key.toArray⟩:ByteArray)=sb at *;have hb6:=λW=>zah 6 W;rw[show zE 6=6 by decide] at hb6;have hf1:zas R1 C1 l=true:=by rw[<-za7 _ _ l h.ok];exact hr1
 have hf2:zas R2 C2 l'=true:=by rw[<-za7 _ _ l' h'.ok];exact hr2
 obtain⟨a1,a2,a3,a4,a5,a6⟩:=za5 hr1;obtain⟨b1,b2,b3,b4,b5,b6⟩:=za5 hr2;have HN:=Lib.hid (And.intro (show n=R1*C1 by have:=h.len;omega) (show n'=R2*C2 by have:=h'.len;omega));have hN1:n<=4096:=by have:=HN.out;omega
 have hN2:n'<=4096:=by have:=HN.out;omega
 have HL:=Lib.hid (And.intro a4 b4);have HRR:=Lib.hid (And.intro (zC.1 hr1).2.2.2.2 (zC.1 hr2).2.2.2.2);have HCM:Hid ((zak R1 C1 R2 C2).getD (0,0)=(max R1 R2,max C1 C2)∧(zak R1 C1 R2 C2).isSome=true):=by show _∧_;simp[zak,hf]
 have HOK:=Lib.hid (zir (t:=opV g) (λx y _ _ p q=>zsx g x y p q) HL.out.1 HL.out.2 h.ok h'.ok HRR.out.1 HRR.out.2);have HLEN:=zfl (opV g) R1 C1 l R2 C2 l';have HF:=Lib.hid hf;have hm1:1<=max R1 R2:=by omega
 have hm2:1<=max C1 C2:=by omega
 have hm3:max R1 R2<=4096:=by omega
 have hm4:max C1 C2<=4096:=by omega
 clear a3 a4 b3 b4 hf;unfold zdA at HOK HLEN⊢;generalize max R1 R2=M at *;generalize max C1 C2=N at *;have hMN:=HF.out;generalize hGG:(λi j=>zcK (opV g) (zr R1 C1 l i j) (zr R2 C2 l' i j))=GG at *;have HGG:=Lib.hid hGG;clear hGG;go_enter func21,ntmps21;go_wp2_with (go_at_call 61;with_reducible refine aM (hlv _) λos d=>?_);refine aM (zan _ _ _ _ _ _ _ (h.ext (by simp[go_sem]))) λos1 d1=>?_;go_wp2_with fail;refine aM (zan _ _ _ _ _ _ _ (h'.ext (by simp[go_sem]))) λos2 d2=>?_;go_wp2_with fail;refine aM (zew R1 C1 R2 C2 _ _ _ _ _ _ _ ⟨a1,a5⟩ ⟨a2,a6⟩ ⟨b1,b5⟩ ⟨b2,b6⟩ M N true HCM.out.1 HCM.out.2) λos3 d3=>?_;go_wp2_with fail;have hst:=Acc.start (more (((w.alloc (.cells #[.int .i64 R1,.int .i64 C1,.slice A n cap] 27)).alloc (.cells #[.int .i64 R2,.int .i64 C2,.slice B n' cap'] 27)).alloc (.cells #[.int .i64 0,.int .i64 0,.slice none 0 0] 27)) (os++(os1++(os2++os3))) d3) M N;have hsz0:(more (((w.alloc (.cells #[.int .i64 R1,.int .i64 C1,.slice A n cap] 27)).alloc (.cells #[.int .i64 R2,.int .i64 C2,.slice B n' cap'] 27)).alloc (.cells #[.int .i64 0,.int .i64 0,.slice none 0 0] 27)) (os++(os1++(os2++os3))) d3).heap.size=(w.heap.size+1+1+1+(os.size+(os1.size+(os2.size+os3.size)))):=by simp
 rw[hsz0] at hst;generalize hps:(w.heap.size+1+1+1+(os.size+(os1.size+(os2.size+os3.size))))=ps at *;have hpsV:w.heap.size+1+1<ps:=by omega
 clear hps hsz0;go_loopw [12] (λi wr=>∃ (r cp:Nat) (G:Option Addr),r<=M∧i = .int .i64 r∧Acc (more (((w.alloc (.cells #[.int .i64 R1,.int .i64 C1,.slice A n cap] 27)).alloc (.cells #[.int .i64 R2,.int .i64 C2,.slice B n' cap'] 27)).alloc (.cells #[.int .i64 0,.int .i64 0,.slice none 0 0] 27)) (os++(os1++(os2++os3))) d3) ps M N G cp (r*N) (zbX GG N (r*N)) wr) (λi _=>M-(intOf i).toNat)
 case atStart=>exact⟨0,0,none,Nat.zero_le _,rfl,by simpa[zbX] using hst⟩
 case round=>
  clear hst;obtain⟨r,cp,G,hr,rfl,hacc⟩:=hrel;by_cases hlt:r<M
  ·go_wp2;obtain⟨wo,rfl⟩:∃ wo:World,wo=wr:=⟨_,rfl⟩;go_loopw [13] (λi wr=>∃ (j cp:Nat) (G:Option Addr),j<=N∧i = .int .i64 j∧Acc (more (((w.alloc (.cells #[.int .i64 R1,.int .i64 C1,.slice A n cap] 27)).alloc (.cells #[.int .i64 R2,.int .i64 C2,.slice B n' cap'] 27)).alloc (.cells #[.int .i64 0,.int .i64 0,.slice none 0 0] 27)) (os++(os1++(os2++os3))) d3) ps M N G cp (r*N+j) (zbX GG N (r*N+j)) wr) (λi _=>N-(intOf i).toNat)
   case atStart=>exact⟨0,cp,G,Nat.zero_le _,rfl,by simpa using hacc⟩
   case round=>
    clear hacc;obtain⟨j,cp,G,hj,rfl,hacc⟩:=hrel;have hlt0:=hacc.lt;by_cases hjt:j<N
    ·have hk:=(zcA M hlt hjt hMN).1;have g0:wr.cell? ⟨w.heap.size,0,none⟩=some (.int .i64 R1):=hacc.ext.cell_some (by simp[go_sem]);have g1:wr.cell? ⟨w.heap.size,1,none⟩=some (.int .i64 C1):=hacc.ext.cell_some (by simp[go_sem]);have g2:wr.cell? ⟨w.heap.size,2,none⟩=some (.slice A n cap):=hacc.ext.cell_some (by simp[go_sem]);have g3:wr.cell? ⟨w.heap.size+1,0,none⟩=some (.int .i64 R2):=hacc.ext.cell_some (by simp[go_sem]);have g4:wr.cell? ⟨w.heap.size+1,1,none⟩=some (.int .i64 C2):=hacc.ext.cell_some (by simp[go_sem]);have g5:wr.cell? ⟨w.heap.size+1,2,none⟩=some (.slice B n' cap'):=hacc.ext.cell_some (by simp[go_sem]);have y0:w.heap.size<wr.heap.size:=by omega
     have y1:w.heap.size+1<wr.heap.size:=by omega
     have hwW:Ext w wr:=Ext.trans (show Ext w (more (((w.alloc (.cells #[.int .i64 R1,.int .i64 C1,.slice A n cap] 27)).alloc (.cells #[.int .i64 R2,.int .i64 C2,.slice B n' cap'] 27)).alloc (.cells #[.int .i64 0,.int .i64 0,.slice none 0 0] 27)) (os++(os1++(os2++os3))) d3) from by simp[go_sem]) hacc.ext;have hA':=h.ext hwW;have hB':=h'.ext hwW;have hGv:GG r j=zcK (opV g) (zr R1 C1 l r j) (zr R2 C2 l' r j):=by rw[<-HGG.out]
     have hvs:=zg9 GG N r j hjt;generalize hx:zbU (zr R1 C1 l r j)=x;generalize hkx:(zr R1 C1 l r j).isSome=kx;generalize hy:zbU (zr R2 C2 l' r j)=y;generalize hky:(zr R2 C2 l' r j).isSome=ky;have HA:=Lib.hid (And.intro hx hkx);have HB:=Lib.hid (And.intro hy hky);cases hboth:(kx&&ky) with
     | false=>
      have hz:GG r j=zz 6:=by
       rw[hGv];cases e1:zr R1 C1 l r j with
       | none=>rfl
       | some x0=>
        cases e2:zr R2 C2 l' r j with
        | none=>rfl
        | some y0=>rw[<-hkx,<-hky,e1,e2] at hboth;cases hboth
      have HV:=Lib.hid (And.intro hz hvs);clear hz hvs hGv hx hkx hy hky;have hb2:kx=false∨kx=true∧ky=false:=by cases kx <;> simp_all
      clear hboth;rcases hb2 with rfl | ⟨rfl,rfl⟩
      all_goals
       go_wp2_with fail;refine aM (zdW R1 C1 r j A n cap l _ (hA'.ext (by simp[go_sem])) HN.out.1 hN1 x _ HA.out.1 HA.out.2) λos11 d11=>?_;go_wp2_with fail;refine aM (zdW R2 C2 r j B n' cap' l' _ (hB'.ext (by simp[go_sem])) HN.out.2 hN2 y _ HB.out.1 HB.out.2) λos12 d12=>?_;go_upto_region 19 with fail;refine zH λW5 hW5=>?_;have hx5:Ext wr W5:=by rw[hW5];exact by simp[go_sem]
       clear hW5 g0 g1 g2 g3 g4 g5;have hacc:=hacc.of_ext hx5;refine zdN (S:=zrL _ _ _ _ _ _ _) [(0,0),(1,0),(2,1),(3,1),(4,1),(5,0),(6,2)] [6] (by kernel_rfl) (by kernel_rfl) (by kernel_rfl) (λ_ _ d _ _ h=>by cases d <;> exact h) ⟨(hacc.of_ext (by simp[go_sem])).ext,(hacc.of_ext (by simp[go_sem])).row⟩ ?_
       (refine zn (v:=?_) rfl ?_ (λw1 h1=>?_) ?_;rotate_left 1;rfl;(obtain⟨h1e,h1r⟩:=h1;have c2:=cell_of_row _ _ 2 _ _ _ h1r;clear h1r;obtain⟨os1,d1,rfl⟩:=h1e.more;(try simp only[zc,Array.append_assoc] at c2);go_simp;first | done | rfl))
       try simp only[zq]
       (refine zn (v:=?_) rfl ?_ (λw1 h1=>?_) ?_;rotate_left 1;rfl;(obtain⟨h1e,h1r⟩:=h1;have c2:=cell_of_row _ _ 2 _ _ _ h1r;clear h1r;obtain⟨os1,d1,rfl⟩:=h1e.more;(try simp only[zc,Array.append_assoc] at c2);go_simp;first | done | rfl))
       try simp only[zq]
       (refine zg rfl ?_ (λK hK=>?_);rfl;go_simp;refine aM (hb6 _) λos d=>?_;refine hK _ _ ⟨(hacc.of_ext (by simp[go_sem])).ext,(hacc.of_ext (by simp[go_sem])).row⟩ ?_)
       try simp only[zq]
       (refine zg rfl ?_ (λK hK=>?_);rfl;go_simp;refine hK _ _ ⟨(hacc.of_ext (by simp[go_sem])).ext,(hacc.of_ext (by simp[go_sem])).row⟩ ?_)
       try simp only[zq]
       (refine zg rfl ?_ (λK hK=>?_);rfl)
       refine zeD _ _ _ _ rfl _ 38 i0 (VV 0 0 0 ⟨#[]⟩ false 0) 6 56 Tryz.underlying25 hi0 hz0 hz1 hz2 rfl (by decide) _ _ _ rfl (zL hacc.own (by simp[go_sem])) _ 1 1 (Val.cells (zz 6)) rfl rfl (zap _ _ _ (by simp) rfl _) (zdf _) (by simp only[maxLen];omega) (by omega) (by have:=hacc.lt;simp;omega) ?_;intro v3 w3 ho3 hg3;obtain⟨A2,cap2,rfl,hrow3,hex3,hacc2⟩:=hacc.step (by simp[go_sem]) hg3 ho3;refine hK _ _ ⟨hex3,hrow3⟩ ?_;try simp only[zq]
       (refine zn (v:=?_) rfl ?_ (λw1 h1=>?_) ?_;rotate_left 1;rfl;(obtain⟨h1e,h1r⟩:=h1;have c2:=cell_of_row _ _ 2 _ _ _ h1r;clear h1r;obtain⟨os1,d1,rfl⟩:=h1e.more;(try simp only[zc,Array.append_assoc] at c2);go_simp;first | done | rfl))
       try simp only[zq]
       have c2:=cell_of_row _ _ 2 _ _ _ hrow3;have f2:=frozen_of_row _ _ 2 _ _ hrow3;clear hrow3 hex3 hg3 ho3
       (refine zU rfl ?_ (λK hK=>?_);rfl;go_simp;refine hK _ _ ?_)
       clear c2 f2;try simp only[Act.put]
       refine zi ?_;go_wp2;refine⟨⟨j+1,cap2,A2,by omega,by go_num,?_⟩,by simp[intOf];omega⟩;rw[show r*N+(j+1)=r*N+j+1 by omega,HV.out.2,HV.out.1];exact hacc2
     | true=>
      simp only[Bool.and_eq_true] at hboth;obtain⟨rfl,rfl⟩:=hboth;obtain⟨x0,e1⟩:=Option.isSome_iff_exists.1 hkx;obtain⟨y0',e2⟩:=Option.isSome_iff_exists.1 hky;have e3:x0=x:=by rw[<-hx,e1];rfl
      have e4:y0'=y:=by rw[<-hy,e2];rfl
      subst e3 e4;have rx:x0.right:=zbY HL.out.1 HRR.out.1 e1;have ry:y0'.right:=zbY HL.out.2 HRR.out.2 e2;generalize hzz:opV g x0 y0'=z;have hz:GG r j=z:=by
       rw[hGv,e1,e2,<-hzz];exact zji (zlz g rx ry)
      have hof:=λW=>ho2 x0 y0' W rx ry;rw[hzz] at hof;have HV:=Lib.hid (And.intro hz hvs);clear hz hvs hGv hx hkx hy hky e1 e2 hzz rx ry;go_wp2_with fail;refine aM (zdW R1 C1 r j A n cap l _ (hA'.ext (by simp[go_sem])) HN.out.1 hN1 x0 true HA.out.1 HA.out.2) λos11 d11=>?_;go_wp2_with fail;refine aM (zdW R2 C2 r j B n' cap' l' _ (hB'.ext (by simp[go_sem])) HN.out.2 hN2 y0' true HB.out.1 HB.out.2) λos12 d12=>?_;go_upto_region 18 with fail;refine zH λW5 hW5=>?_;have hx5:Ext wr W5:=by rw[hW5];exact by simp[go_sem]
      have hv1:W5.heap[wr.heap.size+os11.size]? = some (.cells #[.int .i64 x0.kind,.int .i64 x0.mant,.int .i64 x0.exp,.string x0.text,.bool x0.truth,.int .i64 x0.fault] 38):=by
       rw[hW5,Below.heap_alloc _ _ _ (by(try simp) <;> omega),(zao _ _ _).block (by(try simp) <;> omega)];have:=heap_alloc_new (more wr os11 d11) (.cells #[.int .i64 x0.kind,.int .i64 x0.mant,.int .i64 x0.exp,.string x0.text,.bool x0.truth,.int .i64 x0.fault] 38);simpa using this
      have hv2:W5.heap[wr.heap.size+os11.size+1+os12.size]? = some (.cells #[.int .i64 y0'.kind,.int .i64 y0'.mant,.int .i64 y0'.exp,.string y0'.text,.bool y0'.truth,.int .i64 y0'.fault] 38):=by
       rw[hW5];have:=heap_alloc_new (more ((more wr os11 d11).alloc (.cells #[.int .i64 x0.kind,.int .i64 x0.mant,.int .i64 x0.exp,.string x0.text,.bool x0.truth,.int .i64 x0.fault] 38)) os12 d12) (.cells #[.int .i64 y0'.kind,.int .i64 y0'.mant,.int .i64 y0'.exp,.string y0'.text,.bool y0'.truth,.int .i64 y0'.fault] 38);simpa using this
      have hv1_ne:=hacc.own_ne (p:=wr.heap.size+os11.size) (by omega);have hv2_ne:=hacc.own_ne (p:=wr.heap.size+os11.size+1+os12.size) (by omega);clear hW5 g0 g1 g2 g3 g4 g5;have hacc:=hacc.of_ext hx5;refine zdN (S:=λWq=>zrL _ _ _ _ _ _ _ Wq∧Wq.heap[_]? = some _∧Wq.heap[_]? = some _) [(0,0),(1,0),(2,0),(3,0),(4,0),(5,1),(6,1),(7,1),(8,0),(9,2)] [9] (by kernel_rfl) (by kernel_rfl) (by kernel_rfl) (λ_ _ d _ _ h=>by cases d <;> exact h) ⟨⟨(hacc.of_ext (by simp[go_sem])).ext,(hacc.of_ext (by simp[go_sem])).row⟩,zdZ hv1 (by simp[go_sem]),zdZ hv2 (by simp[go_sem])⟩ ?_
      (refine zn (v:=?_) rfl ?_ (λw1 h1=>?_) ?_;rotate_left 1;rfl;(obtain⟨⟨h1e,h1r⟩,g0,g1⟩:=h1;have c2:=cell_of_row _ _ 2 _ _ _ h1r;have a00:=cell_of_row _ _ 0 _ _ _ g0;have a01:=cell_of_row _ _ 1 _ _ _ g0;have a02:=cell_of_row _ _ 2 _ _ _ g0;have a03:=cell_of_row _ _ 3 _ _ _ g0;have a04:=cell_of_row _ _ 4 _ _ _ g0;have a05:=cell_of_row _ _ 5 _ _ _ g0;have a10:=cell_of_row _ _ 0 _ _ _ g1;have a11:=cell_of_row _ _ 1 _ _ _ g1;have a12:=cell_of_row _ _ 2 _ _ _ g1;have a13:=cell_of_row _ _ 3 _ _ _ g1;have a14:=cell_of_row _ _ 4 _ _ _ g1;have a15:=cell_of_row _ _ 5 _ _ _ g1;clear h1r h1e g0 g1;go_simp;first | done | rfl))
      try simp only[zq]
      (refine zn (v:=?_) rfl ?_ (λw1 h1=>?_) ?_;rotate_left 1;rfl;(obtain⟨⟨h1e,h1r⟩,g0,g1⟩:=h1;have c2:=cell_of_row _ _ 2 _ _ _ h1r;have a00:=cell_of_row _ _ 0 _ _ _ g0;have a01:=cell_of_row _ _ 1 _ _ _ g0;have a02:=cell_of_row _ _ 2 _ _ _ g0;have a03:=cell_of_row _ _ 3 _ _ _ g0;have a04:=cell_of_row _ _ 4 _ _ _ g0;have a05:=cell_of_row _ _ 5 _ _ _ g0;have a10:=cell_of_row _ _ 0 _ _ _ g1;have a11:=cell_of_row _ _ 1 _ _ _ g1;have a12:=cell_of_row _ _ 2 _ _ _ g1;have a13:=cell_of_row _ _ 3 _ _ _ g1;have a14:=cell_of_row _ _ 4 _ _ _ g1;have a15:=cell_of_row _ _ 5 _ _ _ g1;clear h1r h1e g0 g1;go_simp;first | done | rfl))
      try simp only[zq]
      (refine zn (v:=?_) rfl ?_ (λw1 h1=>?_) ?_;rotate_left 1;rfl;(obtain⟨⟨h1e,h1r⟩,g0,g1⟩:=h1;have c2:=cell_of_row _ _ 2 _ _ _ h1r;have a00:=cell_of_row _ _ 0 _ _ _ g0;have a01:=cell_of_row _ _ 1 _ _ _ g0;have a02:=cell_of_row _ _ 2 _ _ _ g0;have a03:=cell_of_row _ _ 3 _ _ _ g0;have a04:=cell_of_row _ _ 4 _ _ _ g0;have a05:=cell_of_row _ _ 5 _ _ _ g0;have a10:=cell_of_row _ _ 0 _ _ _ g1;have a11:=cell_of_row _ _ 1 _ _ _ g1;have a12:=cell_of_row _ _ 2 _ _ _ g1;have a13:=cell_of_row _ _ 3 _ _ _ g1;have a14:=cell_of_row _ _ 4 _ _ _ g1;have a15:=cell_of_row _ _ 5 _ _ _ g1;clear h1r h1e g0 g1;go_simp;first | done | rfl))
      try simp only[zq]
      (refine zn (v:=?_) rfl ?_ (λw1 h1=>?_) ?_;rotate_left 1;rfl;(obtain⟨⟨h1e,h1r⟩,g0,g1⟩:=h1;have c2:=cell_of_row _ _ 2 _ _ _ h1r;have a00:=cell_of_row _ _ 0 _ _ _ g0;have a01:=cell_of_row _ _ 1 _ _ _ g0;have a02:=cell_of_row _ _ 2 _ _ _ g0;have a03:=cell_of_row _ _ 3 _ _ _ g0;have a04:=cell_of_row _ _ 4 _ _ _ g0;have a05:=cell_of_row _ _ 5 _ _ _ g0;have a10:=cell_of_row _ _ 0 _ _ _ g1;have a11:=cell_of_row _ _ 1 _ _ _ g1;have a12:=cell_of_row _ _ 2 _ _ _ g1;have a13:=cell_of_row _ _ 3 _ _ _ g1;have a14:=cell_of_row _ _ 4 _ _ _ g1;have a15:=cell_of_row _ _ 5 _ _ _ g1;clear h1r h1e g0 g1;go_simp;first | done | rfl))
      try simp only[zq]
      (refine zn (v:=?_) rfl ?_ (λw1 h1=>?_) ?_;rotate_left 1;rfl;(obtain⟨⟨h1e,h1r⟩,g0,g1⟩:=h1;have c2:=cell_of_row _ _ 2 _ _ _ h1r;have a00:=cell_of_row _ _ 0 _ _ _ g0;have a01:=cell_of_row _ _ 1 _ _ _ g0;have a02:=cell_of_row _ _ 2 _ _ _ g0;have a03:=cell_of_row _ _ 3 _ _ _ g0;have a04:=cell_of_row _ _ 4 _ _ _ g0;have a05:=cell_of_row _ _ 5 _ _ _ g0;have a10:=cell_of_row _ _ 0 _ _ _ g1;have a11:=cell_of_row _ _ 1 _ _ _ g1;have a12:=cell_of_row _ _ 2 _ _ _ g1;have a13:=cell_of_row _ _ 3 _ _ _ g1;have a14:=cell_of_row _ _ 4 _ _ _ g1;have a15:=cell_of_row _ _ 5 _ _ _ g1;clear h1r h1e g0 g1;go_simp;first | done | rfl))
      try simp only[zq]
      (refine zg rfl ?_ (λK hK=>?_);rfl;go_simp;refine aM (hof _) λos d=>?_;refine hK _ _ ⟨⟨(hacc.of_ext (by simp[go_sem])).ext,(hacc.of_ext (by simp[go_sem])).row⟩,zdZ hv1 (by simp[go_sem]),zdZ hv2 (by simp[go_sem])⟩ ?_)
      try simp only[zq]
      (refine zg rfl ?_ (λK hK=>?_);rfl;go_simp;refine hK _ _ ⟨⟨(hacc.of_ext (by simp[go_sem])).ext,(hacc.of_ext (by simp[go_sem])).row⟩,zdZ hv1 (by simp[go_sem]),zdZ hv2 (by simp[go_sem])⟩ ?_)
      try simp only[zq]
      (refine zg rfl ?_ (λK hK=>?_);rfl)
      refine zeD _ _ _ _ rfl _ 38 i0 (VV 0 0 0 ⟨#[]⟩ false 0) 6 56 Tryz.underlying25 hi0 hz0 hz1 hz2 rfl (by decide) _ _ _ rfl (zL hacc.own (by simp[go_sem])) _ 1 1 (Val.cells z) rfl rfl (zap _ _ _ (by simp) rfl _) (zdf _) (by simp only[maxLen];omega) (by omega) (by have:=hacc.lt;simp;omega) ?_;intro v3 w3 ho3 hg3;have hv1_3:=hacc.row_kept hv1_ne hg3 (zdZ hv1 (by simp[go_sem]));have hv2_3:=hacc.row_kept hv2_ne hg3 (zdZ hv2 (by simp[go_sem]));obtain⟨A2,cap2,rfl,hrow3,hex3,hacc2⟩:=hacc.step (by simp[go_sem]) hg3 ho3;refine hK _ _ ⟨⟨hex3,hrow3⟩,hv1_3,hv2_3⟩ ?_;try simp only[zq]
      (refine zn (v:=?_) rfl ?_ (λw1 h1=>?_) ?_;rotate_left 1;rfl;(obtain⟨⟨h1e,h1r⟩,g0,g1⟩:=h1;have c2:=cell_of_row _ _ 2 _ _ _ h1r;have a00:=cell_of_row _ _ 0 _ _ _ g0;have a01:=cell_of_row _ _ 1 _ _ _ g0;have a02:=cell_of_row _ _ 2 _ _ _ g0;have a03:=cell_of_row _ _ 3 _ _ _ g0;have a04:=cell_of_row _ _ 4 _ _ _ g0;have a05:=cell_of_row _ _ 5 _ _ _ g0;have a10:=cell_of_row _ _ 0 _ _ _ g1;have a11:=cell_of_row _ _ 1 _ _ _ g1;have a12:=cell_of_row _ _ 2 _ _ _ g1;have a13:=cell_of_row _ _ 3 _ _ _ g1;have a14:=cell_of_row _ _ 4 _ _ _ g1;have a15:=cell_of_row _ _ 5 _ _ _ g1;clear h1r h1e g0 g1;go_simp;first | done | rfl))
      try simp only[zq]
      have c2:=cell_of_row _ _ 2 _ _ _ hrow3;have f2:=frozen_of_row _ _ 2 _ _ hrow3;clear hrow3 hex3 hg3 ho3 hv1_3 hv2_3
      (refine zU rfl ?_ (λK hK=>?_);rfl;go_simp;refine hK _ _ ?_)
      clear c2 f2;try simp only[Act.put]
      refine zi ?_;go_wp2;refine⟨⟨j+1,cap2,A2,by omega,by go_num,?_⟩,by simp[intOf];omega⟩;rw[show r*N+(j+1)=r*N+j+1 by omega,HV.out.2,HV.out.1];exact hacc2
    ·obtain rfl:j=N:=by omega
     go_wp2;refine⟨⟨r+1,cp,G,by omega,by go_num,by rw[Nat.succ_mul];exact hacc⟩,by simp[intOf];omega⟩
  ·obtain rfl:r=M:=by omega
   have q0:wr.cell? ⟨w.heap.size+1+1,0,none⟩=some (.int .i64 0):=hacc.ext.cell_some (by simp[go_sem]);have q1:wr.cell? ⟨w.heap.size+1+1,1,none⟩=some (.int .i64 0):=hacc.ext.cell_some (by simp[go_sem]);have q2:wr.cell? ⟨w.heap.size+1+1,2,none⟩=some (.slice none 0 0):=hacc.ext.cell_some (by simp[go_sem]);have q3:wr.frozen? ⟨w.heap.size+1+1,0,none⟩=false:=(hacc.ext.frozen (p:=⟨w.heap.size+1+1,0,none⟩) (by simp;try omega)).trans (by simp[go_sem]);have q4:wr.frozen? ⟨w.heap.size+1+1,1,none⟩=false:=(hacc.ext.frozen (p:=⟨w.heap.size+1+1,1,none⟩) (by simp;try omega)).trans (by simp[go_sem]);have q5:wr.frozen? ⟨w.heap.size+1+1,2,none⟩=false:=(hacc.ext.frozen (p:=⟨w.heap.size+1+1,2,none⟩) (by simp;try omega)).trans (by simp[go_sem]);have c0:=cell_of_row _ _ 0 _ _ _ hacc.row;have c1:=cell_of_row _ _ 1 _ _ _ hacc.row;have c2:=cell_of_row _ _ 2 _ _ _ hacc.row;go_wp2;obtain⟨hrd,hcp⟩:=hacc.rd;refine bodyPost_ret (v:=.tuple #[AV r N (.slice G (r*N) cp),.bool true]) (by simp[results,results21,go_sem,q0,q1,q2]) rfl ⟨G,r*N,cp,rfl,⟨?_,HLEN,hcp,by omega,HOK.out⟩,?_⟩
   ·exact Rd.mono (((hrd.set_far _ (by(try simp) <;> omega)).set_far _ (by(try simp) <;> omega)).set_far _ (by(try simp) <;> omega)) (by omega)
   ·exact Ext.set (Ext.set (Ext.set (Ext.trans (by simp[go_sem]) hacc.ext) _ (by(try simp) <;> omega)) _ (by(try simp) <;> omega)) _ (by(try simp) <;> omega)
theorem zmU (g:Sg) (r c r' c' A B n cap n' cap' l l' w) (h:ArrIn w A n cap l) (h':ArrIn w B n' cap' l') (x) (hx:zaC (opV g) r c l r' c' l'=x) :
  Calls prog 21 #[.string ⟨g.key.toArray⟩,AV r c (.slice A n cap),AV r' c' (.slice B n' cap')] w λe w'=>∃ D m cc,e = .returned (.tuple #[AV x.R x.C (.slice D m cc),.bool true])∧ArrN w.heap.size w' D m cc x.l∧Ext w w':=by
 cases hr:(zA r c l&&zA r' c' l') with
 | false=>
  obtain rfl:x=⟨1,1,[bad9]⟩:=by rw[<-hx];simp[zaC,hr]
  exact zkK g r c r' c' A B n cap n' cap' l l' w h h' hr
 | true=>
  have hr2:=hr;simp only[Bool.and_eq_true] at hr2;obtain⟨h1,h2⟩:=hr2;obtain⟨R,C,rfl,rfl,_⟩:=zcZ h1;obtain⟨R',C',rfl,rfl,_⟩:=zcZ h2;by_cases hf:max R R'*max C C'<=4096
  ·obtain rfl:x=⟨max R R',max C C',zdA (opV g) R C l R' C' l'⟩:=by rw[<-hx];simp[zaC,h1,h2,hf]
   exact zkM g R C R' C' A B n cap n' cap' l l' w h h' h1 h2 hf
  ·obtain rfl:x=⟨1,1,[zz 5]⟩:=by rw[<-hx];simp[zaC,h1,h2,hf]
   exact zkL g R C R' C' A B n cap n' cap' l l' w h h' h1 h2 hf
end Go.Proofs.YtinjdacijiohiaaGreatDoor
namespace Go.Proofs.YtinjdacijiohiaaGreatDoor
open _root_.Go.Proofs.Tryz
open Go.RowKit
structure Part (a b:Nat) (D D':List Nat):Prop where
 len:D'.length=D.length
 lo:D'.take a=D.take a
 hi:D'.drop b=D.drop b
theorem Part.refl (a b D):Part a b D D:=⟨rfl,rfl,rfl⟩
theorem Part.trans {a b D D' D2} (h:Part a b D D') (k:Part a b D' D2):Part a b D D2:=⟨k.len.trans h.len,k.lo.trans h.lo,k.hi.trans h.hi⟩
theorem Part.mono {a b a' b' D D'} (h:Part a b D D') (ha:a'<=a) (hb:b<=b'):Part a' b' D D':=by
 refine⟨h.len,?_,?_⟩
 ·have:∀ E:List Nat,E.take a'=(E.take a).take a':=λE=>by rw[List.take_take,Nat.min_eq_left ha]
  rw[this D',this D,h.lo]
 ·have:∀ E:List Nat,E.drop b'=(E.drop b).drop (b'-b):=λE=>by rw[List.drop_drop];congr 1;omega
  rw[this D',this D,h.hi]
theorem Part.seg_lo {a b lo hi D D'} (h:Part a b D D') (hh:hi<=a):seg D' lo hi=seg D lo hi:=by
 unfold seg;have:∀ E:List Nat,E.take hi=(E.take a).take hi:=λE=>by rw[List.take_take,Nat.min_eq_left hh]
 rw[this D',this D,h.lo]
theorem Part.seg_hi {a b lo hi D D'} (h:Part a b D D') (hh:b<=lo):seg D' lo hi=seg D lo hi:=by
 unfold seg;rw[List.drop_take,List.drop_take];have:∀ E:List Nat,E.drop lo=(E.drop b).drop (lo-b):=λE=>by rw[List.drop_drop];congr 1;omega
 rw[this D',this D,h.hi]
theorem Part.of_mid {pre Z Z' post a b} (ha:a=pre.length) (hl:Z'.length=Z.length) (hb:b=pre.length+Z.length):Part a b (pre++(Z++post)) (pre++(Z'++post)):=by
 subst ha hb;refine⟨by simp[hl],by simp,?_⟩;have e1:(pre++(Z'++post)).drop (pre.length+Z.length)=post:=by
  rw[<-List.append_assoc,<-hl,<-List.length_append,List.drop_left]
 have e2:(pre++(Z++post)).drop (pre.length+Z.length)=post:=by
  rw[<-List.append_assoc,<-List.length_append,List.drop_left]
 rw[e1,e2]
structure Mrg (lt:Nat->Nat->Bool) (a b:Nat) (D D':List Nat):Prop where
 part:Part a b D D'
 perm:(seg D' a b).Perm (seg D a b)
 sorted:(seg D' a b).Pairwise (Lx lt)
theorem zba {D a b} (h:b<=a):seg D a b=[]:=by
 unfold seg;rw[List.drop_eq_nil_of_le (by rw[List.length_take];omega)]
theorem zgN {D a s} (ha:a<s) (hs:s<=D.length):(seg D a s).getLast? = D[s-1]?:=by
 rw[List.getLast?_eq_getElem?,zbw hs];unfold seg;rw[List.getElem?_drop,List.getElem?_take,if_pos (by omega)];congr 1;omega
theorem zgO {D e b} (h:e<b):(seg D e b).head? = D[e]?:=by
 rw[List.head?_eq_getElem?];unfold seg;rw[List.getElem?_drop,List.getElem?_take,if_pos (by omega)];rfl
theorem zcz {D a b j x} (h:D[j]? = some x) (h1:a<=j) (h2:j<b):x∈seg D a b:=by
 refine List.mem_of_getElem? (i:=j-a) ?_;unfold seg;rw[List.getElem?_drop,List.getElem?_take,if_pos (by omega),<-h];congr 1;omega
theorem zhq {D a b a' b' x} (ha:a<=a') (hb:b'<=b) (h:x∈seg D a' b'):x∈seg D a b:=by
 obtain⟨i,hi⟩:=List.mem_iff_getElem?.1 h;unfold seg at hi;rw[List.getElem?_drop,List.getElem?_take] at hi;split at hi
 ·exact zcz hi (by omega) (by omega)
 ·cases hi
section
variable {lt:Nat->Nat->Bool} (h:Swo lt)
include h
theorem zmV {D:List Nat} {a m b s e mid:Nat} (h1:a<=s) (h2:s<=m) (h3:m<=e) (h4:e<=b) (h5:b<=D.length) (hmid:mid=s+(e-m))
  (hX:(seg D a m).Pairwise (Lx lt)) (hY:(seg D m b).Pairwise (Lx lt)) (hxy:∀ x∈seg D a m,∀ y∈seg D m b,x<y)
  (b1:s=a∨e=b∨∃ u v,D[e]? = some u∧D[s-1]? = some v∧lt u v=false)
  (b2:s=m∨e=m∨∃ u v,D[e-1]? = some u∧D[s]? = some v∧lt u v=true)
  {D1:List Nat} (hD1:D1=D.take s++(seg D m e++(seg D s m++D.drop e))) :
  Part a b D D1∧seg D1 a s=seg D a s∧seg D1 s mid=seg D m e∧seg D1 mid e=seg D s m∧seg D1 e b=seg D e b∧∀ u∈seg D1 a mid,∀ v∈seg D1 mid b,Lx lt u v:=by
 have hse:D=D.take s++((seg D s m++seg D m e)++D.drop e):=by
  rw[<-zaL h2 h3];exact zfE (by omega)
 have l1:(D.take s).length=s:=by rw[List.length_take];omega
 have l2:(seg D m e).length=e-m:=zbw (by omega);have l3:(seg D s m).length=m-s:=zbw (by omega);have e1:seg D1 a s=seg D a s:=by
  unfold seg;rw[hD1,List.take_append_of_le_length (by omega),List.take_of_length_le (by omega)]
 have e2:seg D1 s mid=seg D m e:=by rw[hD1];exact zhm (by omega) (by omega)
 have e3:seg D1 mid e=seg D s m:=by
  rw[hD1,<-List.append_assoc];exact zhm (by rw[List.length_append];omega) (by rw[List.length_append];omega)
 have hp:Part s e D D1:=by
  rw[hD1];have:=Part.of_mid (pre:=D.take s) (Z:=seg D s m++seg D m e) (Z':=seg D m e++seg D s m) (post:=D.drop e) (a:=s) (b:=e) (by omega) (by simp;omega) (by rw[List.length_append];omega);rw[<-hse,List.append_assoc] at this;exact this
 have e4:seg D1 e b=seg D e b:=hp.seg_hi (Nat.le_refl _);refine⟨hp.mono h1 h4,e1,e2,e3,e4,?_⟩;rw[zaL h1 (show s<=mid by omega),zaL (show mid<=e by omega) h4,e1,e2,e3,e4];rw[zaL h1 h2] at hX;rw[zaL h3 h4] at hY;refine zmM h hX hY ?_ ?_
 ·intro x hx y hy;rcases b1 with b1 | b1 | ⟨u,v,hu,hv,hl⟩
  ·rw[zba (by omega)] at hx;cases hx
  ·rw[zba (by omega)] at hy;cases hy
  ·have ha:a<s:=by
    rcases Nat.lt_or_ge a s with ha | ha
    ·exact ha
    ·rw[zba ha] at hx;cases hx
   have hb:e<b:=by
    rcases Nat.lt_or_ge e b with hb | hb
    ·exact hb
    ·rw[zba hb] at hy;cases hy
   rw[zgN ha (by omega),hv] at hx;rw[zgO hb,hu] at hy;obtain rfl:v=x:=by simpa using hx
   obtain rfl:u=y:=by simpa using hy
   exact Lx.of_not (hxy _ (zcz hv (by omega) (by omega)) _ (zcz hu (by omega) (by omega))) hl
 ·intro y hy x hx;rcases b2 with b2 | b2 | ⟨u,v,hu,hv,hl⟩
  ·rw[zba (by omega)] at hx;cases hx
  ·rw[zba (by omega)] at hy;cases hy
  ·have ha:m<e:=by
    rcases Nat.lt_or_ge m e with ha | ha
    ·exact ha
    ·rw[zba ha] at hy;cases hy
   have hb:s<m:=by
    rcases Nat.lt_or_ge s m with hb | hb
    ·exact hb
    ·rw[zba hb] at hx;cases hx
   rw[zgN ha (by omega),hu] at hy;rw[zgO hb,hv] at hx;obtain rfl:u=y:=by simpa using hy
   obtain rfl:v=x:=by simpa using hx
   exact Or.inl hl
omit h in
theorem zoU {D D1 D2 D3:List Nat} {a mid b:Nat} (h1:a<=mid) (h2:mid<=b) (hp:Part a b D D1) (hq:(seg D1 a b).Perm (seg D a b))
  (hc:∀ u∈seg D1 a mid,∀ v∈seg D1 mid b,Lx lt u v) (m1:Mrg lt a mid D1 D2) (m2:Mrg lt mid b D2 D3):Mrg lt a b D D3:=by
 have s1:seg D3 a mid=seg D2 a mid:=m2.part.seg_lo (Nat.le_refl _);have s2:seg D2 mid b=seg D1 mid b:=m1.part.seg_hi (Nat.le_refl _);have p1:=m1.perm;have p2:=m2.perm;rw[s2] at p2;refine⟨hp.trans ((m1.part.mono (Nat.le_refl _) h2).trans (m2.part.mono h1 (Nat.le_refl _))),?_,?_⟩
 ·refine List.Perm.trans ?_ hq;rw[zaL h1 h2,zaL (D:=D1) h1 h2,s1];exact p1.append p2
 ·rw[zaL h1 h2,s1,List.pairwise_append];exact⟨m1.sorted,m2.sorted,λu hu v hv=>hc u (p1.mem_iff.1 hu) v (p2.mem_iff.1 hv)⟩
omit h in
theorem Mrg.of_sorted {D:List Nat} {a b:Nat} (hs:(seg D a b).Pairwise (Lx lt)):Mrg lt a b D D:=⟨Part.refl _ _ _,List.Perm.refl _,hs⟩
end
theorem zmi {a m b} (h1:a<=m) (h2:m<=b):List.range' a (b-a)=List.range' a (m-a)++List.range' m (b-m):=by
 have:=List.range'_append_1 (s:=a) (m:=m-a) (n:=b-m);rw[show a+(m-a)=m by omega,show m-a+(b-m)=b-a by omega] at this;exact this.symm
theorem Srt.mem {lt:Nat->Nat->Bool} {D a b x} (h:Srt lt D a b) (hx:x∈seg D a b):a<=x∧x<b:=by
 have:=h.1.mem_iff.1 hx;rw[List.mem_range'_1] at this;omega
theorem Srt.keep_lo {lt:Nat->Nat->Bool} {D D' a b lo hi} (h:Srt lt D lo hi) (hp:Part a b D D') (hh:hi<=a):Srt lt D' lo hi:=by
 unfold Srt;rw[hp.seg_lo hh];exact h
theorem Srt.keep_hi {lt:Nat->Nat->Bool} {D D' a b lo hi} (h:Srt lt D lo hi) (hp:Part a b D D') (hh:b<=lo):Srt lt D' lo hi:=by
 unfold Srt;rw[hp.seg_hi hh];exact h
theorem Srt.merged {lt:Nat->Nat->Bool} {D D' a m b} (h1:a<=m) (h2:m<=b) (hX:Srt lt D a m) (hY:Srt lt D m b) (hm:Mrg lt a b D D'):Srt lt D' a b:=by
 refine⟨hm.perm.trans ?_,hm.sorted⟩;rw[zaL h1 h2,zmi h1 h2];exact hX.1.append hY.1
theorem Srt.cross {lt:Nat->Nat->Bool} {D a m b} (hX:Srt lt D a m) (hY:Srt lt D m b):∀ x∈seg D a m,∀ y∈seg D m b,x<y:=λx hx y hy=>by
 have:=hX.mem hx;have:=hY.mem hy;omega
def zfX (lt:Nat->Nat->Bool) (n bs:Nat) (D:List Nat):Prop:=∀ q,q*bs<n->Srt lt D (q*bs) (min (q*bs+bs) n)
structure Ins (lt:Nat->Nat->Bool) (n q:Nat) (D:List Nat):Prop where
 len:D.length=n
 done:∀ p,p<q->Srt lt D (p*20) (p*20+20)
 rest:∀ j,q*20<=j->j<n->D[j]? = some j
theorem Ins.start (lt:Nat->Nat->Bool) (n):Ins lt n 0 (List.range n):=⟨by simp,λp hp=>absurd hp (by omega),λj _ hj=>by simp[hj]⟩
theorem zsl {a b j D D'} (h:Part a b D D') (hj:b<=j):D'[j]? = D[j]?:=by
 have h1:(D'.drop b)[j-b]? = (D.drop b)[j-b]?:=by rw[h.hi]
 rw[List.getElem?_drop,List.getElem?_drop,show b+(j-b)=j by omega] at h1;exact h1
theorem Ins.step {lt:Nat->Nat->Bool} {n q D D'} (h:Ins lt n q D) (hp:Part (q*20) (q*20+20) D D') (hs:Srt lt D' (q*20) (q*20+20)):Ins lt n (q+1) D':=by
 refine⟨hp.len.trans h.len,λp hpq=>?_,λj hj hn=>?_⟩
 ·by_cases e:p=q
  ·subst e;exact hs
  ·exact(h.done p (by omega)).keep_lo hp (by omega)
 ·rw[zsl hp (by omega)];exact h.rest j (by omega) hn
theorem Ins.seg {lt:Nat->Nat->Bool} {n q b D} (h:Ins lt n q D) (hb:b<=n):seg D (q*20) b=List.range' (q*20) (b-q*20):=by
 refine List.ext_getElem? λi=>?_;unfold Go.Proofs.YtinjdacijiohiaaGreatDoor.seg;rw[List.getElem?_drop,List.getElem?_take];split
 ·rw[h.rest _ (by omega) (by omega),List.getElem?_range' (by omega),Nat.one_mul]
 ·rw[List.getElem?_eq_none];simp;omega
theorem Ins.all {lt:Nat->Nat->Bool} {n q D D'} (h:Ins lt n q D) (hq:q*20<=n) (hn:n<q*20+20) (hp:Part (q*20) n D D') (hs:Srt lt D' (q*20) n):zfX lt n 20 D':=by
 intro p hpn;by_cases e:p<q
 ·rw[Nat.min_eq_left (by omega)];exact(h.done p e).keep_lo hp (by omega)
 ·obtain rfl:p=q:=by omega
  rw[Nat.min_eq_right (by omega)];exact hs
structure Mrs (lt:Nat->Nat->Bool) (n bs q:Nat) (D:List Nat):Prop where
 len:D.length=n
 done:∀ p,p<q->Srt lt D (p*(2*bs)) (p*(2*bs)+2*bs)
 rest:∀ p,2*q<=p->p*bs<n->Srt lt D (p*bs) (min (p*bs+bs) n)
theorem Mrs.start {lt:Nat->Nat->Bool} {n bs D} (hl:D.length=n) (h:zfX lt n bs D):Mrs lt n bs 0 D:=⟨hl,λp hp=>absurd hp (by omega),λp _ hp=>h p hp⟩
theorem zdL (q bs):q*(2*bs)=2*q*bs:=by rw[<-Nat.mul_assoc,Nat.mul_comm q 2]
theorem zjR {p q bs:Nat} (h:p<q):p*bs+bs<=q*bs:=by
 have:=Nat.mul_le_mul_right bs (show p+1<=q from h);rw[Nat.add_mul,Nat.one_mul] at this;exact this
theorem Mrs.two {lt:Nat->Nat->Bool} {n bs q b D} (h:Mrs lt n bs q D) (hm:q*(2*bs)+bs<n) (hb:b=min (q*(2*bs)+2*bs) n) (hbs:0<bs) :
  Srt lt D (q*(2*bs)) (q*(2*bs)+bs)∧Srt lt D (q*(2*bs)+bs) b:=by
 have h1:=h.rest (2*q) (Nat.le_refl _) (by rw[<-zdL];omega);have h2:=h.rest (2*q+1) (by omega) (by rw[Nat.add_mul,Nat.one_mul,<-zdL];exact hm);rw[<-zdL,Nat.min_eq_left (by omega)] at h1;rw[Nat.add_mul,Nat.one_mul,<-zdL] at h2;refine⟨h1,?_⟩;rw[hb,show q*(2*bs)+2*bs=q*(2*bs)+bs+bs by omega];exact h2
theorem Mrs.step {lt:Nat->Nat->Bool} {n bs q D D'} (h:Mrs lt n bs q D) (hp:Part (q*(2*bs)) (q*(2*bs)+2*bs) D D') (hs:Srt lt D' (q*(2*bs)) (q*(2*bs)+2*bs)):Mrs lt n bs (q+1) D':=by
 refine⟨hp.len.trans h.len,λp hpq=>?_,λp hp1 hp2=>?_⟩
 ·by_cases e:p=q
  ·subst e;exact hs
  ·exact(h.done p (by omega)).keep_lo hp (zjR (by omega))
 ·refine(h.rest p (by omega) hp2).keep_hi hp ?_;have:=Nat.mul_le_mul_right bs (show 2*q+2<=p by omega);rw[Nat.add_mul,<-zdL] at this;omega
theorem Mrs.last {lt:Nat->Nat->Bool} {n bs q D D'} (h:Mrs lt n bs q D) (hq:q*(2*bs)<=n) (hn:n<q*(2*bs)+2*bs) (hp:Part (q*(2*bs)) n D D') (hs:q*(2*bs)<n->Srt lt D' (q*(2*bs)) n):zfX lt n (2*bs) D':=by
 intro p hpn;by_cases e:p<q
 ·have:=zjR (bs:=2*bs) e;rw[Nat.min_eq_left (by omega)];exact(h.done p e).keep_lo hp this
 ·have hpq:p=q:=by
   rcases Nat.lt_or_ge q p with h1 | h1
   ·have:=zjR (bs:=2*bs) h1;omega
   ·omega
  subst hpq;rw[Nat.min_eq_right (by omega)];exact hs hpn
theorem Mrs.none {lt:Nat->Nat->Bool} {n bs q D} (h:Mrs lt n bs q D) (hm:¬ q*(2*bs)+bs<n) (hq:q*(2*bs)<n):Srt lt D (q*(2*bs)) n:=by
 have h1:=h.rest (2*q) (Nat.le_refl _) (by rw[<-zdL];exact hq);rw[<-zdL,Nat.min_eq_right (by omega)] at h1;exact h1
theorem zfX.whole {lt:Nat->Nat->Bool} (h:Swo lt) {n bs D} (hl:D.length=n) (hb:n<=bs) (ha:zfX lt n bs D):D=zci lt n:=by
 by_cases hn:n=0
 ·subst hn;rw[List.eq_nil_of_length_eq_zero hl];rfl
 ·have h0:=ha 0 (by omega);rw[Nat.zero_mul,Nat.zero_add,Nat.min_eq_right hb] at h0;have e:seg D 0 n=D:=by unfold seg;rw[List.drop_zero,List.take_of_length_le (by omega)]
  unfold Srt at h0;rw[e] at h0;refine zqp h ?_ h0.2;rw[List.range_eq_range'];exact h0.1
end Go.Proofs.YtinjdacijiohiaaGreatDoor
namespace Go.Proofs.YtinjdacijiohiaaGreatDoor
open _root_.Go.Proofs.Tryz
open Go.RowKit NM
structure Bq (base:Nat) (w w':World):Prop where
 bel:Below base w w'
 oth:Lib.OthersKept 36 none w w'
theorem Bq.of_ext {base w w'} (h:Ext w w') (hb:base<=w.heap.size):Bq base w w':=⟨Below.mono h hb,λk o hk _ _=>by rw[h.block (z7 hk)];exact hk⟩
theorem Bq.refl (base w):Bq base w w:=⟨Below.refl _ _,Lib.OthersKept.refl _ _ _⟩
theorem Bq.trans {base a b c} (h:Bq base a b) (k:Bq base b c):Bq base a c:=⟨h.bel.trans k.bel,h.oth.trans k.oth⟩
theorem Bq.size {base a b} (h:Bq base a b):a.heap.size<=b.heap.size:=h.bel.size
theorem Bq.drew {base a b} (h:Bq base a b):Bq base a b.drew:=⟨h.bel.drew,h.oth.drew⟩
abbrev zfq (w:World) (b o:Nat) (q:Nm):World:=(w.setCell ⟨b,o,none⟩ (.int .i64 q.1)).setCell ⟨b,o+1,none⟩ (.int .i64 q.2)
def Wr (g:Nat->Nm) (base:Nat) (w:World) (A:Option Addr) (cap:Nat) (l:List Nat):Prop:=
 l.length<=cap∧(l=[]∨∃ b off cur,A=some ⟨b,off,none⟩∧base<=b∧w.heap[b]? = some (.cells cur 36 (0,0))∧∀ (j d:Nat),l[j]? = some d->cur[off+j*2]? = some (.int .i64 (g d).1)∧cur[off+j*2+1]? = some (.int .i64 (g d).2))
section
variable {g:Nat->Nm}
theorem Wr.of_ext {base:Nat} {w w':World} {A:Option Addr} {cap:Nat} {l:List Nat} (h:Wr g base w A cap l) (hx:Ext w w'):Wr g base w' A cap l:=by
 refine⟨h.1,?_⟩;rcases h.2 with h | ⟨b,off,cur,h1,h2,h3,h4⟩
 ·exact Or.inl h
 ·exact Or.inr ⟨b,off,cur,h1,h2,by rw[hx.block (z7 h3)];exact h3,h4⟩
theorem Wr.drew {base:Nat} {w:World} {A:Option Addr} {cap:Nat} {l:List Nat} (h:Wr g base w A cap l):Wr g base w.drew A cap l:=h.of_ext ((Ext.refl _).drew)
theorem Wr.at {base i d cap:Nat} {w:World} {A:Option Addr} {l:List Nat} (h:Wr g base w A cap l) (hd:l[i]? = some d) :
  ∃ b off,A=some ⟨b,off,none⟩∧base<=b∧(w.cell? ⟨b,off+i*2,none⟩=some (.int .i64 (g d).1)∧w.cell? ⟨b,off+i*2+1,none⟩=some (.int .i64 (g d).2))∧w.frozen? ⟨b,off+i*2,none⟩=false∧w.frozen? ⟨b,off+i*2+1,none⟩=false:=by
 rcases h.2 with h | ⟨b,off,cur,rfl,h2,h3,h4⟩
 ·subst h;simp at hd
 ·obtain⟨e0,e1⟩:=h4 i d hd;refine⟨b,off,rfl,h2,⟨?_,?_⟩,?_,?_⟩
  ·unfold World.cell?;rw[h3];simpa using e0
  ·unfold World.cell?;rw[h3];simpa using e1
  ·unfold World.frozen?;rw[h3];simp
  ·unfold World.frozen?;rw[h3];simp
theorem Wr.bel {base:Nat} {a w:World} (h:Bq base a w) {b off cap i:Nat} {l:List Nat} (hd:Wr g base w (some ⟨b,off,none⟩) cap l) (hl:i<l.length) (q:Nm):Bq base a (zfq w b (off+i*2) q):=by
 rcases hd.2 with h0 | ⟨b',off',cur,h1,h2,h3,h4⟩
 ·subst h0;simp at hl
 ·simp only[Option.some.injEq,Addr.mk.injEq,and_true] at h1;obtain⟨rfl,rfl⟩:=h1;refine⟨(h.bel.setCell h2 _).setCell h2 _,λk o hk hb ho=>?_⟩;have h5:=h.oth k o hk hb ho;have hne:k≠b:=λhe=>by
   subst he;rw[h3] at h5;exact ho cur (0,0) (Option.some.inj h5).symm
  rw[RowKit.Below.heap_setCell _ _ _ _ hne,RowKit.Below.heap_setCell _ _ _ _ hne];exact h5
theorem Wr.set {base:Nat} {w:World} {b off cap i d:Nat} {l:List Nat} (h:Wr g base w (some ⟨b,off,none⟩) cap l) (hi:i<l.length):Wr g base (zfq w b (off+i*2) (g d)) (some ⟨b,off,none⟩) cap (l.set i d):=by
 refine⟨by simpa using h.1,?_⟩;rcases h.2 with h | ⟨b',off',cur,h1,h2,h3,h4⟩
 ·subst h;simp at hi
 ·simp only[Option.some.injEq,Addr.mk.injEq,and_true] at h1;obtain⟨rfl,rfl⟩:=h1;refine Or.inr ⟨b,off,(cur.setIfInBounds (off+i*2) (.int .i64 (g d).1)).setIfInBounds (off+i*2+1) (.int .i64 (g d).2),rfl,h2,?_,λj d' hd=>?_⟩
  ·simp[zfq,World.setCell,Array.getElem?_modify,h3]
  ·obtain⟨y,hy⟩:∃ y,l[i]? = some y:=⟨l[i],by simp[hi]⟩;obtain⟨x0,x1⟩:=h4 i y hy;have hlt0:off+i*2<cur.size:=by
    rcases Nat.lt_or_ge (off+i*2) cur.size with hl | hl
    ·exact hl
    ·rw[Array.getElem?_eq_none hl] at x0;cases x0
   have hlt1:off+i*2+1<cur.size:=by
    rcases Nat.lt_or_ge (off+i*2+1) cur.size with hl | hl
    ·exact hl
    ·rw[Array.getElem?_eq_none hl] at x1;cases x1
   by_cases hji:i=j
   ·subst hji;rw[List.getElem?_set_self hi] at hd;obtain rfl:d=d':=by simpa using hd
    refine⟨?_,?_⟩
    ·rw[Array.getElem?_setIfInBounds_ne (by omega),Array.getElem?_setIfInBounds_self_of_lt hlt0]
    ·rw[Array.getElem?_setIfInBounds_self_of_lt (by rw[Array.size_setIfInBounds];exact hlt1)]
   ·rw[List.getElem?_set_ne hji] at hd;obtain⟨y0,y1⟩:=h4 j d' hd;refine⟨?_,?_⟩
    ·rw[Array.getElem?_setIfInBounds_ne (by omega),Array.getElem?_setIfInBounds_ne (by omega)];exact y0
    ·rw[Array.getElem?_setIfInBounds_ne (by omega),Array.getElem?_setIfInBounds_ne (by omega)];exact y1
theorem Wr.sw {base:Nat} {w:World} {b off cap i j x y:Nat} {l:List Nat} (h:Wr g base w (some ⟨b,off,none⟩) cap l) (hx:l[i]? = some x) (hy:l[j]? = some y) :
  Wr g base (zfq (zfq w b (off+i*2) (g y)) b (off+j*2) (g x)) (some ⟨b,off,none⟩) cap (sw1 l i j):=by
 have hi:=(List.getElem?_eq_some_iff.1 hx).1;have hj:=(List.getElem?_eq_some_iff.1 hy).1;have h1:l.getD i 0=x:=by simp[List.getD,hx]
 have h2:l.getD j 0=y:=by simp[List.getD,hy]
 unfold sw1;rw[h1,h2];exact Wr.set (Wr.set h hi) (by simpa using hj)
end
section
variable {g:Nat->Nm}
theorem zsm (D:List Nat) (a b k:Nat):swp D a b (k+1)=sw1 (swp D a b k) (a+k) (b+k):=rfl
theorem zkN (base:Nat) (A:Option Addr) (cap:Nat) (D:List Nat) (a b n:Nat) (cf:Value) (w:World) (h:Wr g base w A cap D) (hs:D.length<=100000) (h1:a+n<=D.length) (h2:b+n<=D.length) :
  Calls prog 247 #[.slice A D.length cap,.int .i64 (a:Int),.int .i64 (b:Int),.int .i64 (n:Int),cf] w λe w'=>e = .returned (.tuple #[])∧Wr g base w' A cap (swp D a b n)∧Bq base w w':=by
 have hcap:=h.1;have hn:n<=100000:=by omega
 go_enter func247,ntmps247;go_wp2_with fail;go_loopw [10] (λi wr=>∃ k:Nat,k<=n∧i = .int .i64 (k:Int)∧Hid (Wr g base wr A cap (swp D a b k))∧Bq base w wr) (λi _=>n-(intOf i).toNat)
 case atStart=>exact⟨0,Nat.zero_le _,rfl,h,Bq.refl _ _⟩
 case round=>
  obtain⟨k,hk,rfl,HW,hX⟩:=hrel;by_cases hlt:k<n
  ·have hl:(swp D a b k).length=D.length:=zi8 _ _ _ _;have hst:=zsm D a b k;generalize swp D a b k=E at *;obtain⟨x,hx⟩:∃ x,E[a+k]? = some x:=⟨_,List.getElem?_eq_getElem (by omega)⟩;obtain⟨y,hy⟩:∃ y,E[b+k]? = some y:=⟨_,List.getElem?_eq_getElem (by omega)⟩;obtain⟨bl,off,rfl,hb1,⟨cx,cx'⟩,fx,fx'⟩:=HW.out.at hx;obtain⟨bl',off',e,hb2,⟨cy,cy'⟩,fy,fy'⟩:=HW.out.at hy;obtain⟨rfl,rfl⟩:=aI e;have hb:bl<wr.heap.size:=za cx;have e1:IntKind.i64.wrap ((a:Int)+(k:Int))=((a+k:Nat):Int):=by rw[IntKind.wrap_i64];omega
   have e2:IntKind.i64.wrap ((b:Int)+(k:Int))=((b+k:Nat):Int):=by rw[IntKind.wrap_i64];omega
   have l1:a+k<D.length:=by omega
   have l2:b+k<D.length:=by omega
   obtain⟨z,hz⟩:∃ z,(E.set (a+k) y)[b+k]? = some z:=⟨_,List.getElem?_eq_getElem (by rw[List.length_set];omega)⟩;obtain⟨bl',off',e,_,⟨cz,cz'⟩,fz,fz'⟩:=(Wr.set (d:=y) HW.out (show a+k<E.length by omega)).at hz;obtain⟨rfl,rfl⟩:=aI e;have hX2:=(Wr.bel (Wr.bel hX HW.out (show a+k<E.length by omega) (g y)) (Wr.set (d:=y) HW.out (show a+k<E.length by omega)) (show b+k<(E.set (a+k) y).length by rw[List.length_set];omega) (g x));have HX:=Lib.hid hx;have HY:=Lib.hid hy;have HS:=Lib.hid hst;have HL:=Lib.hid hl;generalize hp:a+k=p at *;generalize hq:b+k=q at *;clear h h1 h2 hst hx hy hz hl hp hq;go_wp2_with fail;go_region
   go_wp2_with fail;refine⟨⟨k+1,by omega,by go_num,?_,hX2.drew⟩,by simp[intOf];omega⟩;show Wr _ _ _ _ _ (swp D a b (k+1));rw[HS.out];exact(Wr.sw HW.out HX.out HY.out).drew
  ·obtain rfl:k=n:=by omega
   go_wp2_with fail;exact bodyPost_end (v:=.tuple #[]) (by simp[results,results247,go_sem]) rfl ⟨rfl,HW.out,hX⟩
theorem zeG (base:Nat) (A:Option Addr) (cap N:Nat) (pre P M Q post:List Nat) (a b n:Int) (cf:Value) (w:World) (h:Wr g base w A cap (pre++(P++(M++(Q++post))))) (hN:(pre++(P++(M++(Q++post)))).length=N) (hs:N<=100000)
  (hP:(P.length:Int)=n) (hQ:Q.length=P.length) (ha:(pre.length:Int)=a) (hb:((pre.length+P.length+M.length:Nat):Int)=b) :
  Calls prog 247 #[.slice A N cap,.int .i64 a,.int .i64 b,.int .i64 n,cf] w λe w'=>e = .returned (.tuple #[])∧Wr g base w' A cap (pre++(Q++(M++(P++post))))∧Bq base w w':=by
 have hl:(pre++(P++(M++(Q++post)))).length=pre.length+P.length+M.length+Q.length+post.length:=by simp only[List.length_append];omega
 have:=zkN base A cap _ pre.length (pre.length+P.length+M.length) P.length cf w h (by omega) (by omega) (by omega);rw[znN P.length pre P M Q post rfl hQ rfl rfl,hN,hP,ha,hb] at this;exact this
theorem zoV (base:Nat) (A:Option Addr) (cap N:Nat) (pre U V post:List Nat) (a m b:Int) (cf:Value) (w:World) (h:Wr g base w A cap (pre++(U++(V++post)))) (hN:(pre++(U++(V++post))).length=N) (hs:N<=100000)
  (ha:(pre.length:Int)=a) (hm:((pre.length+U.length:Nat):Int)=m) (hb:((pre.length+U.length+V.length:Nat):Int)=b) (hU:0<U.length) (hV:0<V.length) :
  Calls prog 228 #[.slice A N cap,.int .i64 a,.int .i64 m,.int .i64 b,cf] w λe w'=>e = .returned (.tuple #[])∧Wr g base w' A cap (pre++(V++(U++post)))∧Bq base w w':=by
 have hl:(pre++(U++(V++post))).length=pre.length+U.length+V.length+post.length:=by simp only[List.length_append];omega
 have e1:IntKind.i64.wrap (m-a)=(U.length:Int):=by rw[IntKind.wrap_i64];omega
 have e2:IntKind.i64.wrap (b-m)=(V.length:Int):=by rw[IntKind.wrap_i64];omega
 have hm4:m<=100000∧0<=m:=by omega
 obtain⟨R,hR⟩:∃ R,pre++(V++(U++post))=R:=⟨_,rfl⟩;rw[hR];obtain⟨x0,hx⟩:∃ x,U.length=x:=⟨_,rfl⟩;obtain⟨y0,hy⟩:∃ y,V.length=y:=⟨_,rfl⟩;rw[hx] at e1;rw[hy] at e2;have H0:Hid (∃ pre' U' V' post':List Nat,U'.length=x0∧V'.length=y0∧((pre'.length+U'.length:Nat):Int)=m∧(pre'++(U'++(V'++post'))).length=N∧pre'++(V'++(U'++post'))=R∧Wr g base w A cap (pre'++(U'++(V'++post')))):=⟨pre,U,V,post,hx,hy,hm,hN,hR,h⟩;have hx0:0<x0∧x0<=100000:=by omega
 have hy0:0<y0∧y0<=100000:=by omega
 clear h hN ha hm hb hU hV hl hR hx hy;go_enter func228,ntmps228;go_wp2_with fail;go_loopw [10,11] (λi j wr=>∃ x y:Nat,0<x∧x<=100000∧0<y∧y<=100000∧i = .int .i64 (x:Int)∧j = .int .i64 (y:Int)∧Hid (∃ pre' U' V' post':List Nat,U'.length=x∧V'.length=y∧((pre'.length+U'.length:Nat):Int)=m∧(pre'++(U'++(V'++post'))).length=N∧pre'++(V'++(U'++post'))=R∧Wr g base wr A cap (pre'++(U'++(V'++post'))))∧Bq base w wr) (λi j _=>(intOf i).toNat+(intOf j).toNat)
 case atStart=>exact⟨x0,y0,hx0.1,hx0.2,hy0.1,hy0.2,rfl,rfl,H0,Bq.refl _ _⟩
 case round=>
  clear H0 hx0 hy0 e1 e2;obtain⟨x,y,x1,x2,y1,y2,rfl,rfl,HW,hX⟩:=hrel;obtain⟨pre',U',V',post',hx,hy,hm,hN,hR,hW⟩:=HW.out;clear HW;have hl:(pre'++(U'++(V'++post'))).length=pre'.length+U'.length+V'.length+post'.length:=by simp only[List.length_append];omega
  have e3:IntKind.i64.wrap (m-(x:Int))=m-(x:Int):=by rw[IntKind.wrap_i64];omega
  by_cases hne:x=y
  ·subst hne;have hsw:=zeG base A cap N pre' U' [] V' post' (m-(x:Int)) m (x:Int) cf wr hW hN hs (by omega) (by omega) (by omega) (by simp only[List.length_nil];omega);rw[List.nil_append,hR] at hsw;clear hN hW hR hm hx hy hl;go_wp2_with (go_at_call 247;refine hsw.mono ?_;rintro e w' ⟨rfl,hW,hb⟩);exact bodyPost_end (v:=.tuple #[]) (by simp[results,results228,go_sem]) rfl ⟨rfl,hW,hX.trans hb⟩
  ·have hne':((x:Int) != (y:Int))=true:=by simp;omega
   by_cases hgt:y<x
   ·obtain⟨U1,U2,rfl,hU1⟩:∃ U1 U2,U'=U1++U2∧U1.length=y:=⟨U'.take y,U'.drop y,(List.take_append_drop _ _).symm,by rw[List.length_take];omega⟩;have hU2:U2.length=x-y:=by rw[List.length_append] at hx;omega
    have hsw:=zeG base A cap N pre' U1 U2 V' post' (m-(x:Int)) m (y:Int) cf wr (by simpa using hW) (by simpa using hN) hs (by omega) (by omega) (by rw[List.length_append] at hm;omega) (by rw[List.length_append] at hm;omega);have e4:IntKind.i64.wrap ((x:Int)-(y:Int))=((x-y:Nat):Int):=by rw[IntKind.wrap_i64];omega
    have HF:=Lib.hid (show((pre'++V').length+U2.length:Nat)=m∧((pre'++V')++(U2++(U1++post'))).length=N∧(pre'++V')++(U1++(U2++post'))=R∧U2.length=x-y∧U1.length=y from⟨by simp only[List.length_append] at hm⊢;omega,by simp only[List.length_append] at hN⊢;omega,by rw[<-hR];simp,hU2,hU1⟩);clear hN hW hR hm hx hy hl hU1 hU2 hne;go_wp2_with (go_at_call 247;refine hsw.mono ?_;rintro e w' ⟨rfl,hW,hb⟩);refine⟨⟨x-y,y,by omega,by omega,y1,y2,rfl,rfl,?_,hX.trans hb⟩,by simp[intOf];omega⟩;obtain⟨f1,f2,f3,f4,f5⟩:=HF.out;exact⟨pre'++V',U2,U1,post',f4,f5,f1,f2,f3,by simpa using hW⟩
   ·obtain⟨V1,V2,rfl,hV1⟩:∃ V1 V2,V'=V1++V2∧V1.length=y-x:=⟨V'.take (y-x),V'.drop (y-x),(List.take_append_drop _ _).symm,by rw[List.length_take];omega⟩;have hV2:V2.length=x:=by rw[List.length_append] at hy;omega
    have hxy:x<y:=by omega
    have e5:IntKind.i64.wrap (m+(y:Int))=m+(y:Int):=by rw[IntKind.wrap_i64];omega
    have e6:IntKind.i64.wrap (m+(y:Int)-(x:Int))=m+(y:Int)-(x:Int):=by rw[IntKind.wrap_i64];omega
    have hsw:=zeG base A cap N pre' U' V1 V2 post' (m-(x:Int)) (m+(y:Int)-(x:Int)) (x:Int) cf wr (by simpa using hW) (by simpa using hN) hs (by omega) (by omega) (by omega) (by omega);have e4:IntKind.i64.wrap ((y:Int)-(x:Int))=((y-x:Nat):Int):=by rw[IntKind.wrap_i64];omega
    have HF:=Lib.hid (show(pre'.length+V2.length:Nat)=m∧(pre'++(V2++(V1++(U'++post')))).length=N∧pre'++(V1++(V2++(U'++post')))=R∧V2.length=x∧V1.length=y-x from⟨by omega,by simp only[List.length_append] at hN⊢;omega,by rw[<-hR];simp,hV2,hV1⟩);clear hN hW hR hm hx hy hl hV1 hV2 hne;go_wp2_with (go_at_call 247;refine hsw.mono ?_;rintro e w' ⟨rfl,hW,hb⟩);refine⟨⟨x,y-x,by omega,by omega,by omega,by omega,rfl,rfl,?_,hX.trans hb⟩,by simp[intOf];omega⟩;obtain⟨f1,f2,f3,f4,f5⟩:=HF.out;exact⟨pre',V2,V1,U'++post',f4,f5,f1,f2,f3,hW⟩
end
end Go.Proofs.YtinjdacijiohiaaGreatDoor
namespace Go.Proofs.YtinjdacijiohiaaGreatDoor
open _root_.Go.Proofs.Tryz
open Go.RowKit
theorem zsn {D i j} (h:i≠j):sw1 D i j=sw1 D j i:=by unfold sw1;exact List.set_comm _ _ h
theorem zsA (p r x y) {i j} (hi:i=p.length) (hj:j=p.length+1):sw1 (p++x::y::r) i j=p++y::x::r:=by
 have:=znM p [] r x y (i:=i) (j:=j) hi (by simp;omega);simpa using this
theorem zsB (p r l x) {i j} (hi:i=p.length+1) (hj:j=p.length):sw1 (p++l::x::r) i j=p++x::l::r:=by
 rw[zsn (by omega)];exact zsA p r l x hj hi
def InI (lt:Nat->Nat->Bool) (pre X0 rest:List Nat) (x k:Nat) (E:List Nat):Prop:=
 ∃ X1 Y,X1++Y=X0∧E=pre++(X1++x::(Y++rest))∧X1.length=k∧∀ f,Y.head? = some f->lt x f=true
section
variable {lt:Nat->Nat->Bool} {pre X0 rest E:List Nat} {x k:Nat}
theorem InI.start (lt:Nat->Nat->Bool) (pre X0 rest:List Nat) (x:Nat):InI lt pre X0 rest x X0.length (pre++(X0++x::rest)):=
 ⟨X0,[],by simp,by simp,rfl,λf hf=>by cases hf⟩
theorem InI.len (h:InI lt pre X0 rest x k E):E.length=pre.length+X0.length+1+rest.length:=by
 obtain⟨X1,Y,rfl,rfl,_,_⟩:=h;simp only[List.length_append,List.length_cons];omega
theorem InI.at (h:InI lt pre X0 rest x k E):E[pre.length+k]? = some x:=by
 obtain⟨X1,Y,rfl,rfl,rfl,_⟩:=h;rw[<-List.append_assoc,<-List.length_append,List.getElem?_append_right (Nat.le_refl _),Nat.sub_self];rfl
theorem InI.prev (h:InI lt pre X0 rest x (k+1) E):∃ l,l∈X0∧E[pre.length+k]? = some l:=by
 obtain⟨X1,Y,rfl,rfl,hk,_⟩:=h;obtain⟨X2,l,rfl⟩:∃ X2 l,X1=X2++[l]:=⟨X1.dropLast,X1.getLast (by intro e;subst e;simp at hk),(List.dropLast_concat_getLast _).symm⟩;have hk:X2.length=k:=by simpa using hk
 subst hk;refine⟨l,by simp,?_⟩;rw[<-List.append_assoc,<-List.append_assoc,<-List.length_append,List.append_assoc,List.getElem?_append_right (Nat.le_refl _),Nat.sub_self];rfl
theorem InI.step (h:InI lt pre X0 rest x (k+1) E) {l:Nat} (hl:E[pre.length+k]? = some l) (hlt:lt x l=true) {i j:Nat} (hi:i=pre.length+(k+1)) (hj:j=pre.length+k):InI lt pre X0 rest x k (sw1 E i j):=by
 obtain⟨X1,Y,rfl,rfl,hk,_⟩:=h;obtain⟨X2,l2,rfl⟩:∃ X2 l,X1=X2++[l]:=⟨X1.dropLast,X1.getLast (by intro e;subst e;simp at hk),(List.dropLast_concat_getLast _).symm⟩;have hk:X2.length=k:=by simpa using hk
 subst hk;have e1:pre++(X2++[l2]++x::(Y++rest))=(pre++X2)++l2::x::(Y++rest):=by simp
 rw[e1] at hl⊢;rw[<-List.length_append,List.getElem?_append_right (Nat.le_refl _),Nat.sub_self] at hl;obtain rfl:l2=l:=by simpa using hl
 rw[zsB _ _ _ _ (by simp;omega) (by simp;omega)];exact⟨X2,l2::Y,by simp,by simp,rfl,λf hf=>by
  have hq:l2=f:=Option.some.inj hf
  rw[<-hq];exact hlt⟩
theorem InI.done (h:Swo lt) (hI:InI lt pre X0 rest x k E) (hs:X0.Pairwise (Lx lt)) (hb:∀ y∈X0,y<x) (hk:k=0∨∃ j l,k=j+1∧E[pre.length+j]? = some l∧lt x l=false) :
  ∃ X',X'.Perm (x::X0)∧X'.Pairwise (Lx lt)∧E=pre++(X'++rest):=by
 obtain⟨X1,Y,rfl,rfl,rfl,hf⟩:=hI;refine⟨X1++x::Y,List.perm_middle,zhl h hs ?_ (λf e=>Or.inl (hf f e)),by simp⟩;intro l hl;rcases hk with hk | ⟨j,l',hk,hl',hlt⟩
 ·rw[List.eq_nil_of_length_eq_zero hk] at hl;cases hl
 ·have hl2:X1[j]? = some l:=by rw[List.getLast?_eq_getElem?,hk] at hl;simpa using hl
  rw[List.getElem?_append_right (by omega),show pre.length+j-pre.length=j by omega,List.getElem?_append_left (by omega),hl2] at hl';obtain rfl:l=l':=by simpa using hl'
  exact Lx.of_not (hb _ (List.mem_append_left _ (List.mem_of_getElem? hl2))) hlt
end
def up1 (D:List Nat) (a:Nat):Nat->List Nat
 | 0=>D
 | t+1=>sw1 (up1 D a t) (a+t) (a+t+1)
def dn1 (D:List Nat) (m:Nat):Nat->List Nat
 | 0=>D
 | t+1=>sw1 (dn1 D m t) (m-t) (m-t-1)
theorem zjj (D:List Nat) (a:Nat):∀ t,(up1 D a t).length=D.length
 | 0=>rfl
 | t+1=>by rw[up1,zgK,zjj]
theorem zjk (D:List Nat) (a:Nat):∀ t,(dn1 D a t).length=D.length
 | 0=>rfl
 | t+1=>by rw[dn1,zgK,zjk]
theorem znU:∀ (t:Nat) (pre Y post:List Nat) (x:Nat) {a:Nat},Y.length=t->a=pre.length->up1 (pre++x::(Y++post)) a t=pre++(Y++x::post)
 | 0,pre,Y,post,x,a,hY,ha=>by rw[List.eq_nil_of_length_eq_zero hY];rfl
 | t+1,pre,Y,post,x,a,hY,ha=>by
  obtain⟨Y',y,rfl⟩:∃ P' p,Y=P'++[p]:=⟨Y.dropLast,Y.getLast (by intro e;subst e;simp at hY),(List.dropLast_concat_getLast _).symm⟩;simp only[List.length_append,List.length_singleton,Nat.add_right_cancel_iff] at hY;have h:=znU t pre Y' (y::post) x (a:=a) hY ha;rw[up1,show pre++x::(Y'++[y]++post)=pre++x::(Y'++y::post) by simp,h];have e:pre++(Y'++x::y::post)=(pre++Y')++x::y::post:=by simp
  rw[e,zsA _ _ _ _ (by simp;omega) (by simp;omega)];simp
theorem znV:∀ (t:Nat) (pre Y post:List Nat) (x:Nat) {m:Nat},Y.length=t->m=pre.length+t->dn1 (pre++(Y++x::post)) m t=pre++x::(Y++post)
 | 0,pre,Y,post,x,m,hY,hm=>by rw[List.eq_nil_of_length_eq_zero hY];rfl
 | t+1,pre,[],post,x,m,hY,hm=>by cases hY
 | t+1,pre,y::Y,post,x,m,hY,hm=>by
  simp only[List.length_cons,Nat.add_right_cancel_iff] at hY;have h:=znV t (pre++[y]) Y post x (m:=m) hY (by simp;omega);rw[dn1,show pre++(y::Y++x::post)=pre++[y]++(Y++x::post) by simp,h];have e:pre++[y]++x::(Y++post)=pre++y::x::(Y++post):=by simp
  rw[e,zsB _ _ _ _ (by omega) (by omega)];simp
theorem zgg {D a x} (h:D[a]? = some x):seg D a (a+1)=[x]:=by
 have ha:=(List.getElem?_eq_some_iff.1 h).1;refine List.ext_getElem? λi=>?_;unfold seg;rw[List.getElem?_drop,List.getElem?_take];match i with
 | 0=>rw[if_pos (by omega)];simpa using h
 | i+1=>rw[if_neg (by omega)];rfl
theorem zdM {D i b} (h:i<=b):D.drop i=seg D i b++D.drop b:=by
 unfold seg;rw[List.drop_take];conv=>lhs;rw[<-List.take_append_drop (b-i) (D.drop i)]
 rw[List.drop_drop,show i+(b-i)=b by omega]
theorem zmj {D a i} (h:a<=i):D.take i=D.take a++seg D a i:=by
 unfold seg;conv=>lhs;rw[<-List.take_append_drop a (D.take i)]
 rw[List.take_take,Nat.min_eq_left h]
section
variable {lt:Nat->Nat->Bool} (h:Swo lt)
include h
theorem zoW {D : List Nat} {a i b x : Nat} (hx : D[a]? = some x) (h1 : a + 1 ≤ i) (h2 : i ≤ b) (h3 : b ≤ D.length) (hY : (seg D (a + 1) b).Pairwise (Lx lt)) (hxy : ∀ y ∈ seg D (a + 1) b, x < y)
    (c1 : i = a + 1 ∨ ∃ u, D[i - 1]? = some u ∧ lt u x = true) (c2 : i = b ∨ ∃ u, D[i]? = some u ∧ lt u x = false) : Mrg lt a b D (up1 D a (i - 1 - a)) := by
  have la : (D.take a).length = a := by rw [List.length_take]; omega
  have l2 : (seg D (a + 1) i).length = i - 1 - a := by rw [zbw (by omega)]; omega
  have l3 : (seg D i b).length = b - i := zbw h3
  have e0 : seg D (a + 1) b = seg D (a + 1) i ++ seg D i b := zaL h1 h2
  have e1 : D = D.take a ++ ((x :: (seg D (a + 1) i ++ seg D i b)) ++ D.drop b) := by
    conv => lhs; rw [← List.take_append_drop a D, zdM (show a ≤ a + 1 by omega), zgg hx, zdM h1, zdM h2]
    simp
  have e2 : up1 D a (i - 1 - a) = D.take a ++ ((seg D (a + 1) i ++ x :: seg D i b) ++ D.drop b) := by
    have := znU (i - 1 - a) (D.take a) (seg D (a + 1) i) (seg D i b ++ D.drop b) x (a := a) l2 la.symm
    rw [show D.take a ++ x :: (seg D (a + 1) i ++ (seg D i b ++ D.drop b)) = D by conv => rhs; rw [e1]
                                                                                  simp] at this
    rw [this]; simp
  have l4 : (seg D (a + 1) i ++ x :: seg D i b).length = b - a := by simp only [List.length_append, List.length_cons]; omega
  have es : seg (up1 D a (i - 1 - a)) a b = seg D (a + 1) i ++ x :: seg D i b := by rw [e2]; exact zhm la.symm (by omega)
  have e3 : seg D a b = x :: (seg D (a + 1) i ++ seg D i b) := by rw [zaL (show a ≤ a + 1 by omega) (show a + 1 ≤ b by omega), zgg hx, e0]; rfl
  refine ⟨?_, ?_, ?_⟩
  · have := Part.of_mid (pre := D.take a) (Z := x :: (seg D (a + 1) i ++ seg D i b)) (Z' := seg D (a + 1) i ++ x :: seg D i b) (post := D.drop b) (a := a) (b := b) la.symm (by simp; omega) (by simp only [List.length_cons, List.length_append]; omega)
    rw [← e1, ← e2] at this
    exact this
  · rw [es, e3]; exact List.perm_middle
  · rw [es]
    rw [e0] at hY hxy
    refine zhl h hY ?_ ?_
    · intro l hl
      rcases c1 with c1 | ⟨u, hu, hlt⟩
      · rw [zba (by omega)] at hl; cases hl
      · by_cases hi : i = a + 1
        · rw [zba (by omega)] at hl; cases hl
        · rw [zgN (by omega) (by omega), hu] at hl
          obtain rfl : u = l := by simpa using hl
          exact Or.inl hlt
    · intro f hf
      rcases c2 with c2 | ⟨u, hu, hlt⟩
      · rw [zba (by omega)] at hf; cases hf
      · by_cases hi : i = b
        · rw [zba (by omega)] at hf; cases hf
        · rw [zgO (by omega), hu] at hf
          obtain rfl : u = f := by simpa using hf
          exact Lx.of_not (hxy _ (List.mem_append_right _ (zcz hu (by omega) (by omega)))) hlt
theorem zmW {D:List Nat} {a i m y:Nat} (hy:D[m]? = some y) (h1:a<=i) (h2:i<=m) (hX:(seg D a m).Pairwise (Lx lt)) (hxy:∀ x∈seg D a m,x<y)
  (c1:i=a∨∃ u,D[i-1]? = some u∧lt y u=false) (c2:i=m∨∃ u,D[i]? = some u∧lt y u=true):Mrg lt a (m+1) D (dn1 D m (m-i)):=by
 have h3:=(List.getElem?_eq_some_iff.1 hy).1;have la:(D.take a).length=a:=by rw[List.length_take];omega
 have li:(D.take i).length=i:=by rw[List.length_take];omega
 have l1:(seg D a i).length=i-a:=zbw (by omega);have l2:(seg D i m).length=m-i:=zbw (by omega);have e0:seg D a m=seg D a i++seg D i m:=zaL h1 h2;have e3:seg D a (m+1)=seg D a i++(seg D i m++[y]):=by rw[zaL (show a<=m by omega) (Nat.le_succ m),zgg hy,e0,List.append_assoc]
 have e1:D=D.take a++((seg D a i++(seg D i m++[y]))++D.drop (m+1)):=by
  rw[<-e3];exact zfE (by omega)
 have e2:dn1 D m (m-i)=D.take a++((seg D a i++y::seg D i m)++D.drop (m+1)):=by
  have:=znV (m-i) (D.take i) (seg D i m) (D.drop (m+1)) y (m:=m) l2 (by omega);rw[show D.take i++(seg D i m++y::D.drop (m+1))=D by
   conv=>rhs;rw[e1]
   rw[zmj h1];simp] at this
  rw[this,zmj h1];simp
 have l4:(seg D a i++y::seg D i m).length=m+1-a:=by simp only[List.length_append,List.length_cons];omega
 have es:seg (dn1 D m (m-i)) a (m+1)=seg D a i++y::seg D i m:=by rw[e2];exact zhm la.symm (by omega)
 refine⟨?_,?_,?_⟩
 ·have:=Part.of_mid (pre:=D.take a) (Z:=seg D a i++(seg D i m++[y])) (Z':=seg D a i++y::seg D i m) (post:=D.drop (m+1)) (a:=a) (b:=m+1) la.symm (by simp only[List.length_cons,List.length_append,List.length_nil]) (by simp only[List.length_cons,List.length_append,List.length_nil];omega);rw[<-e1,<-e2] at this;exact this
 ·rw[es,e3];refine List.Perm.append_left _ ?_;exact(List.perm_append_singleton y _).symm
 ·rw[es];rw[e0] at hX hxy;refine zhl h hX ?_ ?_
  ·intro l hl;rcases c1 with c1 | ⟨u,hu,hlt⟩
   ·rw[zba (by omega)] at hl;cases hl
   ·by_cases hi:i=a
    ·rw[zba (by omega)] at hl;cases hl
    ·rw[zgN (by omega) (by omega),hu] at hl;obtain rfl:u=l:=by simpa using hl
     exact Lx.of_not (hxy _ (List.mem_append_left _ (zcz hu (by omega) (by omega)))) hlt
  ·intro f hf;rcases c2 with c2 | ⟨u,hu,hlt⟩
   ·rw[zba (by omega)] at hf;cases hf
   ·by_cases hi:i=m
    ·rw[zba (by omega)] at hf;cases hf
    ·rw[zgO (by omega),hu] at hf;obtain rfl:u=f:=by simpa using hf
     exact Or.inl hlt
structure Turned (lt:Nat->Nat->Bool) (a s mid e b:Nat) (D D1:List Nat):Prop where
 part:Part a b D D1
 perm:(seg D1 a b).Perm (seg D a b)
 cross:∀ u∈seg D1 a mid,∀ v∈seg D1 mid b,Lx lt u v
 p1:(seg D1 a s).Pairwise (Lx lt)
 p2:(seg D1 s mid).Pairwise (Lx lt)
 c1:∀ x∈seg D1 a s,∀ y∈seg D1 s mid,x<y
 p3:(seg D1 mid e).Pairwise (Lx lt)
 p4:(seg D1 e b).Pairwise (Lx lt)
 c2:∀ x∈seg D1 mid e,∀ y∈seg D1 e b,x<y
theorem zqK {D:List Nat} {a m b s e mid:Nat} (h1:a<=s) (h2:s<=m) (h3:m<=e) (h4:e<=b) (h5:b<=D.length) (hmid:mid=s+(e-m))
  (hX:(seg D a m).Pairwise (Lx lt)) (hY:(seg D m b).Pairwise (Lx lt)) (hxy:∀ x∈seg D a m,∀ y∈seg D m b,x<y)
  (b1:s=a∨e=b∨∃ u v,D[e]? = some u∧D[s-1]? = some v∧lt u v=false)
  (b2:s=m∨e=m∨∃ u v,D[e-1]? = some u∧D[s]? = some v∧lt u v=true):Turned lt a s mid e b D (D.take s++(seg D m e++(seg D s m++D.drop e))):=by
 obtain⟨g1,g2,g3,g4,g5,g6⟩:=zmV h h1 h2 h3 h4 h5 hmid hX hY hxy b1 b2 rfl;generalize D.take s++(seg D m e++(seg D s m++D.drop e))=D1 at *;have x1:=zaL (D:=D) h1 h2;have y1:=zaL (D:=D) h3 h4;rw[x1] at hX;rw[y1] at hY;obtain⟨xa,xb,_⟩:=List.pairwise_append.1 hX;obtain⟨ya,yb,_⟩:=List.pairwise_append.1 hY;refine⟨g1,?_,g6,by rw[g2];exact xa,by rw[g3];exact ya,?_,by rw[g4];exact xb,by rw[g5];exact yb,?_⟩
 ·rw[zaL h1 (show s<=b by omega),zaL (show s<=mid by omega) (show mid<=b by omega),zaL (show mid<=e by omega) h4,g2,g3,g4,g5];rw[zaL h1 (show s<=b by omega),zaL h2 (show m<=b by omega),y1];refine List.Perm.append_left _ ?_;rw[<-List.append_assoc,<-List.append_assoc];exact List.Perm.append_right _ List.perm_append_comm
 ·rw[g2,g3];intro x hx y hy;exact hxy x (by rw[x1];exact List.mem_append_left _ hx) y (by rw[y1];exact List.mem_append_left _ hy)
 ·rw[g4,g5];intro x hx y hy;exact hxy x (by rw[x1];exact List.mem_append_right _ hx) y (by rw[y1];exact List.mem_append_right _ hy)
end
theorem zqL {D m s e} (h2:s<=m) (h3:m<=e) (hh:s=m∨m=e):D.take s++(seg D m e++(seg D s m++D.drop e))=D:=by
 rcases hh with rfl | rfl
 ·rw[zba (Nat.le_refl _),List.nil_append,<-zdM h3,List.take_append_drop]
 ·rw[zba (Nat.le_refl _),List.nil_append,<-zdM h2,List.take_append_drop]
theorem znW {D m s e} (h2:s<=m) (h3:m<=e):D=D.take s++(seg D s m++(seg D m e++D.drop e)):=by
 rw[<-zdM h3,<-zdM h2,List.take_append_drop]
end Go.Proofs.YtinjdacijiohiaaGreatDoor
namespace Go.Proofs.YtinjdacijiohiaaGreatDoor
open _root_.Go.Proofs.Tryz
open Go.RowKit NM
section
variable {g:Nat->Nm}
structure CmpS (g:Nat->Nm) (cl:FuncId) (capt:Array Value) (lt:Nat->Nat->Bool) (M base:Nat) (w:World):Prop where
 ent:∀ (args:Array Value) (W:World),(callFunc cl args).run prog W = .ok (.enter cl args) W
 run:∀ (i j:Nat) (W:World),i<M->j<M->Bq base w W->Calls prog cl (#[NV (g i).1 (g i).2,NV (g j).1 (g j).2]++capt) W λe W'=>∃ c:Int,e = .returned (.int .i64 c)∧decide (c<0)=lt i j∧Ext W W'
theorem CmpS.keep {cl:FuncId} {capt:Array Value} {lt:Nat->Nat->Bool} {M base:Nat} {w w':World} (h:CmpS g cl capt lt M base w) (hb:Bq base w w'):CmpS g cl capt lt M base w':=
 ⟨h.ent,λi j W hi hj hW=>h.run i j W hi hj (hb.trans hW)⟩
theorem za8 {base:Nat} {w X Y:World} (h:Bq base w X) (hb:base<=w.heap.size) (hx:Ext X Y):Bq base w Y:=Bq.trans h (Bq.of_ext hx (Nat.le_trans hb h.size))
theorem zfG {a k:Nat} {X X':List Nat} (hX:X.Perm (List.range' a k)) (hX':X'.Perm ((a+k)::X)):X'.Perm (List.range' a (k+1)):=by
 rw[List.range'_concat,Nat.one_mul];exact hX'.trans ((hX.cons _).trans (List.perm_append_singleton _ _).symm)
theorem zmX {lt:Nat->Nat->Bool} (hlt:Swo lt) (cl:FuncId) (capt:Array Value) (M base:Nat) (A:Option Addr) (cap N a m:Nat) (b:Int) (pre post:List Nat) (w:World) (hc:CmpS g cl capt lt M base w) (hbw:base<=w.heap.size)
  (h:Wr g base w A cap (pre++(List.range' a m++post))) (ha:pre.length=a) (hN:pre.length+m+post.length=N) (hs:N<=100000) (hM:a+m<=M) (hb:(a:Int)+m=b) :
  Calls prog 203 #[.slice A N cap,.int .i64 (a:Int),.int .i64 b,.func (.func cl) #[] capt] w λe w'=>e = .returned (.tuple #[])∧(∃ X,X.Perm (List.range' a m)∧X.Pairwise (Lx lt)∧Wr g base w' A cap (pre++(X++post)))∧Bq base w w':=by
 have ha4:a<=100000:=by omega
 have hm4:a+m<=100000:=by omega
 have e1:IntKind.i64.wrap ((a:Int)+1)=(a:Int)+1:=by rw[IntKind.wrap_i64];omega
 have HC:=Lib.hid hc;by_cases hm:m=0
 ·subst hm;have hX:∃ X,X.Perm (List.range' a 0)∧X.Pairwise (Lx lt)∧Wr g base w A cap (pre++(X++post)):=⟨[],List.Perm.refl _,List.Pairwise.nil,h⟩;have HX:=Lib.hid hX;have hb':¬ (a:Int)+1<b:=by omega
  clear hX h hb hc;go_enter func203,ntmps203;go_wp2_with fail;go_loopw [8] (λi wr=>i = .int .i64 ((a:Int)+1)∧wr=w) (λi _=>0)
  case atStart=>exact⟨rfl,rfl⟩
  case round=>
   obtain⟨rfl,rfl⟩:=hrel;go_wp2_with fail;exact bodyPost_end (v:=.tuple #[]) (by simp[results,results203,go_sem]) rfl ⟨rfl,HX.out,Bq.refl _ _⟩
 ·have H0:Hid (∃ X,X.Perm (List.range' a 1)∧X.Pairwise (Lx lt)∧Wr g base w A cap (pre++(X++(List.range' (a+1) (m-1)++post)))):=by
   refine⟨[a],List.Perm.refl _,List.pairwise_singleton _ _,?_⟩;have e:List.range' a m=a::List.range' (a+1) (m-1):=by rw[show m=(m-1)+1 by omega,List.range'_succ];rfl
   rw[e] at h;simpa using h
  clear h hc;go_enter func203,ntmps203;go_wp2_with fail;go_loopw [8] (λi wr=>∃ k p:Nat,1<=k∧k<=m∧p=a+k∧i = .int .i64 (p:Int)∧Hid (∃ X,X.Perm (List.range' a k)∧X.Pairwise (Lx lt)∧Wr g base wr A cap (pre++(X++(List.range' (a+k) (m-k)++post))))∧Bq base w wr) (λi _=>(b-intOf i).toNat)
  case atStart=>exact⟨1,a+1,Nat.le_refl _,by omega,rfl,by go_num,H0,Bq.refl _ _⟩
  case round=>
   clear H0;obtain⟨k,p,hk1,hk,hp,rfl,HW,hX⟩:=hrel;by_cases hkm:k<m
   ·have hpb:(p:Int)<b:=by omega
    have ep:IntKind.i64.wrap ((p:Int)+1)=((p+1:Nat):Int):=by rw[IntKind.wrap_i64];omega
    obtain⟨X,hXp,hXs,hXw⟩:=HW.out;have er:List.range' (a+k) (m-k)=(a+k)::List.range' (a+k+1) (m-(k+1)):=by rw[show m-k=(m-(k+1))+1 by omega,List.range'_succ]
    rw[er] at hXw;obtain⟨rest,hrest⟩:∃ rest,List.range' (a+k+1) (m-(k+1))++post=rest:=⟨_,rfl⟩;have hrl:rest.length=m-(k+1)+post.length:=by rw[<-hrest];simp
    rw[List.cons_append,hrest] at hXw;have hXl:X.length=k:=by have:=hXp.length_eq;simpa using this
    have HI0:Hid (InI lt pre X rest p k (pre++(X++p::rest))∧Wr g base wr A cap (pre++(X++p::rest))):=by rw[hp];exact⟨hXl ▸ InI.start lt pre X rest (a+k),hXw⟩
    have HF:=Lib.hid (And.intro hXp (And.intro hXs hrest));have HB:Hid (∀ y∈X,y<p):=λy hy=>by
     have:=hXp.mem_iff.1 hy;rw[List.mem_range'_1] at this;omega
    have HN:Hid (pre.length+k+1+rest.length=N):=by show _=_;omega
    clear HW hXp hXs hXw er hrest hrl;have hpM:p<M:=by omega
    have HP:=Lib.hid hp;have HK:=Lib.hid hX;have HX0:Hid (X.length=k):=hXl;clear hp hX hXl;go_wp2_with fail;obtain⟨wo,rfl⟩:∃ wo:World,wo=wr:=⟨_,rfl⟩;go_loopw [9] (λj wr=>∃ q s:Nat,s=a+q∧q<=k∧j = .int .i64 (s:Int)∧Hid (∃ E,InI lt pre X rest p q E∧Wr g base wr A cap E)∧Bq base w wr) (λj _=>(intOf j-(a:Int)).toNat)
    case atStart=>exact⟨k,p,HP.out,Nat.le_refl _,rfl,⟨_,HI0.out⟩,HK.out⟩
    case round=>
     clear HI0;obtain⟨q,s,hsq,hq,rfl,HE,hX⟩:=hrel;obtain⟨E,hI,hE⟩:=HE.out;have hEl:=hI.len;by_cases hq0:q=0
     ·obtain⟨X',x1,x2,x3⟩:=hI.done hlt HF.out.2.1 HB.out (Or.inl hq0);have HO:Hid (∃ X,X.Perm (List.range' a (k+1))∧X.Pairwise (Lx lt)∧Wr g base wr A cap (pre++(X++(List.range' (a+(k+1)) (m-(k+1))++post)))):=by
       refine⟨X',zfG HF.out.1 (by rw[<-HP.out];exact x1),x2,?_⟩;rw[show a+(k+1)=a+k+1 by omega,HF.out.2.2,<-x3];exact hE
      have hsa:s=a:=by omega
      subst hsa;clear HE hI hE hEl x1 x2 x3 hsq;go_upto_region 4 with fail;refine plP [(0,0),(1,0),(2,0),(3,0),(4,0),(5,0),(6,0),(7,0),(8,0),(9,0),(10,0),(11,0),(12,0),(13,0),(14,1),(15,0),(16,0)] [] (by kernel_rfl) (λ_ _ d _ _ h=>by cases d <;> exact h) ?_;iterate 14((first | refine zaM rfl rfl ?_ | (apply rdP rfl rfl;(intros;go_simp;first | done | rfl)) | (refine zaA (v:=?_) (c:=?_) rfl rfl rfl rfl ?_ (λhc w1 h1=>?_) ?_;rotate_left 2;(first | exact zaO _ | exact zaP _ | exact zaq _ _ | exact zar _ _);(obtain⟨os1,d1,rfl⟩:=h1.more;(try simp only[zv hc]);(try(have hc1:=zO hc;(try simp only[zv hc1]);(try(have hc2:=zO hc1;(try simp only[zv hc2])))));go_simp;first | done | rfl)));try simp only[zq])
      (refine zc7 rfl ?_ ?_ ?_;(first | with_reducible rfl | rfl | (go_simp;done));(simp[go_sem]))
      try simp only[zq]
      iterate 2((first | refine zaM rfl rfl ?_ | refine zaZ rfl rfl rfl rfl rfl rfl ?_ | refine zbb rfl rfl rfl rfl rfl rfl ?_ | (apply rdP rfl rfl;(intros;go_simp;first | done | rfl)) | (refine zaA (v:=?_) (c:=?_) rfl rfl rfl rfl ?_ (λhc w1 h1=>?_) ?_;rotate_left 2;(first | exact zaO _ | exact zaP _ | exact zaq _ _ | exact zar _ _);(obtain⟨os1,d1,rfl⟩:=h1.more;(try simp only[zv hc]);(try(have hc1:=zO hc;(try simp only[zv hc1]);(try(have hc2:=zO hc1;(try simp only[zv hc2])))));go_simp;first | done | rfl)));try simp only[zq])
      refine zi ?_;go_wp2_with fail;refine⟨⟨k+1,p+1,by omega,by omega,by have:=HP.out;omega,by go_num,?_,by first | exact hX | exact hX.drew | exact hX.drew.drew⟩,by simp[intOf];omega⟩;obtain⟨X2,y1,y2,y3⟩:=HO.out;exact⟨X2,y1,y2,y3.of_ext (by simp[go_sem])⟩
     ·obtain⟨q',rfl⟩:∃ q',q=q'+1:=⟨q-1,by omega⟩;have hat:=hI.at;obtain⟨l,hlX,hl⟩:=hI.prev;have hlM:l<M:=by have:=HB.out l hlX;have:=HP.out;omega
      rw[ha] at hat hl;rw[<-hsq] at hat;obtain⟨s',hs'⟩:∃ s',a+q'=s':=⟨_,rfl⟩;rw[hs'] at hl;obtain⟨bl,off,rfl,hb1,⟨cx,cx'⟩,fx,fx'⟩:=Wr.at hE hat;obtain⟨bl',off',e,_,⟨cl0,cl1⟩,fl,fl'⟩:=Wr.at hE hl;obtain⟨rfl,rfl⟩:=aI e;have hblk:bl<wr.heap.size:=za cx;have hsa:(a:Int)<(s:Int):=by omega
      have es:IntKind.i64.wrap ((s:Int)-1)=(s':Int):=by rw[IntKind.wrap_i64];omega
      have hsN:s<N:=by have:=HN.out;have:=HX0.out;omega
      have hs'N:s'<N:=by omega
      have hcap:=hE.1;have hent:=HC.out.ent;have hcall:=fun(W:World) (hW:Ext wr W)=>HC.out.run p l W hpM hlM (za8 hX hbw hW);cases hlx:lt p l with
      | true=>
       rw[hlx] at hcall;have HSw:Hid (∃ E',InI lt pre X rest p q' E'∧Wr g base (zfq (zfq wr bl (off+s*2) (g l)) bl (off+s'*2) (g p)) (some ⟨bl,off,none⟩) cap E'):=by
        refine⟨sw1 E s s',hI.step (by rw[ha,hs'];exact hl) hlx (by omega) (by omega),?_⟩;exact Wr.sw hE hat hl
       have hsE:s<E.length:=(List.getElem?_eq_some_iff.1 hat).1;have hz:(E.set s l)[s']? = some l:=by rw[List.getElem?_set_ne (by omega)];exact hl
       obtain⟨bl',off',e,_,⟨cz,cz'⟩,fz,fz'⟩:=Wr.at (Wr.set (d:=l) hE hsE) hz;obtain⟨rfl,rfl⟩:=aI e;have hX2:=Wr.bel (Wr.bel hX hE hsE (g l)) (Wr.set (d:=l) hE hsE) (show s'<(E.set s l).length by rw[List.length_set];omega) (g p);have HQ:Hid (s'=a+q'∧q'<=k∧s=a+(q'+1)):=⟨hs'.symm,by omega,hsq⟩;clear HE hI hE hEl hq0 hsq hs' hlx hX hsE hz hat hl hlX hq;go_upto_region 4 with fail;refine plP [(0,0),(1,0),(2,0),(3,0),(4,0),(5,0),(6,0),(7,0),(8,0),(9,0),(10,0),(11,0),(12,0),(13,0),(14,1),(15,0),(16,0)] [] (by kernel_rfl) (λ_ _ d _ _ h=>by cases d <;> exact h) ?_;iterate 14((first | refine zaM rfl rfl ?_ | (apply rdP rfl rfl;(intros;go_simp;first | done | rfl)) | (refine zaA (v:=?_) (c:=?_) rfl rfl rfl rfl ?_ (λhc w1 h1=>?_) ?_;rotate_left 2;(first | exact zaO _ | exact zaP _ | exact zaq _ _ | exact zar _ _);(obtain⟨os1,d1,rfl⟩:=h1.more;(try simp only[zv hc]);(try(have hc1:=zO hc;(try simp only[zv hc1]);(try(have hc2:=zO hc1;(try simp only[zv hc2])))));go_simp;first | done | rfl)));try simp only[zq])
       (refine zg rfl ?_ (λK hK=>?_);(first | with_reducible rfl | rfl | (go_simp;done));go_simp;refine(hcall _ (by simp[go_sem])).mono ?_;rintro e w' ⟨c,rfl,hlc,hb⟩;obtain⟨os1,d1,rfl⟩:=hb.more;clear hb;refine hK _ _ ?_ ?_;(simp[go_sem]))
       try simp only[zq]
       iterate 2((first | refine zaM rfl rfl ?_ | refine zaZ rfl rfl rfl rfl rfl rfl ?_ | refine zbb rfl rfl rfl rfl rfl rfl ?_ | (apply rdP rfl rfl;(intros;go_simp;first | done | rfl)) | (refine zaA (v:=?_) (c:=?_) rfl rfl rfl rfl ?_ (λhc w1 h1=>?_) ?_;rotate_left 2;(first | exact zaO _ | exact zaP _ | exact zaq _ _ | exact zar _ _);(obtain⟨os1,d1,rfl⟩:=h1.more;(try simp only[zv hc]);(try(have hc1:=zO hc;(try simp only[zv hc1]);(try(have hc2:=zO hc1;(try simp only[zv hc2])))));go_simp;first | done | rfl)));try simp only[zq])
       refine zi ?_;go_upto_region 6 with fail;go_region
       go_wp2_with fail;refine⟨⟨q',s',HQ.out.1,HQ.out.2.1,rfl,?_,?_⟩,by have:=HQ.out;simp[intOf];omega⟩
       ·obtain⟨E',f1,f2⟩:=HSw.out;exact⟨E',f1,f2.of_ext (by simp[go_sem])⟩
       ·exact za8 hX2 hbw (by simp[go_sem])
      | false=>
       rw[hlx] at hcall;obtain⟨X',x1,x2,x3⟩:=hI.done hlt HF.out.2.1 HB.out (Or.inr ⟨q',l,rfl,by rw[ha,hs'];exact hl,hlx⟩);have HO:Hid (∃ X,X.Perm (List.range' a (k+1))∧X.Pairwise (Lx lt)∧Wr g base wr (some ⟨bl,off,none⟩) cap (pre++(X++(List.range' (a+(k+1)) (m-(k+1))++post)))):=by
        refine⟨X',zfG HF.out.1 (by rw[<-HP.out];exact x1),x2,?_⟩;rw[show a+(k+1)=a+k+1 by omega,HF.out.2.2,<-x3];exact hE
       clear HE hI hE hEl hq0 hsq hs' hlx x1 x2 x3 hat hl hlX hq;go_upto_region 4 with fail;refine plP [(0,0),(1,0),(2,0),(3,0),(4,0),(5,0),(6,0),(7,0),(8,0),(9,0),(10,0),(11,0),(12,0),(13,0),(14,1),(15,0),(16,0)] [] (by kernel_rfl) (λ_ _ d _ _ h=>by cases d <;> exact h) ?_;iterate 14((first | refine zaM rfl rfl ?_ | (apply rdP rfl rfl;(intros;go_simp;first | done | rfl)) | (refine zaA (v:=?_) (c:=?_) rfl rfl rfl rfl ?_ (λhc w1 h1=>?_) ?_;rotate_left 2;(first | exact zaO _ | exact zaP _ | exact zaq _ _ | exact zar _ _);(obtain⟨os1,d1,rfl⟩:=h1.more;(try simp only[zv hc]);(try(have hc1:=zO hc;(try simp only[zv hc1]);(try(have hc2:=zO hc1;(try simp only[zv hc2])))));go_simp;first | done | rfl)));try simp only[zq])
       (refine zg rfl ?_ (λK hK=>?_);(first | with_reducible rfl | rfl | (go_simp;done));go_simp;refine(hcall _ (by simp[go_sem])).mono ?_;rintro e w' ⟨c,rfl,hlc,hb⟩;obtain⟨os1,d1,rfl⟩:=hb.more;clear hb;refine hK _ _ ?_ ?_;(simp[go_sem]))
       try simp only[zq]
       iterate 2((first | refine zaM rfl rfl ?_ | refine zaZ rfl rfl rfl rfl rfl rfl ?_ | refine zbb rfl rfl rfl rfl rfl rfl ?_ | (apply rdP rfl rfl;(intros;go_simp;first | done | rfl)) | (refine zaA (v:=?_) (c:=?_) rfl rfl rfl rfl ?_ (λhc w1 h1=>?_) ?_;rotate_left 2;(first | exact zaO _ | exact zaP _ | exact zaq _ _ | exact zar _ _);(obtain⟨os1,d1,rfl⟩:=h1.more;(try simp only[zv hc]);(try(have hc1:=zO hc;(try simp only[zv hc1]);(try(have hc2:=zO hc1;(try simp only[zv hc2])))));go_simp;first | done | rfl)));try simp only[zq])
       refine zi ?_;go_wp2_with fail;refine⟨⟨k+1,p+1,by omega,by omega,by have:=HP.out;omega,by go_num,?_,za8 hX hbw (by simp[go_sem])⟩,by simp[intOf];omega⟩;obtain⟨X2,y1,y2,y3⟩:=HO.out;exact⟨X2,y1,y2,y3.of_ext (by simp[go_sem])⟩
   ·obtain rfl:k=m:=by omega
    have hpb:¬ (p:Int)<b:=by omega
    have HO:Hid (∃ X,X.Perm (List.range' a k)∧X.Pairwise (Lx lt)∧Wr g base wr A cap (pre++(X++post))):=by
     obtain⟨X,x1,x2,x3⟩:=HW.out;exact⟨X,x1,x2,by simpa using x3⟩
    clear HW;go_wp2_with fail;obtain⟨X,x1,x2,x3⟩:=HO.out;exact bodyPost_end (v:=.tuple #[]) (by simp[results,results203,go_sem]) rfl ⟨rfl,⟨X,x1,x2,x3⟩,hX⟩
end
section
variable {g:Nat->Nm}
theorem zfH {i j h:Nat} (hb:i+j<=200000) (hh:(i+j)/2=h):IntKind.i64.wrap ((i:Int)+(j:Int))=(i:Int)+(j:Int)∧IntKind.u64.wrap ((i:Int)+(j:Int))=(i:Int)+(j:Int)∧((i:Int)+(j:Int))/2=(h:Int)∧IntKind.u64.wrap (h:Int)=(h:Int)∧IntKind.i64.wrap (h:Int)=(h:Int):=by
 refine⟨?_,?_,?_,?_,?_⟩
 ·rw[IntKind.wrap_i64];omega
 ·rw[IntKind.wrap_u64];omega
 ·omega
 ·rw[IntKind.wrap_u64];omega
 ·rw[IntKind.wrap_i64];omega
structure MrgIn (g:Nat->Nm) (lt:Nat->Nat->Bool) (cl:FuncId) (capt:Array Value) (M base:Nat) (A:Option Addr) (cap N a m b:Nat) (D:List Nat) (w:World):Prop where
 cmp:CmpS g cl capt lt M base w
 bw:base<=w.heap.size
 wr:Wr g base w A cap D
 len:D.length=N
 small:N<=100000
 am:a<m
 mb:m<b
 bN:b<=N
 lim:∀ x∈seg D a b,x<M
 sx:(seg D a m).Pairwise (Lx lt)
 sy:(seg D m b).Pairwise (Lx lt)
 xy:∀ x∈seg D a m,∀ y∈seg D m b,x<y
theorem zmY {lt:Nat->Nat->Bool} (hlt:Swo lt) (cl:FuncId) (capt:Array Value) (M base:Nat) (A:Option Addr) (cap N a b:Nat) (D:List Nat) (w:World) (h:MrgIn g lt cl capt M base A cap N a (a+1) b D w) :
  Calls prog 204 #[.slice A N cap,.int .i64 (a:Int),.int .i64 ((a+1:Nat):Int),.int .i64 (b:Int),.func (.func cl) #[] capt] w λe w'=>e = .returned (.tuple #[])∧(∃ D',Mrg lt a b D D'∧Wr g base w' A cap D')∧Bq base w w':=by
 obtain⟨hc,hbw,hW0,hDl,hs,hamm,hmb,hbN,hlim,hsx,hsy,hxy⟩:=h;obtain⟨x,hx⟩:∃ x,D[a]? = some x:=⟨_,List.getElem?_eq_getElem (by omega)⟩;obtain⟨m,hm⟩:∃ m,a+1=m:=⟨_,rfl⟩;have hxM:x<M:=hlim x (zcz hx (by omega) (by omega));have e0:IntKind.i64.wrap ((m:Int)-(a:Int))=1:=by rw[IntKind.wrap_i64];omega
 obtain⟨bl,off,rfl,hb1,⟨cx,cx'⟩,fx,fx'⟩:=Wr.at hW0 hx;have hcap:=hW0.1;have hblk:bl<w.heap.size:=za cx;have HC:=Lib.hid hc;have hent:=hc.ent;have HL:=Lib.hid hlim;have HF:=Lib.hid (And.intro hsy (And.intro (λy hy=>hxy x (by rw[zgg hx];simp) y hy:∀ y∈seg D (a+1) b,x<y) (And.intro hm hx)));have HW0:=Lib.hid hW0;have hm0:m<=b:=by omega
 have ha0:a<m:=by omega
 rw[hm];rw[hDl] at hcap;clear hc hlim hsx hsy hxy hW0 hx hm cx cx' fx fx';go_enter func204,ntmps204;go_wp2_with fail;go_loopw [10,11] (λs t wr=>∃ i j:Nat,m<=i∧i<=j∧j<=b∧s = .int .i64 (i:Int)∧t = .int .i64 (j:Int)∧Hid (i=m∨∃ u,D[i-1]? = some u∧lt u x=true)∧Hid (j=b∨∃ u,D[j]? = some u∧lt u x=false)∧Wr g base wr (some ⟨bl,off,none⟩) cap D∧Bq base w wr) (λs t _=>(intOf t-intOf s).toNat)
 case atStart=>exact⟨m,b,Nat.le_refl _,hm0,Nat.le_refl _,rfl,rfl,Or.inl rfl,Or.inl rfl,HW0.out,Bq.refl _ _⟩
 case round=>
  obtain⟨i,j,h1,h2,h3,rfl,rfl,H1,H2,hW,hX⟩:=hrel;by_cases hij:i<j
  ·have hij':(i:Int)<(j:Int):=by omega
   obtain⟨hh,ehh⟩:∃ hh,(i+j)/2=hh:=⟨_,rfl⟩;obtain⟨w1,w2,w3,w4,w5⟩:=zfH (i:=i) (j:=j) (by omega) ehh;have g1:i<=hh:=by omega
   have g2:hh<j:=by omega
   obtain⟨u,hu⟩:∃ u,D[hh]? = some u:=⟨_,List.getElem?_eq_getElem (by omega)⟩;have huM:u<M:=HL.out u (zcz hu (by omega) (by omega));obtain⟨bl',off',e,_,⟨cu,cu'⟩,fu,fu'⟩:=Wr.at hW hu;obtain⟨rfl,rfl⟩:=aI e;obtain⟨bl',off',e,_,⟨cx,cx'⟩,fx,fx'⟩:=Wr.at hW HF.out.2.2.2;obtain⟨rfl,rfl⟩:=aI e;have hcall:=fun(W:World) (hW:Ext wr W)=>HC.out.run u x W huM hxM (za8 hX hbw hW);have hb2:bl<wr.heap.size:=za cx;have HU:=Lib.hid (And.intro hu ehh);have hN1:hh<N:=by omega
   have hN2:a<N:=by omega
   have hw5:IntKind.i64.wrap ((hh:Int)+1)=((hh+1:Nat):Int):=by rw[IntKind.wrap_i64];omega
   clear hu ehh HW0;go_upto_region 5 with fail;cases hlx:lt u x with
   | true=>
    rw[hlx] at hcall;have H1':Hid (hh+1=m∨∃ u,D[hh+1-1]? = some u∧lt u x=true):=Or.inr ⟨u,HU.out.1,hlx⟩;clear hlx;refine plP [(0,0),(1,0),(2,0),(3,0),(4,0),(5,0),(6,0),(7,0),(8,0),(9,1),(10,0)] [] (by kernel_rfl) (λ_ _ d _ _ h=>by cases d <;> exact h) ?_;iterate 9(apply rdP rfl rfl;(intros;go_simp;first | done | rfl);try simp only[zq])
    (refine zg rfl ?_ (λK hK=>?_);rfl;go_simp;refine(hcall _ (by simp[go_sem])).mono ?_;rintro e w' ⟨c,rfl,hlc,hb⟩;obtain⟨os1,d1,rfl⟩:=hb.more;clear hb;refine hK _ _ ?_ ?_;(simp[go_sem]))
    try simp only[zq]
    (apply rdP rfl rfl;(intros;go_simp;first | done | rfl))
    try simp only[zq]
    refine zi ?_;go_wp2_with fail;exact⟨⟨hh+1,j,by omega,by omega,h3,by go_num,rfl,H1',H2,hW.of_ext (by simp[go_sem]),za8 hX hbw (by simp[go_sem])⟩,by simp[intOf];omega⟩
   | false=>
    rw[hlx] at hcall;have H2':Hid (hh=b∨∃ u,D[hh]? = some u∧lt u x=false):=Or.inr ⟨u,HU.out.1,hlx⟩;clear hlx;refine plP [(0,0),(1,0),(2,0),(3,0),(4,0),(5,0),(6,0),(7,0),(8,0),(9,1),(10,0)] [] (by kernel_rfl) (λ_ _ d _ _ h=>by cases d <;> exact h) ?_;iterate 9(apply rdP rfl rfl;(intros;go_simp;first | done | rfl);try simp only[zq])
    (refine zg rfl ?_ (λK hK=>?_);rfl;go_simp;refine(hcall _ (by simp[go_sem])).mono ?_;rintro e w' ⟨c,rfl,hlc,hb⟩;obtain⟨os1,d1,rfl⟩:=hb.more;clear hb;refine hK _ _ ?_ ?_;(simp[go_sem]))
    try simp only[zq]
    (apply rdP rfl rfl;(intros;go_simp;first | done | rfl))
    try simp only[zq]
    refine zi ?_;go_wp2_with fail;exact⟨⟨i,hh,h1,by omega,by omega,rfl,rfl,H1,H2',hW.of_ext (by simp[go_sem]),za8 hX hbw (by simp[go_sem])⟩,by simp[intOf];omega⟩
  ·obtain rfl:i=j:=by omega
   have hi1:IntKind.i64.wrap ((i:Int)-1)=((i-1:Nat):Int):=by rw[IntKind.wrap_i64];omega
   have HM:Hid (Mrg lt a b D (up1 D a (i-1-a))):=by
    obtain⟨f1,f2,f3,f4⟩:=HF.out;exact zoW hlt f4 (by omega) h3 (by omega) f1 f2 (by rw[f3];exact H1.out) H2.out
   obtain⟨i',hi'⟩:∃ i',i-1=i':=⟨_,rfl⟩;rw[hi'] at hi1 HM;have hi2:a<=i':=by omega
   have hi3:i'<N:=by omega
   have HX:=Lib.hid hX;clear H1 H2 h1 h2 hi' hij hX;have HV:=Lib.hid hW;clear hW HW0;go_wp2_with fail;obtain⟨wo,hwo⟩:∃ wo:World,wo=wr:=⟨_,rfl⟩;rw[<-hwo] at HX HV;rw[<-hwo];clear hwo;go_loopw [13] (λk wr=>∃ t p:Nat,p=a+t∧t<=i'-a∧k = .int .i64 (p:Int)∧Hid (Wr g base wr (some ⟨bl,off,none⟩) cap (up1 D a t))∧Bq base w wr) (λk _=>((i':Int)-intOf k).toNat)
   case atStart=>exact⟨0,a,rfl,Nat.zero_le _,rfl,HV.out,HX.out⟩
   case round=>
    obtain⟨t,p,hp,ht,rfl,HW,hX⟩:=hrel;by_cases htt:p<i'
    ·have htt':(p:Int)<(i':Int):=by omega
     have hE:=HW.out;have hEl:(up1 D a t).length=N:=by rw[zjj];exact hDl
     obtain⟨x1,hx1⟩:∃ x,(up1 D a t)[p]? = some x:=⟨_,List.getElem?_eq_getElem (by omega)⟩;obtain⟨y1,hy1⟩:∃ x,(up1 D a t)[p+1]? = some x:=⟨_,List.getElem?_eq_getElem (by omega)⟩;obtain⟨s',hs'⟩:∃ s',p+1=s':=⟨_,rfl⟩;rw[hs'] at hy1;have ep:IntKind.i64.wrap ((p:Int)+1)=(s':Int):=by rw[IntKind.wrap_i64];omega
     obtain⟨bl',off',e,_,⟨cx,cx'⟩,fx,fx'⟩:=Wr.at hE hx1;obtain⟨rfl,rfl⟩:=aI e;obtain⟨bl',off',e,_,⟨cy,cy'⟩,fy,fy'⟩:=Wr.at hE hy1;obtain⟨rfl,rfl⟩:=aI e;have hb3:bl<wr.heap.size:=za cx;have hz:((up1 D a t).set p y1)[s']? = some y1:=by rw[List.getElem?_set_ne (by omega)];exact hy1
     obtain⟨bl',off',e,_,⟨cz,cz'⟩,fz,fz'⟩:=Wr.at (Wr.set (d:=y1) hE (show p<(up1 D a t).length by omega)) hz;obtain⟨rfl,rfl⟩:=aI e;have hX2:=Wr.bel (Wr.bel hX hE (show p<(up1 D a t).length by omega) (g y1)) (Wr.set (d:=y1) hE (show p<(up1 D a t).length by omega)) (show s'<((up1 D a t).set p y1).length by rw[List.length_set];omega) (g x1);have HSw:Hid (Wr g base (zfq (zfq wr bl (off+p*2) (g y1)) bl (off+s'*2) (g x1)) (some ⟨bl,off,none⟩) cap (up1 D a (t+1))):=by
      show Wr _ _ _ _ _ (sw1 (up1 D a t) (a+t) (a+t+1));rw[<-hp,hs'];exact Wr.sw hE hx1 hy1
     have hpN:p<N:=by omega
     have hsN:s'<N:=by omega
     have HQ:Hid (s'=a+(t+1)∧t+1<=i'-a∧s'=p+1):=⟨by omega,by omega,hs'.symm⟩;clear HW hE hEl hx1 hy1 hs' hz hp ht hX;go_wp2_with fail;go_region
     go_wp2_with fail;exact⟨⟨t+1,s',HQ.out.1,HQ.out.2.1,by go_num,HSw.out.of_ext (by simp[go_sem]),za8 hX2 hbw (by simp[go_sem])⟩,by have:=HQ.out;simp[intOf];omega⟩
    ·have hti:t=i'-a:=by omega
     have htt':¬ (p:Int)<(i':Int):=by omega
     rw[hti] at HW;clear hti;go_wp2_with fail;exact rt0 rfl rfl ⟨rfl,⟨_,HM.out,HW.out.of_ext (by simp[go_sem])⟩,hX⟩
end
section
variable {g:Nat->Nm}
theorem zmk {lt:Nat->Nat->Bool} (hlt:Swo lt) (cl:FuncId) (capt:Array Value) (M base:Nat) (A:Option Addr) (cap N a m:Nat) (D:List Nat) (w:World) (h:MrgIn g lt cl capt M base A cap N a m (m+1) D w) (hne:m≠a+1) :
  Calls prog 204 #[.slice A N cap,.int .i64 (a:Int),.int .i64 (m:Int),.int .i64 ((m+1:Nat):Int),.func (.func cl) #[] capt] w λe w'=>e = .returned (.tuple #[])∧(∃ D',Mrg lt a (m+1) D D'∧Wr g base w' A cap D')∧Bq base w w':=by
 obtain⟨hc,hbw,hW0,hDl,hs,hamm,hmb,hbN,hlim,hsx,hsy,hxy⟩:=h;obtain⟨y,hy⟩:∃ x,D[m]? = some x:=⟨_,List.getElem?_eq_getElem (by omega)⟩;obtain⟨b,hb⟩:∃ b,m+1=b:=⟨_,rfl⟩;have hyM:y<M:=hlim y (zcz hy (by omega) (by omega));have e0:IntKind.i64.wrap ((m:Int)-(a:Int))=(m:Int)-(a:Int):=by rw[IntKind.wrap_i64];omega
 have e1:((m:Int)-(a:Int)==1)=false:=by simp;omega
 have e2:IntKind.i64.wrap ((b:Int)-(m:Int))=1:=by rw[IntKind.wrap_i64];omega
 obtain⟨bl,off,rfl,hb1,⟨cx,cx'⟩,fx,fx'⟩:=Wr.at hW0 hy;have hcap:=hW0.1;have hblk:bl<w.heap.size:=za cx;have HC:=Lib.hid hc;have hent:=hc.ent;have HL:=Lib.hid hlim;have HF:=Lib.hid (And.intro hsx (And.intro (λx hx=>hxy x hx y (by rw[zgg hy];simp):∀ x∈seg D a m,x<y) (And.intro hb hy)));have HW0:=Lib.hid hW0;have hm0:m<b:=by omega
 have hm1:m<N:=by omega
 rw[hb];rw[hb] at hbN HL;rw[hDl] at hcap;clear hc hlim hsx hsy hxy hW0 hy hb hmb cx cx' fx fx' hne;go_enter func204,ntmps204;go_wp2_with fail;go_loopw [14,15] (λs t wr=>∃ i j:Nat,a<=i∧i<=j∧j<=m∧s = .int .i64 (i:Int)∧t = .int .i64 (j:Int)∧Hid (i=a∨∃ u,D[i-1]? = some u∧lt y u=false)∧Hid (j=m∨∃ u,D[j]? = some u∧lt y u=true)∧Wr g base wr (some ⟨bl,off,none⟩) cap D∧Bq base w wr) (λs t _=>(intOf t-intOf s).toNat)
 case atStart=>exact⟨a,m,Nat.le_refl _,by omega,Nat.le_refl _,rfl,rfl,Or.inl rfl,Or.inl rfl,HW0.out,Bq.refl _ _⟩
 case round=>
  obtain⟨i,j,h1,h2,h3,rfl,rfl,H1,H2,hW,hX⟩:=hrel;by_cases hij:i<j
  ·have hij':(i:Int)<(j:Int):=by omega
   obtain⟨hh,ehh⟩:∃ hh,(i+j)/2=hh:=⟨_,rfl⟩;obtain⟨w1,w2,w3,w4,w5⟩:=zfH (i:=i) (j:=j) (by omega) ehh;have g1:i<=hh:=by omega
   have g2:hh<j:=by omega
   obtain⟨u,hu⟩:∃ u,D[hh]? = some u:=⟨_,List.getElem?_eq_getElem (by omega)⟩;have huM:u<M:=HL.out u (zcz hu (by omega) (by omega));obtain⟨bl',off',e,_,⟨cu,cu'⟩,fu,fu'⟩:=Wr.at hW hu;obtain⟨rfl,rfl⟩:=aI e;obtain⟨bl',off',e,_,⟨cx,cx'⟩,fx,fx'⟩:=Wr.at hW HF.out.2.2.2;obtain⟨rfl,rfl⟩:=aI e;have hcall:=fun(W:World) (hW:Ext wr W)=>HC.out.run y u W hyM huM (za8 hX hbw hW);have hb2:bl<wr.heap.size:=za cx;have HU:=Lib.hid (And.intro hu ehh);have hN1:hh<N:=by omega
   have hN2:a<N:=by omega
   have hw5:IntKind.i64.wrap ((hh:Int)+1)=((hh+1:Nat):Int):=by rw[IntKind.wrap_i64];omega
   clear hu ehh HW0;go_upto_region 17 with fail;cases hlx:lt y u with
   | false=>
    rw[hlx] at hcall;have H1':Hid (hh+1=a∨∃ u,D[hh+1-1]? = some u∧lt y u=false):=Or.inr ⟨u,HU.out.1,hlx⟩;clear hlx;refine plP [(0,0),(1,0),(2,0),(3,0),(4,0),(5,0),(6,0),(7,0),(8,0),(9,1),(10,0),(11,0)] [] (by kernel_rfl) (λ_ _ d _ _ h=>by cases d <;> exact h) ?_;iterate 9(apply rdP rfl rfl;(intros;go_simp;first | done | rfl);try simp only[zq])
    (refine zg rfl ?_ (λK hK=>?_);rfl;go_simp;refine(hcall _ (by simp[go_sem])).mono ?_;rintro e w' ⟨c,rfl,hlc,hb⟩;obtain⟨os1,d1,rfl⟩:=hb.more;clear hb;refine hK _ _ ?_ ?_;(simp[go_sem]))
    try simp only[zq]
    iterate 2(apply rdP rfl rfl;(intros;go_simp;first | done | rfl);try simp only[zq])
    refine zi ?_;go_wp2_with fail;exact⟨⟨hh+1,j,by omega,by omega,h3,by go_num,rfl,H1',H2,hW.of_ext (by simp[go_sem]),za8 hX hbw (by simp[go_sem])⟩,by simp[intOf];omega⟩
   | true=>
    rw[hlx] at hcall;have H2':Hid (hh=m∨∃ u,D[hh]? = some u∧lt y u=true):=Or.inr ⟨u,HU.out.1,hlx⟩;clear hlx;refine plP [(0,0),(1,0),(2,0),(3,0),(4,0),(5,0),(6,0),(7,0),(8,0),(9,1),(10,0),(11,0)] [] (by kernel_rfl) (λ_ _ d _ _ h=>by cases d <;> exact h) ?_;iterate 9(apply rdP rfl rfl;(intros;go_simp;first | done | rfl);try simp only[zq])
    (refine zg rfl ?_ (λK hK=>?_);rfl;go_simp;refine(hcall _ (by simp[go_sem])).mono ?_;rintro e w' ⟨c,rfl,hlc,hb⟩;obtain⟨os1,d1,rfl⟩:=hb.more;clear hb;refine hK _ _ ?_ ?_;(simp[go_sem]))
    try simp only[zq]
    iterate 2(apply rdP rfl rfl;(intros;go_simp;first | done | rfl);try simp only[zq])
    refine zi ?_;go_wp2_with fail;exact⟨⟨i,hh,h1,by omega,by omega,rfl,rfl,H1,H2',hW.of_ext (by simp[go_sem]),za8 hX hbw (by simp[go_sem])⟩,by simp[intOf];omega⟩
  ·obtain rfl:i=j:=by omega
   have HM:Hid (Mrg lt a b D (dn1 D m (m-i))):=by
    obtain⟨f1,f2,f3,f4⟩:=HF.out;rw[<-f3];exact zmW hlt f4 h1 h3 f1 f2 H1.out H2.out
   have HX:=Lib.hid hX;have HV:=Lib.hid hW;clear H1 H2 h2 hij hX hW HW0;go_wp2_with fail;obtain⟨wo,hwo⟩:∃ wo:World,wo=wr:=⟨_,rfl⟩;rw[<-hwo] at HX HV;rw[<-hwo];clear hwo;go_loopw [17] (λk wr=>∃ t p:Nat,p=m-t∧t<=m-i∧k = .int .i64 (p:Int)∧Hid (Wr g base wr (some ⟨bl,off,none⟩) cap (dn1 D m t))∧Bq base w wr) (λk _=>(intOf k-(i:Int)).toNat)
   case atStart=>exact⟨0,m,rfl,Nat.zero_le _,rfl,HV.out,HX.out⟩
   case round=>
    obtain⟨t,p,hp,ht,rfl,HW,hX⟩:=hrel;by_cases htt:i<p
    ·have htt':(i:Int)<(p:Int):=by omega
     have hE:=HW.out;have hEl:(dn1 D m t).length=N:=by rw[zjk];exact hDl
     obtain⟨s',hs'⟩:∃ s',p-1=s':=⟨_,rfl⟩;obtain⟨x1,hx1⟩:∃ x,(dn1 D m t)[p]? = some x:=⟨_,List.getElem?_eq_getElem (by omega)⟩;obtain⟨y1,hy1⟩:∃ x,(dn1 D m t)[p-1]? = some x:=⟨_,List.getElem?_eq_getElem (by omega)⟩;rw[hs'] at hy1;have ep:IntKind.i64.wrap ((p:Int)-1)=(s':Int):=by rw[IntKind.wrap_i64];omega
     obtain⟨bl',off',e,_,⟨cx,cx'⟩,fx,fx'⟩:=Wr.at hE hx1;obtain⟨rfl,rfl⟩:=aI e;obtain⟨bl',off',e,_,⟨cy,cy'⟩,fy,fy'⟩:=Wr.at hE hy1;obtain⟨rfl,rfl⟩:=aI e;have hb3:bl<wr.heap.size:=za cx;have hz:((dn1 D m t).set p y1)[s']? = some y1:=by rw[List.getElem?_set_ne (by omega)];exact hy1
     obtain⟨bl',off',e,_,⟨cz,cz'⟩,fz,fz'⟩:=Wr.at (Wr.set (d:=y1) hE (show p<(dn1 D m t).length by omega)) hz;obtain⟨rfl,rfl⟩:=aI e;have hX2:=Wr.bel (Wr.bel hX hE (show p<(dn1 D m t).length by omega) (g y1)) (Wr.set (d:=y1) hE (show p<(dn1 D m t).length by omega)) (show s'<((dn1 D m t).set p y1).length by rw[List.length_set];omega) (g x1);have HSw:Hid (Wr g base (zfq (zfq wr bl (off+p*2) (g y1)) bl (off+s'*2) (g x1)) (some ⟨bl,off,none⟩) cap (dn1 D m (t+1))):=by
      show Wr _ _ _ _ _ (sw1 (dn1 D m t) (m-t) (m-t-1));rw[<-hp,hs'];exact Wr.sw hE hx1 hy1
     have hpN:p<N:=by omega
     have hsN:s'<N:=by omega
     have HQ:Hid (s'=m-(t+1)∧t+1<=m-i∧p=s'+1):=⟨by omega,by omega,by omega⟩;clear HW hE hEl hx1 hy1 hs' hz hp ht hX;go_wp2_with fail;go_region
     go_wp2_with fail;exact⟨⟨t+1,s',HQ.out.1,HQ.out.2.1,by go_num,HSw.out.of_ext (by simp[go_sem]),za8 hX2 hbw (by simp[go_sem])⟩,by have:=HQ.out;simp[intOf];omega⟩
    ·have hti:t=m-i:=by omega
     have htt':¬ (i:Int)<(p:Int):=by omega
     rw[hti] at HW;clear hti;go_wp2_with fail;exact rt0 rfl rfl ⟨rfl,⟨_,HM.out,HW.out.of_ext (by simp[go_sem])⟩,hX⟩
end
section
variable {g:Nat->Nm}
theorem MrgIn.part1 {lt:Nat->Nat->Bool} {cl:FuncId} {capt:Array Value} {M base cap N a m b s mid e:Nat} {A:Option Addr} {D D1:List Nat} {w w1:World} (h:MrgIn g lt cl capt M base A cap N a m b D w) (ht:Turned lt a s mid e b D D1) (hx:Bq base w w1) (hw:Wr g base w1 A cap D1) (h1:a<s) (h2:s<mid) (h3:mid<=b) :
  MrgIn g lt cl capt M base A cap N a s mid D1 w1:=
 ⟨h.cmp.keep hx,Nat.le_trans h.bw hx.size,hw,ht.part.len.trans h.len,h.small,h1,h2,Nat.le_trans h3 h.bN,λx hxx=>h.lim x (ht.perm.mem_iff.1 (zhq (Nat.le_refl _) h3 hxx)),ht.p1,ht.p2,ht.c1⟩
theorem MrgIn.part2 {lt:Nat->Nat->Bool} {cl:FuncId} {capt:Array Value} {M base cap N a m b s mid e:Nat} {A:Option Addr} {D D1 D2:List Nat} {w w2:World} (h:MrgIn g lt cl capt M base A cap N a m b D w) (ht:Turned lt a s mid e b D D1) (hm:Mrg lt a mid D1 D2) (hx:Bq base w w2) (hw:Wr g base w2 A cap D2) (h1:mid<e) (h2:e<b) (h3:a<=mid) :
  MrgIn g lt cl capt M base A cap N mid e b D2 w2:=by
 have e1:seg D2 mid b=seg D1 mid b:=hm.part.seg_hi (Nat.le_refl _);have e2:seg D2 mid e=seg D1 mid e:=hm.part.seg_hi (Nat.le_refl _);have e3:seg D2 e b=seg D1 e b:=hm.part.seg_hi (Nat.le_of_lt h1);refine⟨h.cmp.keep hx,Nat.le_trans h.bw hx.size,hw,hm.part.len.trans (ht.part.len.trans h.len),h.small,h1,h2,h.bN,λx hxx=>?_,by rw[e2];exact ht.p3,by rw[e3];exact ht.p4,by rw[e2,e3];exact ht.c2⟩;rw[e1] at hxx;exact h.lim x (ht.perm.mem_iff.1 (zhq h3 (Nat.le_refl _) hxx))
structure Srch (a m b mid lo hi nn N:Nat):Prop where
 am:a<m
 mb:m<b
 bN:b<=N
 small:N<=100000
 amid:a<mid
 midb:mid<b
 alo:a<=lo
 lohi:lo<=hi
 him:hi<=m
 himid:hi<=mid
 nlo:nn<=b+lo
 nhi:m+hi<=nn
 lom:lo<m
 e1:lo=a∨nn=b+lo
 e2:hi=m∨nn=m+hi
 nn:mid+m=nn
theorem ztH {a m b mid lo hi nn N:Nat} (h1:a<m) (h2:m<b) (h3:b<=N) (h4:N<=100000) (hm:(a+b)/2=mid) (hn:mid+m=nn) (h:(mid<m∧mid+m-b=lo∧hi=mid)∨(m<=mid∧lo=a∧hi=m)):Srch a m b mid lo hi nn N:=by
 constructor <;> omega
theorem zoX {a m b mid lo hi nn N i j:Nat} (h:Srch a m b mid lo hi nn N) (h1:lo<=i) (h2:i<j) (h3:j<=hi) :
  ∃ hh q:Nat,(IntKind.i64.wrap ((i:Int)+(j:Int))=(i:Int)+(j:Int)∧IntKind.u64.wrap ((i:Int)+(j:Int))=(i:Int)+(j:Int)∧((i:Int)+(j:Int))/2=(hh:Int)∧IntKind.u64.wrap (hh:Int)=(hh:Int)∧IntKind.i64.wrap (hh:Int)=(hh:Int))∧IntKind.i64.wrap (((nn-1:Nat):Int)-(hh:Int))=(q:Int)∧IntKind.i64.wrap ((hh:Int)+1)=((hh+1:Nat):Int)∧(i<=hh∧hh<j∧a<=hh∧hh<b∧a<=q∧q<b)∧hh<N∧q<N∧nn-(hh+1)=q∧nn-1-hh=q:=by
 obtain⟨g1,g2,g3,g4,g5,g6,g7,g8,g9,g10,g11,g12,g13,g14,g15,g16⟩:=h;refine⟨(i+j)/2,nn-1-(i+j)/2,zfH (by omega) rfl,by rw[IntKind.wrap_i64];omega,by rw[IntKind.wrap_i64];omega,by omega,by omega,by omega,by omega,rfl⟩
structure Ends (a m b mid i e nn N:Nat):Prop where
 ai:a<=i
 im:i<=m
 me:m<=e
 eb:e<=b
 imid:i<=mid
 mide:mid<=e
 kmid:mid=i+(e-m)
 amid:a<mid
 midb:mid<b
 bN:b<=N
 small:N<=100000
 en:nn-i=e
 ei:IntKind.i64.wrap ((nn:Int)-(i:Int))=(e:Int)
theorem zkx {a m b mid lo hi nn N i:Nat} (h:Srch a m b mid lo hi nn N) (h1:lo<=i) (h3:i<=hi):Ends a m b mid i (nn-i) nn N:=by
 obtain⟨g1,g2,g3,g4,g5,g6,g7,g8,g9,g10,g11,g12,g13,g14,g15,g16⟩:=h;refine⟨by omega,by omega,by omega,by omega,by omega,by omega,by omega,by omega,by omega,by omega,by omega,rfl,by rw[IntKind.wrap_i64];omega⟩
theorem zmZ {lt:Nat->Nat->Bool} (hlt:Swo lt) {cl:FuncId} {capt:Array Value} {M base cap N a m b mid lo hi nn i:Nat} {A:Option Addr} {D:List Nat} {w:World} (hin:MrgIn g lt cl capt M base A cap N a m b D w) (h:Srch a m b mid lo hi nn N) (h1:lo<=i) (h3:i<=hi)
  (H1:i=lo∨∃ u v,D[nn-i]? = some u∧D[i-1]? = some v∧lt u v=false) (H2:i=hi∨∃ u v,D[nn-1-i]? = some u∧D[i]? = some v∧lt u v=true) :
  Turned lt a i mid (nn-i) b D (D.take i++(seg D m (nn-i)++(seg D i m++D.drop (nn-i)))):=by
 have he:=zkx h h1 h3;have hl:=hin.len;have hb:=h.bN;refine zqK hlt he.ai he.im he.me he.eb (by omega) he.kmid hin.sx hin.sy hin.xy ?_ ?_
 ·rcases H1 with H | ⟨u,v,hu,hv,hl⟩
  ·rcases h.e1 with h' | h'
   ·exact Or.inl (by omega)
   ·exact Or.inr (Or.inl (by omega))
  ·exact Or.inr (Or.inr ⟨u,v,hu,hv,hl⟩)
 ·rcases H2 with H | ⟨u,v,hu,hv,hl⟩
  ·rcases h.e2 with h' | h'
   ·exact Or.inl (by omega)
   ·exact Or.inr (Or.inl (by omega))
  ·exact Or.inr (Or.inr ⟨u,v,by rw[Nat.sub_right_comm];exact hu,hv,hl⟩)
theorem zuQ {base cap N a m b mid i e nn:Nat} {A:Option Addr} {D D1:List Nat} (cf:Value) (he:Ends a m b mid i e nn N) (hl:D.length=N) (hD1:D.take i++(seg D m e++(seg D i m++D.drop e))=D1) {wr:World} (hW:Wr g base wr A cap D) (q1:i<m) (q2:m<e) :
  Calls prog 228 #[.slice A N cap,.int .i64 (i:Int),.int .i64 (m:Int),.int .i64 (e:Int),cf] wr λe9 w'=>e9 = .returned (.tuple #[])∧Wr g base w' A cap D1∧Bq base wr w':=by
 obtain⟨k1,k2,k3,k4,k5,k6,k7,k8,k9,k10,k11,k12,k13⟩:=he;have l1:(D.take i).length=i:=by rw[List.length_take];omega
 have l2:(seg D i m).length=m-i:=zbw (by omega);have l3:(seg D m e).length=e-m:=zbw (by omega);have h9:=zoV base A cap N (D.take i) (seg D i m) (seg D m e) (D.drop e) (i:Int) (m:Int) (e:Int) cf wr (by rw[<-znW k2 k3];exact hW) (by rw[<-znW k2 k3];exact hl) k11 (by omega) (by omega) (by omega) (by omega) (by omega);rw[hD1] at h9;exact h9
theorem zkO {lt:Nat->Nat->Bool} (hlt:Swo lt) (cl:FuncId) (capt:Array Value) (M base:Nat) (A:Option Addr) (cap N k:Nat) (ih:∀ (a m b:Nat) (D:List Nat) (w:World),b-a<=k->MrgIn g lt cl capt M base A cap N a m b D w ->
  Calls prog 204 #[.slice A N cap,.int .i64 (a:Int),.int .i64 (m:Int),.int .i64 (b:Int),.func (.func cl) #[] capt] w λe w'=>e = .returned (.tuple #[])∧(∃ D',Mrg lt a b D D'∧Wr g base w' A cap D')∧Bq base w w') (a m b:Nat) (D:List Nat) (w:World) (hk:b-a<=k+1) (h:MrgIn g lt cl capt M base A cap N a m b D w) :
  Calls prog 204 #[.slice A N cap,.int .i64 (a:Int),.int .i64 (m:Int),.int .i64 (b:Int),.func (.func cl) #[] capt] w λe w'=>e = .returned (.tuple #[])∧(∃ D',Mrg lt a b D D'∧Wr g base w' A cap D')∧Bq base w w':=by
  by_cases hl:m=a+1
  ·subst hl;exact zmY hlt cl capt M base A cap N a b D w h
  by_cases hr:b=m+1
  ·subst hr;exact zmk hlt cl capt M base A cap N a m D w h hl
  have hin:=h;obtain⟨hc,hbw,hW0,hDl,hs,hamm,hmb,hbN,hlim,hsx,hsy,hxy⟩:=h;have e0:IntKind.i64.wrap ((m:Int)-(a:Int))=(m:Int)-(a:Int):=by rw[IntKind.wrap_i64];omega
  have e1:((m:Int)-(a:Int)==1)=false:=by simp;omega
  have e2:IntKind.i64.wrap ((b:Int)-(m:Int))=(b:Int)-(m:Int):=by rw[IntKind.wrap_i64];omega
  have e3:((b:Int)-(m:Int)==1)=false:=by simp;omega
  obtain⟨mid,emid⟩:∃ hh,(a+b)/2=hh:=⟨_,rfl⟩;obtain⟨w1,w2,w3,w4,w5⟩:=zfH (i:=a) (j:=b) (by omega) emid;obtain⟨nn,hnn⟩:∃ nn,mid+m=nn:=⟨_,rfl⟩;have e4:IntKind.i64.wrap ((mid:Int)+(m:Int))=(nn:Int):=by rw[IntKind.wrap_i64];omega
  obtain⟨pp,hpp⟩:∃ pp,nn-1=pp:=⟨_,rfl⟩;have e5:IntKind.i64.wrap ((nn:Int)-1)=(pp:Int):=by rw[IntKind.wrap_i64];omega
  obtain⟨y0,hy0⟩:∃ x,D[m]? = some x:=⟨_,List.getElem?_eq_getElem (by omega)⟩;obtain⟨bl,off,rfl,hb1,⟨cx,cx'⟩,fx,fx'⟩:=Wr.at hW0 hy0;have hcap:=hW0.1;rw[hDl] at hcap;have hblk:bl<w.heap.size:=za cx;have HC:=Lib.hid hc;have hent:=hc.ent;have HIN:=Lib.hid hin;have HIH:Hid (∀ (a m b:Nat) (D:List Nat) (w:World),b-a<=k->MrgIn g lt cl capt M base (some ⟨bl,off,none⟩) cap N a m b D w->Calls prog 204 #[.slice (some ⟨bl,off,none⟩) N cap,.int .i64 (a:Int),.int .i64 (m:Int),.int .i64 (b:Int),.func (.func cl) #[] capt] w λe w'=>e = .returned (.tuple #[])∧(∃ D',Mrg lt a b D D'∧Wr g base w' (some ⟨bl,off,none⟩) cap D')∧Bq base w w'):=ih;have HK:=Lib.hid hk;have HPP:=Lib.hid hpp;have HN0:=Lib.hid hnn;have HBW:=Lib.hid hbw;have HSW:=Lib.hid hlt;have hS:=λlo hi (h:(mid<m∧mid+m-b=lo∧hi=mid)∨(m<=mid∧lo=a∧hi=m))=>ztH (N:=N) hamm hmb hbN hs emid hnn h;have HS0:=Lib.hid hS;have HLN:=Lib.hid (And.intro hs (And.intro hbN (And.intro hamm hmb)));clear hc hlim hsx hsy hxy hW0 hy0 emid hpp cx cx' fx fx' hl hr ih hin hk hS hbw hlt hDl hb1;go_enter func204,ntmps204;by_cases hmm:mid<m
  have hmm':(mid:Int)<(m:Int):=by omega
  obtain⟨lo,hlo⟩:∃ lo,mid+m-b=lo:=⟨_,rfl⟩;obtain⟨hi,hhi⟩:∃ hi,hi=mid:=⟨_,rfl⟩;have HS:=Lib.hid (HS0.out lo hi (Or.inl ⟨hmm,hlo,hhi⟩));have e6:IntKind.i64.wrap ((nn:Int)-(b:Int))=(lo:Int):=by rw[IntKind.wrap_i64];omega
  rotate_left
  have hmm':¬ (mid:Int)<(m:Int):=by omega
  obtain⟨lo,hlo⟩:∃ lo,lo=a:=⟨_,rfl⟩;obtain⟨hi,hhi⟩:∃ hi,hi=m:=⟨_,rfl⟩;have HS:=Lib.hid (HS0.out lo hi (Or.inr ⟨Nat.le_of_not_lt hmm,hlo,hhi⟩));all_goals
   have HLO:=Lib.hid (And.intro hlo hhi);have hm0:m<b:=hmb;have hm1:m<N:=by omega
   clear hlo hhi;go_wp2_with fail;clear e0 e1 e2 e3 e4 e5 w1 w2 w3 w4 w5 hmm hmm' hbN hamm hmb hs hnn;try clear e6
   go_loopw [20,21] (λs t wr=>∃ i j:Nat,lo<=i∧i<=j∧j<=hi∧s = .int .i64 (i:Int)∧t = .int .i64 (j:Int)∧Hid (i=lo∨∃ u v,D[nn-i]? = some u∧D[i-1]? = some v∧lt u v=false)∧Hid (j=hi∨∃ u v,D[nn-1-j]? = some u∧D[j]? = some v∧lt u v=true)∧Hid (Wr g base wr (some ⟨bl,off,none⟩) cap D)∧Bq base w wr) (λs t _=>(intOf t-intOf s).toNat)
   case atStart=>exact⟨lo,hi,Nat.le_refl _,HS.out.lohi,Nat.le_refl _,(by first | rfl | rw[HLO.out.1]),(by rw[HLO.out.2]),Or.inl rfl,Or.inl rfl,HIN.out.wr,Bq.refl _ _⟩
   case round=>
    obtain⟨i,j,h1,h2,h3,rfl,rfl,H1,H2,hW,hX⟩:=hrel;by_cases hij:i<j
    ·obtain⟨hh,q,⟨w1,w2,w3,w4,w5⟩,ep,hw5,⟨g1,g2,g3,g4,g5,g6⟩,hN1,hN2,g7,g8⟩:=zoX HS.out h1 hij h3;rw[HPP.out] at ep;have hij':(i:Int)<(j:Int):=by omega
     rename_i K0 hK0;have HK0:=Lib.hid hK0;clear hK0;obtain⟨u,hu⟩:∃ u,D[q]? = some u:=⟨_,List.getElem?_eq_getElem (by rw[HIN.out.len];exact hN2)⟩;obtain⟨v,hv⟩:∃ u,D[hh]? = some u:=⟨_,List.getElem?_eq_getElem (by rw[HIN.out.len];exact hN1)⟩;have huM:u<M:=HIN.out.lim u (zcz hu g5 g6);have hvM:v<M:=HIN.out.lim v (zcz hv g3 g4);obtain⟨bl',off',e,_,⟨cu,cu'⟩,fu,fu'⟩:=Wr.at hW.out hu;obtain⟨rfl,rfl⟩:=aI e;obtain⟨bl',off',e,_,⟨cv,cv'⟩,fv,fv'⟩:=Wr.at hW.out hv;obtain⟨rfl,rfl⟩:=aI e;have hcall:=fun(W:World) (hW:Ext wr W)=>HC.out.run u v W huM hvM (za8 hX HBW.out hW);have hb2:bl<wr.heap.size:=za cu;have HX:=Lib.hid hX;have HU:=Lib.hid (And.intro hu (And.intro hv (And.intro g7 (And.intro g8 (And.intro h1 (And.intro h3 (And.intro g1 g2)))))));clear hu hv g1 g2 g3 g4 g5 g6 g7 g8 huM hvM hX h1 h2 h3 hij;go_upto_region 35 with fail;cases hlx:lt u v with
     | false=>
      rw[hlx] at hcall;have H1':Hid (hh+1=lo∨∃ u v,D[nn-(hh+1)]? = some u∧D[hh+1-1]? = some v∧lt u v=false):=Or.inr ⟨u,v,by rw[HU.out.2.2.1];exact HU.out.1,HU.out.2.1,hlx⟩;clear hlx H1;refine plP [(0,0),(1,0),(2,0),(3,0),(4,0),(5,0),(6,0),(7,0),(8,0),(9,0),(10,0),(11,1),(12,0),(13,0)] [] (by kernel_rfl) (λ_ _ d _ _ h=>by cases d <;> exact h) ?_;iterate 11(apply rdP rfl rfl;(intros;go_simp;first | done | rfl);try simp only[zq])
      (refine zg rfl ?_ (λK hK=>?_);rfl;go_simp;refine(hcall _ (by simp[go_sem])).mono ?_;rintro e w' ⟨c,rfl,hlc,hb⟩;obtain⟨os1,d1,rfl⟩:=hb.more;clear hb;refine hK _ _ ?_ ?_;(simp[go_sem]))
      try simp only[zq]
      iterate 2(apply rdP rfl rfl;(intros;go_simp;first | done | rfl);try simp only[zq])
      refine zi ?_;go_wp2_with fail;obtain⟨_,_,_,_,h1,h3,g1,g2⟩:=HU.out;exact⟨⟨hh+1,j,by omega,by omega,h3,by go_num,rfl,H1',H2,hW.out.of_ext (by simp[go_sem]),za8 HX.out HBW.out (by simp[go_sem])⟩,by simp[intOf];omega⟩
     | true=>
      rw[hlx] at hcall;have H2':Hid (hh=hi∨∃ u v,D[nn-1-hh]? = some u∧D[hh]? = some v∧lt u v=true):=Or.inr ⟨u,v,by rw[HU.out.2.2.2.1];exact HU.out.1,HU.out.2.1,hlx⟩;clear hlx H2;refine plP [(0,0),(1,0),(2,0),(3,0),(4,0),(5,0),(6,0),(7,0),(8,0),(9,0),(10,0),(11,1),(12,0),(13,0)] [] (by kernel_rfl) (λ_ _ d _ _ h=>by cases d <;> exact h) ?_;iterate 11(apply rdP rfl rfl;(intros;go_simp;first | done | rfl);try simp only[zq])
      (refine zg rfl ?_ (λK hK=>?_);rfl;go_simp;refine(hcall _ (by simp[go_sem])).mono ?_;rintro e w' ⟨c,rfl,hlc,hb⟩;obtain⟨os1,d1,rfl⟩:=hb.more;clear hb;refine hK _ _ ?_ ?_;(simp[go_sem]))
      try simp only[zq]
      iterate 2(apply rdP rfl rfl;(intros;go_simp;first | done | rfl);try simp only[zq])
      refine zi ?_;go_wp2_with fail;obtain⟨_,_,_,_,h1,h3,g1,g2⟩:=HU.out;exact⟨⟨i,hh,h1,g1,by omega,rfl,rfl,H1,H2',hW.out.of_ext (by simp[go_sem]),za8 HX.out HBW.out (by simp[go_sem])⟩,by simp[intOf];omega⟩
    ·obtain rfl:i=j:=by omega
     have hij':¬ (i:Int)<(i:Int):=Int.lt_irrefl _;have hE:=zkx HS.out h1 h3;have HT:=Lib.hid (zmZ HSW.out HIN.out HS.out h1 h3 H1.out H2.out);obtain⟨e,he⟩:∃ e,nn-i=e:=⟨_,rfl⟩;rw[he] at hE HT;obtain⟨D1,hD1⟩:∃ D1,D.take i++(seg D m e++(seg D i m++D.drop e))=D1:=⟨_,rfl⟩;rw[hD1] at HT;have ee:=hE.ei;have HE:=Lib.hid hE;have HR1:Hid (i<m->m<e->Calls prog 228 #[.slice (some ⟨bl,off,none⟩) N cap,.int .i64 (i:Int),.int .i64 (m:Int),.int .i64 (e:Int),.func (.func cl) #[] capt] wr λe9 w'=>e9 = .returned (.tuple #[])∧Wr g base w' (some ⟨bl,off,none⟩) cap D1∧Bq base wr w'):=λq1 q2=>zuQ _ HE.out HIN.out.len hD1 hW.out q1 q2;have HRN:Hid ((i=m∨m=e)->Wr g base wr (some ⟨bl,off,none⟩) cap D1):=λq=>by rw[<-hD1,zqL HE.out.im HE.out.me q];exact hW.out
     have HX:=Lib.hid hX;have HI1:Hid (∀ W,Bq base w W->Wr g base W (some ⟨bl,off,none⟩) cap D1->a<i->i<mid->Calls prog 204 #[.slice (some ⟨bl,off,none⟩) N cap,.int .i64 (a:Int),.int .i64 (i:Int),.int .i64 (mid:Int),.func (.func cl) #[] capt] W λe9 w'=>e9 = .returned (.tuple #[])∧(∃ D',Mrg lt a mid D1 D'∧Wr g base w' (some ⟨bl,off,none⟩) cap D')∧Bq base W w'):=λW hx hw q1 q2=>HIH.out a i mid D1 W (by have:=HK.out;have:=HE.out.midb;omega) (MrgIn.part1 HIN.out HT.out hx hw q1 q2 (Nat.le_of_lt HE.out.midb));have HI2:Hid (∀ D2 W,Mrg lt a mid D1 D2->Bq base w W->Wr g base W (some ⟨bl,off,none⟩) cap D2->mid<e->e<b->Calls prog 204 #[.slice (some ⟨bl,off,none⟩) N cap,.int .i64 (mid:Int),.int .i64 (e:Int),.int .i64 (b:Int),.func (.func cl) #[] capt] W λe9 w'=>e9 = .returned (.tuple #[])∧(∃ D',Mrg lt mid b D2 D'∧Wr g base w' (some ⟨bl,off,none⟩) cap D')∧Bq base W w'):=λD2 W hm hx hw q1 q2=>HIH.out mid e b D2 W (by have:=HK.out;have:=HE.out.amid;omega) (MrgIn.part2 HIN.out HT.out hm hx hw q1 q2 (Nat.le_of_lt HE.out.amid));have HS1:Hid (¬ (a<i∧i<mid)->Mrg lt a mid D1 D1):=λq=>by
      refine Mrg.of_sorted ?_;have k1:=HE.out.ai;have k5:=HE.out.imid;by_cases q1:i=a
      ·have:=HT.out.p2;rw[q1] at this;exact this
      ·have q2:i=mid:=by omega
       have:=HT.out.p1;rw[q2] at this;exact this
     have HS2:Hid (∀ D2,Mrg lt a mid D1 D2->¬ (mid<e∧e<b)->Mrg lt mid b D2 D2):=λD2 hm q=>by
      refine Mrg.of_sorted ?_;have k1:=HE.out.mide;have k5:=HE.out.eb;rw[hm.part.seg_hi (Nat.le_refl _)];by_cases q1:e=mid
      ·have:=HT.out.p4;rw[q1] at this;exact this
      ·have q2:e=b:=by omega
       have:=HT.out.p3;rw[q2] at this;exact this
     have HJ:Hid (∀ D2 D3,Mrg lt a mid D1 D2->Mrg lt mid b D2 D3->Mrg lt a b D D3):=λD2 D3 m1 m2=>zoU (Nat.le_of_lt HE.out.amid) (Nat.le_of_lt HE.out.midb) HT.out.part HT.out.perm HT.out.cross m1 m2;clear H1 H2 hX HT hD1 HIH HIN he HC hE h1 h2 h3 hij HS HS0 HPP HN0 HBW HSW HK HLN hcap hblk hm0 hm1;clear hW;by_cases r1:i<m
     by_cases r2:m<e
     have r1':(i:Int)<(m:Int):=by omega
     have r2':(m:Int)<(e:Int):=by omega
     have hcall:=HR1.out r1 r2;rotate_left
     have r1':(i:Int)<(m:Int):=by omega
     have r2':¬ (m:Int)<(e:Int):=by omega
     have hW1:=Lib.hid (HRN.out (Or.inr (by have:=HE.out.me;omega)));have hX1:=HX;rotate_left
     have r1':¬ (i:Int)<(m:Int):=by omega
     have hW1:=Lib.hid (HRN.out (Or.inl (by have:=HE.out.im;omega)));have hX1:=HX;all_goals
      go_upto_region 41 with(go_at_call 228;refine hcall.mono ?_;rintro e9 w1 ⟨rfl,hW10,hb1⟩;have hX1:=Lib.hid (Bq.trans HX.out hb1);have hW1:=Lib.hid hW10;clear hcall hb1 hW10);clear HX HRN;by_cases s1:a<i
      by_cases s2:i<mid
      have s1':(a:Int)<(i:Int):=by omega
      have s2':(i:Int)<(mid:Int):=by omega
      have hcall:=HI1.out _ hX1.out hW1.out s1 s2;rotate_left
      have s1':(a:Int)<(i:Int):=by omega
      have s2':¬ (i:Int)<(mid:Int):=by omega
      have hM:=Lib.hid (HS1.out (λq=>s2 q.2));have hW2:=hW1;have hX2:=hX1;rotate_left
      have s1':¬ (a:Int)<(i:Int):=by omega
      have hM:=Lib.hid (HS1.out (λq=>s1 q.1));have hW2:=hW1;have hX2:=hX1;all_goals
       go_upto_region 43 with(go_at_call 204;refine hcall.mono ?_;rintro e9 w2 ⟨rfl,⟨D2,hM0,hW20⟩,hb2⟩;have hX2:=Lib.hid (Bq.trans hX1.out hb2);have hM:=Lib.hid hM0;have hW2:=Lib.hid hW20;clear hcall hb2 hM0 hW20);clear hX1 hW1;by_cases u1:mid<e
       by_cases u2:e<b
       have u1':(mid:Int)<(e:Int):=by omega
       have u2':(e:Int)<(b:Int):=by omega
       have hcall:=HI2.out _ _ hM.out hX2.out hW2.out u1 u2;rotate_left
       have u1':(mid:Int)<(e:Int):=by omega
       have u2':¬ (e:Int)<(b:Int):=by omega
       have HZ:=Lib.hid (And.intro (HJ.out _ _ hM.out (HS2.out _ hM.out (λq=>u2 q.2))) (And.intro hW2.out hX2.out));rotate_left
       have u1':¬ (mid:Int)<(e:Int):=by omega
       have HZ:=Lib.hid (And.intro (HJ.out _ _ hM.out (HS2.out _ hM.out (λq=>u1 q.1))) (And.intro hW2.out hX2.out));all_goals
        go_wp2_with (go_at_call 204;refine hcall.mono ?_;rintro e9 w3 ⟨rfl,⟨D3,hN,hW3⟩,hb3⟩;have HZ:=Lib.hid (And.intro (HJ.out _ _ hM.out hN) (And.intro hW3 (Bq.trans hX2.out hb3)));clear hcall hN hW3 hb3);exact bodyPost_end (v:=.tuple #[]) (by simp[results,results204,go_sem]) rfl ⟨rfl,⟨_,HZ.out.1,HZ.out.2.1⟩,HZ.out.2.2⟩
theorem zhr {lt:Nat->Nat->Bool} (hlt:Swo lt) (cl:FuncId) (capt:Array Value) (M base:Nat) (A:Option Addr) (cap N:Nat):∀ (k a m b:Nat) (D:List Nat) (w:World),b-a<=k->MrgIn g lt cl capt M base A cap N a m b D w ->
  Calls prog 204 #[.slice A N cap,.int .i64 (a:Int),.int .i64 (m:Int),.int .i64 (b:Int),.func (.func cl) #[] capt] w λe w'=>e = .returned (.tuple #[])∧(∃ D',Mrg lt a b D D'∧Wr g base w' A cap D')∧Bq base w w'
 | 0,a,m,b,D,w,hk,h=>by have:=h.am;have:=h.mb;omega
 | k+1,a,m,b,D,w,hk,h=>zkO hlt cl capt M base A cap N k (zhr hlt cl capt M base A cap N k) a m b D w hk h
end
section
variable {g:Nat->Nm}
theorem zqM {lt:Nat->Nat->Bool} {D X:List Nat} {a b:Nat} (hab:a<=b) (hbl:b<=D.length) (hX:X.Perm (List.range' a (b-a))) (hs:X.Pairwise (Lx lt)):Part a b D (D.take a++(X++D.drop b))∧Srt lt (D.take a++(X++D.drop b)) a b:=by
 have hl:X.length=b-a:=by simpa using hX.length_eq
 have ha:a=(D.take a).length:=by rw[List.length_take];omega
 constructor
 ·have:=Part.of_mid (a:=a) (b:=b) (pre:=D.take a) (Z:=seg D a b) (Z':=X) (post:=D.drop b) ha (by rw[hl,zbw hbl]) (by rw[zbw hbl];omega);rwa[<-zfE hab] at this
 ·unfold Srt;rw[zhm ha (by omega)];exact⟨hX,hs⟩
theorem zhs {lt:Nat->Nat->Bool} (hlt:Swo lt) (cl:FuncId) (capt:Array Value) (M base:Nat) (A:Option Addr) (cap N a b:Nat) (D:List Nat) (w:World) (hc:CmpS g cl capt lt M base w) (hbw:base<=w.heap.size)
  (h:Wr g base w A cap D) (hl:D.length=N) (hs:N<=100000) (hab:a<=b) (hb:b<=N) (hM:b<=M) (hD:seg D a b=List.range' a (b-a)) :
  Calls prog 203 #[.slice A N cap,.int .i64 (a:Int),.int .i64 (b:Int),.func (.func cl) #[] capt] w λe w'=>e = .returned (.tuple #[])∧(∃ D',Part a b D D'∧Srt lt D' a b∧Wr g base w' A cap D')∧Bq base w w':=by
 have e:=zfE (D:=D) hab;rw[hD] at e;have h2:Wr g base w A cap (D.take a++(List.range' a (b-a)++D.drop b)):=by rw[<-e];exact h
 refine(zmX hlt cl capt M base A cap N a (b-a) (b:Int) (D.take a) (D.drop b) w hc hbw h2 (by rw[List.length_take];omega) (by rw[List.length_take,List.length_drop];omega) hs (by omega) (by omega)).mono ?_;rintro e w' ⟨rfl,⟨X,h1,h2,h3⟩,hb'⟩;obtain⟨p1,p2⟩:=zqM (D:=D) hab (by omega) h1 h2;exact⟨rfl,⟨_,p1,p2,h3⟩,hb'⟩
theorem zgV {lt:Nat->Nat->Bool} (hlt:Swo lt) (cl:FuncId) (capt:Array Value) (M base:Nat) (A:Option Addr) (cap N a m b:Nat) (D:List Nat) (w:World) (hc:CmpS g cl capt lt M base w) (hbw:base<=w.heap.size)
  (h:Wr g base w A cap D) (hl:D.length=N) (hs:N<=100000) (ham:a<m) (hmb:m<b) (hb:b<=N) (hM:b<=M) (hX:Srt lt D a m) (hY:Srt lt D m b) :
  Calls prog 204 #[.slice A N cap,.int .i64 (a:Int),.int .i64 (m:Int),.int .i64 (b:Int),.func (.func cl) #[] capt] w λe w'=>e = .returned (.tuple #[])∧(∃ D',Part a b D D'∧Srt lt D' a b∧Wr g base w' A cap D')∧Bq base w w':=by
 refine(zhr hlt cl capt M base A cap N (b-a) a m b D w (Nat.le_refl _) ⟨hc,hbw,h,hl,hs,ham,hmb,hb,λx hx=>?_,hX.2,hY.2,Srt.cross hX hY⟩).mono ?_
 ·rw[zaL (Nat.le_of_lt ham) (Nat.le_of_lt hmb)] at hx;rcases List.mem_append.1 hx with h | h
  ·have:=hX.mem h;omega
  ·have:=hY.mem h;omega
 ·rintro e w' ⟨rfl,⟨D',hm,hw⟩,hb'⟩;exact⟨rfl,⟨D',hm.part,Srt.merged (Nat.le_of_lt ham) (Nat.le_of_lt hmb) hX hY hm,hw⟩,hb'⟩
theorem zoY {lt:Nat->Nat->Bool} (hlt:Swo lt) (cl:FuncId) (capt:Array Value) (base:Nat) (A:Option Addr) (cap N:Nat) (w:World) (hc:CmpS g cl capt lt N base w) (hbw:base<=w.heap.size) (h:Wr g base w A cap (List.range N)) (hs:N<=100000) :
  Calls prog 161 #[.slice A N cap,.int .i64 (N:Int),.func (.func cl) #[] capt] w λe w'=>e = .returned (.tuple #[])∧Wr g base w' A cap (zci lt N)∧Bq base w w':=by
 have HC:=Lib.hid hc;have H0:Hid (∃ D,Ins lt N 0 D∧Wr g base w A cap D):=⟨_,Ins.start lt N,h⟩;have HLT:=Lib.hid hlt;clear h hc hlt;go_enter func161,ntmps161;go_wp2_with fail;go_loopw [7,8] (λs7 s8 wr=>∃ q a b:Nat,Hid (a=q*20)∧Hid (b=a+20)∧a<=N∧s7 = .int .i64 (a:Int)∧s8 = .int .i64 (b:Int)∧Hid (∃ D,Ins lt N q D∧Wr g base wr A cap D)∧Bq base w wr) (λs7 _ _=>N-(intOf s7).toNat)
 case atStart=>exact⟨0,0,20,rfl,rfl,Nat.zero_le _,rfl,rfl,H0,Bq.refl _ _⟩
 case round=>
  clear H0;obtain⟨q,a,b,HA,HB,haN,rfl,rfl,HW,hX⟩:=hrel;have hbw2:=Nat.le_trans hbw hX.size;obtain⟨D,hI,hW⟩:=HW.out;have HI:=Lib.hid hI;by_cases hbn:b<=N
  ·have hbn':(b:Int)<=(N:Int):=by omega
   have eb:IntKind.i64.wrap ((b:Int)+20)=((b+20:Nat):Int):=by rw[IntKind.wrap_i64];omega
   have hcall:=zhs HLT.out cl capt N base A cap N a b D wr (HC.out.keep hX) hbw2 hW hI.len hs (by have:=HB.out;omega) hbn hbn (by rw[HA.out];exact hI.seg hbn);clear hI hW HW;go_wp2_with (go_at_call 203;refine hcall.mono ?_;rintro e w' ⟨rfl,⟨D',hp,hq,hw⟩,hb'⟩;have HN:Hid (∃ D,Ins lt N (q+1) D∧Wr g base w' A cap D):=⟨D',HI.out.step (by rw[HB.out,HA.out] at hp;exact hp) (by rw[HB.out,HA.out] at hq;exact hq),hw⟩;clear hp hq hw);exact⟨⟨q+1,b,b+20,(by show b=(q+1)*20;rw[HB.out,HA.out];omega),rfl,hbn,rfl,by go_num,HN,hX.trans hb'⟩,by have:=HB.out;simp[intOf];omega⟩
  ·have hbn':¬ (b:Int)<=(N:Int):=by omega
   have hcall:=zhs HLT.out cl capt N base A cap N a N D wr (HC.out.keep hX) hbw2 hW hI.len hs haN (Nat.le_refl _) (Nat.le_refl _) (by rw[HA.out];exact hI.seg (Nat.le_refl _));clear hI hW HW;go_wp2_with (go_at_call 203;refine hcall.mono ?_;rintro e w' ⟨rfl,⟨D',hp,hq,hw⟩,hb'⟩;have HN:Hid (∃ D,D.length=N∧zfX lt N 20 D∧Wr g base w' A cap D):=⟨D',hp.len.trans HI.out.len,HI.out.all (by have:=HA.out;omega) (by have:=HA.out;have:=HB.out;omega) (by rw[HA.out] at hp;exact hp) (by rw[HA.out] at hq;exact hq),hw⟩;clear hp hq hw);have hX1:=hX.trans hb';clear hX hb' hcall HB hbn hbn' hbw2;go_loopw [6,7,8] (λs6 s7 s8 wr=>∃ bs:Nat,0<bs∧bs<=200000∧s6 = .int .i64 (bs:Int)∧(∃ x,s7 = .int .i64 x)∧(∃ x,s8 = .int .i64 x)∧Hid (∃ D,D.length=N∧zfX lt N bs D∧Wr g base wr A cap D)∧Bq base w wr) (λs6 _ _ _=>N-(intOf s6).toNat)
   case atStart=>exact⟨20,by decide,by decide,rfl,⟨_,rfl⟩,⟨_,rfl⟩,HN,hX1⟩
   case round=>
    clear HN hX1 HI;obtain⟨bs,hs0,hs1,rfl,⟨x7,rfl⟩,⟨x8,rfl⟩,HW,hX⟩:=hrel;by_cases hbn:bs<N
    ·have hbn':(bs:Int)<(N:Int):=by omega
     obtain⟨b2,hb2⟩:∃ b2,2*bs=b2:=⟨_,rfl⟩;have e2:IntKind.i64.wrap (2*(bs:Int))=(b2:Int):=by rw[IntKind.wrap_i64];omega
     have e3:IntKind.i64.wrap ((bs:Int)*2)=(b2:Int):=by rw[IntKind.wrap_i64];omega
     have H0:Hid (∃ D,Mrs lt N bs 0 D∧Wr g base wr A cap D):=by
      obtain⟨D,h1,h2,h3⟩:=HW.out;exact⟨D,Mrs.start h1 h2,h3⟩
     have hX0:=hX;clear HW hX;go_wp2_with fail;obtain⟨wo,rfl⟩:∃ wo:World,wo=wr:=⟨_,rfl⟩;go_loopw [7,8] (λs7 s8 wr=>∃ q a b:Nat,Hid (a=q*(2*bs))∧Hid (b=a+b2)∧a<=N∧s7 = .int .i64 (a:Int)∧s8 = .int .i64 (b:Int)∧Hid (∃ D,Mrs lt N bs q D∧Wr g base wr A cap D)∧Bq base w wr) (λs7 _ _=>N-(intOf s7).toNat)
     case atStart=>exact⟨0,0,b2,(Nat.zero_mul _).symm,(Nat.zero_add _).symm,Nat.zero_le _,rfl,rfl,H0,hX0⟩
     case round=>
      clear H0 hX0;obtain⟨q,a,b,HA,HB,haN,rfl,rfl,HW,hX⟩:=hrel;have hbw2:=Nat.le_trans hbw hX.size;obtain⟨D,hI,hW⟩:=HW.out;have HI:=Lib.hid hI;obtain⟨mm,hmm⟩:∃ mm,a+bs=mm:=⟨_,rfl⟩;have em:IntKind.i64.wrap ((a:Int)+(bs:Int))=(mm:Int):=by rw[IntKind.wrap_i64];omega
      by_cases hbn2:b<=N
      ·have hbn2':(b:Int)<=(N:Int):=by omega
       obtain⟨c,hc⟩:∃ c,b+b2=c:=⟨_,rfl⟩;have eb:IntKind.i64.wrap ((b:Int)+(b2:Int))=(c:Int):=by rw[IntKind.wrap_i64];omega
       obtain⟨hY1,hY2⟩:=hI.two (b:=b) (by rw[<-HA.out];have:=HB.out;omega) (by rw[<-HA.out];have:=HB.out;omega) hs0;rw[<-HA.out,hmm] at hY1 hY2;have hcall:=zgV HLT.out cl capt N base A cap N a mm b D wr (HC.out.keep hX) hbw2 hW hI.len hs (by omega) (by have:=HB.out;omega) hbn2 hbn2 hY1 hY2;clear hI hW HW hY1 hY2;go_wp2_with (go_at_call 204;refine hcall.mono ?_;rintro e w' ⟨rfl,⟨D',hp,hq,hw⟩,hb'⟩;have HN:Hid (∃ D,Mrs lt N bs (q+1) D∧Wr g base w' A cap D):=⟨D',HI.out.step (by rw[HB.out,HA.out,<-hb2] at hp;exact hp) (by rw[HB.out,HA.out,<-hb2] at hq;exact hq),hw⟩;clear hp hq hw);have HA':Hid (b=(q+1)*(2*bs)):=by show b=_;rw[HB.out,HA.out,<-hb2,Nat.add_mul,Nat.one_mul]
       exact⟨⟨q+1,b,c,HA',hc.symm,hbn2,rfl,rfl,HN,hX.trans hb'⟩,by have:=HB.out;simp[intOf];omega⟩
      ·have hbn2':¬ (b:Int)<=(N:Int):=by omega
       by_cases hmn:mm<N
       ·have hmn':(mm:Int)<(N:Int):=by omega
        obtain⟨hY1,hY2⟩:=hI.two (b:=N) (by rw[<-HA.out];omega) (by rw[<-HA.out];have:=HB.out;omega) hs0;rw[<-HA.out,hmm] at hY1 hY2;have hcall:=zgV HLT.out cl capt N base A cap N a mm N D wr (HC.out.keep hX) hbw2 hW hI.len hs (by omega) hmn (Nat.le_refl _) (Nat.le_refl _) hY1 hY2;clear hI hW HW hY1 hY2;go_wp2_with (go_at_call 204;refine hcall.mono ?_;rintro e w' ⟨rfl,⟨D',hp,hq,hw⟩,hb'⟩;have HN:Hid (∃ D,D.length=N∧zfX lt N b2 D∧Wr g base w' A cap D):=⟨D',hp.len.trans HI.out.len,by rw[<-hb2];exact HI.out.last (by rw[<-HA.out];exact haN) (by rw[<-HA.out];have:=HB.out;omega) (by rw[HA.out] at hp;exact hp) (λ_=>by rw[HA.out] at hq;exact hq),hw⟩;clear hp hq hw);exact⟨⟨b2,by omega,by omega,rfl,⟨_,rfl⟩,⟨_,rfl⟩,HN,hX.trans hb'⟩,by simp[intOf];omega⟩
       ·have hmn':¬ (mm:Int)<(N:Int):=by omega
        have HN:Hid (∃ D,D.length=N∧zfX lt N b2 D∧Wr g base wr A cap D):=⟨D,hI.len,by rw[<-hb2];exact hI.last (by rw[<-HA.out];exact haN) (by rw[<-HA.out];have:=HB.out;omega) (Part.refl _ _ _) (λh=>hI.none (by rw[<-HA.out];omega) h),hW⟩;clear hI hW HW;go_wp2_with fail;exact⟨⟨b2,by omega,by omega,rfl,⟨_,rfl⟩,⟨_,rfl⟩,HN,hX⟩,by simp[intOf];omega⟩
    ·have hbn':¬ (bs:Int)<(N:Int):=by omega
     have HR:Hid (Wr g base wr A cap (zci lt N)):=by
      obtain⟨D,h1,h2,h3⟩:=HW.out;show Wr g base wr A cap (zci lt N);rw[<-zfX.whole HLT.out h1 (by omega) h2];exact h3
     clear HW;go_wp2_with fail;exact bodyPost_end (v:=.tuple #[]) (by simp[results,results161,go_sem]) rfl ⟨rfl,HR.out,hX⟩
theorem zjS {lt:Nat->Nat->Bool} (hlt:Swo lt) (cl:FuncId) (capt:Array Value) (base:Nat) (A:Option Addr) (cap N:Nat) (w:World) (hc:CmpS g cl capt lt N base w) (hbw:base<=w.heap.size) (h:Wr g base w A cap (List.range N)) (hs:N<=100000) :
  Calls prog 98 #[.slice A N cap,.func (.func cl) #[] capt] w λe w'=>e = .returned (.tuple #[])∧Wr g base w' A cap (zci lt N)∧Bq base w w':=by
 have hcall:=zoY hlt cl capt base A cap N w hc hbw h hs;clear h hc;go_enter func98,ntmps98;go_wp2_with (go_at_call 161;refine hcall.mono ?_;rintro e w' ⟨rfl,hw,hb'⟩);exact bodyPost_end (v:=.tuple #[]) (by simp[results,results98,go_sem]) rfl ⟨rfl,hw,hb'⟩
end
theorem zht (side A n cap l w) (h:NmIn w A n cap l) :
  Tl prog 34 #[.slice A n cap,.int .i64 side] w (VV (zbL side l).kind (zbL side l).mant (zbL side l).exp (zbL side l).text (zbL side l).truth (zbL side l).fault):=by
 have hsm:=h.small;have hcap:=h.cap;have hlen:=h.len;by_cases h0:n=0
 ·subst h0;obtain rfl:l=[]:=List.eq_nil_of_length_eq_zero hlen;show Calls _ _ _ w λe w'=>e = .returned (VV 1 0 0 ⟨#[]⟩ false 0)∧Ext w w';clear h;go_enter func34,ntmps34;go_wp2_with (first | (go_at_call 93;with_reducible refine aM (zcQ _ _ _) λos d=>?_));exact rc1 rfl rfl (by simp[go_sem]) ⟨rfl,by simp[go_sem]⟩
 ·obtain⟨p0,b,off,hp0,hr0,rfl,c0,c1⟩:=h.at (k:=0) (by omega);simp only[Nat.zero_mul,Nat.add_zero] at c0 c1;obtain⟨R,hR⟩:∃ R,zcw side p0 l=R:=⟨_,rfl⟩;have e0:zbL side l=nV R:=by
   cases l with
   | nil=>simp at hp0
   | cons q l=>
    obtain rfl:q=p0:=by simpa using hp0
    show nV (zcw side q (q::l))=_;rw[hR]
  rw[e0];obtain⟨m0,x0⟩:=p0;simp only at c0 c1 hr0;have hbl:=za c0;have H:=Lib.hid h;have HL:=Lib.hid hlen;have HR:=Lib.hid hR;have HR0:=Lib.hid hr0;have h0':((n:Int)==0)=false:=by simpa using h0
  clear h hlen hR hr0 hp0 e0;show Calls _ _ _ w λe w'=>e = .returned (VV 1 R.1 R.2 ⟨#[]⟩ false 0)∧Ext w w';go_enter func34,ntmps34;go_wp2_with fail;go_loopw [18] (λi wr=>∃ (k:Nat) (m ex:Int) (os:Array Obj) (d:Nat),k<=n∧i = .int .i64 (k:Int)∧wr=more ((w.alloc (Obj.cells #[.int .i64 0,.int .i64 0,.int .i64 0,.string ⟨#[]⟩,.bool false,.int .i64 0] 38)).alloc (Obj.cells #[.int .i64 m,.int .i64 ex] 36)) os d∧Hid (zcw side (m,ex) (l.drop k)=R)∧Hid (Rt m ex)) (λi _=>n-(intOf i).toNat)
  case atStart=>exact⟨0,_,_,#[],_,Nat.zero_le _,rfl,(zc6 _).symm,HR.out,HR0.out⟩
  case round=>
   obtain⟨k,m,ex,os,d,hk,rfl,rfl,HD,HI⟩:=hrel;by_cases hlt:k<n
   ·obtain⟨p,b',off',hp,hpr,e,g0,g1⟩:=H.out.at hlt;obtain⟨rfl,rfl⟩:b=b'∧off=off':=by simpa using e
    have hd:=HD.out;rw[zfi hp] at hd;unfold zcw at hd;simp only at hd;obtain⟨pm,pe⟩:=p;simp only at g0 g1 hd hpr;have hop:=λW=>ze0 pm pe m ex W (zF hpr) (zF HI.out);by_cases hq:zat pm pe m ex=side
    ·rw[if_pos hq] at hd;rw[hq] at hop;have HD2:=Lib.hid hd;have HQ:=Lib.hid hpr;clear hq hp hpr HD HI HR hd e HR0 c0 c1;go_wp2_with (go_at_call 44;with_reducible refine aM (hop _) λos d=>?_);exact⟨⟨k+1,pm,pe,_,_,by omega,by go_num,(by(try simp only[zcF,zc,zj,zh]);first | rfl | (simp[go_sem];done)),HD2,HQ⟩,by simp[intOf];omega⟩
    ·rw[if_neg hq] at hd;have hq':(zat pm pe m ex==side)=false:=by simpa using hq
     generalize zat pm pe m ex=z at hop hq';have HD2:=Lib.hid hd;clear hq hp hpr HD HR hd e HR0 c0 c1;go_wp2_with (go_at_call 44;with_reducible refine aM (hop _) λos d=>?_);exact⟨⟨k+1,m,ex,_,_,by omega,by go_num,(by(try simp only[zcF,zc,zj,zh]);first | rfl | (simp[go_sem];done)),HD2,HI⟩,by simp[intOf];omega⟩
   ·obtain rfl:k=n:=by omega
    have hd:=HD.out;rw[List.drop_eq_nil_of_le (by rw[HL.out];exact Nat.le_refl _)] at hd;unfold zcw at hd;subst hd;clear HD HI HR HR0;go_wp2_with (first | (go_at_call 93;with_reducible refine aM (zcQ _ _ _) λos d=>?_));exact rc1 rfl rfl (by simp[go_sem]) ⟨rfl,by simp[go_sem]⟩
theorem zqN (w):zgd w 33 #[] (zbL (-1)):=by
 intro A n cap l W _ _ hN _;have hc:=λW hN=>zht (-1) A n cap l W hN;have HN:=Lib.hid hN;clear hN;generalize zbL (-1) l=y at *;show Calls _ _ #[.slice A n cap] W _;go_enter func33,ntmps33;go_wp2_with (first | (go_at_call 34;with_reducible refine aM (hc _ (HN.out.ext (by simp[go_sem]))) λos d=>?_));exact rc1 rfl rfl (by simp[go_sem]) ⟨rfl,by simp[go_sem]⟩
theorem zqO (w):zgd w 35 #[] (zbL 1):=by
 intro A n cap l W _ _ hN _;have hc:=λW hN=>zht 1 A n cap l W hN;have HN:=Lib.hid hN;clear hN;generalize zbL 1 l=y at *;show Calls _ _ #[.slice A n cap] W _;go_enter func35,ntmps35;go_wp2_with (first | (go_at_call 34;with_reducible refine aM (hc _ (HN.out.ext (by simp[go_sem]))) λos d=>?_));exact rc1 rfl rfl (by simp[go_sem]) ⟨rfl,by simp[go_sem]⟩
def ltC (great:Bool) (a b:Nm):Bool:=if great then decide (scN b<scN a) else decide (scN a<scN b)
def zhu (great:Bool) (fid:FuncId):Prop:=
 ∀ (a b:Nm) (W:World),Rt a.1 a.2->Rt b.1 b.2->Calls prog fid #[NV a.1 a.2,NV b.1 b.2] W λe W'=>∃ c:Int,e = .returned (.int .i64 c)∧decide (c<0)=ltC great a b∧Ext W W'
theorem zml {a b} (ha:Rt a.1 a.2) (hb:Rt b.1 b.2):decide (zat a.1 a.2 b.1 b.2<0)=decide (scN a<scN b):=decide_eq_decide.2 (zpq ha hb)
theorem zqP:zhu true 43:=by
 intro a b W ha hb;have hc:=λW=>ze0 b.1 b.2 a.1 a.2 W (zF hb) (zF ha);have HE:Hid (decide (zat b.1 b.2 a.1 a.2<0)=ltC true a b):=Lib.hid (zml hb ha);clear ha hb;generalize zat b.1 b.2 a.1 a.2=z at *;generalize ltC true a b=y at *;obtain⟨am,ae⟩:=a;obtain⟨bm,be⟩:=b;simp only at hc;simp only;go_enter func43,ntmps43;go_wp2_with (first | (go_at_call 44;with_reducible refine aM (hc _) λos d=>?_));exact rt1 rfl rfl ⟨z,rfl,HE.out,by simp[go_sem]⟩
theorem zqQ:zhu false 45:=by
 intro a b W ha hb;have hc:=λW=>ze0 a.1 a.2 b.1 b.2 W (zF ha) (zF hb);have HE:Hid (decide (zat a.1 a.2 b.1 b.2<0)=ltC false a b):=Lib.hid (zml ha hb);clear ha hb;generalize zat a.1 a.2 b.1 b.2=z at *;generalize ltC false a b=y at *;obtain⟨am,ae⟩:=a;obtain⟨bm,be⟩:=b;simp only at hc;simp only;go_enter func45,ntmps45;go_wp2_with (first | (go_at_call 44;with_reducible refine aM (hc _) λos d=>?_));exact rt1 rfl rfl ⟨z,rfl,HE.out,by simp[go_sem]⟩
theorem zoZ:zhu false 99:=by
 intro a b W ha hb;have hc:=λW=>ze0 a.1 a.2 b.1 b.2 W (zF ha) (zF hb);have HE:Hid (decide (zat a.1 a.2 b.1 b.2<0)=ltC false a b):=Lib.hid (zml ha hb);clear ha hb;generalize zat a.1 a.2 b.1 b.2=z at *;generalize ltC false a b=y at *;obtain⟨am,ae⟩:=a;obtain⟨bm,be⟩:=b;simp only at hc;simp only;go_enter func99,ntmps99;go_wp2_with (first | (go_at_call 44;with_reducible refine aM (hc _) λos d=>?_));exact rt1 rfl rfl ⟨z,rfl,HE.out,by simp[go_sem]⟩
theorem Wr.of_own {base w A n cap l} (h:Nms base w (.slice A n cap) l):Wr (atN l) base w A cap (List.range l.length):=by
 obtain⟨_,h2⟩:=h;rcases h2 with⟨h3,h0⟩ | ⟨g,c,cur,h3,h4,h5,h6,h7,h8,h9⟩
 ·have:l=[]:=List.eq_nil_of_length_eq_zero h0;subst this;exact⟨Nat.zero_le _,Or.inl rfl⟩
 ·obtain⟨rfl,rfl,rfl⟩:A=some ⟨g,0,none⟩∧n=l.length∧cap=c:=by simpa using h3
  refine⟨by rw[List.length_range];exact h6,Or.inr ⟨g,0,cur,rfl,h4,h5,λj d hd=>?_⟩⟩;have hj:j<l.length:=by
   rcases Nat.lt_or_ge j l.length with hl | hl
   ·exact hl
   ·rw[List.getElem?_eq_none (by rw[List.length_range];exact hl)] at hd;cases hd
  rw[List.getElem?_range hj] at hd;obtain rfl:j=d:=by simpa using hd
  have ha:atN l j=l[j]:=by unfold atN;rw[zb1 hj]
  obtain⟨e0,e1⟩:=zfA l j _ (List.getElem?_eq_getElem hj);rw[<-h9,List.getElem?_take_of_lt (by omega)] at e0 e1;rw[ha,Nat.zero_add];exact⟨by simpa using e0,by simpa using e1⟩
theorem zky (great cl) (hent:∀ (args:Array Value) (W:World),(callFunc cl args).run prog W = .ok (.enter cl args) W) (hcl:zhu great cl) (w0 W) (hx:Ext w0 W) (A n cap l) (h:Nms w0.heap.size W (.slice A n cap) l) (hlen:l.length=n) (hr:NRt l) (hn:n<=100000) :
  Calls prog 98 #[.slice A n cap,.func (.func cl) #[] #[]] W λe w'=>e = .returned (.tuple #[])∧(∀ k,k<n->∃ b off,A=some ⟨b,off,none⟩∧w'.cell? ⟨b,off+k*2,none⟩=some (.int .i64 (atN (zdl great l) k).1)∧w'.cell? ⟨b,off+k*2+1,none⟩=some (.int .i64 (atN (zdl great l) k).2))∧Ext w0 w'∧Lib.OthersKept 36 none W w':=by
 subst hlen;have hc:CmpS (atN l) cl #[] (ltN great l) l.length w0.heap.size W:=⟨hent,λi j W' _ _ _=>by
  have:=hcl (atN l i) (atN l j) W' (zfo hr i) (zfo hr j)
  rw[Array.append_empty]
  exact this⟩
 refine(zjS (zhN great l) cl #[] w0.heap.size A cap l.length W hc hx.size (Wr.of_own h) hn).mono ?_;rintro e w' ⟨rfl,hW,hb⟩;refine⟨rfl,λk hk=>?_,Below.trans hx hb.bel,hb.oth⟩;have hl9:(zci (ltN great l) l.length).length=l.length:=zhn _ _;obtain⟨d,hd⟩:∃ d,(zci (ltN great l) l.length)[k]? = some d:=⟨_,List.getElem?_eq_getElem (by omega)⟩;obtain⟨b,off,hA,_,⟨g0,g1⟩,_⟩:=Wr.at hW hd;have e1:atN (zdl great l) k=atN l d:=by
  rw[<-zqt hr];have:((zci (ltN great l) l.length).map (atN l))[k]? = some (atN l d):=by rw[List.getElem?_map,hd];rfl
  show((zci (ltN great l) l.length).map (atN l)).getD k (0,0)=_;rw[List.getD_eq_getElem?_getD,this];rfl
 rw[e1];exact⟨b,off,hA,g0,g1⟩
end Go.Proofs.YtinjdacijiohiaaGreatDoor
