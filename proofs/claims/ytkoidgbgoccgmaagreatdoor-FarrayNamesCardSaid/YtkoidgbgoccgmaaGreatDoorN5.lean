/- What the rows' proofs lean on: the contracts of the functions that they reach, and plain facts (part N5). -/
import Derived.Shelf.SlIter.Nil
import Derived.Ground.GgzProg
import Derived.Test.YtkoidgbgoccgmaaGreatDoorN4
set_option linter.unusedSimpArgs false
set_option linter.unusedVariables false
set_option maxRecDepth 100000
set_option maxHeartbeats 8000000
namespace Go.Proofs.YtkoidgbgoccgmaaGreatDoor
open Tryz
open Go.RowKit NM
theorem zhr (W:World) (h:Tab W):Tl prog 66 #[.int .i64 1,.int .i64 0] W (.tuple #[NV 1 0,.bool true]):=by
 have:=zjP 1 0 W h (by unfold I64;omega) (by unfold I64;omega)
 rw [show rnd (decide ((1:Int) < 0)) (1:Int).natAbs false 0=some (1,0) from rnd_of_right false zc7] at this
 exact this
theorem zcf {w:World} {A:Option Addr} {n cap k:Nat} {xs:List Ar} (h:ArgsIn w A n cap xs) (hg:zA xs k=true):k < n:=by
 rcases Nat.lt_or_ge k n with hl | hl
 ·exact hl
 ·unfold zA at hg;rw [List.getElem?_eq_none (by rw [h.len];exact hl)] at hg;cases hg
theorem zow {r c:Int} (hc:1≤c):4096 / c < r↔4096 < r * c:=by
 rw [Int.ediv_lt_iff_lt_mul (by omega)]
theorem zhT {w:World} {A:Option Addr} {n cap k:Nat} {xs:List Ar} (h:ArgsIn w A n cap xs):Rt (tnO xs k).1.1 (tnO xs k).1.2:=by
 unfold tnO
 cases hg:zA xs k with
 | false=>exact zc7
 | true =>
  obtain ⟨R,C,l,b1,off1,n1',cap1,b,off,x,_,rfl,_,_,_,_,_,hxr,_,_,hav,_⟩:=h.first (zcf h hg)
  rw [if_pos rfl,hav]
  exact zgG hxr
theorem zkz {w:World} {base n:Nat} {ty:TypeId} {C:Array Value} (x:Val) (hC:C=x.cells.toArray) (hn:n=w.heap.size) (hb:base≤n):(w.alloc (.cells C ty)).ownsRow base ty 6 (.slice (some ⟨n,0,none⟩) 1 1) 1 (zm [x]):=by
 subst hn hC
 exact ⟨by simp [Val.cells,zm],Or.inr ⟨w.heap.size,1,_,rfl,hb,Array.getElem?_push_size,Nat.le_refl _,by decide,by simp [Val.cells],by simp [Val.cells,zm]⟩⟩
theorem zp0 (Z:World) (o o' s s':Obj) (os:Array Obj) (d:Nat) {g:Nat} (hg:Z.heap.size+2≤g):(more ((Z.alloc o).alloc s) os d).heap[g]? = (more ((Z.alloc o').alloc s') os d).heap[g]?:=by
 simp only [more,World.alloc,Array.getElem?_append,Array.getElem?_push,Array.size_push]
 rw [if_neg (by omega),if_neg (by omega)]
theorem zd3 {Z:World} {o s:Obj} (o' s':Obj) {os:Array Obj} {d base size n:Nat} {ty:TypeId} {v:Value} {xs:List Value} (h:(more ((Z.alloc o).alloc s) os d).ownsRow base ty size v n xs) (hb:Z.heap.size+2≤base):(more ((Z.alloc o').alloc s') os d).ownsRow base ty size v n xs:=by
 refine ⟨h.1,?_⟩
 rcases h.2 with h2 | ⟨g,cap,cur,hv,hg,hh,r⟩
 ·exact .inl h2
 ·exact .inr ⟨g,cap,cur,hv,hg,by rw [zp0 Z o' o s' s os d (by omega)];exact hh,r⟩
theorem zp1 (A:Option Addr) (n cap:Nat) (xs:List Ar) (w:World) (htab:Tab w) (h:ArgsIn w A n cap xs) :
  Calls prog 32 #[.slice A n cap] w fun e w'=>zan w (zbG xs) e w':=by
 have n0:=fun W (hW:ArgsIn W A n cap xs)=>zbH A n cap xs 0 1 W hW _ rfl
 have n1:=fun W (hW:ArgsIn W A n cap xs)=>zbH A n cap xs 1 1 W hW _ rfl
 have v2:=fun W (hW:ArgsIn W A n cap xs)=>zeD A n cap xs 2 W hW _ rfl
 have v3:=fun W (hW:ArgsIn W A n cap xs)=>zeD A n cap xs 3 W hW _ rfl
 have H:=Lib.hid h
 have HT:=Lib.hid htab
 unfold zbG
 generalize zu xs 0 1=mm at *
 generalize zu xs 1 1=kk at *
 obtain ⟨mi,mf⟩:=mm
 obtain ⟨ki,kf⟩:=kk
 simp only [show ((0:Nat):Int)=0 from rfl,show ((1:Nat):Int)=1 from rfl,show ((2:Nat):Int)=2 from rfl,show ((3:Nat):Int)=3 from rfl] at n0 n1 v2 v3
 clear h htab
 by_cases hmf:mf=0
 ·subst hmf
  by_cases hkf:kf=0
  ·subst hkf
   have har:=zhT (k:=2) H.out
   have hsr:=zhT (k:=3) H.out
   obtain ⟨a,ha⟩:∃ a,tnO xs 2=a:=⟨_,rfl⟩
   obtain ⟨s,hs⟩:∃ s,tnO xs 3=s:=⟨_,rfl⟩
   rw [ha] at har ⊢
   rw [hs] at hsr ⊢
   have HA:=Lib.hid ha
   have HS:=Lib.hid hs
   clear ha hs
   obtain ⟨X,hX⟩:∃ X,zaM (mi,0) (ki,0) a s=X:=⟨_,rfl⟩
   rw [hX]
   have HX:=Lib.hid hX
   clear hX
   go_enter func32,ntmps32
   go_upto_region 8 with (first | (go_at_call 68;with_reducible refine aM (n0 _ (H.out.ext (by simp [go_sem]))) fun osa da=>?_) | (go_at_call 68;with_reducible refine aM (n1 _ (H.out.ext (by simp [go_sem]))) fun osb db=>?_) | (go_at_call 66;with_reducible refine aM (zhr _ (HT.out.ext (by simp [go_sem]))) fun osc dc=>?_) | (go_at_call 17;with_reducible refine aR (zt _ _) fun D m cc os5 d5 hD=>?_;have hDr:=hD.rd))
   go_region
   ·go_upto_if 38 with (go_at_call 73;with_reducible refine aM (v2 _ (H.out.ext (by simp [go_sem]))) fun osg dg=>?_)
    go_cut [4] (fun s4 wx=>∃ osx dx,s4 = .int .i64 0∧a.2=0∧wx=more ((((more (w.alloc (Obj.cells #[.int .i64 0,.int .i64 0,.slice none 0 0] 30)) (osa++(osb++osc)) dc).alloc (Obj.cells #[.int .i64 1,.int .i64 0] 35)).alloc (Obj.cells #[.int .i64 a.1.1,.int .i64 a.1.2] 35)).alloc (Obj.cells #[.int .i64 1,.int .i64 0] 35)) osx dx)
    case first =>
     cases hg:zA xs 2 with
     | false =>
      obtain rfl:((1,0),0)=a:=by rw [← HA.out];unfold tnO;rw [hg];rfl
      clear hg
      go_wp2_with fail
      go_meet
      exact ⟨_,_,rfl,trivial,rfl⟩
     | true =>
      have hlt:=zcf H.out hg
      obtain ⟨R,C,l,b1,off1,n1',cap1,b,off,x,_,rfl,⟨u0,u1,u2⟩,hn1,hc1,⟨y0,y1,y2,y3,y4,y5⟩,_,hxr,hbl,hb1,hav,_,_,_⟩:=H.out.first hlt
      have hcap:=H.out.cap
      simp only at u0 u1 u2
      obtain rfl:(tnP x,tnF x)=a:=by rw [← HA.out];unfold tnO;rw [hg,if_pos rfl,hav]
      have ht:=fun W=>zdJ x W hxr
      clear hg hav
      by_cases hf:tnF x=0
      ·simp only [tnV,hf] at ht
       go_wp2_with (first | (go_at_call 81;with_reducible refine aM (ht _) fun ost dt=>?_))
       go_meet
       exact ⟨_,_,rfl,hf,rfl⟩
      ·have hf':(tnF x != 0)=true:=by simpa using hf
       obtain rfl:zf (tnF x)=X:=by rw [← HX.out];unfold zaM;rw [if_neg (by simp),if_neg (by simp),if_pos hf]
       go_wp2_with (first | (go_at_call 81;with_reducible refine aM (ht _) fun ost dt=>?_) | (go_at_call 17;with_reducible refine aR (zt _ _) fun D m cc os5 d5 hD=>?_;have hDr:=hD.rd))
       exact rc1 (v:=AV (zf (tnF x)).R (zf (tnF x)).C (.slice D m cc)) rfl rfl (by simp [go_sem]) (by (try simp only [za,zc,zb,Array.append_assoc] at hDr);exact raS hDr hD (by simp <;> omega) (by simp [go_sem]))
    case rest =>
    obtain ⟨osx,dx,rfl,ha0,rfl⟩:=hcut
    clear osg dg
    go_upto_if 54 with (go_at_call 73;with_reducible refine aM (v3 _ (H.out.ext (by simp [go_sem]))) fun osg dg=>?_)
    go_cut [4] (fun s4 wx=>∃ osy dy,s4 = .int .i64 0∧s.2=0∧wx=more ((((more (w.alloc (Obj.cells #[.int .i64 0,.int .i64 0,.slice none 0 0] 30)) (osa++(osb++osc)) dc).alloc (Obj.cells #[.int .i64 1,.int .i64 0] 35)).alloc (Obj.cells #[.int .i64 a.1.1,.int .i64 a.1.2] 35)).alloc (Obj.cells #[.int .i64 s.1.1,.int .i64 s.1.2] 35)) osy dy)
    case first =>
     cases hg:zA xs 3 with
     | false =>
      obtain rfl:((1,0),0)=s:=by rw [← HS.out];unfold tnO;rw [hg];rfl
      clear hg
      go_wp2_with fail
      go_meet
      exact ⟨_,_,rfl,trivial,rfl⟩
     | true =>
      have hlt:=zcf H.out hg
      obtain ⟨R,C,l,b1,off1,n1',cap1,b,off,x,_,rfl,⟨u0,u1,u2⟩,hn1,hc1,⟨y0,y1,y2,y3,y4,y5⟩,_,hxr,hbl,hb1,hav,_,_,_⟩:=H.out.first hlt
      have hcap:=H.out.cap
      simp only at u0 u1 u2
      obtain rfl:(tnP x,tnF x)=s:=by rw [← HS.out];unfold tnO;rw [hg,if_pos rfl,hav]
      have ht:=fun W=>zdJ x W hxr
      clear hg hav
      by_cases hf:tnF x=0
      ·simp only [tnV,hf] at ht
       go_wp2_with (first | (go_at_call 81;with_reducible refine aM (ht _) fun ost dt=>?_))
       go_meet
       exact ⟨_,_,rfl,hf,rfl⟩
      ·have hf':(tnF x != 0)=true:=by simpa using hf
       obtain rfl:zf (tnF x)=X:=by rw [← HX.out];unfold zaM;rw [if_neg (by simp),if_neg (by simp),if_neg (by simp [ha0]),if_pos hf]
       go_wp2_with (first | (go_at_call 81;with_reducible refine aM (ht _) fun ost dt=>?_) | (go_at_call 17;with_reducible refine aR (zt _ _) fun D m cc os5 d5 hD=>?_;have hDr:=hD.rd))
       exact rc1 (v:=AV (zf (tnF x)).R (zf (tnF x)).C (.slice D m cc)) rfl rfl (by simp [go_sem]) (by (try simp only [za,zc,zb,Array.append_assoc] at hDr);exact raS hDr hD (by simp <;> omega) (by simp [go_sem]))
    case rest =>
    obtain ⟨osy,dy,rfl,hs0,rfl⟩:=hcut
    clear osx dx
    obtain ⟨⟨am,ae⟩,af⟩:=a
    obtain ⟨⟨sm,se⟩,sf⟩:=s
    simp only at ha0 hs0 har hsr
    subst ha0 hs0
    by_cases q1:mi < 1
    ·obtain rfl:zf 9=X:=by rw [← HX.out];unfold zaM;rw [if_neg (by simp),if_neg (by simp),if_neg (by simp),if_neg (by simp),if_pos (Or.inl q1)]
     go_wp2_with (go_at_call 17;with_reducible refine aR (zt _ _) fun D m cc os5 d5 hD=>?_;have hDr:=hD.rd)
     exact rc1 (v:=AV (zf 9).R (zf 9).C (.slice D m cc)) rfl rfl (by simp [go_sem]) (by (try simp only [za,zc,zb,Array.append_assoc] at hDr);exact raS hDr hD (by simp <;> omega) (by simp [go_sem]))
    ·by_cases q2:ki < 1
     ·obtain rfl:zf 9=X:=by rw [← HX.out];unfold zaM;rw [if_neg (by simp),if_neg (by simp),if_neg (by simp),if_neg (by simp),if_pos (Or.inr q2)]
      go_wp2_with (go_at_call 17;with_reducible refine aR (zt _ _) fun D m cc os5 d5 hD=>?_;have hDr:=hD.rd)
      exact rc1 (v:=AV (zf 9).R (zf 9).C (.slice D m cc)) rfl rfl (by simp [go_sem]) (by (try simp only [za,zc,zb,Array.append_assoc] at hDr);exact raS hDr hD (by simp <;> omega) (by simp [go_sem]))
     ·have hq:=zow (r:=mi) (c:=ki) (by omega)
      by_cases q3:4096 < mi * ki
      ·obtain rfl:zf 5=X:=by rw [← HX.out];unfold zaM;rw [if_neg (by simp),if_neg (by simp),if_neg (by simp),if_neg (by simp),if_neg (by omega),if_pos q3]
       have q4:4096 / ki < mi:=hq.2 q3
       go_wp2_with (go_at_call 17;with_reducible refine aR (zt _ _) fun D m cc os5 d5 hD=>?_;have hDr:=hD.rd)
       exact rc1 (v:=AV (zf 5).R (zf 5).C (.slice D m cc)) rfl rfl (by simp [go_sem]) (by (try simp only [za,zc,zb,Array.append_assoc] at hDr);exact raS hDr hD (by simp <;> omega) (by simp [go_sem]))
      ·have q4:¬ 4096 / ki < mi:=fun e=>q3 (hq.1 e)
       clear hq
       obtain ⟨M,rfl⟩:∃ M:Nat,mi=M:=⟨mi.toNat,by omega⟩
       obtain ⟨K,rfl⟩:∃ K:Nat,ki=K:=⟨ki.toNat,by omega⟩
       have q5:M * K≤4096:=by rw [← Int.natCast_mul] at q3;omega
       have e1:IntKind.i64.wrap ((M:Int) * (K:Int))=((M * K:Nat):Int):=by rw [IntKind.wrap_i64,← Int.natCast_mul];omega
       have q6:1≤M * K:=Nat.mul_pos (by omega) (by omega)
       have hXe:zaM ((M:Int),0) ((K:Int),0) ((am,ae),0) ((sm,se),0)=match zaL (am,ae) (sm,se) (M * K - 1) with
        | none=>zf 5
        | some (l,_)=>⟨M,K,l⟩:=by
        unfold zaM
        rw [if_neg (by simp),if_neg (by simp),if_neg (by simp),if_neg (by simp),if_neg (by omega),if_neg q3]
        rfl
       have HE:=Lib.hid (hXe.symm.trans HX.out)
       generalize hT:M * K=T at *
       clear hXe HX q3 hT
       go_wp2_with (go_at_call 67;with_reducible refine aM (zea _ _ _) fun oso do_=>?_)
       go_loopw [10] (fun v wr=>∃ (k:Nat) (L:List Val) (p:Int×Int) (os:Array Obj) (d:Nat),k+1≤T∧wr=more ((((more (w.alloc (Obj.cells #[.int .i64 0,.int .i64 0,.slice none 0 0] 30)) (osa++(osb++osc)) dc).alloc (Obj.cells #[.int .i64 1,.int .i64 0] 35)).alloc (Obj.cells #[.int .i64 p.1,.int .i64 p.2] 35)).alloc (Obj.cells #[.int .i64 sm,.int .i64 se] 35)) os d∧Hid (zaL (am,ae) (sm,se) k=some (L,p))∧Hid (wr.ownsRow (w.heap.size+1+(osa.size+(osb.size+osc.size))+1+1+1) 37 6 v (k+1) (zm L))) (fun v _=>T - zcI v)
       case atStart=>exact ⟨0,[⟨1,am,ae,⟨#[]⟩,false,0⟩],(am,ae),_,_,q6,ze _ _ _ _,rfl,zkz ⟨1,am,ae,⟨#[]⟩,false,0⟩ rfl (by simp) (by omega)⟩
       case round =>
        obtain ⟨k,L,p,os,d,hk,rfl,HQ,HO⟩:=hrel
        obtain ⟨G,cp,rfl⟩:=za5 HO.out
        obtain ⟨i1,i2,i3⟩:=zey har hsr HQ.out
        obtain ⟨pm,pe⟩:=p
        simp only at i2
        by_cases hlt:k+1 < T
        ·have hlt':((k:Int)+1) < (T:Int):=by omega
         have had:=fun W (hT:Tab W)=>zio pm pe sm se W hT (zbu i2) (zbu hsr)
         cases hs:addS pm pe sm se with
         | none =>
          rw [hs] at had
          simp only [rnV,rm,re,Option.getD_none,Option.isSome_none] at had
          obtain rfl:zf 5=X:=by
           have h1:zaL (am,ae) (sm,se) (k+1)=none:=by unfold zaL;rw [HQ.out];simp only;rw [hs]
           have h2:=zex h1 (T - 1 - (k+1))
           rw [show k+1+(T - 1 - (k+1))=T - 1 by omega] at h2
           rw [← HE.out,h2]
          go_wp2_with (first | (go_at_call 82;with_reducible refine aM (had _ (HT.out.ext (by simp [go_sem]))) fun ost dt=>?_) | (go_at_call 17;with_reducible refine aR (zt _ _) fun D m cc os5 d5 hD=>?_;have hDr:=hD.rd))
          exact rc1 (v:=AV (zf 5).R (zf 5).C (.slice D m cc)) rfl rfl (by simp [go_sem]) (by (try simp only [za,zc,zb,Array.append_assoc] at hDr);exact raS hDr hD (by simp <;> omega) (by simp [go_sem]))
         | some q =>
          obtain ⟨qm,qe⟩:=q
          have hq:=zdq hs
          rw [hs] at had
          simp only [rnV,rm,re,Option.getD_some,Option.isSome_some] at had
          have HQ2:Hid (zaL (am,ae) (sm,se) (k+1)=some (L++[⟨1,qm,qe,⟨#[]⟩,false,0⟩],(qm,qe))):=by
           show _=_
           conv=>lhs;unfold zaL
           rw [HQ.out];simp only;rw [hs]
          clear hs HE
          obtain ⟨j0,hi0,hz0,hz1,hz2⟩:=info_parts zaY
          go_wp2_with (first | (go_at_call 82;with_reducible refine aM (had _ (HT.out.ext (by simp [go_sem]))) fun ost dt=>?_) | (go_at_call 67;with_reducible refine aM (zea _ _ _) fun osv dv=>?_) | (at_builtin;refine wpList_append_own _ rfl _ _ _ rfl (w.heap.size+1+(osa.size+(osb.size+osc.size))+1+1+1) 37 j0 (VV 0 0 0 ⟨#[]⟩ false 0) 6 56 Tryz.underlying28 hi0 hz0 hz1 hz2 rfl (by decide) (.slice G (k+1) cp) (k+1) (zm L) rfl (zw (zd3 (Obj.cells #[.int .i64 qm,.int .i64 qe] 35) (Obj.cells #[.int .i64 sm,.int .i64 se] 35) HO.out (by simp)) (by simp [go_sem])) _ 1 1 (Val.cells ⟨1,qm,qe,⟨#[]⟩,false,0⟩) rfl rfl (z7 _ _ _ (by simp) rfl _) (fun u hu=>zbB (l:=[⟨1,qm,qe,⟨#[]⟩,false,0⟩]) u (by simpa [zm] using hu)) (by simp only [maxLen];omega) (by omega) (by simp;omega) ?_;intro v4 w4 ho4 hg4 _))
          have hx0:Ext ((((more (w.alloc (Obj.cells #[.int .i64 0,.int .i64 0,.slice none 0 0] 30)) (osa++(osb++osc)) dc).alloc (Obj.cells #[.int .i64 1,.int .i64 0] 35)).alloc (Obj.cells #[.int .i64 qm,.int .i64 qe] 35)).alloc (Obj.cells #[.int .i64 sm,.int .i64 se] 35)) w4:=zba (n:=k+1) (by simp [go_sem]) (by simpa using zw (zd3 (Obj.cells #[.int .i64 qm,.int .i64 qe] 35) (Obj.cells #[.int .i64 sm,.int .i64 se] 35) HO.out (by simp)) (by simp [go_sem])) hg4
          obtain ⟨os9,d9,he9⟩:=hx0.more
          refine ⟨⟨k+1,_,(qm,qe),os9,d9,by omega,he9,HQ2,?_⟩,?_⟩
          ·show World.ownsRow _ _ _ _ _ _ _
           rw [zar];simpa [zm] using ho4
          ·obtain ⟨G4,c4,rfl⟩:=za5 ho4
           simp [zcI];omega
        ·obtain rfl:k+1=T:=by omega
         obtain rfl:(⟨M,K,L⟩:NA)=X:=by rw [← HE.out,show k+1 - 1=k by omega,HQ.out]
         obtain ⟨D,cc,hv,hD⟩:=zcD (n:=k+1) (l:=L) (v:=.slice G (k+1) cp) (w:=((((more (w.alloc (Obj.cells #[.int .i64 0,.int .i64 0,.slice none 0 0] 30)) (osa++(osb++osc)) dc).alloc (Obj.cells #[.int .i64 1,.int .i64 0] 35)).alloc (Obj.cells #[.int .i64 pm,.int .i64 pe] 35)).alloc (Obj.cells #[.int .i64 sm,.int .i64 se] 35))) (X:=((((more (w.alloc (Obj.cells #[.int .i64 0,.int .i64 0,.slice none 0 0] 30)) (osa++(osb++osc)) dc).alloc (Obj.cells #[.int .i64 1,.int .i64 0] 35)).alloc (Obj.cells #[.int .i64 pm,.int .i64 pe] 35)).alloc (Obj.cells #[.int .i64 sm,.int .i64 se] 35))) (by simpa using HO.out) (Nat.le_refl _) (by omega) (fun x hx=>(i3 x hx).ok)
         simp only [Value.slice.injEq,true_and] at hv
         obtain ⟨rfl,rfl⟩:=hv
         clear HE HQ HO hk
         go_wp2_with (go_at_call 36;(with_reducible refine (zcB _ _ _ _ _ _).mono ?_);rintro e w' ⟨rfl,hb⟩;have hDr:=Rd.ext hD.rd hb;obtain ⟨os6,d6,rfl⟩:=hb.more;clear hb)
         exact rc1 rfl rfl (by simp [go_sem]) ⟨G,k+1,cp,rfl,⟨(by (try simp only [za,zc,zb,Array.append_assoc] at hDr);exact hDr.sw (by simp <;> omega)),hD.len,hD.cap,hD.small,hD.ok⟩,by simp [go_sem]⟩
   ·go_upto_if 38 with (go_at_call 73;with_reducible refine aM (v2 _ (H.out.ext (by simp [go_sem]))) fun osg dg=>?_)
    go_cut [4] (fun s4 wx=>∃ osx dx,s4 = .int .i64 0∧a.2=0∧wx=more ((((more (w.alloc (Obj.cells #[.int .i64 0,.int .i64 0,.slice none 0 0] 30)) (osa++(osb++osc)) dc).alloc (Obj.cells #[.int .i64 1,.int .i64 0] 35)).alloc (Obj.cells #[.int .i64 1,.int .i64 0] 35)).alloc (Obj.cells #[.int .i64 a.1.1,.int .i64 a.1.2] 35)) osx dx)
    case first =>
     cases hg:zA xs 2 with
     | false =>
      obtain rfl:((1,0),0)=a:=by rw [← HA.out];unfold tnO;rw [hg];rfl
      clear hg
      go_wp2_with fail
      go_meet
      exact ⟨_,_,rfl,trivial,rfl⟩
     | true =>
      have hlt:=zcf H.out hg
      obtain ⟨R,C,l,b1,off1,n1',cap1,b,off,x,_,rfl,⟨u0,u1,u2⟩,hn1,hc1,⟨y0,y1,y2,y3,y4,y5⟩,_,hxr,hbl,hb1,hav,_,_,_⟩:=H.out.first hlt
      have hcap:=H.out.cap
      simp only at u0 u1 u2
      obtain rfl:(tnP x,tnF x)=a:=by rw [← HA.out];unfold tnO;rw [hg,if_pos rfl,hav]
      have ht:=fun W=>zdJ x W hxr
      clear hg hav
      by_cases hf:tnF x=0
      ·simp only [tnV,hf] at ht
       go_wp2_with (first | (go_at_call 81;with_reducible refine aM (ht _) fun ost dt=>?_))
       go_meet
       exact ⟨_,_,rfl,hf,rfl⟩
      ·have hf':(tnF x != 0)=true:=by simpa using hf
       obtain rfl:zf (tnF x)=X:=by rw [← HX.out];unfold zaM;rw [if_neg (by simp),if_neg (by simp),if_pos hf]
       go_wp2_with (first | (go_at_call 81;with_reducible refine aM (ht _) fun ost dt=>?_) | (go_at_call 17;with_reducible refine aR (zt _ _) fun D m cc os5 d5 hD=>?_;have hDr:=hD.rd))
       exact rc1 (v:=AV (zf (tnF x)).R (zf (tnF x)).C (.slice D m cc)) rfl rfl (by simp [go_sem]) (by (try simp only [za,zc,zb,Array.append_assoc] at hDr);exact raS hDr hD (by simp <;> omega) (by simp [go_sem]))
    case rest =>
    obtain ⟨osx,dx,rfl,ha0,rfl⟩:=hcut
    clear osg dg
    go_upto_if 54 with (go_at_call 73;with_reducible refine aM (v3 _ (H.out.ext (by simp [go_sem]))) fun osg dg=>?_)
    go_cut [4] (fun s4 wx=>∃ osy dy,s4 = .int .i64 0∧s.2=0∧wx=more ((((more (w.alloc (Obj.cells #[.int .i64 0,.int .i64 0,.slice none 0 0] 30)) (osa++(osb++osc)) dc).alloc (Obj.cells #[.int .i64 1,.int .i64 0] 35)).alloc (Obj.cells #[.int .i64 s.1.1,.int .i64 s.1.2] 35)).alloc (Obj.cells #[.int .i64 a.1.1,.int .i64 a.1.2] 35)) osy dy)
    case first =>
     cases hg:zA xs 3 with
     | false =>
      obtain rfl:((1,0),0)=s:=by rw [← HS.out];unfold tnO;rw [hg];rfl
      clear hg
      go_wp2_with fail
      go_meet
      exact ⟨_,_,rfl,trivial,rfl⟩
     | true =>
      have hlt:=zcf H.out hg
      obtain ⟨R,C,l,b1,off1,n1',cap1,b,off,x,_,rfl,⟨u0,u1,u2⟩,hn1,hc1,⟨y0,y1,y2,y3,y4,y5⟩,_,hxr,hbl,hb1,hav,_,_,_⟩:=H.out.first hlt
      have hcap:=H.out.cap
      simp only at u0 u1 u2
      obtain rfl:(tnP x,tnF x)=s:=by rw [← HS.out];unfold tnO;rw [hg,if_pos rfl,hav]
      have ht:=fun W=>zdJ x W hxr
      clear hg hav
      by_cases hf:tnF x=0
      ·simp only [tnV,hf] at ht
       go_wp2_with (first | (go_at_call 81;with_reducible refine aM (ht _) fun ost dt=>?_))
       go_meet
       exact ⟨_,_,rfl,hf,rfl⟩
      ·have hf':(tnF x != 0)=true:=by simpa using hf
       obtain rfl:zf (tnF x)=X:=by rw [← HX.out];unfold zaM;rw [if_neg (by simp),if_neg (by simp),if_neg (by simp [ha0]),if_pos hf]
       go_wp2_with (first | (go_at_call 81;with_reducible refine aM (ht _) fun ost dt=>?_) | (go_at_call 17;with_reducible refine aR (zt _ _) fun D m cc os5 d5 hD=>?_;have hDr:=hD.rd))
       exact rc1 (v:=AV (zf (tnF x)).R (zf (tnF x)).C (.slice D m cc)) rfl rfl (by simp [go_sem]) (by (try simp only [za,zc,zb,Array.append_assoc] at hDr);exact raS hDr hD (by simp <;> omega) (by simp [go_sem]))
    case rest =>
    obtain ⟨osy,dy,rfl,hs0,rfl⟩:=hcut
    clear osx dx
    obtain ⟨⟨am,ae⟩,af⟩:=a
    obtain ⟨⟨sm,se⟩,sf⟩:=s
    simp only at ha0 hs0 har hsr
    subst ha0 hs0
    by_cases q1:mi < 1
    ·obtain rfl:zf 9=X:=by rw [← HX.out];unfold zaM;rw [if_neg (by simp),if_neg (by simp),if_neg (by simp),if_neg (by simp),if_pos (Or.inl q1)]
     go_wp2_with (go_at_call 17;with_reducible refine aR (zt _ _) fun D m cc os5 d5 hD=>?_;have hDr:=hD.rd)
     exact rc1 (v:=AV (zf 9).R (zf 9).C (.slice D m cc)) rfl rfl (by simp [go_sem]) (by (try simp only [za,zc,zb,Array.append_assoc] at hDr);exact raS hDr hD (by simp <;> omega) (by simp [go_sem]))
    ·by_cases q2:ki < 1
     ·obtain rfl:zf 9=X:=by rw [← HX.out];unfold zaM;rw [if_neg (by simp),if_neg (by simp),if_neg (by simp),if_neg (by simp),if_pos (Or.inr q2)]
      go_wp2_with (go_at_call 17;with_reducible refine aR (zt _ _) fun D m cc os5 d5 hD=>?_;have hDr:=hD.rd)
      exact rc1 (v:=AV (zf 9).R (zf 9).C (.slice D m cc)) rfl rfl (by simp [go_sem]) (by (try simp only [za,zc,zb,Array.append_assoc] at hDr);exact raS hDr hD (by simp <;> omega) (by simp [go_sem]))
     ·have hq:=zow (r:=mi) (c:=ki) (by omega)
      by_cases q3:4096 < mi * ki
      ·obtain rfl:zf 5=X:=by rw [← HX.out];unfold zaM;rw [if_neg (by simp),if_neg (by simp),if_neg (by simp),if_neg (by simp),if_neg (by omega),if_pos q3]
       have q4:4096 / ki < mi:=hq.2 q3
       go_wp2_with (go_at_call 17;with_reducible refine aR (zt _ _) fun D m cc os5 d5 hD=>?_;have hDr:=hD.rd)
       exact rc1 (v:=AV (zf 5).R (zf 5).C (.slice D m cc)) rfl rfl (by simp [go_sem]) (by (try simp only [za,zc,zb,Array.append_assoc] at hDr);exact raS hDr hD (by simp <;> omega) (by simp [go_sem]))
      ·have q4:¬ 4096 / ki < mi:=fun e=>q3 (hq.1 e)
       clear hq
       obtain ⟨M,rfl⟩:∃ M:Nat,mi=M:=⟨mi.toNat,by omega⟩
       obtain ⟨K,rfl⟩:∃ K:Nat,ki=K:=⟨ki.toNat,by omega⟩
       have q5:M * K≤4096:=by rw [← Int.natCast_mul] at q3;omega
       have e1:IntKind.i64.wrap ((M:Int) * (K:Int))=((M * K:Nat):Int):=by rw [IntKind.wrap_i64,← Int.natCast_mul];omega
       have q6:1≤M * K:=Nat.mul_pos (by omega) (by omega)
       have hXe:zaM ((M:Int),0) ((K:Int),0) ((am,ae),0) ((sm,se),0)=match zaL (am,ae) (sm,se) (M * K - 1) with
        | none=>zf 5
        | some (l,_)=>⟨M,K,l⟩:=by
        unfold zaM
        rw [if_neg (by simp),if_neg (by simp),if_neg (by simp),if_neg (by simp),if_neg (by omega),if_neg q3]
        rfl
       have HE:=Lib.hid (hXe.symm.trans HX.out)
       generalize hT:M * K=T at *
       clear hXe HX q3 hT
       go_wp2_with (go_at_call 67;with_reducible refine aM (zea _ _ _) fun oso do_=>?_)
       go_loopw [10] (fun v wr=>∃ (k:Nat) (L:List Val) (p:Int×Int) (os:Array Obj) (d:Nat),k+1≤T∧wr=more ((((more (w.alloc (Obj.cells #[.int .i64 0,.int .i64 0,.slice none 0 0] 30)) (osa++(osb++osc)) dc).alloc (Obj.cells #[.int .i64 1,.int .i64 0] 35)).alloc (Obj.cells #[.int .i64 sm,.int .i64 se] 35)).alloc (Obj.cells #[.int .i64 p.1,.int .i64 p.2] 35)) os d∧Hid (zaL (am,ae) (sm,se) k=some (L,p))∧Hid (wr.ownsRow (w.heap.size+1+(osa.size+(osb.size+osc.size))+1+1+1) 37 6 v (k+1) (zm L))) (fun v _=>T - zcI v)
       case atStart=>exact ⟨0,[⟨1,am,ae,⟨#[]⟩,false,0⟩],(am,ae),_,_,q6,ze _ _ _ _,rfl,zkz ⟨1,am,ae,⟨#[]⟩,false,0⟩ rfl (by simp) (by omega)⟩
       case round =>
        obtain ⟨k,L,p,os,d,hk,rfl,HQ,HO⟩:=hrel
        obtain ⟨G,cp,rfl⟩:=za5 HO.out
        obtain ⟨i1,i2,i3⟩:=zey har hsr HQ.out
        obtain ⟨pm,pe⟩:=p
        simp only at i2
        by_cases hlt:k+1 < T
        ·have hlt':((k:Int)+1) < (T:Int):=by omega
         have had:=fun W (hT:Tab W)=>zio pm pe sm se W hT (zbu i2) (zbu hsr)
         cases hs:addS pm pe sm se with
         | none =>
          rw [hs] at had
          simp only [rnV,rm,re,Option.getD_none,Option.isSome_none] at had
          obtain rfl:zf 5=X:=by
           have h1:zaL (am,ae) (sm,se) (k+1)=none:=by unfold zaL;rw [HQ.out];simp only;rw [hs]
           have h2:=zex h1 (T - 1 - (k+1))
           rw [show k+1+(T - 1 - (k+1))=T - 1 by omega] at h2
           rw [← HE.out,h2]
          go_wp2_with (first | (go_at_call 82;with_reducible refine aM (had _ (HT.out.ext (by simp [go_sem]))) fun ost dt=>?_) | (go_at_call 17;with_reducible refine aR (zt _ _) fun D m cc os5 d5 hD=>?_;have hDr:=hD.rd))
          exact rc1 (v:=AV (zf 5).R (zf 5).C (.slice D m cc)) rfl rfl (by simp [go_sem]) (by (try simp only [za,zc,zb,Array.append_assoc] at hDr);exact raS hDr hD (by simp <;> omega) (by simp [go_sem]))
         | some q =>
          obtain ⟨qm,qe⟩:=q
          have hq:=zdq hs
          rw [hs] at had
          simp only [rnV,rm,re,Option.getD_some,Option.isSome_some] at had
          have HQ2:Hid (zaL (am,ae) (sm,se) (k+1)=some (L++[⟨1,qm,qe,⟨#[]⟩,false,0⟩],(qm,qe))):=by
           show _=_
           conv=>lhs;unfold zaL
           rw [HQ.out];simp only;rw [hs]
          clear hs HE
          obtain ⟨j0,hi0,hz0,hz1,hz2⟩:=info_parts zaY
          go_wp2_with (first | (go_at_call 82;with_reducible refine aM (had _ (HT.out.ext (by simp [go_sem]))) fun ost dt=>?_) | (go_at_call 67;with_reducible refine aM (zea _ _ _) fun osv dv=>?_) | (at_builtin;refine wpList_append_own _ rfl _ _ _ rfl (w.heap.size+1+(osa.size+(osb.size+osc.size))+1+1+1) 37 j0 (VV 0 0 0 ⟨#[]⟩ false 0) 6 56 Tryz.underlying28 hi0 hz0 hz1 hz2 rfl (by decide) (.slice G (k+1) cp) (k+1) (zm L) rfl (zw (zd3 (Obj.cells #[.int .i64 sm,.int .i64 se] 35) (Obj.cells #[.int .i64 qm,.int .i64 qe] 35) HO.out (by simp)) (by simp [go_sem])) _ 1 1 (Val.cells ⟨1,qm,qe,⟨#[]⟩,false,0⟩) rfl rfl (z7 _ _ _ (by simp) rfl _) (fun u hu=>zbB (l:=[⟨1,qm,qe,⟨#[]⟩,false,0⟩]) u (by simpa [zm] using hu)) (by simp only [maxLen];omega) (by omega) (by simp;omega) ?_;intro v4 w4 ho4 hg4 _))
          have hx0:Ext ((((more (w.alloc (Obj.cells #[.int .i64 0,.int .i64 0,.slice none 0 0] 30)) (osa++(osb++osc)) dc).alloc (Obj.cells #[.int .i64 1,.int .i64 0] 35)).alloc (Obj.cells #[.int .i64 sm,.int .i64 se] 35)).alloc (Obj.cells #[.int .i64 qm,.int .i64 qe] 35)) w4:=zba (n:=k+1) (by simp [go_sem]) (by simpa using zw (zd3 (Obj.cells #[.int .i64 sm,.int .i64 se] 35) (Obj.cells #[.int .i64 qm,.int .i64 qe] 35) HO.out (by simp)) (by simp [go_sem])) hg4
          obtain ⟨os9,d9,he9⟩:=hx0.more
          refine ⟨⟨k+1,_,(qm,qe),os9,d9,by omega,he9,HQ2,?_⟩,?_⟩
          ·show World.ownsRow _ _ _ _ _ _ _
           rw [zar];simpa [zm] using ho4
          ·obtain ⟨G4,c4,rfl⟩:=za5 ho4
           simp [zcI];omega
        ·obtain rfl:k+1=T:=by omega
         obtain rfl:(⟨M,K,L⟩:NA)=X:=by rw [← HE.out,show k+1 - 1=k by omega,HQ.out]
         obtain ⟨D,cc,hv,hD⟩:=zcD (n:=k+1) (l:=L) (v:=.slice G (k+1) cp) (w:=((((more (w.alloc (Obj.cells #[.int .i64 0,.int .i64 0,.slice none 0 0] 30)) (osa++(osb++osc)) dc).alloc (Obj.cells #[.int .i64 1,.int .i64 0] 35)).alloc (Obj.cells #[.int .i64 sm,.int .i64 se] 35)).alloc (Obj.cells #[.int .i64 pm,.int .i64 pe] 35))) (X:=((((more (w.alloc (Obj.cells #[.int .i64 0,.int .i64 0,.slice none 0 0] 30)) (osa++(osb++osc)) dc).alloc (Obj.cells #[.int .i64 1,.int .i64 0] 35)).alloc (Obj.cells #[.int .i64 sm,.int .i64 se] 35)).alloc (Obj.cells #[.int .i64 pm,.int .i64 pe] 35))) (by simpa using HO.out) (Nat.le_refl _) (by omega) (fun x hx=>(i3 x hx).ok)
         simp only [Value.slice.injEq,true_and] at hv
         obtain ⟨rfl,rfl⟩:=hv
         clear HE HQ HO hk
         go_wp2_with (go_at_call 36;(with_reducible refine (zcB _ _ _ _ _ _).mono ?_);rintro e w' ⟨rfl,hb⟩;have hDr:=Rd.ext hD.rd hb;obtain ⟨os6,d6,rfl⟩:=hb.more;clear hb)
         exact rc1 rfl rfl (by simp [go_sem]) ⟨G,k+1,cp,rfl,⟨(by (try simp only [za,zc,zb,Array.append_assoc] at hDr);exact hDr.sw (by simp <;> omega)),hD.len,hD.cap,hD.small,hD.ok⟩,by simp [go_sem]⟩
  ·have hX:zaM (mi,0) (ki,kf) (tnO xs 2) (tnO xs 3)=zf kf:=by unfold zaM;rw [if_neg (by simp),if_pos hkf]
   rw [hX]
   have hf':(kf != 0)=true:=by simpa using hkf
   clear hX hkf
   go_enter func32,ntmps32
   go_wp2_with (first | (go_at_call 68;with_reducible refine aM (n0 _ (H.out.ext (by simp [go_sem]))) fun osa da=>?_) | (go_at_call 68;with_reducible refine aM (n1 _ (H.out.ext (by simp [go_sem]))) fun osb db=>?_) | (go_at_call 66;with_reducible refine aM (zhr _ (HT.out.ext (by simp [go_sem]))) fun osc dc=>?_) | (go_at_call 17;with_reducible refine aR (zt _ _) fun D m cc os5 d5 hD=>?_;have hDr:=hD.rd))
   exact rc1 (v:=AV (zf kf).R (zf kf).C (.slice D m cc)) rfl rfl (by simp [go_sem]) (by (try simp only [za,zc,zb,Array.append_assoc] at hDr);exact raS hDr hD (by simp <;> omega) (by simp [go_sem]))
 ·have hX:zaM (mi,mf) (ki,kf) (tnO xs 2) (tnO xs 3)=zf mf:=by unfold zaM;rw [if_pos hmf]
  rw [hX]
  have hf':(mf != 0)=true:=by simpa using hmf
  clear hX hmf
  go_enter func32,ntmps32
  go_wp2_with (first | (go_at_call 68;with_reducible refine aM (n0 _ (H.out.ext (by simp [go_sem]))) fun osa da=>?_) | (go_at_call 68;with_reducible refine aM (n1 _ (H.out.ext (by simp [go_sem]))) fun osb db=>?_) | (go_at_call 66;with_reducible refine aM (zhr _ (HT.out.ext (by simp [go_sem]))) fun osc dc=>?_) | (go_at_call 17;with_reducible refine aR (zt _ _) fun D m cc os5 d5 hD=>?_;have hDr:=hD.rd))
  exact rc1 (v:=AV (zf mf).R (zf mf).C (.slice D m cc)) rfl rfl (by simp [go_sem]) (by (try simp only [za,zc,zb,Array.append_assoc] at hDr);exact raS hDr hD (by simp <;> omega) (by simp [go_sem]))
theorem zeE (m e:Int) (w:World) :
  Calls prog 47 #[NV m e] w fun r w'=>r = .returned (VV 1 m e ⟨#[]⟩ false 0)∧Ext w w':=by
 go_enter func47,ntmps47
 go_wp2
 exact rc1 rfl rfl (by simp [go_sem]) ⟨rfl,by simp [go_sem]⟩
theorem zE (f:Int) (hf:1≤f∧f≤9) (w:World):Calls prog 44 #[.int .i64 f] w fun e w'=>zan w (zf f) e w':=by
 refine (zhG f w).mono ?_
 rintro e w' ⟨h1,h2⟩
 have hb:zeX f=zaX f:=by unfold zeX zbZ;rw [if_neg (by omega)]
 refine zdp.res (x:=zf f) ?_ (by simp [zf,zao]) (fun y hy=>by rw [show y=zeX f by simpa [zf,zao] using hy];exact zoa f) h2
 show zdp w.heap.size w' e 1 1 [zeX f]
 rw [hb];exact h1
abbrev za6 (w:World) (X:NA):Ending→World→Prop:=fun e w'=>∃ D m cc,e = .returned (.tuple #[AV X.R X.C (.slice D m cc),.bool true])∧ArrIn w' D m cc X.l∧Ext w w'
theorem zox (s:ByteArray) (lo hi:Nat) (h1:lo≤100) (h2:1≤hi) (h3:hi≤100) (hc:∀ W,Tl prog 43 #[.string s] W (.tuple #[.int .i64 lo,.int .i64 hi]))
  (A:Option Addr) (n cap:Nat) (gs:List GA) (w:World) (h:ArgsG w A n cap gs) (hn:n < lo∨hi < n) :
  Calls prog 15 #[.string s,.slice A n cap] w (za6 w (zf 2)):=by
 have hsm:=h.small
 have h0:((hi:Int) == 0)=false:=by simp;omega
 by_cases q1:n < lo
 ·clear hn h
  go_enter func15,ntmps15
  go_wp2_with (first | (go_at_call 43;with_reducible refine aM (hc _) fun os1 d1=>?_) | (go_at_call 44;with_reducible refine aR (zE 2 (by omega) _) fun D m cc os5 d5 hD=>?_;have hDr:=hD.rd))
  exact rct rfl rfl (by simp [go_sem]) ⟨D,m,cc,rfl,ArrN.arr (base:=w.heap.size) ⟨(by (try simp only [za,zc,zb,Array.append_assoc] at hDr);exact hDr.sw (by simp <;> omega)),hD.len,hD.cap,hD.small,hD.ok⟩,by simp [go_sem]⟩
 ·have q2:hi < n:=by omega
  clear hn h
  go_enter func15,ntmps15
  go_wp2_with (first | (go_at_call 43;with_reducible refine aM (hc _) fun os1 d1=>?_) | (go_at_call 44;with_reducible refine aR (zE 2 (by omega) _) fun D m cc os5 d5 hD=>?_;have hDr:=hD.rd))
  exact rct rfl rfl (by simp [go_sem]) ⟨D,m,cc,rfl,ArrN.arr (base:=w.heap.size) ⟨(by (try simp only [za,zc,zb,Array.append_assoc] at hDr);exact hDr.sw (by simp <;> omega)),hD.len,hD.cap,hD.small,hD.ok⟩,by simp [go_sem]⟩
theorem zoy (s:ByteArray) (lo hi:Nat) (h1:lo≤100) (h2:1≤hi) (h3:hi≤100) (hc:∀ W,Tl prog 43 #[.string s] W (.tuple #[.int .i64 lo,.int .i64 hi]))
  (A:Option Addr) (n cap:Nat) (gs:List GA) (w:World) (h:ArgsG w A n cap gs) (hn1:lo≤n) (hn2:n≤hi) (hb:¬ ∀ g∈gs,g.right=true) :
  Calls prog 15 #[.string s,.slice A n cap] w (za6 w (zf 9)):=by
 have hsm:=h.small
 have h0:((hi:Int) == 0)=false:=by simp;omega
 have q1:¬ n < lo:=by omega
 have q2:¬ hi < n:=by omega
 have HB:=Lib.hid hb
 clear hb hn1 hn2
 go_enter func15,ntmps15
 go_wp2_with (go_at_call 43;with_reducible refine aM (hc _) fun os1 d1=>?_)
 go_loopw [8] (fun i wr=>∃ k:Nat,k≤n∧i = .int .i64 k∧Ext (more (w.alloc (Obj.cells #[.int .i64 0,.int .i64 0,.slice none 0 0] 30)) os1 d1) wr∧Hid (∀ j g,j < k→gs[j]? = some g→g.right=true)) (fun i _=>n - (intOf i).toNat)
 case atStart=>exact ⟨0,Nat.zero_le _,rfl,Ext.refl _,fun j g hj=>absurd hj (Nat.not_lt_zero _)⟩
 case round =>
  obtain ⟨k,hk,rfl,hX,HR⟩:=hrel
  obtain ⟨os,d,rfl⟩:=hX.more
  clear hX
  by_cases hlt:k < n
  ·obtain ⟨g,b,off,hg,rfl,hat,harr⟩:=h.at hlt
   obtain ⟨v0,v1,v2⟩:=hat
   have hbl:b < w.heap.size:=zg v0
   have hcap:=h.cap
   have hra:=fun W (hW:ArrIn W g.A g.n g.cap g.l)=>zU g.r g.c g.A g.n g.cap g.l W hW
   rw [← zaA g.r g.c g.l harr.ok] at hra
   cases hr:zo g.r g.c g.l with
   | true =>
    rw [hr] at hra
    go_wp2_with (go_at_call 45;refine (hra _ (harr.ext (by simp [go_sem]))).mono ?_;rintro e w' ⟨rfl,hb⟩;obtain ⟨os',d',rfl⟩:=hb.more;clear hb)
    refine ⟨⟨k+1,by omega,by go_num,by simp [go_sem],?_⟩,by simp [intOf];omega⟩
    intro j g' hj hg'
    by_cases hjk:j=k
    ·subst hjk
     obtain rfl:g=g':=by rw [hg] at hg';simpa using hg'
     exact hr
    ·exact HR.out j g' (by omega) hg'
   | false =>
    rw [hr] at hra
    go_wp2_with (first | (go_at_call 45;refine (hra _ (harr.ext (by simp [go_sem]))).mono ?_;rintro e w' ⟨rfl,hb⟩;obtain ⟨os',d',rfl⟩:=hb.more;clear hb) | (go_at_call 44;with_reducible refine aR (zE 9 (by omega) _) fun D m cc os5 d5 hD=>?_;have hDr:=hD.rd))
    exact rct rfl rfl (by simp [go_sem]) ⟨D,m,cc,rfl,ArrN.arr (base:=w.heap.size) ⟨(by (try simp only [za,zc,zb,Array.append_assoc] at hDr);exact hDr.sw (by simp <;> omega)),hD.len,hD.cap,hD.small,hD.ok⟩,by simp [go_sem]⟩
  ·exfalso
   have hlen:=h.len
   refine HB.out fun g hg=>?_
   obtain ⟨j,hj,rfl⟩:=List.mem_iff_getElem.1 hg
   exact HR.out j _ (by omega) (List.getElem?_eq_getElem hj)
theorem zfh (w:World):Tl prog 43 #[.string ⟨#[67,79,76,85,77,78,83]⟩] w (.tuple #[.int .i64 1,.int .i64 1]):=by
 go_enter func43,ntmps43
 go_wp2
 exact rt2 rfl rfl ⟨rfl,by simp [go_sem]⟩
theorem zg0 (w:World):Tl prog 43 #[.string ⟨#[68,82,79,80]⟩] w (.tuple #[.int .i64 1,.int .i64 3]):=by
 go_enter func43,ntmps43
 go_wp2
 exact rt2 rfl rfl ⟨rfl,by simp [go_sem]⟩
theorem zfW (w:World):Tl prog 43 #[.string ⟨#[70,73,76,84,69,82]⟩] w (.tuple #[.int .i64 2,.int .i64 3]):=by
 go_enter func43,ntmps43
 go_wp2
 exact rt2 rfl rfl ⟨rfl,by simp [go_sem]⟩
theorem zfX (w:World):Tl prog 43 #[.string ⟨#[72,83,84,65,67,75]⟩] w (.tuple #[.int .i64 1,.int .i64 32]):=by
 go_enter func43,ntmps43
 go_wp2
 exact rt2 rfl rfl ⟨rfl,by simp [go_sem]⟩
theorem zgm (w:World):Tl prog 43 #[.string ⟨#[77,77,85,76,84]⟩] w (.tuple #[.int .i64 2,.int .i64 2]):=by
 go_enter func43,ntmps43
 go_wp2
 exact rt2 rfl rfl ⟨rfl,by simp [go_sem]⟩
theorem zg1 (w:World):Tl prog 43 #[.string ⟨#[82,79,87,83]⟩] w (.tuple #[.int .i64 1,.int .i64 1]):=by
 go_enter func43,ntmps43
 go_wp2
 exact rt2 rfl rfl ⟨rfl,by simp [go_sem]⟩
theorem zeF (w:World):Tl prog 43 #[.string ⟨#[83,69,81,85,69,78,67,69]⟩] w (.tuple #[.int .i64 1,.int .i64 4]):=by
 go_enter func43,ntmps43
 go_wp2
 exact rt2 rfl rfl ⟨rfl,by simp [go_sem]⟩
theorem zg2 (w:World):Tl prog 43 #[.string ⟨#[83,79,82,84]⟩] w (.tuple #[.int .i64 1,.int .i64 3]):=by
 go_enter func43,ntmps43
 go_wp2
 exact rt2 rfl rfl ⟨rfl,by simp [go_sem]⟩
theorem zg3 (w:World):Tl prog 43 #[.string ⟨#[84,65,75,69]⟩] w (.tuple #[.int .i64 1,.int .i64 3]):=by
 go_enter func43,ntmps43
 go_wp2
 exact rt2 rfl rfl ⟨rfl,by simp [go_sem]⟩
theorem zgn (w:World):Tl prog 43 #[.string ⟨#[84,79,67,79,76]⟩] w (.tuple #[.int .i64 1,.int .i64 1]):=by
 go_enter func43,ntmps43
 go_wp2
 exact rt2 rfl rfl ⟨rfl,by simp [go_sem]⟩
theorem zgo (w:World):Tl prog 43 #[.string ⟨#[84,79,82,79,87]⟩] w (.tuple #[.int .i64 1,.int .i64 1]):=by
 go_enter func43,ntmps43
 go_wp2
 exact rt2 rfl rfl ⟨rfl,by simp [go_sem]⟩
theorem zej (w:World):Tl prog 43 #[.string ⟨#[84,82,65,78,83,80,79,83,69]⟩] w (.tuple #[.int .i64 1,.int .i64 1]):=by
 go_enter func43,ntmps43
 go_wp2
 exact rt2 rfl rfl ⟨rfl,by simp [go_sem]⟩
theorem zfY (w:World):Tl prog 43 #[.string ⟨#[85,78,73,81,85,69]⟩] w (.tuple #[.int .i64 1,.int .i64 1]):=by
 go_enter func43,ntmps43
 go_wp2
 exact rt2 rfl rfl ⟨rfl,by simp [go_sem]⟩
theorem zfZ (w:World):Tl prog 43 #[.string ⟨#[86,83,84,65,67,75]⟩] w (.tuple #[.int .i64 1,.int .i64 32]):=by
 go_enter func43,ntmps43
 go_wp2
 exact rt2 rfl rfl ⟨rfl,by simp [go_sem]⟩
theorem zgp (w:World) (o:Obj):(w.alloc o).heap[w.heap.size]? = some o:=Array.getElem?_push_size
theorem zje {w:World} {t:TypeId} {p:Nat} {cs:Array Value} (xs:List Ar) (hp:p=w.heap.size) (hc:cs=(zdI xs).toArray) {n:Nat} (hn:xs.length=n) (hs:n≤9223372036854775807) (h:∀ a∈xs,ArOk w a) :
  ArgsIn (w.alloc (.cells cs t)) (some ⟨p,0,none⟩) n n xs :=
 ⟨by subst hp hc;exact Rd.of_row (zgp _ _) 0 (Nat.zero_le _),hn,Nat.le_refl _,hs,fun a ha=>(h a ha).ext ((Ext.refl _).alloc _)⟩
def zcL (x:NA) (D:Option Addr) (m c:Nat):Ar:=⟨x,D,m,c⟩
theorem zm8 {y:Val} (h:y.right):(zao y).right:=zi.2 ⟨Nat.le_refl _,Nat.le_refl _,(by show 1 * 1≤4096;decide),rfl,fun x hx=>by rw [List.mem_singleton.1 hx];exact h⟩
theorem zd4 (w:World) (o:Obj) (osa osb:Array Obj) (da db:Nat):(more ((more w osa da).alloc o) osb db).heap[w.heap.size+osa.size]? = some o:=by
 have h:=zgp (more w osa da) o
 rw [show (more w osa da).heap.size=w.heap.size+osa.size by simp] at h
 have x0:Ext ((more w osa da).alloc o) (more ((more w osa da).alloc o) osb db):=by simp [go_sem]
 rw [x0.block (b:=w.heap.size+osa.size) (by simp)]
 exact h
theorem zoz (w:World) (o o':Obj) (osa osb:Array Obj) (da db:Nat) {b:Nat} (hb:b≠w.heap.size+osa.size) :
  (more ((more w osa da).alloc o') osb db).heap[b]? = (more ((more w osa da).alloc o) osb db).heap[b]?:=by
 simp only [more,World.alloc,Array.getElem?_append,Array.getElem?_push,Array.size_push,Array.size_append]
 by_cases h:b < w.heap.size+osa.size+1
 ·rw [if_pos h,if_pos h,if_neg hb,if_neg hb]
 ·rw [if_neg h,if_neg h]
theorem zoA {base:Nat} {w:World} {osa osb:Array Obj} {da db:Nat} {p q r:Value} (u v x:Value) {t:TypeId} {A:Option Addr} {l:List Val}
  (h:SlV base (more ((more w osa da).alloc (.cells #[p,q,r] t)) osb db) A l):SlV base (more ((more w osa da).alloc (.cells #[u,v,x] t)) osb db) A l:=by
 intro j y hu
 obtain ⟨b',off,hA,hl,hc⟩:=h j y hu
 refine ⟨b',off,hA,hl,?_⟩
 have hne:b'≠w.heap.size+osa.size:=by
  intro e
  cases l with
  | nil=>simp [zm] at hu
  | cons z l =>
   obtain ⟨b2,off2,hA',_,hc3⟩:=h 3 (.string z.text) (by simp [zm,Val.cells])
   rw [hA] at hA'
   simp only [Option.some.injEq,Addr.mk.injEq,and_true] at hA'
   obtain ⟨rfl,rfl⟩:=hA'
   subst e
   have hv:=zd4 w (.cells #[p,q,r] t) osa osb da db
   simp [World.cell?,hv] at hc3
 rw [← hc]
 exact World.cell?_of_block (a:=⟨b',off+j,none⟩) (zoz w _ _ osa osb da db hne)
theorem zjE (V:World) (os osa osb:Array Obj) (d da db:Nat) (o:Obj):more ((more (more V os d) osa da).alloc o) osb db=more V ((os++osa).push o++osb) db:=by rw [za,ze,za]
theorem zjf (n:Int) (w:World) (hn:n.natAbs < T 15) :
  Calls prog 10 #[.int .i64 n] w fun e w'=>zan w (zao (zV n)) e w':=by
 have hi:I64 n:=by have:T 15=1000000000000000:=(by decide);unfold I64;omega
 have hm:=fun W=>ziU n 0 W hi
 rw [show rnd (decide (n < 0)) n.natAbs false 0=some (zJ n) from (zeg hn).1] at hm
 simp only [rnV,rm,re,Option.getD_some,Option.isSome_some] at hm
 have hok:=zhS hn
 have hcv:zV n=⟨1,(zJ n).1,(zJ n).2,⟨#[]⟩,false,0⟩:=rfl
 clear hi hn
 generalize zV n=y at *
 generalize (zJ n).1=m1 at *
 generalize (zJ n).2=m2 at *
 subst hcv
 go_enter func10,ntmps10
 go_wp2_with (first | (go_at_call 19;with_reducible refine aM (hm _) fun os d=>?_))
 refine bodyPost_ret (v:=AV 1 1 (.slice (some ⟨w.heap.size+1+os.size+1,0,none⟩) 1 1)) (by simp [results,results10,go_sem]) rfl ⟨_,1,1,rfl,⟨?_,rfl,Nat.le_refl _,by decide,fun x hx=>by rw [List.mem_singleton.1 hx];exact hok⟩,by simp [go_sem]⟩
 exact SlV.one (by simp) (by omega)
theorem zaw (s:ByteArray) (A:Option Addr) (n cap:Nat) (w:World) (X:NA) (hp:∀ W,Ext w W→Calls prog 9 #[.string s,.slice A n cap] W (zbM W X)) (hr:∀ W,Ext w W→Calls prog 15 #[.string s,.slice A n cap] W (za6 W X)) :
  Tl prog 8 #[.string s,.slice A n cap] w (.bool true):=by
 go_enter func8,ntmps8
 go_wp2_with (first | (go_at_call 9;(with_reducible refine (hp _ (by simp [go_sem])).mono ?_);rintro e w' ⟨D1,m1,c1,rfl,hD1,hb⟩;have a1:=hD1.arr;obtain ⟨os1,d1,rfl⟩:=hb.more;clear hb) | (go_at_call 15;(with_reducible refine (hr _ (by simp [go_sem])).mono ?_);rintro e w' ⟨D2,m2,c2,rfl,a2,hb⟩;obtain ⟨os2,d2,rfl⟩:=hb.more;clear hb))
 refine (zgU X.R X.C X.R X.C D1 D2 m1 c1 m2 c2 X.l X.l _ (a1.ext (by simp [go_sem])) (a2.ext (by simp [go_sem]))).mono ?_
 rintro e w' ⟨rfl,hb⟩
 obtain ⟨os3,d3,rfl⟩:=hb.more
 clear hb
 rw [show zdy X.R X.C X.l X.R X.C X.l=true by simp [zdy]]
 go_wp2_with fail
 go_ret
 exact ⟨rfl,by simp [go_sem]⟩
theorem zg4 (A:Option Addr) (n cap:Nat) (gs:List GA) (w:World) (h:ArgsG w A n cap gs) :
  Calls prog 7 #[.slice A n cap] w fun e w'=>∃ s:Int,e = .returned (.int .i64 s)∧(s=0∨s=1)∧Ext w w':=by
 have hsm:=h.small
 by_cases q:40 < n
 ·go_enter func7,ntmps7
  go_wp2_with fail
  go_ret
  exact ⟨0,rfl,Or.inl rfl,by simp [go_sem]⟩
 ·go_enter func7,ntmps7
  go_wp2_with fail
  go_loopw [3,11] (fun c i wr=>∃ (k:Nat) (t:Int),k≤n∧i = .int .i64 k∧c = .int .i64 t∧0≤t∧t≤400∧Ext w wr) (fun _ i _=>n - (intOf i).toNat)
  case atStart=>exact ⟨0,0,Nat.zero_le _,rfl,rfl,Int.le_refl _,by omega,Ext.refl _⟩
  case round =>
   obtain ⟨k,t,hk,rfl,rfl,ht0,ht1,hX⟩:=hrel
   obtain ⟨os,d,rfl⟩:=hX.more
   clear hX
   by_cases hlt:k < n
   ·obtain ⟨g,b,off,hg,rfl,⟨v0,v1,v2⟩,harr⟩:=h.at hlt
    have hbl:b < w.heap.size:=zg v0
    have hcap:=h.cap
    have hgs:=harr.small
    have hsa:=fun W (hW:ArrIn W g.A g.n g.cap g.l)=>zn0 g.r g.c g.A g.n g.cap g.l W hW
    have HA:=Lib.hid harr
    clear h harr hg
    by_cases hq:t+g.n≤400
    ·have hw:IntKind.i64.wrap (t+(g.n:Int))=t+(g.n:Int):=by rw [IntKind.wrap_i64];omega
     go_wp2_with (go_at_call 14;(with_reducible refine (hsa _ (HA.out.ext (by simp [go_sem]))).mono ?_);rintro e w' ⟨sm,rfl,hsm',hb⟩;obtain ⟨os2,d2,rfl⟩:=hb.more;clear hb;rcases hsm' with rfl | ⟨rfl,hn3,htx⟩)
     ·go_ret
      exact ⟨0,rfl,Or.inl rfl,by simp [go_sem]⟩
     ·exact ⟨⟨k+1,t+(g.n:Int),by omega,by go_num,rfl,by omega,by omega,by simp [go_sem]⟩,by simp [intOf];omega⟩
    ·by_cases hn3:g.n≤300
     ·have hw:IntKind.i64.wrap (t+(g.n:Int))=t+(g.n:Int):=by rw [IntKind.wrap_i64];omega
      have hq':400 < t+(g.n:Int):=by omega
      go_wp2_with (go_at_call 14;(with_reducible refine (hsa _ (HA.out.ext (by simp [go_sem]))).mono ?_);rintro e w' ⟨sm,rfl,hsm',hb⟩;obtain ⟨os2,d2,rfl⟩:=hb.more;clear hb;rcases hsm' with rfl | ⟨rfl,hn3,htx⟩)
      all_goals
       go_ret
       exact ⟨0,rfl,Or.inl rfl,by simp [go_sem]⟩
     ·go_wp2_with (go_at_call 14;(with_reducible refine (hsa _ (HA.out.ext (by simp [go_sem]))).mono ?_);rintro e w' ⟨sm,rfl,hsm',hb⟩;obtain ⟨os2,d2,rfl⟩:=hb.more;clear hb;obtain rfl:sm=0:=by rcases hsm' with h0 | ⟨_,h1,_⟩;exact h0;exact absurd h1 hn3)
      go_ret
      exact ⟨0,rfl,Or.inl rfl,by simp [go_sem]⟩
   ·go_wp2_with fail
    go_ret
    exact ⟨1,rfl,Or.inr rfl,by simp [go_sem]⟩
def GA.toAr (g:GA):Ar:=⟨⟨g.r.toNat,g.c.toNat,g.l⟩,g.A,g.n,g.cap⟩
def zae (gs:List GA):List Ar:=gs.map GA.toAr
theorem zkA {g:GA} (h:g.right=true):(GA.toAr g).toG=g∧(GA.toAr g).x.right:=by
 have h':zo g.r g.c g.l=true:=h
 obtain ⟨R,C,e1,e2⟩:=zkj h'
 obtain ⟨r,c,A,n,cap,l⟩:=g
 simp only at e1 e2 h'
 subst e1 e2
 exact ⟨rfl,h'⟩
theorem zam {w:World} {A:Option Addr} {n cap:Nat} {gs:List GA} (h:ArgsG w A n cap gs) (hr:∀ g∈gs,g.right=true):ArgsIn w A n cap (zae gs):=by
 have e:(zae gs).map Ar.toG=gs:=by
  unfold zae
  rw [List.map_map]
  conv=>rhs;rw [← List.map_id gs]
  exact List.map_congr_left fun g hg=>(zkA (hr g hg)).1
 refine ArgsG.toIn (xs:=zae gs) (by rw [e];exact h) fun a ha=>?_
 obtain ⟨g,hg,rfl⟩:=List.mem_map.1 ha
 exact (zkA (hr g hg)).2
def zjF (xs:List Ar):NA:=zao (zV (zF xs 0).R)
def zjG (xs:List Ar):NA:=zao (zV (zF xs 0).C)
def zhU (xs:List Ar):NA:=zaN (zF xs 0)
def zhV (xs:List Ar):NA:=⟨1,(zF xs 0).l.length,(zF xs 0).l⟩
def zhW (xs:List Ar):NA:=⟨(zF xs 0).l.length,1,(zF xs 0).l⟩
theorem zcm {w:World} {A:Option Addr} {cap n:Nat} {xs:List Ar} (h:ArgsIn w A n cap xs) (h1:1≤n) (h2:n≤1):∃ a,xs=[a]∧n=1∧zF xs 0=a.x:=by
 have hl:=h.len
 obtain rfl:n=1:=by omega
 obtain ⟨a,rfl⟩:=List.length_eq_one_iff.1 hl
 exact ⟨a,rfl,rfl,rfl⟩
theorem zm9 (A:Option Addr) (n cap:Nat) (gs:List GA) (w:World) (htab:Tab w) (h:ArgsG w A n cap gs):Calls prog 9 #[.string ⟨#[82,79,87,83]⟩,.slice A n cap] w (zbM w (zI 1 1 gs (zjF (zae gs)))) :=   zaO ⟨#[82,79,87,83]⟩ 1 1 31 (fun _ _=>#[]) (by decide) (fun _ _=>rfl) (fun args W=>by go_simp) (by decide) (by decide) A n cap gs w h _ (fun hr h1 h2 p1 p2 W hW _=>by (obtain ⟨a,hx,hn,ha⟩:=zcm (zam h hr) h1 h2);(have hi:=(zam h hr).ext hW);(have hT:=htab.ext hW);unfold zjF;rw [ha];rw [hx] at hi;subst hn;exact zou A cap a W hT hi)
theorem zjw (A:Option Addr) (n cap:Nat) (gs:List GA) (w:World) (htab:Tab w) (h:ArgsG w A n cap gs):Calls prog 9 #[.string ⟨#[67,79,76,85,77,78,83]⟩,.slice A n cap] w (zbM w (zI 1 1 gs (zjG (zae gs)))) :=   zaO ⟨#[67,79,76,85,77,78,83]⟩ 1 1 23 (fun _ _=>#[]) (by decide) (fun _ _=>rfl) (fun args W=>by go_simp) (by decide) (by decide) A n cap gs w h _ (fun hr h1 h2 p1 p2 W hW _=>by (obtain ⟨a,hx,hn,ha⟩:=zcm (zam h hr) h1 h2);(have hi:=(zam h hr).ext hW);(have hT:=htab.ext hW);unfold zjG;rw [ha];rw [hx] at hi;subst hn;exact zot A cap a W hT hi)
theorem zeG (A:Option Addr) (n cap:Nat) (gs:List GA) (w:World) (htab:Tab w) (h:ArgsG w A n cap gs):Calls prog 9 #[.string ⟨#[84,82,65,78,83,80,79,83,69]⟩,.slice A n cap] w (zbM w (zI 1 1 gs (zhU (zae gs)))) :=   zaO ⟨#[84,82,65,78,83,80,79,83,69]⟩ 1 1 39 (fun _ _=>#[]) (by decide) (fun _ _=>rfl) (fun args W=>by go_simp) (by decide) (by decide) A n cap gs w h _ (fun hr h1 h2 p1 p2 W hW _=>by (obtain ⟨a,hx,hn,ha⟩:=zcm (zam h hr) h1 h2);(have hi:=(zam h hr).ext hW);(have hT:=htab.ext hW);unfold zhU;rw [ha];rw [hx] at hi;subst hn;exact zov A cap a W hi)
theorem zlk (A:Option Addr) (n cap:Nat) (gs:List GA) (w:World) (htab:Tab w) (h:ArgsG w A n cap gs):Calls prog 9 #[.string ⟨#[84,79,82,79,87]⟩,.slice A n cap] w (zbM w (zI 1 1 gs (zhV (zae gs)))) :=   zaO ⟨#[84,79,82,79,87]⟩ 1 1 38 (fun _ _=>#[]) (by decide) (fun _ _=>rfl) (fun args W=>by go_simp) (by decide) (by decide) A n cap gs w h _ (fun hr h1 h2 p1 p2 W hW _=>by (obtain ⟨a,hx,hn,ha⟩:=zcm (zam h hr) h1 h2);(have hi:=(zam h hr).ext hW);(have hT:=htab.ext hW);unfold zhV;rw [ha];rw [hx] at hi;subst hn;exact zm5 A cap a W hi)
theorem zll (A:Option Addr) (n cap:Nat) (gs:List GA) (w:World) (htab:Tab w) (h:ArgsG w A n cap gs):Calls prog 9 #[.string ⟨#[84,79,67,79,76]⟩,.slice A n cap] w (zbM w (zI 1 1 gs (zhW (zae gs)))) :=   zaO ⟨#[84,79,67,79,76]⟩ 1 1 35 (fun _ _=>#[]) (by decide) (fun _ _=>rfl) (fun args W=>by go_simp) (by decide) (by decide) A n cap gs w h _ (fun hr h1 h2 p1 p2 W hW _=>by (obtain ⟨a,hx,hn,ha⟩:=zcm (zam h hr) h1 h2);(have hi:=(zam h hr).ext hW);(have hT:=htab.ext hW);unfold zhW;rw [ha];rw [hx] at hi;subst hn;exact zm4 A cap a W hi)
theorem zfi (A:Option Addr) (n cap:Nat) (gs:List GA) (w:World) (htab:Tab w) (h:ArgsG w A n cap gs):Calls prog 9 #[.string ⟨#[83,69,81,85,69,78,67,69]⟩,.slice A n cap] w (zbM w (zI 1 4 gs (zbG (zae gs)))) :=
 zaO ⟨#[83,69,81,85,69,78,67,69]⟩ 1 4 32 (fun _ _=>#[]) (by decide) (fun _ _=>rfl) (fun args W=>by go_simp) (by decide) (by decide) A n cap gs w h _ (fun hr _ _ p1 p2 W hW _=>zp1 A n cap _ W (htab.ext hW) ((zam h hr).ext hW))
theorem zjg {xs:List Ar} : zae (xs.map Ar.toG)=xs:=by
 unfold zae
 rw [List.map_map]
 conv=>rhs;rw [← List.map_id xs]
 refine List.map_congr_left fun a _=>?_
 obtain ⟨⟨R,C,l⟩,A,n,cap⟩:=a
 rfl
theorem zkB {lo hi:Nat} {xs:List Ar} (F:NA) (h1:lo≤xs.length) (h2:xs.length≤hi) (hr:∀ a∈xs,a.x.right):zI lo hi (xs.map Ar.toG) F=F:=by
 unfold zI
 rw [if_neg (by rw [List.length_map];omega),if_pos]
 rw [List.all_eq_true]
 intro g hg
 obtain ⟨a,ha,rfl⟩:=List.mem_map.1 hg
 exact hr a ha
theorem zfI (n:Int) (w:World) (hn:n.natAbs < T 15) :
  Tl prog 48 #[.int .i64 n] w (NV (zJ n).1 (zJ n).2):=by
 have hi:I64 n:=by have:T 15=1000000000000000:=(by decide);unfold I64;omega
 have hm:=fun W=>ziU n 0 W hi
 rw [show rnd (decide (n < 0)) n.natAbs false 0=some (zJ n) from (zeg hn).1] at hm
 simp only [rnV,rm,re,Option.getD_some,Option.isSome_some] at hm
 clear hi hn
 generalize (zJ n).1=m1 at *
 generalize (zJ n).2=m2 at *
 go_enter func48,ntmps48
 go_wp2_with (first | (go_at_call 19;with_reducible refine aM (hm _) fun os d=>?_))
 exact rc1 rfl rfl (by simp [go_sem]) ⟨rfl,by simp [go_sem]⟩
theorem zkC (n:Int) (w:World) (hn:n.natAbs < T 15) :
  Calls prog 46 #[VV 1 (zJ n).1 (zJ n).2 ⟨#[]⟩ false 0] w fun e w'=>zan w (zao (zV n)) e w':=by
 have hr:=zdA hn
 have hok:=zhS hn
 have h:=zmL 1 (zJ n).1 (zJ n).2 0 ⟨#[]⟩ false w hok.2.1 (by show (0:Nat)≤_;omega)
 refine h.mono ?_
 rintro e w' ⟨h1,h2⟩
 have he:zd0 ⟨1,(zJ n).1,(zJ n).2,⟨#[]⟩,false,0⟩=zV n:=by
  show (if refRight (zV n) then zV n else bad9)=zV n
  rw [← zhf _ hok,if_pos (show valRight (zV n)=true from hr)]
 rw [he] at h1
 exact zdp.res (x:=zao (zV n)) h1 (by simp [zao]) (fun y hy=>by rw [show y=zV n by simpa [zao] using hy];exact hok) h2
theorem zna (A:Option Addr) (cap:Nat) (a:Ar) (w:World) (h:ArgsIn w A 1 cap [a]):Calls prog 15 #[.string ⟨#[82,79,87,83]⟩,.slice A 1 cap] w (za6 w (zjF [a])):=by
 obtain ⟨b,off,rfl,⟨v0,v1,v2⟩,hok⟩:=h.get (k:=0) (a:=a) rfl
 have hbl:=zg v0
 have hcap:=h.cap
 simp only [Nat.zero_mul,Nat.add_zero] at v0 v1 v2
 have hra:=fun W (hW:ArrIn W a.A a.n a.cap a.x.l)=>zU a.x.R a.x.C a.A a.n a.cap a.x.l W hW
 rw [← zaA _ _ _ hok.arr.ok,show zo (a.x.R:Int) a.x.C a.x.l=true from hok.right] at hra
 have hb4:=(zM hok.right).2.2.2.2.1;have hl:=zm3 (by omega:a.x.R≤4096);have hwh:=fun W=>zfI a.x.R W hl;have hone:=fun W=>zkC a.x.R W hl
 have HOK:=Lib.hid hok.arr
 clear h hok
 show Calls prog 15 _ w (za6 w (zao (zV a.x.R)))
 go_enter func15,ntmps15
 go_wp2_with (go_at_call 43;with_reducible refine aM (zg1 _) fun os d=>?_)
 refine wp_loop_rounds 2 ?_
 rw [rounds_succ]
 go_wp2_with (go_at_call 45;with_reducible refine aM (hra _ (HOK.out.ext (by simp [go_sem]))) fun os d=>?_)
 rw [rounds_succ]
 go_wp2_with (first | (go_at_call 48;with_reducible refine aM (hwh _) fun os d=>?_) | (go_at_call 47;with_reducible refine aM (zeE _ _ _) fun os d=>?_) | (go_at_call 46;with_reducible refine aR (hone _) fun D m cc os5 d5 hD=>?_;have hDr:=hD.rd))
 exact rct rfl rfl (by simp [go_sem]) ⟨D,m,cc,rfl,ArrN.arr (base:=w.heap.size) ⟨(by (try simp only [ze,za] at hDr);(try simp only [ze,za]);(try simp only [zc] at hDr);(try simp only [zb] at hDr);(try simp only [Array.append_assoc] at hDr);(try simp only [Array.append_assoc]);exact hDr.sw (by simp <;> omega)),hD.len,hD.cap,hD.small,hD.ok⟩,by simp [go_sem]⟩
theorem zjx (A:Option Addr) (cap:Nat) (a:Ar) (w:World) (h:ArgsIn w A 1 cap [a]):Calls prog 15 #[.string ⟨#[67,79,76,85,77,78,83]⟩,.slice A 1 cap] w (za6 w (zjG [a])):=by
 obtain ⟨b,off,rfl,⟨v0,v1,v2⟩,hok⟩:=h.get (k:=0) (a:=a) rfl
 have hbl:=zg v0
 have hcap:=h.cap
 simp only [Nat.zero_mul,Nat.add_zero] at v0 v1 v2
 have hra:=fun W (hW:ArrIn W a.A a.n a.cap a.x.l)=>zU a.x.R a.x.C a.A a.n a.cap a.x.l W hW
 rw [← zaA _ _ _ hok.arr.ok,show zo (a.x.R:Int) a.x.C a.x.l=true from hok.right] at hra
 have hb4:=(zM hok.right).2.2.2.2.2;have hl:=zm3 (by omega:a.x.C≤4096);have hwh:=fun W=>zfI a.x.C W hl;have hone:=fun W=>zkC a.x.C W hl
 have HOK:=Lib.hid hok.arr
 clear h hok
 show Calls prog 15 _ w (za6 w (zao (zV a.x.C)))
 go_enter func15,ntmps15
 go_wp2_with (go_at_call 43;with_reducible refine aM (zfh _) fun os d=>?_)
 refine wp_loop_rounds 2 ?_
 rw [rounds_succ]
 go_wp2_with (go_at_call 45;with_reducible refine aM (hra _ (HOK.out.ext (by simp [go_sem]))) fun os d=>?_)
 rw [rounds_succ]
 go_wp2_with (first | (go_at_call 48;with_reducible refine aM (hwh _) fun os d=>?_) | (go_at_call 47;with_reducible refine aM (zeE _ _ _) fun os d=>?_) | (go_at_call 46;with_reducible refine aR (hone _) fun D m cc os5 d5 hD=>?_;have hDr:=hD.rd))
 exact rct rfl rfl (by simp [go_sem]) ⟨D,m,cc,rfl,ArrN.arr (base:=w.heap.size) ⟨(by (try simp only [ze,za] at hDr);(try simp only [ze,za]);(try simp only [zc] at hDr);(try simp only [zb] at hDr);(try simp only [Array.append_assoc] at hDr);(try simp only [Array.append_assoc]);exact hDr.sw (by simp <;> omega)),hD.len,hD.cap,hD.small,hD.ok⟩,by simp [go_sem]⟩
theorem zhX (A:Option Addr) (cap:Nat) (a:Ar) (w:World) (h:ArgsIn w A 1 cap [a]):Calls prog 15 #[.string ⟨#[84,82,65,78,83,80,79,83,69]⟩,.slice A 1 cap] w (za6 w (zhU [a])):=by
 obtain ⟨b,off,rfl,⟨v0,v1,v2⟩,hok⟩:=h.get (k:=0) (a:=a) rfl
 have hbl:=zg v0
 have hcap:=h.cap
 simp only [Nat.zero_mul,Nat.add_zero] at v0 v1 v2
 have hra:=fun W (hW:ArrIn W a.A a.n a.cap a.x.l)=>zU a.x.R a.x.C a.A a.n a.cap a.x.l W hW
 rw [← zaA _ _ _ hok.arr.ok,show zo (a.x.R:Int) a.x.C a.x.l=true from hok.right] at hra
 have htu:=fun W hW=>ze1 a.x a.A a.n a.cap W hW hok.right
 have HOK:=Lib.hid hok.arr
 clear h hok
 show Calls prog 15 _ w (za6 w (zaN a.x))
 go_enter func15,ntmps15
 go_wp2_with (go_at_call 43;with_reducible refine aM (zej _) fun os d=>?_)
 refine wp_loop_rounds 2 ?_
 rw [rounds_succ]
 go_wp2_with (go_at_call 45;with_reducible refine aM (hra _ (HOK.out.ext (by simp [go_sem]))) fun os d=>?_)
 rw [rounds_succ]
 go_wp2_with (first | (go_at_call 49;with_reducible refine aR (htu _ (HOK.out.ext (by simp [go_sem]))) fun D m cc os5 d5 hD=>?_;have hDr:=hD.rd))
 exact rct rfl rfl (by simp [go_sem]) ⟨D,m,cc,rfl,ArrN.arr (base:=w.heap.size) ⟨(by (try simp only [ze,za] at hDr);(try simp only [ze,za]);(try simp only [zc] at hDr);(try simp only [zb] at hDr);(try simp only [Array.append_assoc] at hDr);(try simp only [Array.append_assoc]);exact hDr.sw (by simp <;> omega)),hD.len,hD.cap,hD.small,hD.ok⟩,by simp [go_sem]⟩
theorem zlm (A:Option Addr) (cap:Nat) (a:Ar) (w:World) (h:ArgsIn w A 1 cap [a]):Calls prog 15 #[.string ⟨#[84,79,82,79,87]⟩,.slice A 1 cap] w (za6 w (zhV [a])):=by
 obtain ⟨b,off,rfl,⟨v0,v1,v2⟩,hok⟩:=h.get (k:=0) (a:=a) rfl
 have hbl:=zg v0
 have hcap:=h.cap
 simp only [Nat.zero_mul,Nat.add_zero] at v0 v1 v2
 have hra:=fun W (hW:ArrIn W a.A a.n a.cap a.x.l)=>zU a.x.R a.x.C a.A a.n a.cap a.x.l W hW
 rw [← zaA _ _ _ hok.arr.ok,show zo (a.x.R:Int) a.x.C a.x.l=true from hok.right] at hra
 have hnn:=hok.arr.len
 have HOK:=Lib.hid hok.arr
 clear h hok
 show Calls prog 15 _ w (za6 w ⟨1,a.x.l.length,a.x.l⟩)
 go_enter func15,ntmps15
 go_wp2_with (go_at_call 43;with_reducible refine aM (zgo _) fun os d=>?_)
 refine wp_loop_rounds 2 ?_
 rw [rounds_succ]
 go_wp2_with (go_at_call 45;with_reducible refine aM (hra _ (HOK.out.ext (by simp [go_sem]))) fun os d=>?_)
 rw [rounds_succ]
 go_wp2_with fail
 exact rct (v:=AV 1 a.n (.slice a.A a.n a.cap)) rfl rfl (by simp [go_sem]) ⟨a.A,a.n,a.cap,by rw [hnn];rfl,HOK.out.ext (by simp [go_sem]),by simp [go_sem]⟩
theorem zln (A:Option Addr) (cap:Nat) (a:Ar) (w:World) (h:ArgsIn w A 1 cap [a]):Calls prog 15 #[.string ⟨#[84,79,67,79,76]⟩,.slice A 1 cap] w (za6 w (zhW [a])):=by
 obtain ⟨b,off,rfl,⟨v0,v1,v2⟩,hok⟩:=h.get (k:=0) (a:=a) rfl
 have hbl:=zg v0
 have hcap:=h.cap
 simp only [Nat.zero_mul,Nat.add_zero] at v0 v1 v2
 have hra:=fun W (hW:ArrIn W a.A a.n a.cap a.x.l)=>zU a.x.R a.x.C a.A a.n a.cap a.x.l W hW
 rw [← zaA _ _ _ hok.arr.ok,show zo (a.x.R:Int) a.x.C a.x.l=true from hok.right] at hra
 have hnn:=hok.arr.len
 have HOK:=Lib.hid hok.arr
 clear h hok
 show Calls prog 15 _ w (za6 w ⟨a.x.l.length,1,a.x.l⟩)
 go_enter func15,ntmps15
 go_wp2_with (go_at_call 43;with_reducible refine aM (zgn _) fun os d=>?_)
 refine wp_loop_rounds 2 ?_
 rw [rounds_succ]
 go_wp2_with (go_at_call 45;with_reducible refine aM (hra _ (HOK.out.ext (by simp [go_sem]))) fun os d=>?_)
 rw [rounds_succ]
 go_wp2_with fail
 exact rct (v:=AV a.n 1 (.slice a.A a.n a.cap)) rfl rfl (by simp [go_sem]) ⟨a.A,a.n,a.cap,by rw [hnn];rfl,HOK.out.ext (by simp [go_sem]),by simp [go_sem]⟩
theorem ArgsIn.first15 {w:World} {A:Option Addr} {n cap:Nat} {xs:List Ar} (h:ArgsIn w A n cap xs) (h1:1≤n):(zF xs 0).right:=by
 have hl:=h.len
 cases xs with
 | nil=>simp at hl;omega
 | cons a l=>exact (h.all a (by simp)).right
abbrev zrQ (c:Int×Int×Bool):Value:=.tuple #[.int .i64 c.1,.int .i64 c.2.1,.bool c.2.2]
theorem zhY (n:Int) (h:Nat) (take out:Bool) (w:World) (hn:I64 n) (h1:1≤h) (hh:h≤4096) :
  Tl prog 96 #[.int .i64 n,.int .i64 (h:Int),.bool take,.bool out] w (zrQ (zad n h take out)):=by
 unfold I64 at hn
 cases take with
 | true =>
  cases out with
  | true =>
   rw [show zad n h true true=(0,(h:Int),true) by unfold zad;rw [if_pos rfl,if_pos (Or.inl rfl)];rfl]
   (go_enter func96,ntmps96;go_wp2_with fail;exact rt3 rfl rfl ⟨rfl,by simp [go_sem]⟩)
  | false =>
   by_cases q1:(h:Int)≤n
   ·have hz:(n != 0)=true:=by simp;omega
    rw [show zad n h true false=(0,(h:Int),true) by unfold zad;rw [if_pos rfl,if_pos (Or.inr (Or.inl q1))];simp;omega]
    (go_enter func96,ntmps96;go_wp2_with fail;exact rt3 rfl rfl ⟨rfl,by simp [go_sem]⟩)
   ·by_cases q2:n ≤ -(h:Int)
    ·have hz:(n != 0)=true:=by simp;omega
     rw [show zad n h true false=(0,(h:Int),true) by unfold zad;rw [if_pos rfl,if_pos (Or.inr (Or.inr q2))];simp;omega]
     (go_enter func96,ntmps96;go_wp2_with fail;exact rt3 rfl rfl ⟨rfl,by simp [go_sem]⟩)
    ·by_cases q3:0 < n
     ·rw [show zad n h true false=(0,n,true) by unfold zad;rw [if_pos rfl,if_neg (by rintro (e | e | e) <;> first | exact q1 e | exact q2 e | cases e),if_pos q3]]
      (go_enter func96,ntmps96;go_wp2_with fail;exact rt3 rfl rfl ⟨rfl,by simp [go_sem]⟩)
     ·have hw:IntKind.i64.wrap ((h:Int)+n)=(h:Int)+n:=by rw [IntKind.wrap_i64];omega
      by_cases q4:n=0
      ·subst q4
       rw [show zad 0 h true false=((h:Int)+0,(h:Int),false) by unfold zad;rw [if_pos rfl,if_neg (by rintro (e | e | e) <;> first | exact q1 e | exact q2 e | cases e),if_neg q3];rfl]
       (go_enter func96,ntmps96;go_wp2_with fail;exact rt3 rfl rfl ⟨rfl,by simp [go_sem]⟩)
      ·have hz:(n != 0)=true:=by simp;omega
       rw [show zad n h true false=((h:Int)+n,(h:Int),true) by unfold zad;rw [if_pos rfl,if_neg (by rintro (e | e | e) <;> first | exact q1 e | exact q2 e | cases e),if_neg q3];simp;omega]
       (go_enter func96,ntmps96;go_wp2_with fail;exact rt3 rfl rfl ⟨rfl,by simp [go_sem]⟩)
 | false =>
  by_cases q1:(h:Int)≤n
  ·rw [show zad n h false out=(0,0,false) by unfold zad;rw [if_neg (by simp),if_pos (Or.inl q1)]]
   (go_enter func96,ntmps96;go_wp2_with fail;exact rt3 rfl rfl ⟨rfl,by simp [go_sem]⟩)
  ·by_cases q2:n ≤ -(h:Int)
   ·rw [show zad n h false out=(0,0,false) by unfold zad;rw [if_neg (by simp),if_pos (Or.inr q2)]]
    (go_enter func96,ntmps96;go_wp2_with fail;exact rt3 rfl rfl ⟨rfl,by simp [go_sem]⟩)
   ·by_cases q3:0≤n
    ·rw [show zad n h false out=(n,(h:Int),true) by unfold zad;rw [if_neg (by simp),if_neg (by rintro (e | e) <;> first | exact q1 e | exact q2 e),if_pos q3]]
     (go_enter func96,ntmps96;go_wp2_with fail;exact rt3 rfl rfl ⟨rfl,by simp [go_sem]⟩)
    ·have hw:IntKind.i64.wrap ((h:Int)+n)=(h:Int)+n:=by rw [IntKind.wrap_i64];omega
     rw [show zad n h false out=(0,(h:Int)+n,true) by unfold zad;rw [if_neg (by simp),if_neg (by rintro (e | e) <;> first | exact q1 e | exact q2 e),if_neg q3]]
     (go_enter func96,ntmps96;go_wp2_with fail;exact rt3 rfl rfl ⟨rfl,by simp [go_sem]⟩)
theorem zg5 (A:Option Addr) (n cap:Nat) (xs:List Ar) (take:Bool) (w:World) (h:ArgsIn w A n cap xs) (h1:1≤n) :
  Calls prog 51 #[.slice A n cap,.bool take] w fun e w'=>zan w (zd1 xs take) e w':=by
 obtain ⟨R,C,l,b1,off1,n1,cap1,b,off,x0,ha,rfl,⟨v0,v1,v2⟩,_,hc1,_,_,_,hbl,_,_,_,harr,_⟩:=h.first h1
 have hxr:NA.right ⟨R,C,l⟩:=(h.all _ (List.mem_of_getElem? ha)).right
 have hcap:=h.cap
 have hsm:=h.small
 simp only [Nat.zero_mul,Nat.add_zero] at v0 v1 v2
 have hx0:zF xs 0=⟨R,C,l⟩:=by unfold zF;rw [ha]
 obtain ⟨r1,r2,r3,r4,r5⟩:=zi.1 hxr
 simp only at r1 r2 r3 r4
 have hR4:R≤4096:=Nat.le_trans (Nat.le_mul_of_pos_right R r2) r3
 have hC4:C≤4096:=Nat.le_trans (Nat.le_mul_of_pos_left C r1) r3
 have n0:=fun W (hW:ArgsIn W (some ⟨b,off,none⟩) n cap xs)=>zbR _ n cap xs 1 0 W hW _ rfl
 have n2:=fun W (hW:ArgsIn W (some ⟨b,off,none⟩) n cap xs)=>zbR _ n cap xs 2 0 W hW _ rfl
 have l1:=fun W (hW:ArgsIn W (some ⟨b,off,none⟩) n cap xs)=>zdu _ n cap xs 1 W hW _ rfl
 have l2:=fun W (hW:ArgsIn W (some ⟨b,off,none⟩) n cap xs)=>zdu _ n cap xs 2 W hW _ rfl
 have i1:I64 (zu xs 1 0).1:=zcA h (by unfold I64;omega)
 have i2:I64 (zu xs 2 0).1:=zcA h (by unfold I64;omega)
 have f1:=zd2 (k:=1) (l:=0) h
 have f2:=zd2 (k:=2) (l:=0) h
 unfold zd1
 rw [hx0]
 show Calls _ _ _ _ fun e w'=>zan w (zeC ⟨R,C,l⟩ (zu xs 1 0) (zu xs 2 0) (zad (zu xs 1 0).1 R take (!zA xs 1)) (zad (zu xs 2 0).1 C take (!zA xs 2))) e w'
 generalize zu xs 1 0=mm at *
 generalize zu xs 2 0=kk at *
 generalize (!zA xs 1)=g1 at *
 generalize (!zA xs 2)=g2 at *
 obtain ⟨mi,mf⟩:=mm
 obtain ⟨ki,kf⟩:=kk
 simp only [show ((1:Nat):Int)=1 from rfl,show ((2:Nat):Int)=2 from rfl] at n0 n2 l1 l2 f1 f2 i1 i2
 have H:=Lib.hid h
 have HA:=Lib.hid harr
 have k1:=fun W=>zhY mi R take g1 W i1 r1 hR4
 have k2:=fun W=>zhY ki C take g2 W i2 r2 hC4
 have HC1:(zad mi R take g1).2.2=true→∃ lo hi:Nat,zad mi R take g1=((lo:Int),(hi:Int),true)∧lo < hi∧hi≤R:=by
  intro ht
  rcases zja (n:=mi) (h:=R) take g1 r1 with hf | ⟨ps,lo,hi,e,q1,q2,_⟩
  ·rw [hf] at ht;cases ht
  ·exact ⟨lo,hi,e,q1,q2⟩
 have HC2:(zad ki C take g2).2.2=true→∃ lo hi:Nat,zad ki C take g2=((lo:Int),(hi:Int),true)∧lo < hi∧hi≤C:=by
  intro ht
  rcases zja (n:=ki) (h:=C) take g2 r2 with hf | ⟨ps,lo,hi,e,q1,q2,_⟩
  ·rw [hf] at ht;cases ht
  ·exact ⟨lo,hi,e,q1,q2⟩
 clear h harr i1 i2 ha hx0 r4 r5
 generalize zad mi R take g1=cc1 at *
 generalize zad ki C take g2=cc2 at *
 obtain ⟨X,hX⟩:∃ X,zeC ⟨R,C,l⟩ (mi,mf) (ki,kf) cc1 cc2=X:=⟨_,rfl⟩
 rw [hX]
 by_cases hmf:mf=0
 ·subst hmf
  by_cases hkf:kf=0
  ·subst hkf
   obtain ⟨c1,c2,c3⟩:=cc1
   obtain ⟨e1,e2,e3⟩:=cc2
   have hX':(if c3=false∨e3=false then zf 9 else zev ⟨R,C,l⟩ c1.toNat e1.toNat (c2 - c1).toNat (e2 - e1).toNat)=X:=by rw [← hX];unfold zeC;simp only [ne_eq,not_true_eq_false,if_false]
   simp only [zrQ] at k1 k2 HC1 HC2
   have HK1:=Lib.hid k1
   have HK2:=Lib.hid k2
   clear hX f1 f2 k1 k2
   cases c3 with
   | false =>
    obtain rfl:zf 9=X:=by rw [← hX',if_pos (Or.inl rfl)]
    clear hX' HC1 HC2
    go_enter func51,ntmps51
    go_upto_region 8 with (first | (go_at_call 95;with_reducible refine aM (n0 _ (H.out.ext (by simp [go_sem]))) fun osa da=>?_) | (go_at_call 95;with_reducible refine aM (n2 _ (H.out.ext (by simp [go_sem]))) fun osb db=>?_))
    refine plP [(0,0),(1,0),(2,0),(3,0),(4,0),(5,1),(6,1),(7,0),(8,0),(9,0),(10,0),(11,0),(12,0),(13,0)] [] (by kernel_rfl) (fun _ _ d _ _ h=>by cases d <;> exact h) ?_
    iterate 5 (apply rdP rfl rfl;(intros;go_simp;first | done | rfl);try simp only [zq])
    (refine zh rfl ?_ (fun K hK=>?_);rfl;go_simp;refine aM (l1 _ (H.out.ext (by simp [go_sem]))) fun osl dl=>?_;refine hK _ _ ?_ ?_;(simp [go_sem]))
    try simp only [zq]
    (refine zh rfl ?_ (fun K hK=>?_);rfl;go_simp;refine aM (HK1.out _) fun osk dk=>?_;refine hK _ _ ?_ ?_;(simp [go_sem]))
    try simp only [zq]
    iterate 7 (apply rdP rfl rfl;(intros;go_simp;first | done | rfl);try simp only [zq])
    refine zj ?_
    go_upto_region 9 with fail
    try simp only [za,zc,zb,Array.append_assoc]
    refine plP [(0,0),(1,0),(2,0),(3,0),(4,0),(5,1),(6,1),(7,0),(8,0),(9,0),(10,0),(11,0),(12,0),(13,0)] [] (by kernel_rfl) (fun _ _ d _ _ h=>by cases d <;> exact h) ?_
    iterate 5 (apply rdP rfl rfl;(intros;go_simp;first | done | rfl);try simp only [zq])
    (refine zh rfl ?_ (fun K hK=>?_);rfl;go_simp;refine aM (l2 _ (H.out.ext (by simp [go_sem]))) fun osl dl=>?_;refine hK _ _ ?_ ?_;(simp [go_sem]))
    try simp only [zq]
    (refine zh rfl ?_ (fun K hK=>?_);rfl;go_simp;refine aM (HK2.out _) fun osk dk=>?_;refine hK _ _ ?_ ?_;(simp [go_sem]))
    try simp only [zq]
    iterate 7 (apply rdP rfl rfl;(intros;go_simp;first | done | rfl);try simp only [zq])
    refine zj ?_
    go_wp2_with (go_at_call 44;with_reducible refine aR (zE 9 (by omega) _) fun D m cc os5 d5 hD=>?_;have hDr:=hD.rd)
    exact rc1 (v:=AV (zf 9).R (zf 9).C (.slice D m cc)) rfl rfl (by simp [go_sem]) (by (try simp only [ze,za,zc,zb,Array.append_assoc] at hDr);(try simp only [ze,za,zc,zb,Array.append_assoc]);exact raS hDr hD (by simp <;> omega) (by simp [go_sem]))
   | true =>
    cases e3 with
    | false =>
     obtain rfl:zf 9=X:=by rw [← hX',if_pos (Or.inr rfl)]
     clear hX' HC1 HC2
     go_enter func51,ntmps51
     go_upto_region 8 with (first | (go_at_call 95;with_reducible refine aM (n0 _ (H.out.ext (by simp [go_sem]))) fun osa da=>?_) | (go_at_call 95;with_reducible refine aM (n2 _ (H.out.ext (by simp [go_sem]))) fun osb db=>?_))
     refine plP [(0,0),(1,0),(2,0),(3,0),(4,0),(5,1),(6,1),(7,0),(8,0),(9,0),(10,0),(11,0),(12,0),(13,0)] [] (by kernel_rfl) (fun _ _ d _ _ h=>by cases d <;> exact h) ?_
     iterate 5 (apply rdP rfl rfl;(intros;go_simp;first | done | rfl);try simp only [zq])
     (refine zh rfl ?_ (fun K hK=>?_);rfl;go_simp;refine aM (l1 _ (H.out.ext (by simp [go_sem]))) fun osl dl=>?_;refine hK _ _ ?_ ?_;(simp [go_sem]))
     try simp only [zq]
     (refine zh rfl ?_ (fun K hK=>?_);rfl;go_simp;refine aM (HK1.out _) fun osk dk=>?_;refine hK _ _ ?_ ?_;(simp [go_sem]))
     try simp only [zq]
     iterate 7 (apply rdP rfl rfl;(intros;go_simp;first | done | rfl);try simp only [zq])
     refine zj ?_
     go_upto_region 9 with fail
     try simp only [za,zc,zb,Array.append_assoc]
     refine plP [(0,0),(1,0),(2,0),(3,0),(4,0),(5,1),(6,1),(7,0),(8,0),(9,0),(10,0),(11,0),(12,0),(13,0)] [] (by kernel_rfl) (fun _ _ d _ _ h=>by cases d <;> exact h) ?_
     iterate 5 (apply rdP rfl rfl;(intros;go_simp;first | done | rfl);try simp only [zq])
     (refine zh rfl ?_ (fun K hK=>?_);rfl;go_simp;refine aM (l2 _ (H.out.ext (by simp [go_sem]))) fun osl dl=>?_;refine hK _ _ ?_ ?_;(simp [go_sem]))
     try simp only [zq]
     (refine zh rfl ?_ (fun K hK=>?_);rfl;go_simp;refine aM (HK2.out _) fun osk dk=>?_;refine hK _ _ ?_ ?_;(simp [go_sem]))
     try simp only [zq]
     iterate 7 (apply rdP rfl rfl;(intros;go_simp;first | done | rfl);try simp only [zq])
     refine zj ?_
     go_wp2_with (go_at_call 44;with_reducible refine aR (zE 9 (by omega) _) fun D m cc os5 d5 hD=>?_;have hDr:=hD.rd)
     exact rc1 (v:=AV (zf 9).R (zf 9).C (.slice D m cc)) rfl rfl (by simp [go_sem]) (by (try simp only [ze,za,zc,zb,Array.append_assoc] at hDr);(try simp only [ze,za,zc,zb,Array.append_assoc]);exact raS hDr hD (by simp <;> omega) (by simp [go_sem]))
    | true =>
     obtain ⟨lo,hi,ec,q1,q2⟩:=HC1 rfl
     obtain ⟨lo',hi',ee,q3,q4⟩:=HC2 rfl
     simp only [Prod.mk.injEq,and_true] at ec ee
     obtain ⟨rfl,rfl⟩:=ec
     obtain ⟨rfl,rfl⟩:=ee
     obtain rfl:zev ⟨R,C,l⟩ lo lo' (hi - lo) (hi' - lo')=X:=by
      rw [← hX',if_neg (by simp)]
      simp only [Int.toNat_natCast]
      rw [show ((hi:Int) - (lo:Int)).toNat=hi - lo by omega,show ((hi':Int) - (lo':Int)).toNat=hi' - lo' by omega]
     have hpt:=fun W (hW:ArrIn W (some ⟨b1,off1,none⟩) n1 cap1 l)=>zli R C lo lo' (hi - lo) (hi' - lo') _ n1 cap1 l W hW hxr (by omega) (by omega) (by omega) (by omega)
     have hok:(zev ⟨R,C,l⟩ lo lo' (hi - lo) (hi' - lo')).ok:=zpT (a:=⟨R,C,l⟩) HA.out.ok hxr (by show lo+(hi - lo)≤R;omega) (by show lo'+(hi' - lo')≤C;omega)
     have hlen:(zde C lo lo' (hi - lo) (hi' - lo') l).length=(hi - lo) * (hi' - lo'):=zkr _ _ _ _ _ _
     have hsz:(hi - lo) * (hi' - lo')≤4096:=Nat.le_trans (Nat.mul_le_mul (show hi - lo≤R by omega) (show hi' - lo'≤C by omega)) r3
     have s1:IntKind.i64.wrap ((hi:Int) - (lo:Int))=((hi - lo:Nat):Int):=by rw [IntKind.wrap_i64];omega
     have s2:IntKind.i64.wrap ((hi':Int) - (lo':Int))=((hi' - lo':Nat):Int):=by rw [IntKind.wrap_i64];omega
     unfold zev at hok ⊢
     show Calls _ _ _ _ fun e w'=>zan w ⟨hi - lo,hi' - lo',zde C lo lo' (hi - lo) (hi' - lo') l⟩ e w'
     simp only at hok
     generalize zde C lo lo' (hi - lo) (hi' - lo') l=L at *
     generalize (hi - lo) * (hi' - lo')=N at *
     generalize hrr:hi - lo=rr at *
     generalize hcr:hi' - lo'=cr at *
     have HOK:=Lib.hid hok
     have HPT:=Lib.hid hpt
     clear hX' HC1 HC2 hok hpt hxr hrr hcr q1 q2 q3 q4
     go_enter func51,ntmps51
     go_upto_region 8 with (first | (go_at_call 95;with_reducible refine aM (n0 _ (H.out.ext (by simp [go_sem]))) fun osa da=>?_) | (go_at_call 95;with_reducible refine aM (n2 _ (H.out.ext (by simp [go_sem]))) fun osb db=>?_))
     refine plP [(0,0),(1,0),(2,0),(3,0),(4,0),(5,1),(6,1),(7,0),(8,0),(9,0),(10,0),(11,0),(12,0),(13,0)] [] (by kernel_rfl) (fun _ _ d _ _ h=>by cases d <;> exact h) ?_
     iterate 5 (apply rdP rfl rfl;(intros;go_simp;first | done | rfl);try simp only [zq])
     (refine zh rfl ?_ (fun K hK=>?_);rfl;go_simp;refine aM (l1 _ (H.out.ext (by simp [go_sem]))) fun osl dl=>?_;refine hK _ _ ?_ ?_;(simp [go_sem]))
     try simp only [zq]
     (refine zh rfl ?_ (fun K hK=>?_);rfl;go_simp;refine aM (HK1.out _) fun osk dk=>?_;refine hK _ _ ?_ ?_;(simp [go_sem]))
     try simp only [zq]
     iterate 7 (apply rdP rfl rfl;(intros;go_simp;first | done | rfl);try simp only [zq])
     refine zj ?_
     go_upto_region 9 with fail
     try simp only [za,zc,zb,Array.append_assoc]
     refine plP [(0,0),(1,0),(2,0),(3,0),(4,0),(5,1),(6,1),(7,0),(8,0),(9,0),(10,0),(11,0),(12,0),(13,0)] [] (by kernel_rfl) (fun _ _ d _ _ h=>by cases d <;> exact h) ?_
     iterate 5 (apply rdP rfl rfl;(intros;go_simp;first | done | rfl);try simp only [zq])
     (refine zh rfl ?_ (fun K hK=>?_);rfl;go_simp;refine aM (l2 _ (H.out.ext (by simp [go_sem]))) fun osl dl=>?_;refine hK _ _ ?_ ?_;(simp [go_sem]))
     try simp only [zq]
     (refine zh rfl ?_ (fun K hK=>?_);rfl;go_simp;refine aM (HK2.out _) fun osk dk=>?_;refine hK _ _ ?_ ?_;(simp [go_sem]))
     try simp only [zq]
     iterate 7 (apply rdP rfl rfl;(intros;go_simp;first | done | rfl);try simp only [zq])
     refine zj ?_
     go_wp2_with (go_at_call 98;(with_reducible refine (HPT.out _ (HA.out.ext (by simp [go_sem]))).mono ?_);rintro e w' ⟨D,c,rfl,hD,hc,hb⟩;obtain ⟨osp,dp,rfl⟩:=hb.more;clear hb)
     exact rc1 rfl rfl (by simp [go_sem]) ⟨D,N,c,rfl,⟨Rd.alloc ((by (try simp only [ze,za] at hD);(try simp only [ze,za]);(try simp only [zc] at hD);(try simp only [zb] at hD);(try simp only [Array.append_assoc] at hD);(try simp only [Array.append_assoc]);exact hD.sw (by simp <;> omega))) _,hlen,hc,by omega,HOK.out⟩,by simp [go_sem]⟩
  ·obtain rfl:zf kf=X:=by rw [← hX];unfold zeC;rw [if_neg (by simp),if_pos hkf]
   have hf':(kf != 0)=true:=by simpa using hkf
   have hfb:1≤kf∧kf≤9:=f2.resolve_left hkf
   clear hX hkf HC1 HC2 k1 k2 f1 f2
   have HF:=Lib.hid hfb
   clear hfb
   go_enter func51,ntmps51
   go_wp2_with (first | (first | (go_at_call 95;with_reducible refine aM (n0 _ (H.out.ext (by simp [go_sem]))) fun osa da=>?_) | (go_at_call 95;with_reducible refine aM (n2 _ (H.out.ext (by simp [go_sem]))) fun osb db=>?_)) | (go_at_call 44;with_reducible refine aR (zE _ HF.out _) fun D m cc os5 d5 hD=>?_;have hDr:=hD.rd))
   exact rc1 (v:=AV (zf kf).R (zf kf).C (.slice D m cc)) rfl rfl (by simp [go_sem]) (by (try simp only [ze,za,zc,zb,Array.append_assoc] at hDr);(try simp only [ze,za,zc,zb,Array.append_assoc]);exact raS hDr hD (by simp <;> omega) (by simp [go_sem]))
 ·obtain rfl:zf mf=X:=by rw [← hX];unfold zeC;rw [if_pos hmf]
  have hf':(mf != 0)=true:=by simpa using hmf
  have hfb:1≤mf∧mf≤9:=f1.resolve_left hmf
  clear hX hmf HC1 HC2 k1 k2 f1 f2
  have HF:=Lib.hid hfb
  clear hfb
  go_enter func51,ntmps51
  go_wp2_with (first | (first | (go_at_call 95;with_reducible refine aM (n0 _ (H.out.ext (by simp [go_sem]))) fun osa da=>?_) | (go_at_call 95;with_reducible refine aM (n2 _ (H.out.ext (by simp [go_sem]))) fun osb db=>?_)) | (go_at_call 44;with_reducible refine aR (zE _ HF.out _) fun D m cc os5 d5 hD=>?_;have hDr:=hD.rd))
  exact rc1 (v:=AV (zf mf).R (zf mf).C (.slice D m cc)) rfl rfl (by simp [go_sem]) (by (try simp only [ze,za,zc,zb,Array.append_assoc] at hDr);(try simp only [ze,za,zc,zb,Array.append_assoc]);exact raS hDr hD (by simp <;> omega) (by simp [go_sem]))
theorem znb (A:Option Addr) (n cap:Nat) (xs:List Ar) (w:World) (h:ArgsIn w A n cap xs) (h1:1≤n) (h2:n≤3):Calls prog 15 #[.string ⟨#[84,65,75,69]⟩,.slice A n cap] w (za6 w (zeA xs)):=by
 have hsm:=h.small
 have hcap:=h.cap
 have q1:¬ n < 1:=by omega
 have q2:¬ 3 < n:=by omega
 have hst:=fun W (hW:ArgsIn W A n cap xs)=>zpX (h.first15 h1) ▸ zg5 A n cap xs true W hW h1
 obtain ⟨R0,C0,l0,b1,off1,n1,cap1,b,off,x0,_,rfl,⟨v0,v1,v2⟩,_,_,_,_,_,hbl,_,_,_,_,_⟩:=h.first (k:=0) (by omega)
 simp only [Nat.zero_mul,Nat.add_zero] at v0 v1 v2
 have H:=Lib.hid h
 clear h
 generalize (zeA xs)=X at *
 go_enter func15,ntmps15
 go_wp2_with (go_at_call 43;with_reducible refine aM (zg3 _) fun os1 d1=>?_)
 go_loopw [8] (fun i wr=>∃ k:Nat,k≤n∧i = .int .i64 k∧Ext (more (w.alloc (Obj.cells #[.int .i64 0,.int .i64 0,.slice none 0 0] 30)) os1 d1) wr) (fun i _=>n - (intOf i).toNat)
 case atStart=>exact ⟨0,Nat.zero_le _,rfl,Ext.refl _⟩
 case round =>
  obtain ⟨k,hk,rfl,hX⟩:=hrel
  obtain ⟨os,d,rfl⟩:=hX.more
  clear hX
  by_cases hlt:k < n
  ·obtain ⟨a,b',off',ha,hbo,⟨u0,u1,u2⟩,hok⟩:=H.out.at hlt
   obtain ⟨rfl,rfl⟩:=aI hbo
   have hra:=fun W (hW:ArrIn W a.A a.n a.cap a.x.l)=>zU a.x.R a.x.C a.A a.n a.cap a.x.l W hW
   rw [← zaA _ _ _ hok.arr.ok,show zo (a.x.R:Int) a.x.C a.x.l=true from hok.right] at hra
   have HOK:=Lib.hid hok.arr
   clear hok hst
   go_wp2_with (go_at_call 45;refine (hra _ (HOK.out.ext (by simp [go_sem]))).mono ?_;rintro e w' ⟨rfl,hb⟩;obtain ⟨os',d',rfl⟩:=hb.more;clear hb)
   exact ⟨⟨k+1,by omega,by go_num,by simp [go_sem]⟩,by simp [intOf];omega⟩
  ·go_wp2_with (go_at_call 51;(with_reducible refine (hst _ (H.out.ext (by simp [go_sem]))).mono ?_);rintro e w' ⟨D,m,cc,rfl,hD,hb⟩;have hNl:=hD.len;have hNc:=hD.cap;have hNs:=hD.small;have hNo:=hD.ok;have hDr:=hD.rd;clear hD;obtain ⟨os5,d5,rfl⟩:=hb.more;clear hb)
   exact rct rfl rfl (by simp [go_sem]) ⟨D,m,cc,rfl,ArrN.arr (base:=w.heap.size) ⟨(by (try simp only [ze,za] at hDr);(try simp only [ze,za]);(try simp only [zc] at hDr);(try simp only [zb] at hDr);(try simp only [Array.append_assoc] at hDr);(try simp only [Array.append_assoc]);exact hDr.sw (by simp <;> omega)),hNl,hNc,hNs,hNo⟩,by simp [go_sem]⟩
theorem znc (A:Option Addr) (n cap:Nat) (xs:List Ar) (w:World) (h:ArgsIn w A n cap xs) (h1:1≤n) (h2:n≤3):Calls prog 15 #[.string ⟨#[68,82,79,80]⟩,.slice A n cap] w (za6 w (zeB xs)):=by
 have hsm:=h.small
 have hcap:=h.cap
 have q1:¬ n < 1:=by omega
 have q2:¬ 3 < n:=by omega
 have hst:=fun W (hW:ArgsIn W A n cap xs)=>zpY (h.first15 h1) ▸ zg5 A n cap xs false W hW h1
 obtain ⟨R0,C0,l0,b1,off1,n1,cap1,b,off,x0,_,rfl,⟨v0,v1,v2⟩,_,_,_,_,_,hbl,_,_,_,_,_⟩:=h.first (k:=0) (by omega)
 simp only [Nat.zero_mul,Nat.add_zero] at v0 v1 v2
 have H:=Lib.hid h
 clear h
 generalize (zeB xs)=X at *
 go_enter func15,ntmps15
 go_wp2_with (go_at_call 43;with_reducible refine aM (zg0 _) fun os1 d1=>?_)
 go_loopw [8] (fun i wr=>∃ k:Nat,k≤n∧i = .int .i64 k∧Ext (more (w.alloc (Obj.cells #[.int .i64 0,.int .i64 0,.slice none 0 0] 30)) os1 d1) wr) (fun i _=>n - (intOf i).toNat)
 case atStart=>exact ⟨0,Nat.zero_le _,rfl,Ext.refl _⟩
 case round =>
  obtain ⟨k,hk,rfl,hX⟩:=hrel
  obtain ⟨os,d,rfl⟩:=hX.more
  clear hX
  by_cases hlt:k < n
  ·obtain ⟨a,b',off',ha,hbo,⟨u0,u1,u2⟩,hok⟩:=H.out.at hlt
   obtain ⟨rfl,rfl⟩:=aI hbo
   have hra:=fun W (hW:ArrIn W a.A a.n a.cap a.x.l)=>zU a.x.R a.x.C a.A a.n a.cap a.x.l W hW
   rw [← zaA _ _ _ hok.arr.ok,show zo (a.x.R:Int) a.x.C a.x.l=true from hok.right] at hra
   have HOK:=Lib.hid hok.arr
   clear hok hst
   go_wp2_with (go_at_call 45;refine (hra _ (HOK.out.ext (by simp [go_sem]))).mono ?_;rintro e w' ⟨rfl,hb⟩;obtain ⟨os',d',rfl⟩:=hb.more;clear hb)
   exact ⟨⟨k+1,by omega,by go_num,by simp [go_sem]⟩,by simp [intOf];omega⟩
  ·go_wp2_with (go_at_call 51;(with_reducible refine (hst _ (H.out.ext (by simp [go_sem]))).mono ?_);rintro e w' ⟨D,m,cc,rfl,hD,hb⟩;have hNl:=hD.len;have hNc:=hD.cap;have hNs:=hD.small;have hNo:=hD.ok;have hDr:=hD.rd;clear hD;obtain ⟨os5,d5,rfl⟩:=hb.more;clear hb)
   exact rct rfl rfl (by simp [go_sem]) ⟨D,m,cc,rfl,ArrN.arr (base:=w.heap.size) ⟨(by (try simp only [ze,za] at hDr);(try simp only [ze,za]);(try simp only [zc] at hDr);(try simp only [zb] at hDr);(try simp only [Array.append_assoc] at hDr);(try simp only [Array.append_assoc]);exact hDr.sw (by simp <;> omega)),hNl,hNc,hNs,hNo⟩,by simp [go_sem]⟩
structure PlOk (ps:List Nat) (h:Nat):Prop where
 pos:1≤ps.length
 le:ps.length≤h
 lt:∀ r∈ps,r < h
theorem zdg.pl {c:Int×Int×Bool} {ps:List Nat} {h:Nat} (hc:zdg c ps h):PlOk ps h:=by
 obtain ⟨lo,hi,_,h1,h2,rfl⟩:=hc
 exact ⟨by rw [zbX];omega,by rw [zbX];omega,fun r hr=>Nat.lt_of_lt_of_le (zom hr) h2⟩
theorem zmk {n:Int} {h:Nat} (h1:1≤h) (hn:n≠0):PlOk (zce n h) h:=(zhp h1 hn).pl
theorem zml {n:Int} {h:Nat} (h1:1≤h) (hn:zbD n h≠[]):PlOk (zbD n h) h:=by
 rcases zfE (n:=n) (o:=false) h1 with ⟨_,h2⟩ | h2
 ·exact absurd h2 hn
 ·exact h2.pl
theorem zdM (a:NA) (A:Option Addr) (n cap:Nat) (ps:List Nat) (B:Option Addr) (cb:Nat) (w:World) (h:ArrIn w A n cap a.l) (hr:a.right) (hps:Rd 0 w B (i6 ps)) (hcb:ps.length≤cb) (hp:PlOk ps a.R) :
  Calls prog 71 #[AV a.R a.C (.slice A n cap),.slice B ps.length cb] w fun e w'=>zan w (zL a ps) e w':=by
 obtain ⟨r1,r2,r3,r4,r5⟩:=zi.1 hr
 exact zm6 a.R a.C a.l A n cap ps B cb w h hr hps hcb hp.lt (Nat.le_trans (Nat.mul_le_mul_right _ hp.le) r3) (Nat.le_trans hp.le (Nat.le_trans (Nat.le_mul_of_pos_right a.R r2) r3))
theorem zgq (a:NA) (A:Option Addr) (n cap:Nat) (ps:List Nat) (B:Option Addr) (cb:Nat) (w:World) (h:ArrIn w A n cap a.l) (hr:a.right) (hps:Rd 0 w B (i6 ps)) (hcb:ps.length≤cb) (hp:PlOk ps a.C) :
  Calls prog 70 #[AV a.R a.C (.slice A n cap),.slice B ps.length cb] w fun e w'=>zan w (zaF a ps) e w':=by
 obtain ⟨r1,r2,r3,r4,r5⟩:=zi.1 hr
 exact zm7 a.R a.C a.l A n cap ps B cb w h hr hps hcb hp.lt (Nat.le_trans (Nat.mul_le_mul_left _ hp.le) r3) (Nat.le_trans hp.le (Nat.le_trans (Nat.le_mul_of_pos_left a.C r1) r3))
theorem zoB (A:Option Addr) (n cap:Nat) (xs:List Ar) (w:World) (h:ArgsIn w A n cap xs) (h1:1≤n) :
  Calls prog 34 #[.slice A n cap] w fun e w'=>zan w (zeA xs) e w':=by
 obtain ⟨R,C,l,b1,off1,n1,cap1,b,off,x0,ha,rfl,⟨v0,v1,v2⟩,_,hc1,_,_,_,hbl,_,_,_,harr,_⟩:=h.first h1
 have hxr:NA.right ⟨R,C,l⟩:=(h.all _ (List.mem_of_getElem? ha)).right
 have hcap:=h.cap
 have hsm:=h.small
 simp only [Nat.zero_mul,Nat.add_zero] at v0 v1 v2
 have hx0:zF xs 0=⟨R,C,l⟩:=by unfold zF;rw [ha]
 obtain ⟨r1,r2,r3,r4,r5⟩:=zi.1 hxr
 simp only at r1 r2 r3 r4
 have hR4:R≤4096:=Nat.le_trans (Nat.le_mul_of_pos_right R r2) r3
 have hC4:C≤4096:=Nat.le_trans (Nat.le_mul_of_pos_left C r1) r3
 have n0:=fun W (hW:ArgsIn W (some ⟨b,off,none⟩) n cap xs)=>zbH _ n cap xs 1 (R:Int) W hW _ rfl
 have n2:=fun W (hW:ArgsIn W (some ⟨b,off,none⟩) n cap xs)=>zbH _ n cap xs 2 (C:Int) W hW _ rfl
 have i1:I64 (zu xs 1 (R:Int)).1:=zcA h (by unfold I64;omega)
 have i2:I64 (zu xs 2 (C:Int)).1:=zcA h (by unfold I64;omega)
 unfold zeA
 rw [hx0]
 show Calls _ _ _ _ fun e w'=>zan w (zez ⟨R,C,l⟩ (zu xs 1 (R:Int)) (zu xs 2 (C:Int))) e w'
 generalize zu xs 1 (R:Int)=mm at *
 generalize zu xs 2 (C:Int)=kk at *
 obtain ⟨mi,mf⟩:=mm
 obtain ⟨ki,kf⟩:=kk
 simp only [show ((1:Nat):Int)=1 from rfl,show ((2:Nat):Int)=2 from rfl] at n0 n2
 have H:=Lib.hid h
 have HA:=Lib.hid harr
 have HI1:=Lib.hid i1
 have HI2:=Lib.hid i2
 clear h harr i1 i2 ha hx0 r4 r5
 obtain ⟨X,hX⟩:∃ X,zez ⟨R,C,l⟩ (mi,mf) (ki,kf)=X:=⟨_,rfl⟩
 rw [hX]
 by_cases hmf:mf=0
 ·subst hmf
  by_cases hkf:kf=0
  ·subst hkf
   by_cases hz:mi=0∨ki=0
   ·obtain rfl:zf 9=X:=by rw [← hX];unfold zez;rw [if_neg (by simp),if_neg (by simp),if_pos hz]
    clear hX HI1 HI2
    by_cases hm0:mi=0
    ·subst hm0
     go_enter func34,ntmps34
     go_wp2_with (first | (go_at_call 68;with_reducible refine aM (n0 _ (H.out.ext (by simp [go_sem]))) fun osa da=>?_) | (go_at_call 68;with_reducible refine aM (n2 _ (H.out.ext (by simp [go_sem]))) fun osb db=>?_) | (go_at_call 17;with_reducible refine aR (zt _ _) fun D m cc os5 d5 hD=>?_;have hDr:=hD.rd))
     exact rc1 (v:=AV (zf 9).R (zf 9).C (.slice D m cc)) rfl rfl (by simp [go_sem]) (by (try simp only [za,zc,zb,Array.append_assoc] at hDr);exact raS hDr hD (by simp <;> omega) (by simp [go_sem]))
    ·obtain rfl:ki=0:=hz.resolve_left hm0
     have hm0':(mi == 0)=false:=by simpa using hm0
     clear hz hm0
     go_enter func34,ntmps34
     go_wp2_with (first | (go_at_call 68;with_reducible refine aM (n0 _ (H.out.ext (by simp [go_sem]))) fun osa da=>?_) | (go_at_call 68;with_reducible refine aM (n2 _ (H.out.ext (by simp [go_sem]))) fun osb db=>?_) | (go_at_call 17;with_reducible refine aR (zt _ _) fun D m cc os5 d5 hD=>?_;have hDr:=hD.rd))
     exact rc1 (v:=AV (zf 9).R (zf 9).C (.slice D m cc)) rfl rfl (by simp [go_sem]) (by (try simp only [za,zc,zb,Array.append_assoc] at hDr);exact raS hDr hD (by simp <;> omega) (by simp [go_sem]))
   ·obtain rfl:zaF (zL ⟨R,C,l⟩ (zce mi R)) (zce ki C)=X:=by rw [← hX];unfold zez;rw [if_neg (by simp),if_neg (by simp),if_neg hz]
    have hm0:mi≠0:=fun e=>hz (Or.inl e)
    have hk0:ki≠0:=fun e=>hz (Or.inr e)
    have p1:=zmk r1 hm0
    have p2:=zmk r2 hk0
    have k1:=fun W=>zkx mi R HI1.out hR4 W
    have k2:=fun W=>zkx ki C HI2.out hC4 W
    have hm0':(mi == 0)=false:=by simpa using hm0
    have hk0':(ki == 0)=false:=by simpa using hk0
    generalize zce mi R=ps at *
    generalize zce ki C=qs at *
    have hr1:=fun W B cb (hW:ArrIn W (some ⟨b1,off1,none⟩) n1 cap1 l) hB hcb=>zdM ⟨R,C,l⟩ _ n1 cap1 ps B cb W hW hxr hB hcb p1
    have hYr:(zL ⟨R,C,l⟩ ps).right:=ze2 hxr p1.lt p1.pos p1.le
    have hYC:(zL ⟨R,C,l⟩ ps).C=C:=rfl
    generalize zL ⟨R,C,l⟩ ps=Y at *
    have hr2:=fun W D m cc B cb (hW:ArrIn W D m cc Y.l) hB hcb=>zgq Y D m cc qs B cb W hW hYr hB hcb (by rw [hYC];exact p2)
    generalize zaF Y qs=X at *
    clear hX HI1 HI2 hz hm0 hk0 p1 p2 hYr hYC hxr
    have HR1:=Lib.hid hr1
    have HR2:=Lib.hid hr2
    have HK1:=Lib.hid k1
    have HK2:=Lib.hid k2
    clear hr1 hr2 k1 k2
    go_enter func34,ntmps34
    go_upto_region 10 with (first | (go_at_call 68;with_reducible refine aM (n0 _ (H.out.ext (by simp [go_sem]))) fun osa da=>?_) | (go_at_call 68;with_reducible refine aM (n2 _ (H.out.ext (by simp [go_sem]))) fun osb db=>?_))
    refine plP [(0,0),(1,0),(2,0),(3,0),(6,0),(7,0),(8,0),(4,1),(5,1),(9,1),(10,1),(11,2)] [11] (by kernel_rfl) (fun _ _ d _ _ h=>by cases d <;> exact h) ?_
    iterate 7 (apply rdP rfl rfl;(intros;go_simp;first | done | rfl);try simp only [zq])
    (refine zh rfl ?_ (fun K hK=>?_);rfl;go_simp;refine (HK1.out _).mono ?_;rintro e w' ⟨v,rfl,hv,hb⟩;obtain ⟨B1,cb1,rfl,hB1,hcb1⟩:=Rd.of_own hv;have hB1:=Rd.mono hB1 (Nat.zero_le _);obtain ⟨os1,d1,rfl⟩:=hb.more;clear hb hv;(try simp only [za,zc,zb,Array.append_assoc] at hB1);refine hK _ _ ?_ ?_;(simp [go_sem]))
    try simp only [zq]
    (refine zh rfl ?_ (fun K hK=>?_);rfl;go_simp;refine (HR1.out _ B1 cb1 (HA.out.ext (by simp [go_sem])) hB1 hcb1).mono ?_;rintro e w' ⟨D1,m1,c1,rfl,hD1,hb⟩;have a1:=hD1.arr;obtain ⟨os2,d2,rfl⟩:=hb.more;clear hb hB1 hD1;(try simp only [za,zc,zb,Array.append_assoc] at a1);refine hK _ _ ?_ ?_;(simp [go_sem]))
    try simp only [zq]
    (refine zh rfl ?_ (fun K hK=>?_);rfl;go_simp;refine (HK2.out _).mono ?_;rintro e w' ⟨v,rfl,hv,hb⟩;obtain ⟨B2,cb2,rfl,hB2,hcb2⟩:=Rd.of_own hv;have hB2:=Rd.mono hB2 (Nat.zero_le _);obtain ⟨os3,d3,rfl⟩:=hb.more;clear hb hv;(try simp only [za,zc,zb,Array.append_assoc] at hB2);refine hK _ _ ?_ ?_;(simp [go_sem]))
    try simp only [zq]
    (refine zh rfl ?_ (fun K hK=>?_);rfl;go_simp;refine (HR2.out _ D1 m1 c1 B2 cb2 (a1.ext (by simp [go_sem])) hB2 hcb2).mono ?_;rintro e w' ⟨D,m,cc,rfl,hD,hb⟩;obtain ⟨os4,d4,rfl⟩:=hb.more;clear hb;have hDr:=hD.rd;refine hK _ _ ?_ ?_;(simp [go_sem]))
    try simp only [zq]
    (refine zaa rfl ?_ (fun K hK=>?_);rfl;go_simp;refine hK _ _ ?_)
    try simp only [Act.put]
    refine zj ?_
    go_wp2_with fail
    exact rc1 (v:=AV X.R X.C (.slice D m cc)) rfl rfl (by simp [go_sem]) (by (try simp only [za,zc,zb,Array.append_assoc] at hDr);exact raS hDr hD (by simp <;> omega) (by simp [go_sem]))
  ·obtain rfl:zf kf=X:=by rw [← hX];unfold zez;rw [if_neg (by simp),if_pos hkf]
   have hf':(kf != 0)=true:=by simpa using hkf
   clear hX hkf HI1 HI2
   go_enter func34,ntmps34
   go_wp2_with (first | (go_at_call 68;with_reducible refine aM (n0 _ (H.out.ext (by simp [go_sem]))) fun osa da=>?_) | (go_at_call 68;with_reducible refine aM (n2 _ (H.out.ext (by simp [go_sem]))) fun osb db=>?_) | (go_at_call 17;with_reducible refine aR (zt _ _) fun D m cc os5 d5 hD=>?_;have hDr:=hD.rd))
   exact rc1 (v:=AV (zf kf).R (zf kf).C (.slice D m cc)) rfl rfl (by simp [go_sem]) (by (try simp only [za,zc,zb,Array.append_assoc] at hDr);exact raS hDr hD (by simp <;> omega) (by simp [go_sem]))
 ·obtain rfl:zf mf=X:=by rw [← hX];unfold zez;rw [if_pos hmf]
  have hf':(mf != 0)=true:=by simpa using hmf
  clear hX hmf HI1 HI2
  go_enter func34,ntmps34
  go_wp2_with (first | (go_at_call 68;with_reducible refine aM (n0 _ (H.out.ext (by simp [go_sem]))) fun osa da=>?_) | (go_at_call 17;with_reducible refine aR (zt _ _) fun D m cc os5 d5 hD=>?_;have hDr:=hD.rd))
  exact rc1 (v:=AV (zf mf).R (zf mf).C (.slice D m cc)) rfl rfl (by simp [go_sem]) (by (try simp only [za,zc,zb,Array.append_assoc] at hDr);exact raS hDr hD (by simp <;> omega) (by simp [go_sem]))
theorem zoC (A:Option Addr) (n cap:Nat) (xs:List Ar) (w:World) (h:ArgsIn w A n cap xs) (h1:1≤n) :
  Calls prog 26 #[.slice A n cap] w fun e w'=>zan w (zeB xs) e w':=by
 obtain ⟨R,C,l,b1,off1,n1,cap1,b,off,x0,ha,rfl,⟨v0,v1,v2⟩,_,hc1,_,_,_,hbl,_,_,_,harr,_⟩:=h.first h1
 have hxr:NA.right ⟨R,C,l⟩:=(h.all _ (List.mem_of_getElem? ha)).right
 have hcap:=h.cap
 have hsm:=h.small
 simp only [Nat.zero_mul,Nat.add_zero] at v0 v1 v2
 have hx0:zF xs 0=⟨R,C,l⟩:=by unfold zF;rw [ha]
 obtain ⟨r1,r2,r3,r4,r5⟩:=zi.1 hxr
 simp only at r1 r2 r3 r4
 have hR4:R≤4096:=Nat.le_trans (Nat.le_mul_of_pos_right R r2) r3
 have hC4:C≤4096:=Nat.le_trans (Nat.le_mul_of_pos_left C r1) r3
 have n0:=fun W (hW:ArgsIn W (some ⟨b,off,none⟩) n cap xs)=>zbH _ n cap xs 1 0 W hW _ rfl
 have n2:=fun W (hW:ArgsIn W (some ⟨b,off,none⟩) n cap xs)=>zbH _ n cap xs 2 0 W hW _ rfl
 have i1:I64 (zu xs 1 0).1:=zcA h (by unfold I64;omega)
 have i2:I64 (zu xs 2 0).1:=zcA h (by unfold I64;omega)
 unfold zeB
 rw [hx0]
 generalize zu xs 1 0=mm at *
 generalize zu xs 2 0=kk at *
 obtain ⟨mi,mf⟩:=mm
 obtain ⟨ki,kf⟩:=kk
 simp only [show ((1:Nat):Int)=1 from rfl,show ((2:Nat):Int)=2 from rfl] at n0 n2
 have H:=Lib.hid h
 have HA:=Lib.hid harr
 have HI1:=Lib.hid i1
 have HI2:=Lib.hid i2
 clear h harr i1 i2 ha hx0 r4 r5
 obtain ⟨X,hX⟩:∃ X,zgM ⟨R,C,l⟩ (mi,mf) (ki,kf)=X:=⟨_,rfl⟩
 rw [hX]
 by_cases hmf:mf=0
 ·subst hmf
  by_cases hkf:kf=0
  ·subst hkf
   have k1:=fun W=>zky mi R HI1.out hR4 W
   have k2:=fun W=>zky ki C HI2.out hC4 W
   have hX':(if zbD mi R=[]∨zbD ki C=[] then zf 9 else zaF (zL ⟨R,C,l⟩ (zbD mi R)) (zbD ki C))=X:=by rw [← hX];unfold zgM;simp only [ne_eq,not_true_eq_false,if_false]
   have p1:=fun e=>zml (n:=mi) r1 e
   have p2:=fun e=>zml (n:=ki) r2 e
   clear hX HI1 HI2
   generalize zbD mi R=ps at *
   generalize zbD ki C=qs at *
   by_cases e1:ps=[]
   ·obtain rfl:zf 9=X:=by rw [← hX',if_pos (Or.inl e1)]
    have e1':(((ps.length:Nat):Int) == 0)=true:=by rw [e1];rfl
    have HK1:=Lib.hid k1
    have HK2:=Lib.hid k2
    clear hX' e1 k1 k2 p1 p2
    go_enter func26,ntmps26
    go_upto_region 8 with (first | (go_at_call 68;with_reducible refine aM (n0 _ (H.out.ext (by simp [go_sem]))) fun osa da=>?_) | (go_at_call 68;with_reducible refine aM (n2 _ (H.out.ext (by simp [go_sem]))) fun osb db=>?_))
    refine plP [(0,0),(1,0),(2,0),(4,0),(5,0),(6,0),(3,1),(7,1),(8,0),(9,0)] [] (by kernel_rfl) (fun _ _ d _ _ h=>by cases d <;> exact h) ?_
    iterate 6 (apply rdP rfl rfl;(intros;go_simp;first | done | rfl);try simp only [zq])
    (refine zh rfl ?_ (fun K hK=>?_);rfl;go_simp;refine (HK1.out _).mono ?_;rintro e w' ⟨v,rfl,hv,hb⟩;obtain ⟨B1,cb1,rfl,hB1,hcb1⟩:=Rd.of_own hv;obtain ⟨os1,d1,rfl⟩:=hb.more;clear hb hv hB1;refine hK _ _ ?_ ?_;(simp [go_sem]))
    try simp only [zq]
    (refine zh rfl ?_ (fun K hK=>?_);rfl;go_simp;refine (HK2.out _).mono ?_;rintro e w' ⟨v,rfl,hv,hb⟩;obtain ⟨B2,cb2,rfl,hB2,hcb2⟩:=Rd.of_own hv;obtain ⟨os3,d3,rfl⟩:=hb.more;clear hb hv hB2;refine hK _ _ ?_ ?_;(simp [go_sem]))
    try simp only [zq]
    iterate 2 (apply rdP rfl rfl;(intros;go_simp;first | done | rfl);try simp only [zq])
    refine zj ?_
    go_wp2_with (go_at_call 17;with_reducible refine aR (zt _ _) fun D m cc os5 d5 hD=>?_;have hDr:=hD.rd)
    exact rc1 (v:=AV (zf 9).R (zf 9).C (.slice D m cc)) rfl rfl (by simp [go_sem]) (by (try simp only [za,zc,zb,Array.append_assoc] at hDr);exact raS hDr hD (by simp <;> omega) (by simp [go_sem]))
   ·have q1:=p1 e1
    have l1:(((ps.length:Nat):Int) == 0)=false:=by have:=q1.pos;simp;omega
    by_cases e2:qs=[]
    ·obtain rfl:zf 9=X:=by rw [← hX',if_pos (Or.inr e2)]
     have e2':(((qs.length:Nat):Int) == 0)=true:=by rw [e2];rfl
     have HK1:=Lib.hid k1
     have HK2:=Lib.hid k2
     clear hX' e1 e2 k1 k2 p1 p2 q1
     go_enter func26,ntmps26
     go_upto_region 8 with (first | (go_at_call 68;with_reducible refine aM (n0 _ (H.out.ext (by simp [go_sem]))) fun osa da=>?_) | (go_at_call 68;with_reducible refine aM (n2 _ (H.out.ext (by simp [go_sem]))) fun osb db=>?_))
     refine plP [(0,0),(1,0),(2,0),(4,0),(5,0),(6,0),(3,1),(7,1),(8,0),(9,0)] [] (by kernel_rfl) (fun _ _ d _ _ h=>by cases d <;> exact h) ?_
     iterate 6 (apply rdP rfl rfl;(intros;go_simp;first | done | rfl);try simp only [zq])
     (refine zh rfl ?_ (fun K hK=>?_);rfl;go_simp;refine (HK1.out _).mono ?_;rintro e w' ⟨v,rfl,hv,hb⟩;obtain ⟨B1,cb1,rfl,hB1,hcb1⟩:=Rd.of_own hv;obtain ⟨os1,d1,rfl⟩:=hb.more;clear hb hv hB1;refine hK _ _ ?_ ?_;(simp [go_sem]))
     try simp only [zq]
     (refine zh rfl ?_ (fun K hK=>?_);rfl;go_simp;refine (HK2.out _).mono ?_;rintro e w' ⟨v,rfl,hv,hb⟩;obtain ⟨B2,cb2,rfl,hB2,hcb2⟩:=Rd.of_own hv;obtain ⟨os3,d3,rfl⟩:=hb.more;clear hb hv hB2;refine hK _ _ ?_ ?_;(simp [go_sem]))
     try simp only [zq]
     iterate 2 (apply rdP rfl rfl;(intros;go_simp;first | done | rfl);try simp only [zq])
     refine zj ?_
     go_wp2_with (go_at_call 17;with_reducible refine aR (zt _ _) fun D m cc os5 d5 hD=>?_;have hDr:=hD.rd)
     exact rc1 (v:=AV (zf 9).R (zf 9).C (.slice D m cc)) rfl rfl (by simp [go_sem]) (by (try simp only [za,zc,zb,Array.append_assoc] at hDr);exact raS hDr hD (by simp <;> omega) (by simp [go_sem]))
    ·have q2:=p2 e2
     have l2:(((qs.length:Nat):Int) == 0)=false:=by have:=q2.pos;simp;omega
     obtain rfl:zaF (zL ⟨R,C,l⟩ ps) qs=X:=by rw [← hX',if_neg (fun e=>e.elim e1 e2)]
     have hr1:=fun W B cb (hW:ArrIn W (some ⟨b1,off1,none⟩) n1 cap1 l) hB hcb=>zdM ⟨R,C,l⟩ _ n1 cap1 ps B cb W hW hxr hB hcb q1
     have hYr:(zL ⟨R,C,l⟩ ps).right:=ze2 hxr q1.lt q1.pos q1.le
     have hYC:(zL ⟨R,C,l⟩ ps).C=C:=rfl
     generalize zL ⟨R,C,l⟩ ps=Y at *
     have hr2:=fun W D m cc B cb (hW:ArrIn W D m cc Y.l) hB hcb=>zgq Y D m cc qs B cb W hW hYr hB hcb (by rw [hYC];exact q2)
     generalize zaF Y qs=X at *
     clear hX' e1 e2 p1 p2 q1 q2 hYr hYC hxr
     have HR1:=Lib.hid hr1
     have HR2:=Lib.hid hr2
     have HK1:=Lib.hid k1
     have HK2:=Lib.hid k2
     clear hr1 hr2 k1 k2
     go_enter func26,ntmps26
     go_upto_region 8 with (first | (go_at_call 68;with_reducible refine aM (n0 _ (H.out.ext (by simp [go_sem]))) fun osa da=>?_) | (go_at_call 68;with_reducible refine aM (n2 _ (H.out.ext (by simp [go_sem]))) fun osb db=>?_))
     refine plP [(0,0),(1,0),(2,0),(4,0),(5,0),(6,0),(3,1),(7,1),(8,0),(9,0)] [] (by kernel_rfl) (fun _ _ d _ _ h=>by cases d <;> exact h) ?_
     iterate 6 (apply rdP rfl rfl;(intros;go_simp;first | done | rfl);try simp only [zq])
     (refine zh rfl ?_ (fun K hK=>?_);rfl;go_simp;refine (HK1.out _).mono ?_;rintro e w' ⟨v,rfl,hv,hb⟩;obtain ⟨B1,cb1,rfl,hB1,hcb1⟩:=Rd.of_own hv;have hB1:=Rd.mono hB1 (Nat.zero_le _);obtain ⟨os1,d1,rfl⟩:=hb.more;clear hb hv;(try simp only [za,zc,zb,Array.append_assoc] at hB1);have HB1:=Lib.hid hB1;clear hB1;refine hK _ _ ?_ ?_;(simp [go_sem]))
     try simp only [zq]
     (refine zh rfl ?_ (fun K hK=>?_);rfl;go_simp;refine (HK2.out _).mono ?_;rintro e w' ⟨v,rfl,hv,hb⟩;obtain ⟨B2,cb2,rfl,hB2,hcb2⟩:=Rd.of_own hv;have hB2:=Rd.mono hB2 (Nat.zero_le _);obtain ⟨os3,d3,rfl⟩:=hb.more;clear hb hv;(try simp only [za,zc,zb,Array.append_assoc] at hB2);have HB2:=Lib.hid hB2;clear hB2;refine hK _ _ ?_ ?_;(simp [go_sem]))
     try simp only [zq]
     iterate 2 (apply rdP rfl rfl;(intros;go_simp;first | done | rfl);try simp only [zq])
     refine zj ?_
     go_wp2_with (first | (go_at_call 71;refine (HR1.out _ B1 cb1 (HA.out.ext (by simp [go_sem])) (HB1.out.ext (by simp [go_sem])) hcb1).mono ?_;rintro e w' ⟨D1,m1,c1,rfl,hD1,hb⟩;have a1:=hD1.arr;obtain ⟨os2,d2,rfl⟩:=hb.more;clear hb hD1;(try simp only [za,zc,zb,Array.append_assoc] at a1)) | (go_at_call 70;refine (HR2.out _ D1 m1 c1 B2 cb2 (a1.ext (by simp [go_sem])) (HB2.out.ext (by simp [go_sem])) hcb2).mono ?_;rintro e w' ⟨D,m,cc,rfl,hD,hb⟩;obtain ⟨os4,d4,rfl⟩:=hb.more;clear hb;have hDr:=hD.rd))
     exact rc1 (v:=AV X.R X.C (.slice D m cc)) rfl rfl (by simp [go_sem]) (by (try simp only [za,zc,zb,Array.append_assoc] at hDr);exact raS hDr hD (by simp <;> omega) (by simp [go_sem]))
  ·obtain rfl:zf kf=X:=by rw [← hX];unfold zgM;rw [if_neg (by simp),if_pos hkf]
   have hf':(kf != 0)=true:=by simpa using hkf
   clear hX hkf HI1 HI2
   go_enter func26,ntmps26
   go_wp2_with (first | (go_at_call 68;with_reducible refine aM (n0 _ (H.out.ext (by simp [go_sem]))) fun osa da=>?_) | (go_at_call 68;with_reducible refine aM (n2 _ (H.out.ext (by simp [go_sem]))) fun osb db=>?_) | (go_at_call 17;with_reducible refine aR (zt _ _) fun D m cc os5 d5 hD=>?_;have hDr:=hD.rd))
   exact rc1 (v:=AV (zf kf).R (zf kf).C (.slice D m cc)) rfl rfl (by simp [go_sem]) (by (try simp only [za,zc,zb,Array.append_assoc] at hDr);exact raS hDr hD (by simp <;> omega) (by simp [go_sem]))
 ·obtain rfl:zf mf=X:=by rw [← hX];unfold zgM;rw [if_pos hmf]
  have hf':(mf != 0)=true:=by simpa using hmf
  clear hX hmf HI1 HI2
  go_enter func26,ntmps26
  go_wp2_with (first | (go_at_call 68;with_reducible refine aM (n0 _ (H.out.ext (by simp [go_sem]))) fun osa da=>?_) | (go_at_call 17;with_reducible refine aR (zt _ _) fun D m cc os5 d5 hD=>?_;have hDr:=hD.rd))
  exact rc1 (v:=AV (zf mf).R (zf mf).C (.slice D m cc)) rfl rfl (by simp [go_sem]) (by (try simp only [za,zc,zb,Array.append_assoc] at hDr);exact raS hDr hD (by simp <;> omega) (by simp [go_sem]))
theorem zhZ (x:NA) (A:Option Addr) (n cap:Nat) (w:World) (h:ArrIn w A n cap x.l) (hr:x.right) :
  Calls prog 74 #[AV x.R x.C (.slice A n cap)] w fun e w'=>zan w x e w':=by
 obtain ⟨r1,r2,r3,r4,r5⟩:=zi.1 hr
 have hln:=h.len
 have hn1:0 < n:=by rw [← hln,r4];exact Nat.mul_pos r1 r2
 have hcl:=fun W (hW:ArrIn W A n cap x.l)=>zgd A n cap x.l W hW hn1 (by omega)
 have hao:=h.ok
 have hb16:n≤4096:=by omega
 have HA:=Lib.hid h
 obtain ⟨R,C,l⟩:=x
 simp only at hcl hao hln
 clear r1 r2 r3 r4 r5 hr h
 go_enter func74,ntmps74
 go_upto_region 1 with fail
 refine plP [(0,0),(1,0),(2,0),(3,0),(4,0),(5,0),(6,1),(7,1),(8,2)] [8] (by kernel_rfl) (fun _ _ d _ _ h=>by cases d <;> exact h) ?_
 iterate 6 (apply rdP rfl rfl;(intros;go_simp;first | done | rfl);try simp only [zq])
 (refine zh rfl ?_ (fun K hK=>?_);rfl;go_simp;refine (hcl _ (HA.out.ext (by simp [go_sem]))).mono ?_;rintro e w' ⟨D,cc,rfl,hDr,hcc,hb⟩;obtain ⟨os5,d5,rfl⟩:=hb.more;clear hb;refine hK _ _ ?_ ?_;(simp [go_sem]))
 try simp only [zq]
 (refine zh rfl ?_ (fun K hK=>?_);rfl;go_simp;refine (zcB _ _ _ _ _ _).mono ?_;rintro e w' ⟨rfl,hb⟩;have hDr:=Rd.ext hDr hb;obtain ⟨os6,d6,rfl⟩:=hb.more;clear hb;refine hK _ _ ?_ ?_;(simp [go_sem]))
 try simp only [zq]
 (refine zaa rfl ?_ (fun K hK=>?_);rfl;go_simp;refine hK _ _ ?_)
 try simp only [Act.put]
 refine zj ?_
 go_wp2_with fail
 exact rc1 rfl rfl (by simp [go_sem]) ⟨D,n,cc,rfl,⟨(by (try simp only [za,zc,zb,Array.append_assoc] at hDr);exact hDr.sw (by simp <;> omega)),hln,hcc,by omega,hao⟩,by simp [go_sem]⟩
theorem ze4 {J:NA→NA→Option NA} {a b:NA} {l:List NA} (h:J a b=none):zau J a (b::l)=none:=by
 unfold zau;rw [h]
theorem ze5 {J:NA→NA→Option NA} {a b c:NA} {l:List NA} (h:J a b=some c):zau J a (b::l)=zau J c l:=by
 conv=>lhs;unfold zau
 rw [h]
theorem zsw (V:World) (os os6:Array Obj) (d d6:Nat) (b nx:Obj):(more ((more V os d).alloc b) os6 d6).alloc nx=more V ((os.push b++os6).push nx) d6:=by rw [ze V os d b,za,ze]
theorem zsK {V V':World} (hs:V'.heap.size=V.heap.size) {os os6:Array Obj} {d d6 base:Nat} {b:Obj} (nx:Obj) {D:Option Addr} {l:List Val} (h:SlV ((more V os d).alloc b).heap.size (more ((more V os d).alloc b) os6 d6) D l) (hb:base≤V.heap.size) :
  SlV base ((more ((more V' os d).alloc b) os6 d6).alloc nx) D l:=by
 have h1:Rd base (more ((more V' os d).alloc b) os6 d6) D (zm l):=Rd.swap (X:=(more V os d).alloc b) (X':=(more V' os d).alloc b) h (Nat.le_refl _) (by simp [hs]) (by simp;omega)
 exact Rd.alloc h1 nx
theorem zg6 (f:FuncId) (J:NA→NA→Option NA) (hJ:zhI f J) (hJr:∀ a b c,a.right→b.right→J a b=some c→c.right) (hent:∀ (args:Array Value) (W:World),(callFunc f args).run prog W = .ok (.enter f args) W)
  (p:Nat) (A:Option Addr) (n cap:Nat) (xs:List Ar) (w:World) (h:ArgsIn w A n cap xs) (hn:1≤n) (hp:w.heap[p]? = some (bxJ f)) :
  Calls prog 75 #[.slice A n cap,.pointer (some ⟨p,0,none⟩)] w fun e w'=>zan w (zbY J xs) e w':=by
 obtain ⟨R0,C0,l0,b1,off1,n1,cap1,b,off,x0,ha,rfl,⟨v0,v1,v2⟩,hn1,hc1,_,_,_,hbl,_,_,_,harr,_⟩:=h.first hn
 have hcap:=h.cap
 have hsm:=h.small
 have hpl:=zH hp
 have hpc:w.cell? ⟨p,0,none⟩=some (fn0 f):=by simp [World.cell?,hp]
 have h0r:NA.right ⟨R0,C0,l0⟩:=(h.all _ (List.mem_of_getElem? ha)).right
 have hco:=fun W (hW:ArrIn W (some ⟨b1,off1,none⟩) n1 cap1 l0)=>zhZ ⟨R0,C0,l0⟩ _ n1 cap1 W hW h0r
 simp only [Nat.zero_mul,Nat.add_zero] at v0 v1 v2
 obtain ⟨a0,ys,rfl⟩:∃ a ys,xs=a::ys:=by
  cases xs with
  | nil=>simp at ha
  | cons a ys=>exact ⟨a,ys,rfl⟩
 obtain rfl:a0=⟨⟨R0,C0,l0⟩,some ⟨b1,off1,none⟩,n1,cap1⟩:=by simpa using ha
 have hlen:ys.length+1=n:=by have:=h.len;simpa using this
 obtain ⟨X,hX⟩:∃ X,zbY J (⟨⟨R0,C0,l0⟩,some ⟨b1,off1,none⟩,n1,cap1⟩::ys)=X:=⟨_,rfl⟩
 rw [hX]
 have HX:=Lib.hid hX
 have H:=Lib.hid h
 have HA:=Lib.hid harr
 have HJ:=Lib.hid hJ
 clear hX h ha hp harr hJ
 by_cases hcp:cap=1
 ·subst hcp
  obtain rfl:n=1:=by omega
  obtain rfl:ys=[]:=List.eq_nil_of_length_eq_zero (by omega)
  obtain rfl:(⟨R0,C0,l0⟩:NA)=X:=by rw [← HX.out];rfl
  clear HX hlen hJr
  go_enter func75,ntmps75
  go_wp2_with (first | (go_at_call 74;with_reducible refine aR (hco _ (HA.out.ext (by simp [go_sem]))) fun D m cc os5 d5 hD=>?_;have hDr:=hD.rd))
  refine wp_loop_rounds 1 ?_
  rw [rounds_succ]
  have hDr2:=Rd.alloc hDr (Obj.cells #[.int .i64 (R0:Int),.int .i64 (C0:Int),.slice D m cc] 30)
  go_wp2_with fail
  exact rc1 (v:=AV R0 C0 (.slice D m cc)) rfl rfl (by simp [go_sem]) (by (try simp only [ze,za,zc,zb,Array.append_assoc] at hDr2);(try simp only [ze,za,zc,zb,Array.append_assoc]);exact raS hDr2 hD (by simp <;> omega) (by simp [go_sem]))
 go_enter func75,ntmps75
 go_wp2_with (first | (go_at_call 74;with_reducible refine aR (hco _ (HA.out.ext (by simp [go_sem]))) fun D m cc os5 d5 hD=>?_;have hDr:=hD.rd))
 go_loopw [16] (fun i wr=>∃ (k:Nat) (Y:NA) (E:Option Addr) (me ce:Nat) (os:Array Obj) (d:Nat),k+1≤n∧i = .int .i64 k∧wr=more ((more (w.alloc (Obj.cells #[.int .i64 0,.int .i64 0,.slice none 0 0] 30)) os5 d5).alloc (Obj.cells #[.int .i64 (Y.R:Int),.int .i64 (Y.C:Int),.slice E me ce] 30)) os d∧Hid (ArrN (w.heap.size+1) wr E me ce Y.l)∧Y.right∧Hid (zau J Y ((ys.drop k).map Ar.x)=zau J ⟨R0,C0,l0⟩ (ys.map Ar.x))) (fun i _=>n - (intOf i).toNat)
 case atStart =>
  refine ⟨0,⟨R0,C0,l0⟩,D,m,cc,#[],_,by omega,rfl,(zbo _).symm,?_,h0r,(by show _=_;rw [List.drop_zero])⟩
  have h1:ArrN (w.heap.size+1) ((more (w.alloc (Obj.cells #[.int .i64 0,.int .i64 0,.slice none 0 0] 30)) os5 d5).alloc (Obj.cells #[.int .i64 (R0:Int),.int .i64 (C0:Int),.slice D m cc] 30)) D m cc l0:=⟨Rd.alloc (show Rd (w.heap.size+1) _ D (zm l0) from by have:=hDr;simp only [World.size_alloc] at this;exact this) _,hD.len,hD.cap,hD.small,hD.ok⟩
  exact h1
 case round =>
  obtain ⟨k,Y,E,me,ce,os,d,hk,rfl,rfl,HE,hYr,HS⟩:=hrel
  have hEa:=HE.out.arr
  clear hDr hD
  by_cases hlt:k+1 < n
  ·have hlt':k < n - 1:=by omega
   obtain ⟨a,hak⟩:∃ a,ys[k]? = some a:=⟨_,List.getElem?_eq_getElem (by omega)⟩
   obtain ⟨b',off',hbo,⟨u0,u1,u2⟩,hok⟩:=H.out.get (k:=k+1) (a:=a) (by simpa using hak)
   obtain ⟨rfl,rfl⟩:=aI hbo
   rw [show off+(k+1) * 3=off+3+k * 3 by omega] at u0 u1 u2
   have hj:=fun W hA' hB' x kk e1 e2=>HJ.out Y a.x E a.A me ce a.n a.cap W hA' hB' hYr hok.right x kk e1 e2
   have hdr:(ys.drop k).map Ar.x=a.x::(ys.drop (k+1)).map Ar.x:=by rw [List.drop_eq_getElem_cons (by omega),List.map_cons];congr 2;rw [List.getElem?_eq_getElem (by omega)] at hak;simpa using hak
   have HOK:=Lib.hid hok.arr
   cases hJa:J Y a.x with
   | none =>
    obtain rfl:zf 5=X:=by
     rw [← HX.out]
     show zf 5=(zau J ⟨R0,C0,l0⟩ (ys.map Ar.x)).getD (zf 5)
     rw [← HS.out,hdr,ze4 hJa]
     try rfl
    have hjn:=fun W hA' hB'=>hj W hA' hB' (orZ none) false (by rw [hJa]) (by rw [hJa];first | done | rfl)
    clear hj hJa HS hdr hak HX
    go_wp2_with fail
    refine (hjn _ (hEa.ext (by simp [go_sem])) (HOK.out.ext (by simp [go_sem]))).mono ?_
    rintro e w' ⟨D6,m6,c6,rfl,_,_,hb⟩
    obtain ⟨os6,d6,rfl⟩:=hb.more
    clear hb
    go_wp2_with (go_at_call 17;with_reducible refine aR (zt _ _) fun D m cc os5 d5 hD=>?_;have hDr:=hD.rd)
    exact bodyPost_ret (v:=AV (zf 5).R (zf 5).C (.slice D m cc)) (by simp [results,results75,go_sem]) rfl ⟨D,m,cc,rfl,⟨(by (try simp only [ze,za] at hDr);(try simp only [ze,za]);(try simp only [zc] at hDr);(try simp only [zb] at hDr);(try simp only [Array.append_assoc] at hDr);exact Rd.swap hDr (by first | (simp;done) | (simp;omega) | omega) (by first | (simp;done) | (simp;omega) | omega) (by first | (simp;done) | (simp;omega) | omega)),hD.len,hD.cap,hD.small,hD.ok⟩,by with_reducible repeat (first | exact Ext.refl _ | apply Ext.drew | apply Ext.alloc | apply Ext.more_)⟩
   | some Z =>
    have hZ:=hJr Y a.x Z hYr hok.right hJa
    have hjs:=fun W hA' hB'=>hj W hA' hB' Z true (by rw [hJa];first | done | rfl) (by rw [hJa];first | done | rfl)
    have HS2:Hid (zau J Z ((ys.drop (k+1)).map Ar.x)=zau J ⟨R0,C0,l0⟩ (ys.map Ar.x)):=by
     show _=_
     rw [← HS.out,hdr,ze5 hJa]
    clear hj hJa HS hdr hak
    go_wp2_with fail
    refine (hjs _ (hEa.ext (by simp [go_sem])) (HOK.out.ext (by simp [go_sem]))).mono ?_
    rintro e w' ⟨D6,m6,c6,rfl,hA6,hS6,hb⟩
    obtain ⟨os6,d6,rfl⟩:=hb.more
    clear hb
    go_wp2_with fail
    refine ⟨⟨k+1,Z,D6,m6,c6,_,_,by omega,by go_num,zsw _ _ _ _ _ _ _,(show ArrN _ _ _ _ _ _ from ⟨zsK (by simp) _ hS6 (by simp;omega),hA6.len,hA6.cap,hA6.small,hA6.ok⟩),hZ,HS2⟩,by simp [intOf];omega⟩
  ·obtain rfl:k+1=n:=by omega
   obtain rfl:Y=X:=by
    rw [← HX.out]
    show Y=(zau J ⟨R0,C0,l0⟩ (ys.map Ar.x)).getD (zf 5)
    rw [← HS.out,List.drop_of_length_le (by omega)];rfl
   have hDr:=HE.out.rd
   go_wp2_with fail
   exact rc1 rfl rfl (by simp [go_sem]) ⟨E,me,ce,rfl,⟨(by (try simp only [ze,za] at hDr);(try simp only [ze,za]);(try simp only [zc] at hDr);(try simp only [zb] at hDr);(try simp only [Array.append_assoc] at hDr);exact hDr.sw (by simp <;> omega)),HE.out.len,HE.out.cap,HE.out.small,HE.out.ok⟩,by simp [go_sem]⟩
def zp2 (w:World) (xs:List Ar) (x:NA) (e:Ending) (w':World):Prop :=
 ∃ D m cc,e = .returned (AV x.R x.C (.slice D m cc))∧ArrIn w' D m cc x.l∧Ext w w'∧((∃ a∈xs,a=⟨x,D,m,cc⟩)∨SlV w.heap.size w' D x.l)
theorem zlo (A:Option Addr) (n cap:Nat) (xs:List Ar) (w:World) (h:ArgsIn w A n cap xs) (hn:1≤n) :
  Calls prog 50 #[.slice A n cap,.bool false] w fun e w'=>zp2 w xs (zbY besideO xs) e w':=by
 obtain ⟨R0,C0,l0,b1,off1,n1,cap1,b,off,x0,ha,rfl,⟨v0,v1,v2⟩,hn1,hc1,_,_,_,hbl,_,_,_,harr,_⟩:=h.first hn
 have hcap:=h.cap
 have hsm:=h.small
 have h0r:NA.right ⟨R0,C0,l0⟩:=(h.all _ (List.mem_of_getElem? ha)).right
 simp only [Nat.zero_mul,Nat.add_zero] at v0 v1 v2
 obtain ⟨a0,ys,rfl⟩:∃ a ys,xs=a::ys:=by
  cases xs with
  | nil=>simp at ha
  | cons a ys=>exact ⟨a,ys,rfl⟩
 obtain rfl:a0=⟨⟨R0,C0,l0⟩,some ⟨b1,off1,none⟩,n1,cap1⟩:=by simpa using ha
 have hlen:ys.length+1=n:=by have:=h.len;simpa using this
 obtain ⟨X,hX⟩:∃ X,zbY besideO (⟨⟨R0,C0,l0⟩,some ⟨b1,off1,none⟩,n1,cap1⟩::ys)=X:=⟨_,rfl⟩
 rw [hX]
 have HX:=Lib.hid hX
 have H:=Lib.hid h
 have HA:=Lib.hid harr
 clear hX h ha harr
 go_enter func50,ntmps50
 go_wp2_with fail
 go_loopw [6] (fun i wr=>∃ (k:Nat) (Y:NA) (E:Option Addr) (me ce:Nat) (os:Array Obj) (d:Nat),k+1≤n∧i = .int .i64 ((k:Int)+1)∧wr=more ((w.alloc (Obj.cells #[.int .i64 0,.int .i64 0,.slice none 0 0] 30)).alloc (Obj.cells #[.int .i64 (Y.R:Int),.int .i64 (Y.C:Int),.slice E me ce] 30)) os d∧Hid (ArrIn wr E me ce Y.l)∧Hid ((⟨Y,E,me,ce⟩:Ar)=⟨⟨R0,C0,l0⟩,some ⟨b1,off1,none⟩,n1,cap1⟩∨SlV (w.heap.size+2) wr E Y.l)∧Y.right∧Hid (zau besideO Y ((ys.drop k).map Ar.x)=zau besideO ⟨R0,C0,l0⟩ (ys.map Ar.x))) (fun i _=>n - (intOf i).toNat)
 case atStart =>
  exact ⟨0,⟨R0,C0,l0⟩,some ⟨b1,off1,none⟩,n1,cap1,#[],_,by omega,rfl,(zbo _).symm,HA.out.ext (by simp [go_sem]),Or.inl rfl,h0r,(by show _=_;rw [List.drop_zero])⟩
 case round =>
  obtain ⟨k,Y,E,me,ce,os,d,hk,rfl,rfl,HE,HB,hYr,HS⟩:=hrel
  have hEa:=HE.out
  by_cases hlt:k+1 < n
  ·have hlt':(k:Int)+1 < (n:Int):=by omega
   obtain ⟨a,hak⟩:∃ a,ys[k]? = some a:=⟨_,List.getElem?_eq_getElem (by omega)⟩
   obtain ⟨b',off',hbo,⟨u0,u1,u2⟩,hok⟩:=H.out.get (k:=k+1) (a:=a) (by simpa using hak)
   obtain ⟨rfl,rfl⟩:=aI hbo
   have hdr:(ys.drop k).map Ar.x=a.x::(ys.drop (k+1)).map Ar.x:=by rw [List.drop_eq_getElem_cons (by omega),List.map_cons];congr 2;rw [List.getElem?_eq_getElem (by omega)] at hak;simpa using hak
   have HOK:=Lib.hid hok.arr
   have hj:=fun W hA' hB' x kk e1 e2=>zdz Y a.x E a.A me ce a.n a.cap W hA' hB' hYr hok.right x kk e1 e2
   obtain ⟨Z,hZ⟩:∃ Z,orZ (besideO Y a.x)=Z:=⟨_,rfl⟩
   obtain ⟨kk,hkk⟩:∃ kk,(besideO Y a.x).isSome=kk:=⟨_,rfl⟩
   have hjs:=fun W hA' hB'=>hj W hA' hB' Z kk hZ hkk
   have HK:=Lib.hid (And.intro hZ hkk)
   clear hj hZ hkk hak
   go_upto_region 5 with fail
   refine zz fun U hU=>?_
   have hx:Ext w U:=by rw [hU];exact (by simp [go_sem])
   have c0:U.cell? ⟨w.heap.size+1,0,none⟩=some (.int .i64 Y.R):=by rw [hU];go_simp
   have c1:U.cell? ⟨w.heap.size+1,1,none⟩=some (.int .i64 Y.C):=by rw [hU];go_simp
   have c2:U.cell? ⟨w.heap.size+1,2,none⟩=some (.slice E me ce):=by rw [hU];go_simp
   have lc:=zg c0
   have lu:b < U.heap.size:=Nat.lt_of_lt_of_le hbl hx.size
   have hU2:w.heap.size+2≤U.heap.size:=by rw [hU];simp
   replace u0:=hx.cell_some u0
   replace u1:=hx.cell_some u1
   replace u2:=hx.cell_some u2
   have hEu:ArrIn U E me ce Y.l:=by rw [hU];exact hEa
   have HUo:=Lib.hid (HOK.out.ext hx)
   have HU:=Lib.hid hU
   clear hU
   refine zaB [(9,4),(0,0),(1,0),(2,0),(3,0),(4,0),(5,1),(6,0),(7,0),(8,2),(9,3)] [10,11] [10,11] [8] (by kernel_rfl) (by kernel_rfl) (by kernel_rfl) (fun _ _ d _ _ h=>by cases d <;> exact h) (fun _ _ d _ _ h=>by cases d <;> exact h) ?_
   (refine zaD (t:=7) (.cells #[.int .i64 0,.int .i64 0,.slice none 0 0] 30) zbK rfl rfl rfl (fun w1=>?_) ?_;(first | rfl | (simp [go_sem,zbK];done) | (go_simp;rfl)))
   iterate 5 (apply rdG rfl rfl;(intros;go_simp;first | done | rfl);try simp only [zq])
   (refine zag rfl ?_ (fun wf hXf hE K hK=>?_);rfl;obtain ⟨osf,df,rfl⟩:=hXf.more;go_simp;refine (hjs _ (hEu.ext (by simp [go_sem])) (HUo.out.ext (by simp [go_sem]))).mono ?_;rintro e w' ⟨D6,m6,c6,rfl,hA6,hS6,hb⟩;refine hK _ _ (fun W=>ArrIn W D6 m6 c6 Z.l∧SlV (w.heap.size+2) W D6 Z.l) (by (try simp only [zb,za,Array.append_assoc]);exact hb) (fun _ _ hx h=>⟨h.1.ext hx,h.2.ext hx⟩) ⟨hA6,hS6.mono (by simp;omega)⟩ ?_)
   try simp only [zq]
   iterate 3 ((first | (apply rdG rfl rfl;(intros;go_simp;first | done | rfl)) | (refine zbf (v:=?_) rfl ?_ (fun w1=>?_) ?_;rotate_left 1;rfl;(go_simp;first | done | rfl)));try simp only [zq])
   refine zca fun osa da osb db hE=>?_
   try simp only [zq]
   (refine zX rfl ?_ (fun K hK=>?_);rfl;go_simp;refine hK _ _ ?_)
   try simp only [zq]
   (refine zX rfl ?_ (fun K hK=>?_);rfl;go_simp;refine hK _ _ ?_)
   try simp only [zq]
   refine zaZ ?_
   clear c0 c1 c2 lc lu u0 u1 u2 hEu HUo
   simp only [zc] at hE
   have hSl:=zoA (.int .i64 Z.R) (.int .i64 Z.C) (.slice D6 m6 c6) hE.2
   have hlen6:=hE.1.len
   have hcap6:=hE.1.cap
   have hsm6:=hE.1.small
   have hok6:=hE.1.ok
   have hrow:=zd4 U (.cells #[.int .i64 (Z.R:Int),.int .i64 (Z.C:Int),.slice D6 m6 c6] 30) osa osb da db
   have hflat:=zjE ((w.alloc (Obj.cells #[.int .i64 0,.int .i64 0,.slice none 0 0] 30)).alloc (Obj.cells #[.int .i64 (Y.R:Int),.int .i64 (Y.C:Int),.slice E me ce] 30)) os osa osb d da db (.cells #[.int .i64 (Z.R:Int),.int .i64 (Z.C:Int),.slice D6 m6 c6] 30)
   rw [← HU.out] at hflat
   rw [hflat] at hSl hrow ⊢
   clear hE hflat
   generalize (os++osa).push (.cells #[.int .i64 (Z.R:Int),.int .i64 (Z.C:Int),.slice D6 m6 c6] 30)++osb=os9 at *
   generalize U.heap.size+osa.size=pz at *
   clear HU hU2 hx
   have n0:=cell_of_row _ _ 0 _ _ _ hrow
   have n1:=cell_of_row _ _ 1 _ _ _ hrow
   have n2:=cell_of_row _ _ 2 _ _ _ hrow
   have ln:=zg n0
   clear hrow
   cases kk with
   | false =>
    have hJa:besideO Y a.x=none:=by have:=HK.out.2;cases hb:besideO Y a.x with
     | none=>rfl
     | some q=>rw [hb] at this;cases this
    obtain rfl:zf 5=X:=by
     rw [← HX.out]
     show zf 5=(zau besideO ⟨R0,C0,l0⟩ (ys.map Ar.x)).getD (zf 5)
     rw [← HS.out,hdr,ze4 hJa]
     try rfl
    clear HK hJa HS hdr HX hSl
    go_wp2_with (go_at_call 44;with_reducible refine aR (zE 5 (by omega) _) fun D m cc os5 d5 hD=>?_;have hDr:=hD.rd)
    exact rc1 rfl rfl (by simp [go_sem]) ⟨D,m,cc,rfl,ArrN.arr (base:=w.heap.size) ⟨(by (try simp only [ze,za] at hDr);(try simp only [ze,za]);(try simp only [zc] at hDr);(try simp only [zb] at hDr);(try simp only [Array.append_assoc] at hDr);exact hDr.sw (by simp <;> omega)),hD.len,hD.cap,hD.small,hD.ok⟩,by simp [go_sem],Or.inr (by (try simp only [ze,za] at hDr);(try simp only [ze,za]);(try simp only [zc] at hDr);(try simp only [zb] at hDr);(try simp only [Array.append_assoc] at hDr);exact hDr.sw (by simp <;> omega))⟩
   | true =>
    have hJa:besideO Y a.x=some Z:=by
     have h1:=HK.out.1
     have h2:=HK.out.2
     cases hb:besideO Y a.x with
     | none=>rw [hb] at h2;cases h2
     | some q=>rw [hb] at h1;exact congrArg some h1
    have hZr:=zef hYr hok.right hJa
    have HS2:Hid (zau besideO Z ((ys.drop (k+1)).map Ar.x)=zau besideO ⟨R0,C0,l0⟩ (ys.map Ar.x)):=by
     show _=_
     rw [← HS.out,hdr,ze5 hJa]
    clear HK hJa HS hdr
    go_wp2_with fail
    refine ⟨⟨k+1,Z,D6,m6,c6,os9,_,by omega,by go_num,rfl,(show ArrIn _ _ _ _ _ from ⟨Rd.mono (Rd.swap (base':=0) hSl (by simp) (by simp) (Nat.zero_le _)) (Nat.le_refl _),hlen6,hcap6,hsm6,hok6⟩),(show _∨_ from Or.inr (Rd.swap (base':=w.heap.size+2) hSl (by simp) (by simp) (Nat.le_refl _))),hZr,HS2⟩,by simp [intOf];omega⟩
  ·obtain rfl:k+1=n:=by omega
   obtain rfl:Y=X:=by
    rw [← HX.out]
    show Y=(zau besideO ⟨R0,C0,l0⟩ (ys.map Ar.x)).getD (zf 5)
    rw [← HS.out,List.drop_of_length_le (by omega)];rfl
   have hEl:=HE.out.len
   have hEc:=HE.out.cap
   have hEs:=HE.out.small
   have hEo:=HE.out.ok
   rcases HB.out with hB | hB
   ·simp only [Ar.mk.injEq] at hB
    obtain ⟨rfl,rfl,rfl,rfl⟩:=hB
    go_wp2_with fail
    exact rc1 rfl rfl (by simp [go_sem]) ⟨_,_,_,rfl,HA.out.ext (by simp [go_sem]),by simp [go_sem],Or.inl ⟨_,List.mem_cons_self,rfl⟩⟩
   ·go_wp2_with fail
    exact rc1 rfl rfl (by simp [go_sem]) ⟨E,me,ce,rfl,⟨Rd.swap (base':=0) hB (by simp) (by simp) (Nat.zero_le _),hEl,hEc,hEs,hEo⟩,by simp [go_sem],Or.inr (Rd.swap (base':=w.heap.size) hB (by simp) (by simp) (by omega))⟩
theorem zlp (A:Option Addr) (n cap:Nat) (xs:List Ar) (w:World) (h:ArgsIn w A n cap xs) (hn:1≤n) :
  Calls prog 50 #[.slice A n cap,.bool true] w fun e w'=>zp2 w xs (zbY belowO xs) e w':=by
 obtain ⟨R0,C0,l0,b1,off1,n1,cap1,b,off,x0,ha,rfl,⟨v0,v1,v2⟩,hn1,hc1,_,_,_,hbl,_,_,_,harr,_⟩:=h.first hn
 have hcap:=h.cap
 have hsm:=h.small
 have h0r:NA.right ⟨R0,C0,l0⟩:=(h.all _ (List.mem_of_getElem? ha)).right
 simp only [Nat.zero_mul,Nat.add_zero] at v0 v1 v2
 obtain ⟨a0,ys,rfl⟩:∃ a ys,xs=a::ys:=by
  cases xs with
  | nil=>simp at ha
  | cons a ys=>exact ⟨a,ys,rfl⟩
 obtain rfl:a0=⟨⟨R0,C0,l0⟩,some ⟨b1,off1,none⟩,n1,cap1⟩:=by simpa using ha
 have hlen:ys.length+1=n:=by have:=h.len;simpa using this
 obtain ⟨X,hX⟩:∃ X,zbY belowO (⟨⟨R0,C0,l0⟩,some ⟨b1,off1,none⟩,n1,cap1⟩::ys)=X:=⟨_,rfl⟩
 rw [hX]
 have HX:=Lib.hid hX
 have H:=Lib.hid h
 have HA:=Lib.hid harr
 clear hX h ha harr
 go_enter func50,ntmps50
 go_wp2_with fail
 go_loopw [6] (fun i wr=>∃ (k:Nat) (Y:NA) (E:Option Addr) (me ce:Nat) (os:Array Obj) (d:Nat),k+1≤n∧i = .int .i64 ((k:Int)+1)∧wr=more ((w.alloc (Obj.cells #[.int .i64 0,.int .i64 0,.slice none 0 0] 30)).alloc (Obj.cells #[.int .i64 (Y.R:Int),.int .i64 (Y.C:Int),.slice E me ce] 30)) os d∧Hid (ArrIn wr E me ce Y.l)∧Hid ((⟨Y,E,me,ce⟩:Ar)=⟨⟨R0,C0,l0⟩,some ⟨b1,off1,none⟩,n1,cap1⟩∨SlV (w.heap.size+2) wr E Y.l)∧Y.right∧Hid (zau belowO Y ((ys.drop k).map Ar.x)=zau belowO ⟨R0,C0,l0⟩ (ys.map Ar.x))) (fun i _=>n - (intOf i).toNat)
 case atStart =>
  exact ⟨0,⟨R0,C0,l0⟩,some ⟨b1,off1,none⟩,n1,cap1,#[],_,by omega,rfl,(zbo _).symm,HA.out.ext (by simp [go_sem]),Or.inl rfl,h0r,(by show _=_;rw [List.drop_zero])⟩
 case round =>
  obtain ⟨k,Y,E,me,ce,os,d,hk,rfl,rfl,HE,HB,hYr,HS⟩:=hrel
  have hEa:=HE.out
  by_cases hlt:k+1 < n
  ·have hlt':(k:Int)+1 < (n:Int):=by omega
   obtain ⟨a,hak⟩:∃ a,ys[k]? = some a:=⟨_,List.getElem?_eq_getElem (by omega)⟩
   obtain ⟨b',off',hbo,⟨u0,u1,u2⟩,hok⟩:=H.out.get (k:=k+1) (a:=a) (by simpa using hak)
   obtain ⟨rfl,rfl⟩:=aI hbo
   have hdr:(ys.drop k).map Ar.x=a.x::(ys.drop (k+1)).map Ar.x:=by rw [List.drop_eq_getElem_cons (by omega),List.map_cons];congr 2;rw [List.getElem?_eq_getElem (by omega)] at hak;simpa using hak
   have HOK:=Lib.hid hok.arr
   have hjb:=fun W hA' hB'=>zdz Y a.x E a.A me ce a.n a.cap W hA' hB' hYr hok.right _ _ rfl rfl
   have hj:=fun W hA' hB' x kk e1 e2=>zmZ Y a.x E a.A me ce a.n a.cap W hA' hB' hYr hok.right x kk e1 e2
   obtain ⟨Z,hZ⟩:∃ Z,orZ (belowO Y a.x)=Z:=⟨_,rfl⟩
   obtain ⟨kk,hkk⟩:∃ kk,(belowO Y a.x).isSome=kk:=⟨_,rfl⟩
   have hjs:=fun W hA' hB'=>hj W hA' hB' Z kk hZ hkk
   generalize orZ (besideO Y a.x)=Zb at hjb
   generalize (besideO Y a.x).isSome=kb at hjb
   have HK:=Lib.hid (And.intro hZ hkk)
   clear hj hZ hkk hak
   go_upto_region 5 with fail
   refine zz fun U hU=>?_
   have hx:Ext w U:=by rw [hU];exact (by simp [go_sem])
   have c0:U.cell? ⟨w.heap.size+1,0,none⟩=some (.int .i64 Y.R):=by rw [hU];go_simp
   have c1:U.cell? ⟨w.heap.size+1,1,none⟩=some (.int .i64 Y.C):=by rw [hU];go_simp
   have c2:U.cell? ⟨w.heap.size+1,2,none⟩=some (.slice E me ce):=by rw [hU];go_simp
   have lc:=zg c0
   have lu:b < U.heap.size:=Nat.lt_of_lt_of_le hbl hx.size
   have hU2:w.heap.size+2≤U.heap.size:=by rw [hU];simp
   replace u0:=hx.cell_some u0
   replace u1:=hx.cell_some u1
   replace u2:=hx.cell_some u2
   have hEu:ArrIn U E me ce Y.l:=by rw [hU];exact hEa
   have HUo:=Lib.hid (HOK.out.ext hx)
   have HU:=Lib.hid hU
   clear hU
   refine zaB [(9,4),(0,0),(1,0),(2,0),(3,0),(4,0),(5,1),(6,0),(7,0),(8,2),(9,3)] [10,11] [10,11] [8] (by kernel_rfl) (by kernel_rfl) (by kernel_rfl) (fun _ _ d _ _ h=>by cases d <;> exact h) (fun _ _ d _ _ h=>by cases d <;> exact h) ?_
   (refine zaD (t:=7) (.cells #[.int .i64 0,.int .i64 0,.slice none 0 0] 30) zbK rfl rfl rfl (fun w1=>?_) ?_;(first | rfl | (simp [go_sem,zbK];done) | (go_simp;rfl)))
   iterate 5 (apply rdG rfl rfl;(intros;go_simp;first | done | rfl);try simp only [zq])
   (refine zag rfl ?_ (fun wf hXf hE K hK=>?_);rfl;obtain ⟨osf,df,rfl⟩:=hXf.more;go_simp;refine (hjb _ (hEu.ext (by simp [go_sem])) (HUo.out.ext (by simp [go_sem]))).mono ?_;rintro e w' ⟨Db,mb,cb,rfl,_,_,hb⟩;refine hK _ _ (fun W=>True) (by (try simp only [zb,za,Array.append_assoc]);exact hb) (fun _ _ hx h=>trivial) trivial ?_)
   try simp only [zq]
   iterate 3 ((first | (apply rdG rfl rfl;(intros;go_simp;first | done | rfl)) | (refine zbf (v:=?_) rfl ?_ (fun w1=>?_) ?_;rotate_left 1;rfl;(go_simp;first | done | rfl)));try simp only [zq])
   refine zca fun osa da osb db hE=>?_
   try simp only [zq]
   (refine zX rfl ?_ (fun K hK=>?_);rfl;go_simp;refine hK _ _ ?_)
   try simp only [zq]
   (refine zX rfl ?_ (fun K hK=>?_);rfl;go_simp;refine hK _ _ ?_)
   try simp only [zq]
   refine zaZ ?_
   go_upto_region 7 with fail
   have lc2:w.heap.size < U.heap.size+osa.size:=by omega
   refine zaB [(0,0),(1,0),(2,0),(3,0),(4,0),(5,1),(6,0),(7,0),(8,2)] [9,10] [9,10] [8] (by kernel_rfl) (by kernel_rfl) (by kernel_rfl) (fun _ _ d _ _ h=>by cases d <;> exact h) (fun _ _ d _ _ h=>by cases d <;> exact h) ?_
   iterate 5 (apply rdG rfl rfl;(intros;go_simp;first | done | rfl);try simp only [zq])
   (refine zag rfl ?_ (fun wf hXf hE K hK=>?_);rfl;obtain ⟨osf,df,rfl⟩:=hXf.more;go_simp;refine (hjs _ (hEu.ext (by simp [go_sem])) (HUo.out.ext (by simp [go_sem]))).mono ?_;rintro e w' ⟨D6,m6,c6,rfl,hA6,hS6,hb⟩;refine hK _ _ (fun W=>ArrIn W D6 m6 c6 Z.l∧SlV (U.heap.size+osa.size+1) W D6 Z.l) (by (try simp only [zb,za,Array.append_assoc]);exact hb) (fun _ _ hx h=>⟨h.1.ext hx,h.2.ext hx⟩) ⟨hA6,hS6.mono (by (try simp) <;> omega)⟩ ?_)
   try simp only [zq]
   iterate 3 ((first | (apply rdG rfl rfl;(intros;go_simp;first | done | rfl)) | (refine zbf (v:=?_) rfl ?_ (fun w1=>?_) ?_;rotate_left 1;rfl;(go_simp;first | done | rfl)));try simp only [zq])
   (refine zcx fun wz hXz hE=>?_;obtain ⟨osz,dz,rfl⟩:=hXz.more)
   (refine zX rfl ?_ (fun K hK=>?_);rfl;go_simp;refine hK _ _ ?_)
   try simp only [zq]
   (refine zX rfl ?_ (fun K hK=>?_);rfl;go_simp;refine hK _ _ ?_)
   try simp only [zq]
   refine zaZ ?_
   simp only [zb,zc,za] at hE
   have hSl:=zoA (.int .i64 Z.R) (.int .i64 Z.C) (.slice D6 m6 c6) (hE.2.mono (base':=w.heap.size+2) (by omega))
   have hlen6:=hE.1.len
   have hcap6:=hE.1.cap
   have hsm6:=hE.1.small
   have hok6:=hE.1.ok
   have hrow:=zd4 U (.cells #[.int .i64 (Z.R:Int),.int .i64 (Z.C:Int),.slice D6 m6 c6] 30) osa (osb++osz) da dz
   have hflat:=zjE ((w.alloc (Obj.cells #[.int .i64 0,.int .i64 0,.slice none 0 0] 30)).alloc (Obj.cells #[.int .i64 (Y.R:Int),.int .i64 (Y.C:Int),.slice E me ce] 30)) os osa (osb++osz) d da dz (.cells #[.int .i64 (Z.R:Int),.int .i64 (Z.C:Int),.slice D6 m6 c6] 30)
   rw [← HU.out] at hflat
   rw [hflat] at hSl hrow ⊢
   clear hE hflat c0 c1 c2 lc lu u0 u1 u2 hEu HUo
   generalize (os++osa).push (.cells #[.int .i64 (Z.R:Int),.int .i64 (Z.C:Int),.slice D6 m6 c6] 30)++(osb++osz)=os9 at *
   generalize U.heap.size+osa.size=pz at *
   clear HU hU2 hx
   have n0:=cell_of_row _ _ 0 _ _ _ hrow
   have n1:=cell_of_row _ _ 1 _ _ _ hrow
   have n2:=cell_of_row _ _ 2 _ _ _ hrow
   have ln:=zg n0
   clear hrow
   cases kk with
   | false =>
    have hJa:belowO Y a.x=none:=by have:=HK.out.2;cases hb:belowO Y a.x with
     | none=>rfl
     | some q=>rw [hb] at this;cases this
    obtain rfl:zf 5=X:=by
     rw [← HX.out]
     show zf 5=(zau belowO ⟨R0,C0,l0⟩ (ys.map Ar.x)).getD (zf 5)
     rw [← HS.out,hdr,ze4 hJa]
     try rfl
    clear HK hJa HS hdr HX hSl
    go_wp2_with (go_at_call 44;with_reducible refine aR (zE 5 (by omega) _) fun D m cc os5 d5 hD=>?_;have hDr:=hD.rd)
    exact rc1 rfl rfl (by simp [go_sem]) ⟨D,m,cc,rfl,ArrN.arr (base:=w.heap.size) ⟨(by (try simp only [ze,za] at hDr);(try simp only [ze,za]);(try simp only [zc] at hDr);(try simp only [zb] at hDr);(try simp only [Array.append_assoc] at hDr);exact hDr.sw (by simp <;> omega)),hD.len,hD.cap,hD.small,hD.ok⟩,by simp [go_sem],Or.inr (by (try simp only [ze,za] at hDr);(try simp only [ze,za]);(try simp only [zc] at hDr);(try simp only [zb] at hDr);(try simp only [Array.append_assoc] at hDr);exact hDr.sw (by simp <;> omega))⟩
   | true =>
    have hJa:belowO Y a.x=some Z:=by
     have h1:=HK.out.1
     have h2:=HK.out.2
     cases hb:belowO Y a.x with
     | none=>rw [hb] at h2;cases h2
     | some q=>rw [hb] at h1;exact congrArg some h1
    have hZr:=zgV hYr hok.right hJa
    have HS2:Hid (zau belowO Z ((ys.drop (k+1)).map Ar.x)=zau belowO ⟨R0,C0,l0⟩ (ys.map Ar.x)):=by
     show _=_
     rw [← HS.out,hdr,ze5 hJa]
    clear HK hJa HS hdr
    go_wp2_with fail
    refine ⟨⟨k+1,Z,D6,m6,c6,os9,_,by omega,by go_num,rfl,(show ArrIn _ _ _ _ _ from ⟨Rd.mono (Rd.swap (base':=0) hSl (by simp) (by simp) (Nat.zero_le _)) (Nat.le_refl _),hlen6,hcap6,hsm6,hok6⟩),(show _∨_ from Or.inr (Rd.swap (base':=w.heap.size+2) hSl (by simp) (by simp) (Nat.le_refl _))),hZr,HS2⟩,by simp [intOf];omega⟩
  ·obtain rfl:k+1=n:=by omega
   obtain rfl:Y=X:=by
    rw [← HX.out]
    show Y=(zau belowO ⟨R0,C0,l0⟩ (ys.map Ar.x)).getD (zf 5)
    rw [← HS.out,List.drop_of_length_le (by omega)];rfl
   have hEl:=HE.out.len
   have hEc:=HE.out.cap
   have hEs:=HE.out.small
   have hEo:=HE.out.ok
   rcases HB.out with hB | hB
   ·simp only [Ar.mk.injEq] at hB
    obtain ⟨rfl,rfl,rfl,rfl⟩:=hB
    go_wp2_with fail
    exact rc1 rfl rfl (by simp [go_sem]) ⟨_,_,_,rfl,HA.out.ext (by simp [go_sem]),by simp [go_sem],Or.inl ⟨_,List.mem_cons_self,rfl⟩⟩
   ·go_wp2_with fail
    exact rc1 rfl rfl (by simp [go_sem]) ⟨E,me,ce,rfl,⟨Rd.swap (base':=0) hB (by simp) (by simp) (Nat.zero_le _),hEl,hEc,hEs,hEo⟩,by simp [go_sem],Or.inr (Rd.swap (base':=w.heap.size) hB (by simp) (by simp) (by omega))⟩
theorem zkD (A:Option Addr) (n cap:Nat) (xs:List Ar) (w:World) (h:ArgsIn w A n cap xs) (h1:1≤n) (h2:n≤32):Calls prog 15 #[.string ⟨#[72,83,84,65,67,75]⟩,.slice A n cap] w (za6 w (zbY besideO xs)):=by
 have hsm:=h.small
 have hcap:=h.cap
 have q1:¬ n < 1:=by omega
 have q2:¬ 32 < n:=by omega
 have hst:=fun W (hW:ArgsIn W A n cap xs)=>zlo A n cap xs W hW h1
 obtain ⟨R0,C0,l0,b1,off1,n1,cap1,b,off,x0,_,rfl,⟨v0,v1,v2⟩,_,_,_,_,_,hbl,_,_,_,_,_⟩:=h.first (k:=0) (by omega)
 simp only [Nat.zero_mul,Nat.add_zero] at v0 v1 v2
 have H:=Lib.hid h
 clear h
 generalize zbY besideO xs=X at *
 go_enter func15,ntmps15
 go_wp2_with (go_at_call 43;with_reducible refine aM (zfX _) fun os1 d1=>?_)
 go_loopw [8] (fun i wr=>∃ k:Nat,k≤n∧i = .int .i64 k∧Ext (more (w.alloc (Obj.cells #[.int .i64 0,.int .i64 0,.slice none 0 0] 30)) os1 d1) wr) (fun i _=>n - (intOf i).toNat)
 case atStart=>exact ⟨0,Nat.zero_le _,rfl,Ext.refl _⟩
 case round =>
  obtain ⟨k,hk,rfl,hX⟩:=hrel
  obtain ⟨os,d,rfl⟩:=hX.more
  clear hX
  by_cases hlt:k < n
  ·obtain ⟨a,b',off',ha,hbo,⟨u0,u1,u2⟩,hok⟩:=H.out.at hlt
   obtain ⟨rfl,rfl⟩:=aI hbo
   have hra:=fun W (hW:ArrIn W a.A a.n a.cap a.x.l)=>zU a.x.R a.x.C a.A a.n a.cap a.x.l W hW
   rw [← zaA _ _ _ hok.arr.ok,show zo (a.x.R:Int) a.x.C a.x.l=true from hok.right] at hra
   have HOK:=Lib.hid hok.arr
   clear hok hst
   go_wp2_with (go_at_call 45;refine (hra _ (HOK.out.ext (by simp [go_sem]))).mono ?_;rintro e w' ⟨rfl,hb⟩;obtain ⟨os',d',rfl⟩:=hb.more;clear hb)
   exact ⟨⟨k+1,by omega,by go_num,by simp [go_sem]⟩,by simp [intOf];omega⟩
  ·go_wp2_with (go_at_call 50;(with_reducible refine (hst _ (H.out.ext (by simp [go_sem]))).mono ?_);rintro e w' ⟨D,m,cc,rfl,hN,hb,hD⟩;have hNl:=hN.len;have hNc:=hN.cap;have hNs:=hN.small;have hNo:=hN.ok;clear hN;obtain ⟨os5,d5,rfl⟩:=hb.more;clear hb)
   refine bodyPost_ret (v:=.tuple #[AV X.R X.C (.slice D m cc),.bool true]) (by simp [results,results15,go_sem]) rfl ⟨D,m,cc,rfl,?_,by simp [go_sem]⟩
   rcases hD with ⟨a,ha,rfl⟩ | hDr
   ·exact (H.out.all _ ha).arr.ext (by simp [go_sem])
   ·exact ArrN.arr (base:=w.heap.size) ⟨(by (try simp only [ze,za] at hDr);(try simp only [ze,za]);(try simp only [zc] at hDr);(try simp only [zb] at hDr);(try simp only [Array.append_assoc] at hDr);(try simp only [Array.append_assoc]);exact hDr.sw (by simp <;> omega)),hNl,hNc,hNs,hNo⟩
theorem zkE (A:Option Addr) (n cap:Nat) (xs:List Ar) (w:World) (h:ArgsIn w A n cap xs) (h1:1≤n) (h2:n≤32):Calls prog 15 #[.string ⟨#[86,83,84,65,67,75]⟩,.slice A n cap] w (za6 w (zbY belowO xs)):=by
 have hsm:=h.small
 have hcap:=h.cap
 have q1:¬ n < 1:=by omega
 have q2:¬ 32 < n:=by omega
 have hst:=fun W (hW:ArgsIn W A n cap xs)=>zlp A n cap xs W hW h1
 obtain ⟨R0,C0,l0,b1,off1,n1,cap1,b,off,x0,_,rfl,⟨v0,v1,v2⟩,_,_,_,_,_,hbl,_,_,_,_,_⟩:=h.first (k:=0) (by omega)
 simp only [Nat.zero_mul,Nat.add_zero] at v0 v1 v2
 have H:=Lib.hid h
 clear h
 generalize zbY belowO xs=X at *
 go_enter func15,ntmps15
 go_wp2_with (go_at_call 43;with_reducible refine aM (zfZ _) fun os1 d1=>?_)
 go_loopw [8] (fun i wr=>∃ k:Nat,k≤n∧i = .int .i64 k∧Ext (more (w.alloc (Obj.cells #[.int .i64 0,.int .i64 0,.slice none 0 0] 30)) os1 d1) wr) (fun i _=>n - (intOf i).toNat)
 case atStart=>exact ⟨0,Nat.zero_le _,rfl,Ext.refl _⟩
 case round =>
  obtain ⟨k,hk,rfl,hX⟩:=hrel
  obtain ⟨os,d,rfl⟩:=hX.more
  clear hX
  by_cases hlt:k < n
  ·obtain ⟨a,b',off',ha,hbo,⟨u0,u1,u2⟩,hok⟩:=H.out.at hlt
   obtain ⟨rfl,rfl⟩:=aI hbo
   have hra:=fun W (hW:ArrIn W a.A a.n a.cap a.x.l)=>zU a.x.R a.x.C a.A a.n a.cap a.x.l W hW
   rw [← zaA _ _ _ hok.arr.ok,show zo (a.x.R:Int) a.x.C a.x.l=true from hok.right] at hra
   have HOK:=Lib.hid hok.arr
   clear hok hst
   go_wp2_with (go_at_call 45;refine (hra _ (HOK.out.ext (by simp [go_sem]))).mono ?_;rintro e w' ⟨rfl,hb⟩;obtain ⟨os',d',rfl⟩:=hb.more;clear hb)
   exact ⟨⟨k+1,by omega,by go_num,by simp [go_sem]⟩,by simp [intOf];omega⟩
  ·go_wp2_with (go_at_call 50;(with_reducible refine (hst _ (H.out.ext (by simp [go_sem]))).mono ?_);rintro e w' ⟨D,m,cc,rfl,hN,hb,hD⟩;have hNl:=hN.len;have hNc:=hN.cap;have hNs:=hN.small;have hNo:=hN.ok;clear hN;obtain ⟨os5,d5,rfl⟩:=hb.more;clear hb)
   refine bodyPost_ret (v:=.tuple #[AV X.R X.C (.slice D m cc),.bool true]) (by simp [results,results15,go_sem]) rfl ⟨D,m,cc,rfl,?_,by simp [go_sem]⟩
   rcases hD with ⟨a,ha,rfl⟩ | hDr
   ·exact (H.out.all _ ha).arr.ext (by simp [go_sem])
   ·exact ArrN.arr (base:=w.heap.size) ⟨(by (try simp only [ze,za] at hDr);(try simp only [ze,za]);(try simp only [zc] at hDr);(try simp only [zb] at hDr);(try simp only [Array.append_assoc] at hDr);(try simp only [Array.append_assoc]);exact hDr.sw (by simp <;> omega)),hNl,hNc,hNs,hNo⟩
theorem zkF (A:Option Addr) (n cap:Nat) (gs:List GA) (w:World) (h:ArgsG w A n cap gs):Calls prog 9 #[.string ⟨#[72,83,84,65,67,75]⟩,.slice A n cap] w (zbM w (zI 1 32 gs (zbY besideO (zae gs)))) :=
 zaO ⟨#[72,83,84,65,67,75]⟩ 1 32 75 (fun p1 _=>#[.pointer (some ⟨p1,0,none⟩)]) (by decide) (fun _ _=>rfl) (fun args W=>by go_simp) (by decide) (by decide) A n cap gs w h _
  (fun hr h1 _ p1 p2 W hW hB=>zg6 29 besideO zpO (fun a b c ha hb hj=>zef ha hb hj) (fun args W=>by go_simp) p1 A n cap _ W ((zam h hr).ext hW) h1 (hB (p1,bxJ 29) (by simp [zgN])))
theorem zkG (A:Option Addr) (n cap:Nat) (gs:List GA) (w:World) (h:ArgsG w A n cap gs):Calls prog 9 #[.string ⟨#[86,83,84,65,67,75]⟩,.slice A n cap] w (zbM w (zI 1 32 gs (zbY belowO (zae gs)))) :=
 zaO ⟨#[86,83,84,65,67,75]⟩ 1 32 75 (fun _ p2=>#[.pointer (some ⟨p2,0,none⟩)]) (by decide) (fun _ _=>rfl) (fun args W=>by go_simp) (by decide) (by decide) A n cap gs w h _
  (fun hr h1 _ p1 p2 W hW hB=>zg6 42 belowO zrb (fun a b c ha hb hj=>zgV ha hb hj) (fun args W=>by go_simp) p2 A n cap _ W ((zam h hr).ext hW) h1 (hB (p2,bxJ 42) (by simp [zgN])))
theorem zbx (s:ByteArray) (lo hi:Nat) (h1:lo≤100) (h2:1≤hi) (h3:hi≤100) (hc:∀ W,Tl prog 43 #[.string s] W (.tuple #[.int .i64 lo,.int .i64 hi]))
  (F:NA) (A:Option Addr) (n cap:Nat) (gs:List GA) (w:World) (h:ArgsG w A n cap gs) (hy:ArgsIn w A n cap (zae gs)→lo≤n→n≤hi→Calls prog 15 #[.string s,.slice A n cap] w (za6 w F)) :
  Calls prog 15 #[.string s,.slice A n cap] w (za6 w (zI lo hi gs F)):=by
 have hl:=h.len
 by_cases q:n < lo∨hi < n
 ·rw [show zI lo hi gs F=zf 2 by unfold zI;rw [if_pos (by omega)]]
  exact zox s lo hi h1 h2 h3 hc A n cap gs w h q
 ·by_cases hr:∀ g∈gs,g.right=true
  ·rw [show zI lo hi gs F=F by unfold zI;rw [if_neg (by omega),if_pos (List.all_eq_true.2 hr)]]
   exact hy (zam h hr) (by omega) (by omega)
  ·rw [show zI lo hi gs F=zf 9 by unfold zI;rw [if_neg (by omega),if_neg (fun e=>hr (List.all_eq_true.1 e))]]
   exact zoy s lo hi h1 h2 h3 hc A n cap gs w h (by omega) (by omega) hr
theorem znd (A:Option Addr) (n cap:Nat) (gs:List GA) (w:World) (htab:Tab w) (h:ArgsG w A n cap gs):Tl prog 8 #[.string ⟨#[82,79,87,83]⟩,.slice A n cap] w (.bool true) :=   zaw ⟨#[82,79,87,83]⟩ A n cap w (zI 1 1 gs (zjF (zae gs))) (fun W hW=>zm9 A n cap gs W (htab.ext hW) (h.ext hW)) (fun W hW=>zbx _ 1 1 (by decide) (by decide) (by decide) (fun W'=>zg1 W') _ A n cap gs W (h.ext hW) (fun hi h1 h2=>by (obtain ⟨a,hx,hn,_⟩:=zcm hi h1 h2);rw [hx] at hi ⊢;subst hn;exact zna A cap a W hi))
theorem zjy (A:Option Addr) (n cap:Nat) (gs:List GA) (w:World) (htab:Tab w) (h:ArgsG w A n cap gs):Tl prog 8 #[.string ⟨#[67,79,76,85,77,78,83]⟩,.slice A n cap] w (.bool true) :=   zaw ⟨#[67,79,76,85,77,78,83]⟩ A n cap w (zI 1 1 gs (zjG (zae gs))) (fun W hW=>zjw A n cap gs W (htab.ext hW) (h.ext hW)) (fun W hW=>zbx _ 1 1 (by decide) (by decide) (by decide) (fun W'=>zfh W') _ A n cap gs W (h.ext hW) (fun hi h1 h2=>by (obtain ⟨a,hx,hn,_⟩:=zcm hi h1 h2);rw [hx] at hi ⊢;subst hn;exact zjx A cap a W hi))
theorem zh0 (A:Option Addr) (n cap:Nat) (gs:List GA) (w:World) (htab:Tab w) (h:ArgsG w A n cap gs):Tl prog 8 #[.string ⟨#[84,82,65,78,83,80,79,83,69]⟩,.slice A n cap] w (.bool true) :=   zaw ⟨#[84,82,65,78,83,80,79,83,69]⟩ A n cap w (zI 1 1 gs (zhU (zae gs))) (fun W hW=>zeG A n cap gs W (htab.ext hW) (h.ext hW)) (fun W hW=>zbx _ 1 1 (by decide) (by decide) (by decide) (fun W'=>zej W') _ A n cap gs W (h.ext hW) (fun hi h1 h2=>by (obtain ⟨a,hx,hn,_⟩:=zcm hi h1 h2);rw [hx] at hi ⊢;subst hn;exact zhX A cap a W hi))
theorem zlq (A:Option Addr) (n cap:Nat) (gs:List GA) (w:World) (htab:Tab w) (h:ArgsG w A n cap gs):Tl prog 8 #[.string ⟨#[84,79,82,79,87]⟩,.slice A n cap] w (.bool true) :=   zaw ⟨#[84,79,82,79,87]⟩ A n cap w (zI 1 1 gs (zhV (zae gs))) (fun W hW=>zlk A n cap gs W (htab.ext hW) (h.ext hW)) (fun W hW=>zbx _ 1 1 (by decide) (by decide) (by decide) (fun W'=>zgo W') _ A n cap gs W (h.ext hW) (fun hi h1 h2=>by (obtain ⟨a,hx,hn,_⟩:=zcm hi h1 h2);rw [hx] at hi ⊢;subst hn;exact zlm A cap a W hi))
theorem zlr (A:Option Addr) (n cap:Nat) (gs:List GA) (w:World) (htab:Tab w) (h:ArgsG w A n cap gs):Tl prog 8 #[.string ⟨#[84,79,67,79,76]⟩,.slice A n cap] w (.bool true) :=   zaw ⟨#[84,79,67,79,76]⟩ A n cap w (zI 1 1 gs (zhW (zae gs))) (fun W hW=>zll A n cap gs W (htab.ext hW) (h.ext hW)) (fun W hW=>zbx _ 1 1 (by decide) (by decide) (by decide) (fun W'=>zgn W') _ A n cap gs W (h.ext hW) (fun hi h1 h2=>by (obtain ⟨a,hx,hn,_⟩:=zcm hi h1 h2);rw [hx] at hi ⊢;subst hn;exact zln A cap a W hi))
theorem zkH (A:Option Addr) (n cap:Nat) (gs:List GA) (w:World) (htab:Tab w) (h:ArgsG w A n cap gs):Tl prog 8 #[.string ⟨#[72,83,84,65,67,75]⟩,.slice A n cap] w (.bool true) :=
 zaw ⟨#[72,83,84,65,67,75]⟩ A n cap w (zI 1 32 gs (zbY besideO (zae gs))) (fun W hW=>zkF A n cap gs W (h.ext hW)) (fun W hW=>zbx _ 1 32 (by decide) (by decide) (by decide) (fun W'=>zfX W') _ A n cap gs W (h.ext hW) (fun hi h1 h2=>zkD A n cap _ W hi h1 h2))
theorem zkI (A:Option Addr) (n cap:Nat) (gs:List GA) (w:World) (htab:Tab w) (h:ArgsG w A n cap gs):Tl prog 8 #[.string ⟨#[86,83,84,65,67,75]⟩,.slice A n cap] w (.bool true) :=
 zaw ⟨#[86,83,84,65,67,75]⟩ A n cap w (zI 1 32 gs (zbY belowO (zae gs))) (fun W hW=>zkG A n cap gs W (h.ext hW)) (fun W hW=>zbx _ 1 32 (by decide) (by decide) (by decide) (fun W'=>zfZ W') _ A n cap gs W (h.ext hW) (fun hi h1 h2=>zkE A n cap _ W hi h1 h2))
end Go.Proofs.YtkoidgbgoccgmaaGreatDoor
namespace Go.Proofs
open Go.Shelf
def Tryz.keys12_ren:Go.Shelf.Ren:=⟨fun | 7=>12 | 10=>22 | n=>n,fun | 23=>42 | 26=>9 | 3=>45 | 28=>40 | 0=>0 | 27=>39 | 33=>54 | 4=>4 | n=>n,fun | n=>n⟩
theorem Tryz.keys12:Go.Proofs.SlLaysZ.n7 prog Tryz.keys12_ren:={
 mixed:=by kernel_rfl
 f7:=⟨Tryz.f12.name,by decide,Tryz.func12.trans (congrArg some (by kernel_rfl))⟩
 f10:=⟨Tryz.f22.name,by decide,Tryz.func22.trans (congrArg some (by kernel_rfl))⟩
 t0:=Tryz.underlying0
 a0:=Tryz.isAgg0
 z0:=Tryz.sizeOf0
 v0:=Tryz.zeroValue0
 t4:=Tryz.underlying4
 a4:=Tryz.isAgg4
 z4:=Tryz.sizeOf4
 v4:=Tryz.zeroValue4
 t23:=Tryz.underlying42
 a23:=Tryz.isAgg42
 z23:=Tryz.sizeOf42
 v23:=Tryz.zeroValue42
 t26:=Tryz.underlying9
 a26:=Tryz.isAgg9
 z26:=Tryz.sizeOf9
 v26:=Tryz.zeroValue9
 t27:=Tryz.underlying39
 a27:=Tryz.isAgg39
 z27:=Tryz.sizeOf39
 v27:=Tryz.zeroValue39
 t28:=Tryz.underlying40
 a28:=Tryz.isAgg40
 z28:=Tryz.sizeOf40
 v28:=Tryz.zeroValue40
 t33:=Tryz.underlying54
 a33:=Tryz.isAgg54
 z33:=Tryz.sizeOf54
 v33:=Tryz.zeroValue54 }
def Tryz.sorted11_ren:Go.Shelf.Ren:=⟨fun | 6=>11 | 8=>20 | 9=>21 | 11=>62 | 13=>64 | 12=>63 | 23=>122 | 24=>123 | 14=>113 | 15=>114 | 16=>115 | 17=>116 | 18=>117 | 19=>118 | 20=>119 | 21=>120 | 22=>121 | 25=>151 | 26=>152 | 27=>153 | 28=>154 | 29=>155 | 30=>156 | 31=>187 | n=>n,fun | 26=>9 | 28=>40 | 24=>24 | 0=>0 | 3=>3 | 37=>78 | 48=>120 | 50=>122 | 4=>4 | 40=>113 | 39=>112 | 45=>89 | 5=>5 | 9=>9 | 51=>140 | 55=>144 | 57=>171 | 58=>62 | 33=>54 | n=>n,fun | n=>n⟩
theorem Tryz.sorted11:Go.Proofs.SlLaysZ.n6 prog Tryz.sorted11_ren:={
 mixed:=by kernel_rfl
 f6:=⟨Tryz.f11.name,by decide,Tryz.func11.trans (congrArg some (by kernel_rfl))⟩
 f8:=⟨Tryz.f20.name,by decide,Tryz.func20.trans (congrArg some (by kernel_rfl))⟩
 f11:=⟨Tryz.f62.name,by decide,Tryz.func62.trans (congrArg some (by kernel_rfl))⟩
 t0:=Tryz.underlying0
 a0:=Tryz.isAgg0
 z0:=Tryz.sizeOf0
 v0:=Tryz.zeroValue0
 t24:=Tryz.underlying24
 a24:=Tryz.isAgg24
 z24:=Tryz.sizeOf24
 v24:=Tryz.zeroValue24
 t26:=Tryz.underlying9
 a26:=Tryz.isAgg9
 z26:=Tryz.sizeOf9
 v26:=Tryz.zeroValue9
 t28:=Tryz.underlying40
 a28:=Tryz.isAgg40
 z28:=Tryz.sizeOf40
 v28:=Tryz.zeroValue40
 i26:=by kernel_rfl }
def Tryz.sort21_ren:Go.Shelf.Ren:=⟨fun | 6=>21 | 8=>64 | 9=>63 | 19=>122 | 20=>123 | 21=>113 | 22=>114 | 23=>115 | 24=>116 | 25=>117 | 26=>118 | 27=>119 | 28=>120 | 29=>121 | 36=>151 | 31=>152 | 32=>153 | 37=>154 | 38=>155 | 39=>156 | 41=>187 | n=>n,fun | 27=>24 | 29=>9 | 3=>3 | 32=>78 | 26=>24 | 0=>0 | 44=>120 | 46=>122 | 4=>4 | 36=>113 | 35=>112 | 41=>89 | 5=>5 | 9=>9 | 53=>140 | 57=>144 | 63=>171 | 64=>62 | n=>n,fun | n=>n⟩
theorem Tryz.sort21:Go.Proofs.SlLaysM.n6 prog Tryz.sort21_ren:={
 mixed:=by kernel_rfl
 f6:=⟨Tryz.f21.name,by decide,Tryz.func21.trans (congrArg some (by kernel_rfl))⟩
 f8:=Tryz.func64.trans (congrArg some (by kernel_rfl))
 f9:=⟨Tryz.f63.name,by decide,Tryz.func63.trans (congrArg some (by kernel_rfl))⟩
 f19:=Tryz.func122.trans (congrArg some (by kernel_rfl))
 f20:=Tryz.func123.trans (congrArg some (by kernel_rfl))
 f21:=⟨Tryz.f113.name,by decide,Tryz.func113.trans (congrArg some (by kernel_rfl))⟩
 f22:=⟨Tryz.f114.name,by decide,Tryz.func114.trans (congrArg some (by kernel_rfl))⟩
 f23:=⟨Tryz.f115.name,by decide,Tryz.func115.trans (congrArg some (by kernel_rfl))⟩
 f24:=⟨Tryz.f116.name,by decide,Tryz.func116.trans (congrArg some (by kernel_rfl))⟩
 f25:=⟨Tryz.f117.name,by decide,Tryz.func117.trans (congrArg some (by kernel_rfl))⟩
 f26:=⟨Tryz.f118.name,by decide,Tryz.func118.trans (congrArg some (by kernel_rfl))⟩
 f27:=⟨Tryz.f119.name,by decide,Tryz.func119.trans (congrArg some (by kernel_rfl))⟩
 f28:=⟨Tryz.f120.name,by decide,Tryz.func120.trans (congrArg some (by kernel_rfl))⟩
 f29:=⟨Tryz.f121.name,by decide,Tryz.func121.trans (congrArg some (by kernel_rfl))⟩
 f31:=Tryz.func152.trans (congrArg some (by kernel_rfl))
 f32:=Tryz.func153.trans (congrArg some (by kernel_rfl))
 f36:=⟨Tryz.f151.name,by decide,Tryz.func151.trans (congrArg some (by kernel_rfl))⟩
 f37:=⟨Tryz.f154.name,by decide,Tryz.func154.trans (congrArg some (by kernel_rfl))⟩
 f38:=⟨Tryz.f155.name,by decide,Tryz.func155.trans (congrArg some (by kernel_rfl))⟩
 f39:=⟨Tryz.f156.name,by decide,Tryz.func156.trans (congrArg some (by kernel_rfl))⟩
 f41:=⟨Tryz.f187.name,by decide,Tryz.func187.trans (congrArg some (by kernel_rfl))⟩
 t0:=Tryz.underlying0
 a0:=Tryz.isAgg0
 z0:=Tryz.sizeOf0
 v0:=Tryz.zeroValue0
 t3:=Tryz.underlying3
 a3:=Tryz.isAgg3
 z3:=Tryz.sizeOf3
 v3:=Tryz.zeroValue3
 t4:=Tryz.underlying4
 a4:=Tryz.isAgg4
 z4:=Tryz.sizeOf4
 v4:=Tryz.zeroValue4
 t5:=Tryz.underlying5
 a5:=Tryz.isAgg5
 z5:=Tryz.sizeOf5
 v5:=Tryz.zeroValue5
 t9:=Tryz.underlying9
 a9:=Tryz.isAgg9
 z9:=Tryz.sizeOf9
 v9:=Tryz.zeroValue9
 t26:=Tryz.underlying24
 a26:=Tryz.isAgg24
 z26:=Tryz.sizeOf24
 v26:=Tryz.zeroValue24
 t27:=Tryz.underlying24
 a27:=Tryz.isAgg24
 z27:=Tryz.sizeOf24
 v27:=Tryz.zeroValue24
 t29:=Tryz.underlying9
 a29:=Tryz.isAgg9
 z29:=Tryz.sizeOf9
 v29:=Tryz.zeroValue9
 t32:=Tryz.underlying78
 a32:=Tryz.isAgg78
 z32:=Tryz.sizeOf78
 v32:=Tryz.zeroValue78
 t35:=Tryz.underlying112
 a35:=Tryz.isAgg112
 z35:=Tryz.sizeOf112
 v35:=Tryz.zeroValue112
 t36:=Tryz.underlying113
 a36:=Tryz.isAgg113
 z36:=Tryz.sizeOf113
 v36:=Tryz.zeroValue113
 t41:=Tryz.underlying89
 a41:=Tryz.isAgg89
 z41:=Tryz.sizeOf89
 v41:=Tryz.zeroValue89
 t44:=Tryz.underlying120
 a44:=Tryz.isAgg120
 z44:=Tryz.sizeOf120
 v44:=Tryz.zeroValue120
 t46:=Tryz.underlying122
 a46:=Tryz.isAgg122
 z46:=Tryz.sizeOf122
 v46:=Tryz.zeroValue122
 t53:=Tryz.underlying140
 a53:=Tryz.isAgg140
 z53:=Tryz.sizeOf140
 v53:=Tryz.zeroValue140
 t57:=Tryz.underlying144
 a57:=Tryz.isAgg144
 z57:=Tryz.sizeOf144
 v57:=Tryz.zeroValue144
 t63:=Tryz.underlying171
 a63:=Tryz.isAgg171
 z63:=Tryz.sizeOf171
 v63:=Tryz.zeroValue171
 t64:=Tryz.underlying62
 a64:=Tryz.isAgg62
 z64:=Tryz.sizeOf62
 v64:=Tryz.zeroValue62 }
open Go.RowKit Go.Maps Go.Sort
theorem Tryz.sorts11 (m : Nat) : AnyZ.SortsIn prog Tryz.sorted11_ren Fence.wide m :=
  ⟨fun blk off cap ss W hH hblk hsz => callsIn_wide.2 (AnyM.slices_Sort_string Tryz.sort21 blk off cap ss W hH hblk hsz),
   fun p cap W => callsIn_wide.2 (AnyM.slices_Sort_string_none Tryz.sort21 p cap W)⟩
theorem Tryz.maps_Keys_12 (mb:Option Nat) (W:World):CallsIn Fence.wide 5 prog 12 #[.map mb] W fun e w'=>e = .returned (.func (.func 22) #[] #[.pointer (some ⟨W.heap.size,0,none⟩)])∧w'=W.alloc (.cells #[.map mb] 42) :=
 AnyZ.keys_in Tryz.keys12 Fence.wide 5 trivial rfl mb W
theorem Tryz.slices_Sorted_keys_11_12 {H:Type} (b nn:Nat) (D0:DataW H) (R:Value→Option (DataW H×List MemPlace)) (w:World) (hown:w.ownsMap prog 9 R b nn D0) (hmax:Maps.size D0≤maxLen) (hbytes:Maps.size D0 * 16≤140737488355328) :
  CallsIn Fence.wide 5 prog 11 #[.func (.func 22) #[] #[.pointer (some ⟨w.heap.size,0,none⟩)]] (w.alloc (.cells #[.map (some b)] 42)) fun e w'=>∃ (v:Value) (ss:List (List UInt8)),e = .returned v∧ss.Perm (strKeys D0) ∧
   w'.ownsRow (w.alloc (.cells #[.map (some b)] 42)).heap.size 9 1 v ss.length ((ss.mergeSort (fun x y=>decide (x≤y))).map encStr)∧(v = .slice none 0 0↔ss=[])∧Below (w.alloc (.cells #[.map (some b)] 42)).heap.size (w.alloc (.cells #[.map (some b)] 42)) w':=by
 have hbl:=hown.lt
 have hseq:SeqGives Fence.wide 2 prog 22 #[.pointer (some ⟨w.heap.size,0,none⟩)] encStr (fun ss=>ss.Perm (strKeys D0)) (Maps.size D0) (w.alloc (.cells #[.map (some b)] 42)) :=
  AnyZ.keys_gives (ρ:=Tryz.keys12_ren) { Tryz.keys12 with } Fence.wide _ trivial rfl (by omega) w.heap.size b nn D0 _ (by simp) (by simp) (by
   obtain ⟨es,clock,hb,Ft,hs,hD⟩:=hown
   exact ⟨es,clock,(Below.heap_alloc _ _ b hbl).trans hb,Ft,hs,hD⟩)
 exact AnyZ.sorted_in Tryz.sorted11 Fence.wide 5 trivial trivial trivial trivial rfl (by omega) (Tryz.sorts11 _) (enters_of func21 (by kernel_rfl) rfl) 22 #[.pointer (some ⟨w.heap.size,0,none⟩)] trivial (enters_of func22 (by kernel_rfl) rfl) _ _ hmax hbytes _ hseq
end Go.Proofs
namespace Go.Proofs.YtkoidgbgoccgmaaGreatDoor
open Tryz
open Go.Maps Go.RowKit Go.Shelf Go.Sort NM
theorem zkJ (p1 p2:Nat):Maps.size (zdb (zbw p1 p2))=14:=by kernel_rfl
theorem zp3 (p1 p2:Nat):strKeys (zdb (zbw p1 p2))=strKeys (zdb (zbw 0 0)):=by kernel_rfl
theorem zkK:(strKeys (zdb (zbw 0 0))).length=14:=by kernel_rfl
theorem zh1 (w:World) :
  Calls prog 5 #[] w fun e w'=>∃ (v:Value) (ss:List (List UInt8)),e = .returned v∧ss.Perm (strKeys (zdb (zbw 0 0)))∧w'.ownsRow w.heap.size 9 1 v 14 ((ss.mergeSort (fun x y=>decide (x≤y))).map encStr)∧Ext w w':=by
 refine (callsIn_wide (n:=6)).1 ?_
 have hfK:Fence.wide.fn 12:=trivial
 have hfS:Fence.wide.fn 11:=trivial
 have hfT:Fence.wide.fn 13:=trivial
 refine callsIn_of_wp func5 rfl trivial ?_ rfl
 simp only [ntmps5,List.size_toArray,List.length_cons,List.length_nil,Nat.reduceAdd,Nat.reduceSub,Array.replicate_succ,Array.replicate_zero,List.push_toArray,List.append_toArray,List.nil_append,List.cons_append]
 gi_wp2_with (first
  | (gi_at_call 13;refine (callsIn_wide.2 (zdi _)).mono ?_;rintro e w' ⟨bm,rfl,p1,p2,hT⟩)
  | (gi_at_call 12;refine (Tryz.maps_Keys_12 _ _).mono ?_;rintro e w' ⟨rfl,rfl⟩)
  | (gi_at_call 11;refine (Tryz.slices_Sorted_keys_11_12 bm _ _ zkg _ hT.tab (by rw [zkJ];decide) (by rw [zkJ];decide)).mono ?_;rintro e w' ⟨v,ss,rfl,hS,hrow,hnil,hb⟩))
 go_ret
 rw [zp3] at hS
 have hl:ss.length=14:=by rw [hS.length_eq,zkK]
 rw [hl] at hrow
 have hx:=hT.ext
 refine ⟨v,ss,rfl,hS,ownsRow_base_a hrow (by have:=hx.size;simp;omega),hx.trans (((Ext.refl _).alloc _).trans hb)⟩
end Go.Proofs.YtkoidgbgoccgmaaGreatDoor
namespace Go.Proofs.YtkoidgbgoccgmaaGreatDoor
open Tryz
open Go.RowKit NM
theorem zp4 (a b:Int):sgI b a = - sgI a b:=by
 unfold sgI
 by_cases h:a < b
 ·rw [if_pos h,if_neg (by omega),if_pos h];rfl
 ·rw [if_neg h]
  by_cases h':b < a
  ·rw [if_pos h',if_neg h,if_pos h']
  ·rw [if_neg h',if_neg h,if_neg h'];rfl
theorem zp5 (a b:Bool):sgB b a = - sgB a b:=by cases a <;> cases b <;> rfl
theorem zoD (a b:ByteArray):zeV b a = - zeV a b:=zlX _ _
theorem zc2 {a b:Val} (h:a.kind=b.kind):zdo a b=if a.kind=1 then zbN a.mant a.exp b.mant b.exp else if a.kind=2 then zeV a.text b.text else if a.kind=3 then sgB a.truth b.truth else if a.kind=4 then sgI a.fault b.fault else 0:=by
 unfold zdo
 rw [if_neg (fun h'=>h' h)]
theorem zoE (a b:Val):zdo b a = - zdo a b:=by
 by_cases h:a.kind=b.kind
 ·rw [zc2 h,zc2 h.symm,← h]
  by_cases h1:a.kind=1
  ·rw [if_pos h1,if_pos h1];exact zpC _ _ _ _
  ·rw [if_neg h1,if_neg h1]
   by_cases h2:a.kind=2
   ·rw [if_pos h2,if_pos h2];exact zoD _ _
   ·rw [if_neg h2,if_neg h2]
    by_cases h3:a.kind=3
    ·rw [if_pos h3,if_pos h3];exact zp5 _ _
    ·rw [if_neg h3,if_neg h3]
     by_cases h4:a.kind=4
     ·rw [if_pos h4,if_pos h4];exact zp4 _ _
     ·rw [if_neg h4,if_neg h4];rfl
 ·unfold zdo
  rw [if_pos (fun h'=>h h'.symm),if_pos h]
  by_cases h2:a.kind < b.kind
  ·rw [if_pos h2,if_neg (by omega)];rfl
  ·rw [if_neg h2,if_pos (by omega)]
theorem zc3 (a b:Val):zaR b a = - zaR a b:=zoE _ _
def Tri (n:Int):Prop:=n = -1∨n=0∨n=1
theorem zrg (a b:Int):Tri (sgI a b):=by
 unfold sgI Tri;split
 ·exact Or.inl rfl
 ·split
  ·exact Or.inr (Or.inr rfl)
  ·exact Or.inr (Or.inl rfl)
theorem zp6 (a b c d:Int):Tri (zbN a b c d):=by
 have:=zrB a b c d
 unfold Tri;omega
theorem zp7 (a b:Val):Tri (zdo a b):=by
 by_cases h:a.kind=b.kind
 ·rw [zc2 h]
  by_cases h1:a.kind=1
  ·rw [if_pos h1];exact zp6 _ _ _ _
  ·rw [if_neg h1]
   by_cases h2:a.kind=2
   ·rw [if_pos h2];exact zis _ _
   ·rw [if_neg h2]
    by_cases h3:a.kind=3
    ·rw [if_pos h3]
     cases a.truth <;> cases b.truth <;> (unfold Tri sgB;simp)
    ·rw [if_neg h3]
     by_cases h4:a.kind=4
     ·rw [if_pos h4];exact zrg _ _
     ·rw [if_neg h4];exact Or.inr (Or.inl rfl)
 ·unfold zdo
  rw [if_pos h]
  split
  ·exact Or.inl rfl
  ·exact Or.inr (Or.inr rfl)
theorem zp8 (a b:Val):Tri (zaR a b):=zp7 _ _
theorem zne {m e:Int} (h:Rt m e) (he:0≤e):zN m e=(m,e):=by
 unfold zN
 rw [if_neg (fun h'=>h' h),if_pos he]
theorem zoF {n:Int} (h:n.natAbs < T 15):zby (zJ n).1 (zJ n).2=some n:=by
 obtain ⟨h1,h2,h3,h4,h5⟩:=zeg h
 generalize zJ n=p at *
 obtain ⟨m,e⟩:=p
 simp only at *
 have hH:=zoi
 have hq:m * (T e.toNat:Nat)=n:=by
  rw [zkq h5,zkq (m:=n) (e:=0) (by omega)] at h3
  have h6:=Int.eq_of_mul_eq_mul_right (by omega) h3
  rw [h6]
  show n * ((T 0:Nat):Int)=n
  simp [T]
 have hT15:T 15=1000000000000000:=by decide
 rw [hT15] at h
 unfold zby
 rw [if_neg (by rintro (h | h);exact h h2;omega),zoj _ _ (by rw [hq];omega),hq]
theorem zoG {n:Int} (h:n.natAbs < T 15):zci (zV n)=(n,0):=by
 obtain ⟨h1,h2,h3,h4,h5⟩:=zeg h
 have hi:=zoF h
 have h6:tnF (zV n)=0:=rfl
 have h7:tnP (zV n)=((zJ n).1,(zJ n).2):=rfl
 unfold zci
 rw [if_pos h6,h7]
 simp only
 rw [zne h2 h5]
 simp only
 rw [hi]
 rfl
theorem zjz {a b c:Val} (ha:a.right) (hb:b.right) (hc:c.right) (h1:a.kind=b.kind) (h2:b.kind=c.kind) (hab:zaR a b≤0) (hbc:zaR b c≤0):zaR a c≤0:=by
 rw [zga h1] at hab
 rw [zga h2] at hbc
 rw [zga (h1.trans h2)]
 rw [zc2 h1] at hab
 rw [zc2 h2] at hbc
 rw [zc2 (h1.trans h2)]
 rw [← h1] at hbc
 by_cases k1:a.kind=1
 ·rw [if_pos k1] at hab hbc ⊢
  have ra:=ha.rt k1
  have rb:=hb.rt (by omega)
  have rc:=hc.rt (by omega)
  rw [zj7 ra rb] at hab
  rw [zj7 rb rc] at hbc
  rw [zj7 ra rc];omega
 ·rw [if_neg k1] at hab hbc ⊢
  by_cases k2:a.kind=2
  ·rw [if_pos k2] at hab hbc ⊢
   exact zj8 hab hbc
  ·rw [if_neg k2] at hab hbc ⊢
   by_cases k3:a.kind=3
   ·rw [if_pos k3] at hab hbc ⊢
    revert hab hbc
    cases a.truth <;> cases b.truth <;> cases c.truth <;> decide
   ·rw [if_neg k3] at hab hbc ⊢
    by_cases k4:a.kind=4
    ·rw [if_pos k4] at hab hbc ⊢
     unfold sgI at *
     (repeat' split at hab) <;> (repeat' split at hbc) <;> (repeat' split) <;> omega
    ·rw [if_neg k4];omega
theorem zkL (s:ByteArray) (hs:s.size≤maxLen) (hl:∀ p1 p2,zbU (zbw p1 p2) s.data.toList=none) (A:Option Addr) (n cap:Nat) (w:World) :
  Tl prog 9 #[.string s,.slice A n cap] w (.tuple #[AV 0 0 (.slice none 0 0),.bool false]):=by
 go_enter func9,ntmps9
 go_wp2_with (first | (go_at_call 13;(with_reducible refine (zdi _).mono ?_);rintro e w' ⟨bm,rfl,p1,p2,hT⟩;have hxT:=hT.ext;have ht:=hl p1 p2;have HT:=Lib.hid ht;clear ht;obtain ⟨os1,d1,rfl⟩:=hxT.more) | (refine zfr rfl _ _ _ rfl 9 45 Tryz.underlying9 Tryz.underlying42 _ _ rfl (hT.tab.ext (by simp [go_sem])) (zdh _ _) _ (zfH _) _ rfl hs (.agg #[.int .i64 0,.int .i64 0,.nilFunc]) false (by rw [HT.out];rfl) (by rw [HT.out];rfl) ?_))
 exact rct rfl rfl (by simp [go_sem]) ⟨rfl,by simp [go_sem]⟩
def zaI (k:Int):Val:=⟨1,k,0,⟨#[]⟩,false,0⟩
theorem zp9:Rt 2 0:=Or.inr ⟨by decide,by decide,by decide,by decide,by have h:=(nd_le_iff 2 1).2 (by decide);show ((nd 2:Nat):Int)+0≤40;omega⟩
theorem znf:Rt 3 0:=Or.inr ⟨by decide,by decide,by decide,by decide,by have h:=(nd_le_iff 3 1).2 (by decide);show ((nd 3:Nat):Int)+0≤40;omega⟩
theorem zrR:Rt 4 0:=Or.inr ⟨by decide,by decide,by decide,by decide,by have h:=(nd_le_iff 4 1).2 (by decide);show ((nd 4:Nat):Int)+0≤40;omega⟩
theorem zsx:addS 1 0 1 0=some (2,0):=by
 unfold addS;rw [if_pos ⟨zc7,zc7⟩];exact rnd_of_right false zp9
theorem zsy:addS 2 0 1 0=some (3,0):=by
 unfold addS;rw [if_pos ⟨zp9,zc7⟩];exact rnd_of_right false znf
theorem zsz:addS 3 0 1 0=some (4,0):=by
 unfold addS;rw [if_pos ⟨znf,zc7⟩];exact rnd_of_right false zrR
theorem zsA:zaL (1,0) (1,0) 3=some ([zaI 1,zaI 2,zaI 3,zaI 4],(4,0)):=by
 simp only [zaL,zsx,zsy,zsz];rfl
theorem zsB:zV 3=zaI 3:=by
 have h:zJ 3=(3,0):=by
  have:rndI 3 0=some (3,0):=rnd_of_right false znf
  unfold zJ;rw [this];rfl
 unfold zV;rw [h];rfl
theorem zjh {y:Val} (h:y.kind=1) (D:Option Addr) (m c:Nat) (xs:List Ar) (k:Nat) (hk:xs[k]? = some (zcL (zao y) D m c)):zA xs k=true∧ze3 xs k=y:=by
 have hv:zk (zcL (zao y) D m c).x.l 0=y:=rfl
 constructor
 ·unfold zA;rw [hk];simp only;rw [hv,h];rfl
 ·unfold ze3;rw [hk];exact hv
theorem zrS (D1 D2:Option Addr) (m1 c1 m2 c2:Nat):zbG [zcL (zao (zV 2)) D1 m1 c1,zcL (zao (zV 2)) D2 m2 c2]=⟨2,2,[zaI 1,zaI 2,zaI 3,zaI 4]⟩:=by
 obtain ⟨g0,a0⟩:=zjh (y:=zV 2) rfl D1 m1 c1 [zcL (zao (zV 2)) D1 m1 c1,zcL (zao (zV 2)) D2 m2 c2] 0 rfl
 obtain ⟨g1,a1⟩:=zjh (y:=zV 2) rfl D2 m2 c2 [zcL (zao (zV 2)) D1 m1 c1,zcL (zao (zV 2)) D2 m2 c2] 1 rfl
 have hw:zci (zV 2)=(2,0):=zoG (n:=2) (by decide)
 unfold zbG zu tnO
 rw [g0,g1,a0,a1,hw]
 rw [show zA [zcL (zao (zV 2)) D1 m1 c1,zcL (zao (zV 2)) D2 m2 c2] 2=false from rfl,show zA [zcL (zao (zV 2)) D1 m1 c1,zcL (zao (zV 2)) D2 m2 c2] 3=false from rfl]
 simp only [if_true,Bool.false_eq_true,if_false]
 unfold zaM
 simp only [ne_eq,not_true,if_false]
 rw [if_neg (by decide),if_neg (by decide)]
 rw [show (2:Int).toNat * (2:Int).toNat - 1=3 from rfl,zsA]
 rfl
def awL:List Val:=[zaI 1,zaI 2,zaI 3,zaI 4]
theorem zqa:NA.right ⟨2,2,awL⟩:=by
 refine zi.2 ⟨by decide,by decide,by decide,rfl,fun x hx=>?_⟩
 simp only [awL,List.mem_cons,List.not_mem_nil,or_false] at hx
 rcases hx with rfl | rfl | rfl | rfl
 ·exact zbT zc7
 ·exact zbT zp9
 ·exact zbT znf
 ·exact zbT zrR
theorem zrh (D:Option Addr) (m c:Nat):zhU [zcL ⟨2,2,awL⟩ D m c]=⟨2,2,[zaI 1,zaI 3,zaI 2,zaI 4]⟩:=by
 show (⟨2,2,zT 2 2 awL⟩:NA)=_
 rw [show zT 2 2 awL=[zaI 1,zaI 3,zaI 2,zaI 4] by simp [zT,zC,awL,zk,List.range,List.range.loop]]
theorem zng (A:Option Addr) (w:World) (htab:Tab w) (D1 D2:Option Addr) (m1 c1 m2 c2:Nat) (h:ArgsIn w A 2 2 [zcL (zao (zV 2)) D1 m1 c1,zcL (zao (zV 2)) D2 m2 c2]) :
  Calls prog 9 #[.string ⟨#[83,69,81,85,69,78,67,69]⟩,.slice A 2 2] w (zbM w ⟨2,2,awL⟩):=by
 have hc:=zfi A 2 2 _ w htab h.toG
 rw [zjg,zkB _ (by simp) (by simp) (fun a ha=>(h.all a ha).right),zrS] at hc
 exact hc
theorem znh (A:Option Addr) (w:World) (htab:Tab w) (D1:Option Addr) (m1 c1:Nat) (h:ArgsIn w A 1 1 [zcL ⟨2,2,awL⟩ D1 m1 c1]) :
  Calls prog 9 #[.string ⟨#[84,82,65,78,83,80,79,83,69]⟩,.slice A 1 1] w (zbM w ⟨2,2,[zaI 1,zaI 3,zaI 2,zaI 4]⟩):=by
 have hc:=zeG A 1 1 _ w htab h.toG
 rw [zjg,zkB _ (by simp) (by simp) (fun a ha=>(h.all a ha).right),zrh] at hc
 exact hc
theorem zls (W:World):Calls prog 10 #[.int .i64 3] W fun e w'=>∃ b9 off9 c9,e = .returned (AV 1 1 (.slice (some ⟨b9,off9,none⟩) 1 c9))∧zen w' b9 off9 (zaI 3)∧1≤c9∧Ext W w':=by
 have h:=zjf 3 W (by decide)
 rw [zsB] at h
 refine h.mono ?_
 rintro e w' ⟨D,m,c,rfl,hN,hb⟩
 have hA:=hN.arr
 obtain rfl:1=m:=hA.len
 obtain ⟨x,b,off,hx,_,rfl,hv⟩:=hA.at (k:=0) (by decide)
 obtain rfl:zaI 3=x:=by simpa [zao] using hx
 rw [Nat.zero_mul,Nat.add_zero] at hv
 exact ⟨b,off,c,rfl,hv,hA.cap,hb⟩
theorem zlt (w:World) (htab:Tab w) :
  Tl prog 4 #[] w (.bool true):=by
 have h2:=fun W=>zjf 2 W (by decide)
 have r2:=zm8 (zdA (n:=2) (by decide))
 have hq:=fun W A hT D1 D2 m1 c1 m2 c2 h=>zng A W hT D1 D2 m1 c1 m2 c2 h
 generalize zV 2=y2 at *
 have HT:=Lib.hid htab
 clear htab
 go_enter func4,ntmps4
 go_wp2_with fail
 (go_at_call 10;(with_reducible refine (h2 _).mono ?_);rintro e w' ⟨D1,m1,c1,rfl,hN1,hb⟩;obtain ⟨os1,d1,rfl⟩:=hb.more;clear hb;have hA1:=hN1.arr;(try simp only [za,Array.append_assoc] at hA1))
 go_wp2_with fail
 (go_at_call 10;(with_reducible refine (h2 _).mono ?_);rintro e w' ⟨D2,m2,c2,rfl,hN2,hb⟩;obtain ⟨os2,d2,rfl⟩:=hb.more;clear hb;have hA2:=hN2.arr;(try simp only [za,Array.append_assoc] at hA2))
 go_wp2_with fail
 refine (hq _ _ (HT.out.ext (by simp [go_sem])) D1 D2 m1 c1 m2 c2 (zje _ (by simp) rfl rfl (by decide) (by intro a ha;simp only [List.mem_cons,List.not_mem_nil,or_false] at ha;rcases ha with rfl | rfl;exact ⟨hA1.ext (by simp [go_sem]),r2⟩;exact ⟨hA2.ext (by simp [go_sem]),r2⟩))).mono ?_
 rintro e w' ⟨D4,m4,c4,rfl,hN4,hb⟩
 obtain ⟨os4,d4,rfl⟩:=hb.more
 clear hb
 have hA4:=hN4.arr
 (try simp only [za,Array.append_assoc] at hA4)
 have hm4:=hA4.len
 obtain rfl:4=m4:=hm4
 clear hN4 hA1 hA2 hN1 hN2
 go_wp2_with fail
 refine (znh _ _ (HT.out.ext (by simp [go_sem])) D4 4 c4 (zje _ (by simp) rfl rfl (by decide) (by intro a ha;obtain rfl:=List.mem_singleton.1 ha;exact ⟨hA4.ext (by simp [go_sem]),zqa⟩))).mono ?_
 rintro e w' ⟨D5,m5,c5,rfl,hN5,hb⟩
 obtain ⟨os5,d5,rfl⟩:=hb.more
 clear hb
 have hA5:=hN5.arr
 (try simp only [za,Array.append_assoc] at hA5)
 have hm5:=hA5.len
 obtain rfl:4=m5:=hm5
 clear hN5
 go_wp2_with fail
 refine (zkL ⟨#[83,85,77]⟩ (by decide) (fun _ _=>rfl) _ _ _ _).mono ?_
 rintro e w' ⟨rfl,hb⟩
 obtain ⟨os6,d6,rfl⟩:=hb.more
 clear hb
 go_upto_region 4 with fail
 refine zz fun W0 hW0=>?_
 have hx0:Ext w W0:=by rw [hW0];exact (by simp [go_sem])
 have hA0:ArrIn W0 D5 4 c5 [zaI 1,zaI 3,zaI 2,zaI 4]:=by rw [hW0];exact hA5.ext (by simp [go_sem])
 have a2:W0.cell? ⟨w.heap.size+(os1.size+os2.size)+1+os4.size,2,none⟩=some (.slice D4 4 c4):=by rw [hW0];go_simp
 have b2:W0.cell? ⟨w.heap.size+(os1.size+os2.size)+1+os4.size+1+1+os5.size,2,none⟩=some (.slice D5 4 c5):=by rw [hW0];go_simp
 have hla:=zg a2
 have hlb:=zg b2
 clear hW0 hA4 hA5
 generalize w.heap.size+(os1.size+os2.size)+1+os4.size+1+1+os5.size=pb at *
 generalize w.heap.size+(os1.size+os2.size)+1+os4.size=pa at *
 obtain ⟨x5,b5,off5,hx5,_,rfl,⟨y0,y1,y2',y3,y4,y5⟩⟩:=hA0.at (k:=1) (by decide)
 obtain rfl:zaI 3=x5:=by simpa using hx5
 have hl5:=zg y0
 have hc5:=hA0.cap
 clear hA0 hx5
 simp only [zaI] at y0 y1 y2' y3 y4 y5
 refine plP [(0,0),(1,0),(2,0),(3,0),(4,0),(5,0),(6,0),(7,0),(8,0),(9,0),(10,0),(11,0),(12,0),(13,0),(14,0),(15,0),(16,0),(17,0),(18,0),(19,0),(20,0),(21,0),(22,0),(23,0),(24,0),(25,1),(26,0),(27,0),(28,1),(29,0),(30,0),(31,0),(32,1),(33,0),(34,0),(35,0),(36,0)] [] (by kernel_rfl) (fun _ _ d _ _ h=>by cases d <;> exact h) ?_
 iterate 25 ((first | refine z8 rfl rfl ?_ | refine zat rfl rfl rfl rfl rfl rfl ?_ | refine zaz rfl rfl rfl rfl rfl rfl ?_ | (apply rdP rfl rfl;(intros;go_simp;first | done | rfl)) | (refine zS (v:=?_) (c:=?_) rfl rfl rfl rfl ?_ (fun hc w1 h1=>?_) ?_;rotate_left 2;(first | exact zak _ | exact zal _ | exact zQ _ _ | exact zR _ _);(obtain ⟨os1,d1,rfl⟩:=h1.more;(try simp only [zn hc]);(try (have hc1:=zx hc;(try simp only [zn hc1]);(try (have hc2:=zx hc1;(try simp only [zn hc2])))));go_simp;first | done | rfl)));try simp only [zq])
 (refine zh rfl ?_ (fun K hK=>?_);(first | with_reducible rfl | rfl | (go_simp;done));go_simp;refine (zls _).mono ?_;rintro e w' ⟨b9,off9,c9,rfl,⟨z0,z1,z2,z3,z4,z5⟩,hc9,hb⟩;have hl9:=zg z0;(simp only [zaI] at z0 z1 z2 z3 z4 z5);obtain ⟨os9,d9,rfl⟩:=hb.more;clear hb;(try simp only [zc] at z0 z1 z2 z3 z4 z5);(try simp only [zf2] at hl9);refine hK _ _ ?_ ?_;(simp [go_sem]))
 try simp only [zq]
 iterate 2 ((first | refine z8 rfl rfl ?_ | (apply rdP rfl rfl;(intros;go_simp;first | done | rfl)) | (refine zS (v:=?_) (c:=?_) rfl rfl rfl rfl ?_ (fun hc w1 h1=>?_) ?_;rotate_left 2;(first | exact zak _ | exact zal _ | exact zQ _ _ | exact zR _ _);(obtain ⟨os1,d1,rfl⟩:=h1.more;(try simp only [zn hc]);(try (have hc1:=zx hc;(try simp only [zn hc1]);(try (have hc2:=zx hc1;(try simp only [zn hc2])))));go_simp;first | done | rfl)));try simp only [zq])
 first | (refine za8 rfl ?_ ?_ ?_;(first | with_reducible rfl | rfl | (go_simp;done));(simp [go_sem])) | (refine zh rfl ?_ (fun K hK=>?_);(first | with_reducible rfl | rfl | (go_simp;done));go_simp;refine hK _ _ ?_ ?_;(simp [go_sem]))
 try simp only [zq]
 iterate 3 ((first | refine z8 rfl rfl ?_ | refine zat rfl rfl rfl rfl rfl rfl ?_ | refine zaz rfl rfl rfl rfl rfl rfl ?_ | (apply rdP rfl rfl;(intros;go_simp;first | done | rfl)) | (refine zS (v:=?_) (c:=?_) rfl rfl rfl rfl ?_ (fun hc w1 h1=>?_) ?_;rotate_left 2;(first | exact zak _ | exact zal _ | exact zQ _ _ | exact zR _ _);(obtain ⟨os1,d1,rfl⟩:=h1.more;(try simp only [zn hc]);(try (have hc1:=zx hc;(try simp only [zn hc1]);(try (have hc2:=zx hc1;(try simp only [zn hc2])))));go_simp;first | done | rfl)));try simp only [zq])
 (refine zh rfl ?_ (fun K hK=>?_);(first | with_reducible rfl | rfl | (go_simp;done));go_simp;refine (zh1 _).mono ?_;rintro e w' ⟨v,ss,rfl,hS,hrow,hb⟩;obtain ⟨A10,c10,rfl⟩:=za5 hrow;obtain ⟨os10,d10,rfl⟩:=hb.more;clear hb hrow hS;refine hK _ _ ?_ ?_;(simp [go_sem]))
 try simp only [zq]
 iterate 4 ((first | refine z8 rfl rfl ?_ | refine zat rfl rfl rfl rfl rfl rfl ?_ | refine zaz rfl rfl rfl rfl rfl rfl ?_ | (apply rdP rfl rfl;(intros;go_simp;first | done | rfl)) | (refine zS (v:=?_) (c:=?_) rfl rfl rfl rfl ?_ (fun hc w1 h1=>?_) ?_;rotate_left 2;(first | exact zak _ | exact zal _ | exact zQ _ _ | exact zR _ _);(obtain ⟨os1,d1,rfl⟩:=h1.more;(try simp only [zn hc]);(try (have hc1:=zx hc;(try simp only [zn hc1]);(try (have hc2:=zx hc1;(try simp only [zn hc2])))));go_simp;first | done | rfl)));try simp only [zq])
 refine zj ?_
 go_wp2_with fail
 go_ret
 exact ⟨rfl,hx0.trans (by simp [go_sem])⟩
theorem zni (A:Option Addr) (n cap:Nat) (gs:List GA) (w:World) (h:ArgsG w A n cap gs):Calls prog 9 #[.string ⟨#[84,65,75,69]⟩,.slice A n cap] w (zbM w (zI 1 3 gs (zeA (zae gs)))) :=
 zaO ⟨#[84,65,75,69]⟩ 1 3 34 (fun _ _=>#[]) (by decide) (fun _ _=>rfl) (fun args W=>by go_simp) (by decide) (by decide) A n cap gs w h _ (fun hr h1 _ p1 p2 W hW _=>zoB A n cap _ W ((zam h hr).ext hW) h1)
theorem znj (A:Option Addr) (n cap:Nat) (gs:List GA) (w:World) (h:ArgsG w A n cap gs):Calls prog 9 #[.string ⟨#[68,82,79,80]⟩,.slice A n cap] w (zbM w (zI 1 3 gs (zeB (zae gs)))) :=
 zaO ⟨#[68,82,79,80]⟩ 1 3 26 (fun _ _=>#[]) (by decide) (fun _ _=>rfl) (fun args W=>by go_simp) (by decide) (by decide) A n cap gs w h _ (fun hr h1 _ p1 p2 W hW _=>zoC A n cap _ W ((zam h hr).ext hW) h1)
theorem zoH (A:Option Addr) (n cap:Nat) (gs:List GA) (w:World) (h:ArgsG w A n cap gs):Tl prog 8 #[.string ⟨#[84,65,75,69]⟩,.slice A n cap] w (.bool true) :=
 zaw ⟨#[84,65,75,69]⟩ A n cap w (zI 1 3 gs (zeA (zae gs))) (fun W hW=>zni A n cap gs W (h.ext hW)) (fun W hW=>zbx _ 1 3 (by decide) (by decide) (by decide) (fun W'=>zg3 W') _ A n cap gs W (h.ext hW) (fun hi h1 h2=>znb A n cap _ W hi h1 h2))
theorem zoI (A:Option Addr) (n cap:Nat) (gs:List GA) (w:World) (h:ArgsG w A n cap gs):Tl prog 8 #[.string ⟨#[68,82,79,80]⟩,.slice A n cap] w (.bool true) :=
 zaw ⟨#[68,82,79,80]⟩ A n cap w (zI 1 3 gs (zeB (zae gs))) (fun W hW=>znj A n cap gs W (h.ext hW)) (fun W hW=>zbx _ 1 3 (by decide) (by decide) (by decide) (fun W'=>zg0 W') _ A n cap gs W (h.ext hW) (fun hi h1 h2=>znc A n cap _ W hi h1 h2))
theorem zkM (a b:Array Obj) (o:Obj) (c:Array Obj):(a++b).push o++c=a++(b.push o++c):=by
 apply Array.ext';simp
theorem zdj (W:World):Tl prog 48 #[.int .i64 1] W (NV 1 0):=by
 have h:=zfI 1 W (by decide)
 rw [show zJ 1=(1,0) by unfold zJ;rw [show rndI 1 0=some (1,0) from rnd_of_right false zc7];rfl] at h
 exact h
theorem zoJ {w:World} {A:Option Addr} {n cap k:Nat} {xs:List Ar} (h:ArgsIn w A n cap xs):(tnO xs k).2=0∨(1≤(tnO xs k).2∧(tnO xs k).2≤9):=by
 unfold tnO
 cases hg:zA xs k with
 | false=>left;rfl
 | true=>rw [if_pos rfl];exact zor (zfG h hg)
def zsL (a s:(Int×Int)×Int) (j x1 x2 y1 y2:Int):Prop :=
 (j=0→x1=1∧x2=0∧y1=1∧y2=0)∧(j=1→a=((x1,x2),0)∧y1=1∧y2=0)∧(j=2→a=((x1,x2),0)∧s=((y1,y2),0))
def zqw (a s:Int×Int):Nat→List Val→Int×Int→Prop
 | 0,L,p=>L=[]∧p=a
 | k+1,L,p=>zaL a s k=some (L,p)
theorem zqb (A:Option Addr) (n cap:Nat) (xs:List Ar) (w:World) (h:ArgsIn w A n cap xs) :
  Calls prog 52 #[.slice A n cap] w fun e w'=>zan w (zbG xs) e w':=by
 have n0:=fun W (hW:ArgsIn W A n cap xs)=>zbR A n cap xs 0 1 W hW _ rfl
 have n1:=fun W (hW:ArgsIn W A n cap xs)=>zbR A n cap xs 1 1 W hW _ rfl
 have v2:=fun W (hW:ArgsIn W A n cap xs)=>zdu A n cap xs 2 W hW _ rfl
 have v3:=fun W (hW:ArgsIn W A n cap xs)=>zdu A n cap xs 3 W hW _ rfl
 have f1:=zd2 (k:=0) (l:=1) h
 have f2:=zd2 (k:=1) (l:=1) h
 have f3:=zoJ (k:=2) h
 have f4:=zoJ (k:=3) h
 have H:=Lib.hid h
 unfold zbG
 generalize zu xs 0 1=mm at *
 generalize zu xs 1 1=kk at *
 obtain ⟨mi,mf⟩:=mm
 obtain ⟨ki,kf⟩:=kk
 simp only [show ((0:Nat):Int)=0 from rfl,show ((1:Nat):Int)=1 from rfl,show ((2:Nat):Int)=2 from rfl,show ((3:Nat):Int)=3 from rfl] at n0 n1 v2 v3 f1 f2
 clear h
 by_cases hmf:mf=0
 ·subst hmf
  by_cases hkf:kf=0
  ·subst hkf
   have har:=zhT (k:=2) H.out
   have hsr:=zhT (k:=3) H.out
   obtain ⟨a,ha⟩:∃ a,tnO xs 2=a:=⟨_,rfl⟩
   obtain ⟨s,hs⟩:∃ s,tnO xs 3=s:=⟨_,rfl⟩
   rw [ha] at har f3 ⊢
   rw [hs] at hsr f4 ⊢
   have HA:=Lib.hid ha
   have HS:=Lib.hid hs
   clear ha hs f1 f2
   have F3:=Lib.hid f3
   have F4:=Lib.hid f4
   clear f3 f4
   obtain ⟨X,hX⟩:∃ X,zaM (mi,0) (ki,0) a s=X:=⟨_,rfl⟩
   rw [hX]
   have HX:=Lib.hid hX
   clear hX
   go_enter func52,ntmps52
   go_upto_region 7 with (first | (go_at_call 95;with_reducible refine aM (n0 _ (H.out.ext (by simp [go_sem]))) fun osa da=>?_) | (go_at_call 95;with_reducible refine aM (n1 _ (H.out.ext (by simp [go_sem]))) fun osb db=>?_) | (go_at_call 48;with_reducible refine aM (zdj _) fun osc dc=>?_))
   go_upto_region 8 with (first | (have _t:=osc;clear _t;(go_at_call 48;with_reducible refine aM (zdj _) fun ose de=>?_)) | (go_at_call 48;with_reducible refine aM (zdj _) fun osc dc=>?_))
   generalize hoz:osa++(osb++(osc++ose))=oz
   have hozs:osa.size+(osb.size+(osc.size+ose.size))=oz.size:=by rw [← hoz];simp
   rw [hozs]
   generalize de=dz
   clear hoz hozs osa osb osc ose da db dc
   go_wp2_with fail
   go_loopw [8] (fun i wr=>∃ (j x1 x2 y1 y2:Int) (os:Array Obj) (d:Nat),0≤j∧j≤2∧i = .int .i64 j∧wr=more ((more (w.alloc (Obj.cells #[.int .i64 0,.int .i64 0,.slice none 0 0] 30)) oz dz).alloc (Obj.cells #[.int .i64 x1,.int .i64 x2,.int .i64 y1,.int .i64 y2] 35)) os d∧Hid (zsL a s j x1 x2 y1 y2)) (fun i _=>(2 - intOf i).toNat)
   case atStart=>exact ⟨0,1,0,1,0,#[],_,by omega,by omega,rfl,(zbo _).symm,⟨fun _=>⟨rfl,rfl,rfl,rfl⟩,fun e=>by omega,fun e=>by omega⟩⟩
   case round =>
    obtain ⟨j,x1,x2,y1,y2,os,d,hj0,hj2,rfl,rfl,HL⟩:=hrel
    by_cases j0:j=0
    ·subst j0
     obtain ⟨rfl,rfl,rfl,rfl⟩:=HL.out.1 rfl
     clear HL
     cases hg:zA xs 2 with
     | false =>
      obtain rfl:((1,0),0)=a:=by rw [← HA.out];unfold tnO;rw [hg];rfl
      have hv:=fun W (hW:ArgsIn W A n cap xs)=>by have:=v2 W hW;rw [hg] at this;exact this
      clear hg v2 v3
      go_wp2_with (go_at_call 97;with_reducible refine aM (hv _ (H.out.ext (by simp [go_sem]))) fun osg dg=>?_)
      exact ⟨⟨1,_,_,_,_,_,_,by omega,by omega,rfl,rfl,⟨fun e=>by omega,fun _=>⟨rfl,rfl,rfl⟩,fun e=>by omega⟩⟩,by simp [intOf]⟩
     | true =>
      have hlt:=zcf H.out hg
      obtain ⟨R,C,l,b1,off1,n1',cap1,b,off,x,_,rfl,⟨u0,u1,u2⟩,hn1,hc1,⟨t0,t1,t2,t3,t4,t5⟩,_,hxr,hbl,hb1,hav,_,_,_⟩:=H.out.first hlt
      have hcap:=H.out.cap
      have hsm:=H.out.small
      simp only at u0 u1 u2
      have hv:=fun W (hW:ArgsIn W (some ⟨b,off,none⟩) n cap xs)=>by have:=v2 W hW;rw [hg] at this;exact this
      obtain rfl:(tnP x,tnF x)=a:=by rw [← HA.out];unfold tnO;rw [hg,if_pos rfl,hav]
      have ht:=fun W=>zfA x W hxr
      clear hg hav v2 v3
      by_cases hf:tnF x=0
      ·simp only [tnV,hf] at ht
       go_wp2_with (first | (go_at_call 97;with_reducible refine aM (hv _ (H.out.ext (by simp [go_sem]))) fun osg dg=>?_) | (go_at_call 99;with_reducible refine aM (ht _) fun ost dt=>?_))
       exact ⟨⟨1,_,_,_,_,_,_,by omega,by omega,rfl,ze _ _ _ _,⟨fun e=>by omega,fun _=>⟨by rw [hf],rfl,rfl⟩,fun e=>by omega⟩⟩,by simp [intOf]⟩
      ·have hf':(tnF x != 0)=true:=by simpa using hf
       have HB:=Lib.hid (F3.out.resolve_left hf)
       obtain rfl:zf (tnF x)=X:=by rw [← HX.out];unfold zaM;rw [if_neg (by simp),if_neg (by simp),if_pos hf]
       go_wp2_with (first | (go_at_call 97;with_reducible refine aM (hv _ (H.out.ext (by simp [go_sem]))) fun osg dg=>?_) | (go_at_call 99;with_reducible refine aM (ht _) fun ost dt=>?_) | (go_at_call 44;with_reducible refine aR (zE _ HB.out _) fun D m cc os5 d5 hD=>?_;have hDr:=hD.rd))
       exact bodyPost_ret (v:=AV (zf (tnF x)).R (zf (tnF x)).C (.slice D m cc)) (by simp [results,results52,go_sem]) rfl ⟨D,m,cc,rfl,⟨(by (try simp only [ze,za] at hDr);(try simp only [ze,za]);(try simp only [zc] at hDr);(try simp only [zb] at hDr);(try simp only [Array.append_assoc] at hDr);(try simp only [Array.append_assoc]);exact Rd.swap hDr (by first | (simp;done) | (simp;omega) | omega) (by first | (simp;done) | (simp;omega) | omega) (by first | (simp;done) | (simp;omega) | omega)),hD.len,hD.cap,hD.small,hD.ok⟩,by with_reducible repeat (first | exact Ext.refl _ | apply Ext.drew | apply Ext.alloc | apply Ext.more_)⟩
    ·by_cases j1:j=1
     ·subst j1
      obtain ⟨rfl,rfl,rfl⟩:=HL.out.2.1 rfl
      clear HL j0
      cases hg:zA xs 3 with
      | false =>
       obtain rfl:((1,0),0)=s:=by rw [← HS.out];unfold tnO;rw [hg];rfl
       have hv:=fun W (hW:ArgsIn W A n cap xs)=>by have:=v3 W hW;rw [hg] at this;exact this
       clear hg v2 v3
       go_wp2_with (go_at_call 97;with_reducible refine aM (hv _ (H.out.ext (by simp [go_sem]))) fun osg dg=>?_)
       exact ⟨⟨2,_,_,_,_,_,_,by omega,by omega,rfl,rfl,⟨fun e=>by omega,fun e=>by omega,fun _=>⟨rfl,rfl⟩⟩⟩,by simp [intOf]⟩
      | true =>
       have hlt:=zcf H.out hg
       obtain ⟨R,C,l,b1,off1,n1',cap1,b,off,x,_,rfl,⟨u0,u1,u2⟩,hn1,hc1,⟨t0,t1,t2,t3,t4,t5⟩,_,hxr,hbl,hb1,hav,_,_,_⟩:=H.out.first hlt
       have hcap:=H.out.cap
       have hsm:=H.out.small
       simp only at u0 u1 u2
       have hv:=fun W (hW:ArgsIn W (some ⟨b,off,none⟩) n cap xs)=>by have:=v3 W hW;rw [hg] at this;exact this
       obtain rfl:(tnP x,tnF x)=s:=by rw [← HS.out];unfold tnO;rw [hg,if_pos rfl,hav]
       have ht:=fun W=>zfA x W hxr
       clear hg hav v2 v3
       by_cases hf:tnF x=0
       ·simp only [tnV,hf] at ht
        go_wp2_with (first | (go_at_call 97;with_reducible refine aM (hv _ (H.out.ext (by simp [go_sem]))) fun osg dg=>?_) | (go_at_call 99;with_reducible refine aM (ht _) fun ost dt=>?_))
        exact ⟨⟨2,_,_,_,_,_,_,by omega,by omega,rfl,ze _ _ _ _,⟨fun e=>by omega,fun e=>by omega,fun _=>⟨rfl,by rw [hf]⟩⟩⟩,by simp [intOf]⟩
       ·have hf':(tnF x != 0)=true:=by simpa using hf
        have HB:=Lib.hid (F4.out.resolve_left hf)
        obtain rfl:zf (tnF x)=X:=by rw [← HX.out];unfold zaM;rw [if_neg (by simp),if_neg (by simp),if_neg (by simp),if_pos hf]
        go_wp2_with (first | (go_at_call 97;with_reducible refine aM (hv _ (H.out.ext (by simp [go_sem]))) fun osg dg=>?_) | (go_at_call 99;with_reducible refine aM (ht _) fun ost dt=>?_) | (go_at_call 44;with_reducible refine aR (zE _ HB.out _) fun D m cc os5 d5 hD=>?_;have hDr:=hD.rd))
        exact bodyPost_ret (v:=AV (zf (tnF x)).R (zf (tnF x)).C (.slice D m cc)) (by simp [results,results52,go_sem]) rfl ⟨D,m,cc,rfl,⟨(by (try simp only [ze,za] at hDr);(try simp only [ze,za]);(try simp only [zc] at hDr);(try simp only [zb] at hDr);(try simp only [Array.append_assoc] at hDr);(try simp only [Array.append_assoc]);exact Rd.swap hDr (by first | (simp;done) | (simp;omega) | omega) (by first | (simp;done) | (simp;omega) | omega) (by first | (simp;done) | (simp;omega) | omega)),hD.len,hD.cap,hD.small,hD.ok⟩,by with_reducible repeat (first | exact Ext.refl _ | apply Ext.drew | apply Ext.alloc | apply Ext.more_)⟩
     ·obtain rfl:j=2:=by omega
      obtain ⟨rfl,rfl⟩:=HL.out.2.2 rfl
      clear HL j0 j1 hj0 hj2 v2 v3
      simp only at har hsr
      by_cases q1:mi < 1
      ·obtain rfl:zf 9=X:=by rw [← HX.out];unfold zaM;rw [if_neg (by simp),if_neg (by simp),if_neg (by simp),if_neg (by simp),if_pos (Or.inl q1)]
       go_wp2_with (go_at_call 44;with_reducible refine aR (zE 9 (by omega) _) fun D m cc os5 d5 hD=>?_;have hDr:=hD.rd)
       exact bodyPost_ret (v:=AV (zf 9).R (zf 9).C (.slice D m cc)) (by simp [results,results52,go_sem]) rfl ⟨D,m,cc,rfl,⟨(by (try simp only [ze,za] at hDr);(try simp only [ze,za]);(try simp only [zc] at hDr);(try simp only [zb] at hDr);(try simp only [Array.append_assoc] at hDr);(try simp only [Array.append_assoc]);exact Rd.swap hDr (by first | (simp;done) | (simp;omega) | omega) (by first | (simp;done) | (simp;omega) | omega) (by first | (simp;done) | (simp;omega) | omega)),hD.len,hD.cap,hD.small,hD.ok⟩,by with_reducible repeat (first | exact Ext.refl _ | apply Ext.drew | apply Ext.alloc | apply Ext.more_)⟩
      ·by_cases q2:ki < 1
       ·obtain rfl:zf 9=X:=by rw [← HX.out];unfold zaM;rw [if_neg (by simp),if_neg (by simp),if_neg (by simp),if_neg (by simp),if_pos (Or.inr q2)]
        go_wp2_with (go_at_call 44;with_reducible refine aR (zE 9 (by omega) _) fun D m cc os5 d5 hD=>?_;have hDr:=hD.rd)
        exact bodyPost_ret (v:=AV (zf 9).R (zf 9).C (.slice D m cc)) (by simp [results,results52,go_sem]) rfl ⟨D,m,cc,rfl,⟨(by (try simp only [ze,za] at hDr);(try simp only [ze,za]);(try simp only [zc] at hDr);(try simp only [zb] at hDr);(try simp only [Array.append_assoc] at hDr);(try simp only [Array.append_assoc]);exact Rd.swap hDr (by first | (simp;done) | (simp;omega) | omega) (by first | (simp;done) | (simp;omega) | omega) (by first | (simp;done) | (simp;omega) | omega)),hD.len,hD.cap,hD.small,hD.ok⟩,by with_reducible repeat (first | exact Ext.refl _ | apply Ext.drew | apply Ext.alloc | apply Ext.more_)⟩
       ·by_cases q3:4096 < mi * ki
        ·obtain rfl:zf 5=X:=by rw [← HX.out];unfold zaM;rw [if_neg (by simp),if_neg (by simp),if_neg (by simp),if_neg (by simp),if_neg (by omega),if_pos q3]
         by_cases q4:4096 < mi
         ·go_wp2_with (go_at_call 44;with_reducible refine aR (zE 5 (by omega) _) fun D m cc os5 d5 hD=>?_;have hDr:=hD.rd)
          exact bodyPost_ret (v:=AV (zf 5).R (zf 5).C (.slice D m cc)) (by simp [results,results52,go_sem]) rfl ⟨D,m,cc,rfl,⟨(by (try simp only [ze,za] at hDr);(try simp only [ze,za]);(try simp only [zc] at hDr);(try simp only [zb] at hDr);(try simp only [Array.append_assoc] at hDr);(try simp only [Array.append_assoc]);exact Rd.swap hDr (by first | (simp;done) | (simp;omega) | omega) (by first | (simp;done) | (simp;omega) | omega) (by first | (simp;done) | (simp;omega) | omega)),hD.len,hD.cap,hD.small,hD.ok⟩,by with_reducible repeat (first | exact Ext.refl _ | apply Ext.drew | apply Ext.alloc | apply Ext.more_)⟩
         ·by_cases q5:4096 < ki
          ·go_wp2_with (go_at_call 44;with_reducible refine aR (zE 5 (by omega) _) fun D m cc os5 d5 hD=>?_;have hDr:=hD.rd)
           exact bodyPost_ret (v:=AV (zf 5).R (zf 5).C (.slice D m cc)) (by simp [results,results52,go_sem]) rfl ⟨D,m,cc,rfl,⟨(by (try simp only [ze,za] at hDr);(try simp only [ze,za]);(try simp only [zc] at hDr);(try simp only [zb] at hDr);(try simp only [Array.append_assoc] at hDr);(try simp only [Array.append_assoc]);exact Rd.swap hDr (by first | (simp;done) | (simp;omega) | omega) (by first | (simp;done) | (simp;omega) | omega) (by first | (simp;done) | (simp;omega) | omega)),hD.len,hD.cap,hD.small,hD.ok⟩,by with_reducible repeat (first | exact Ext.refl _ | apply Ext.drew | apply Ext.alloc | apply Ext.more_)⟩
          ·have e1:IntKind.i64.wrap (mi * ki)=mi * ki:=by
            rw [IntKind.wrap_i64]
            have h1:mi * ki≤4096 * 4096:=Int.mul_le_mul (by omega) (by omega) (by omega) (by omega)
            omega
           obtain ⟨z,hz⟩:∃ z,mi * ki=z:=⟨_,rfl⟩
           rw [hz] at q3
           have e2:IntKind.i64.wrap (mi * ki)=z:=e1.trans hz
           clear e1 hz HX
           go_wp2_with (go_at_call 44;with_reducible refine aR (zE 5 (by omega) _) fun D m cc os5 d5 hD=>?_;have hDr:=hD.rd)
           exact bodyPost_ret (v:=AV (zf 5).R (zf 5).C (.slice D m cc)) (by simp [results,results52,go_sem]) rfl ⟨D,m,cc,rfl,⟨(by (try simp only [ze,za] at hDr);(try simp only [ze,za]);(try simp only [zc] at hDr);(try simp only [zb] at hDr);(try simp only [Array.append_assoc] at hDr);(try simp only [Array.append_assoc]);exact Rd.swap hDr (by first | (simp;done) | (simp;omega) | omega) (by first | (simp;done) | (simp;omega) | omega) (by first | (simp;done) | (simp;omega) | omega)),hD.len,hD.cap,hD.small,hD.ok⟩,by with_reducible repeat (first | exact Ext.refl _ | apply Ext.drew | apply Ext.alloc | apply Ext.more_)⟩
        ·obtain ⟨M,rfl⟩:∃ M:Nat,mi=M:=⟨mi.toNat,by omega⟩
         obtain ⟨Kc,rfl⟩:∃ Kc:Nat,ki=Kc:=⟨ki.toNat,by omega⟩
         have q5:M * Kc≤4096:=by rw [← Int.natCast_mul] at q3;omega
         have e1:IntKind.i64.wrap ((M:Int) * (Kc:Int))=((M * Kc:Nat):Int):=by rw [IntKind.wrap_i64,← Int.natCast_mul];omega
         have q6:1≤M * Kc:=Nat.mul_pos (by omega) (by omega)
         have q7:(M:Int)≤4096:=by have:=Nat.le_trans (Nat.le_mul_of_pos_right M (show 0 < Kc by omega)) q5;omega
         have q8:(Kc:Int)≤4096:=by have:=Nat.le_trans (Nat.le_mul_of_pos_left Kc (show 0 < M by omega)) q5;omega
         have hXe:zaM ((M:Int),0) ((Kc:Int),0) ((x1,x2),0) ((y1,y2),0)=match zaL (x1,x2) (y1,y2) (M * Kc - 1) with
          | none=>zf 5
          | some (l,_)=>⟨M,Kc,l⟩:=by
          unfold zaM
          rw [if_neg (by simp),if_neg (by simp),if_neg (by simp),if_neg (by simp),if_neg (by omega),if_neg q3]
          rfl
         have HE:=Lib.hid (hXe.symm.trans HX.out)
         generalize hT:M * Kc=T at *
         clear hXe HX q3 hT
         obtain ⟨j0,hi0,hz0,hz1,hz2⟩:=info_parts zaY
         go_wp2_with fail
         go_loopw [13] (fun i wr=>∃ (k:Nat) (L:List Val) (p:Int×Int) (B:Option Addr) (c:Nat) (os':Array Obj) (d':Nat),k≤T∧i = .int .i64 (k:Int)∧wr=more (((more ((more (w.alloc (Obj.cells #[.int .i64 0,.int .i64 0,.slice none 0 0] 30)) oz dz).alloc (Obj.cells #[.int .i64 x1,.int .i64 x2,.int .i64 y1,.int .i64 y2] 35)) os d).alloc (Obj.cells #[.int .i64 (M:Int),.int .i64 (Kc:Int),.slice B k c] 30)).alloc (Obj.cells #[.int .i64 p.1,.int .i64 p.2] 35)) os' d'∧Rt p.1 p.2∧Hid (zqw (x1,x2) (y1,y2) k L p)∧Hid (wr.ownsRow (w.heap.size+1+oz.size+1+os.size+2) 37 6 (.slice B k c) k (zm L))) (fun i _=>T - (intOf i).toNat)
         case atStart=>exact ⟨0,[],(x1,x2),none,0,#[],_,Nat.zero_le _,rfl,(zbo _).symm,har,⟨rfl,rfl⟩,World.ownsRow_nil _ _ _ _⟩
         case round =>
          obtain ⟨k,L,p,B,c,os',d',hk,rfl,rfl,hpr,HQ,HO⟩:=hrel
          obtain ⟨pm,pe⟩:=p
          simp only at hpr
          by_cases hlt:k < T
          ·have hlt':(k:Int) < (T:Int):=by omega
           go_upto_if 100 with fail
           go_cut [] (fun wx=>∃ (q:Int×Int) (osx:Array Obj) (dx:Nat),wx=more (((more ((more (w.alloc (Obj.cells #[.int .i64 0,.int .i64 0,.slice none 0 0] 30)) oz dz).alloc (Obj.cells #[.int .i64 x1,.int .i64 x2,.int .i64 y1,.int .i64 y2] 35)) os d).alloc (Obj.cells #[.int .i64 (M:Int),.int .i64 (Kc:Int),.slice B k c] 30)).alloc (Obj.cells #[.int .i64 q.1,.int .i64 q.2] 35)) osx dx∧Rt q.1 q.2∧Hid (zaL (x1,x2) (y1,y2) k=some (L++[⟨1,q.1,q.2,⟨#[]⟩,false,0⟩],q))∧Hid (wx.ownsRow (w.heap.size+1+oz.size+1+os.size+2) 37 6 (.slice B k c) k (zm L)))
           case first =>
            by_cases hk0:k=0
            ·subst hk0
             obtain ⟨e1',e2'⟩:=HQ.out
             simp only [Prod.mk.injEq] at e2'
             obtain ⟨rfl,rfl⟩:=e2'
             subst e1'
             go_wp2_with fail
             go_meet
             exact ⟨(pm,pe),os',d',rfl,hpr,rfl,HO⟩
            ·have hq:zaL (x1,x2) (y1,y2) (k - 1)=some (L,(pm,pe)):=by
              have:=HQ.out
              obtain ⟨k',rfl⟩:∃ k',k=k'+1:=⟨k - 1,by omega⟩
              exact this
             have had:=fun W=>zj0 pm pe y1 y2 W (zbu hpr) (zbu hsr)
             have hk0':(0:Int) < (k:Int):=by omega
             go_upto_region 26 with fail
             refine zz fun U hU=>?_
             have hx:Ext w U:=by rw [hU];exact (by simp [go_sem])
             have c0:U.cell? ⟨w.heap.size+1+oz.size+1+os.size+1,0,none⟩=some (.int .i64 pm):=by rw [hU];go_simp
             have c1:U.cell? ⟨w.heap.size+1+oz.size+1+os.size+1,1,none⟩=some (.int .i64 pe):=by rw [hU];go_simp
             have c2:U.cell? ⟨w.heap.size+1+oz.size,2,none⟩=some (.int .i64 y1):=by rw [hU];go_simp
             have c3:U.cell? ⟨w.heap.size+1+oz.size,3,none⟩=some (.int .i64 y2):=by rw [hU];go_simp
             have lc:=zg c0
             have lc2:=zg c2
             have HU:=Lib.hid hU
             clear hU
             cases hs:addS pm pe y1 y2 with
             | none =>
              rw [hs] at had
              simp only [rnV,rm,re,Option.getD_none,Option.isSome_none] at had
              obtain rfl:zf 5=X:=by
               have h1:zaL (x1,x2) (y1,y2) (k - 1+1)=none:=by unfold zaL;rw [hq];simp only;rw [hs]
               have h2:=zex h1 (T - 1 - (k - 1+1))
               rw [show k - 1+1+(T - 1 - (k - 1+1))=T - 1 by omega] at h2
               rw [← HE.out,h2]
              clear hs hq
              refine zaB [(8,4),(0,0),(1,0),(2,0),(3,0),(4,1),(5,0),(6,0),(7,2),(8,3)] [9,10] [9,10] [7] (by kernel_rfl) (by kernel_rfl) (by kernel_rfl) (fun _ _ d _ _ h=>by cases d <;> exact h) (fun _ _ d _ _ h=>by cases d <;> exact h) ?_
              (refine zaD (t:=14) (.cells #[.int .i64 0,.int .i64 0] 35) zbK rfl rfl rfl (fun w1=>?_) ?_;(first | rfl | (simp [go_sem,zbK];done) | (go_simp;rfl)))
              iterate 4 (apply rdG rfl rfl;(intros;go_simp;first | done | rfl);try simp only [zq])
              (refine zag rfl ?_ (fun wf hXf hE K hK=>?_);rfl;obtain ⟨osf,df,rfl⟩:=hXf.more;go_simp;refine (had _).mono ?_;rintro e w' ⟨rfl,hb⟩;refine hK _ _ (fun _=>True) (by (try simp only [zb,za,Array.append_assoc]);exact hb) (fun _ _ _ _=>trivial) trivial ?_)
              try simp only [zq]
              iterate 3 ((first | (apply rdG rfl rfl;(intros;go_simp;first | done | rfl)) | (refine zbf (v:=?_) rfl ?_ (fun w1=>?_) ?_;rotate_left 1;rfl;(go_simp;first | done | rfl)));try simp only [zq])
              refine zca fun osa da osb db hE=>?_
              try simp only [zq]
              (refine zX rfl ?_ (fun K hK=>?_);rfl;go_simp;refine hK _ _ ?_)
              try simp only [zq]
              (refine zX rfl ?_ (fun K hK=>?_);rfl;go_simp;refine hK _ _ ?_)
              try simp only [zq]
              refine zaZ ?_
              clear c0 c1 c2 c3 lc lc2 hE
              have hrow:=zd4 U (.cells #[.int .i64 0,.int .i64 0] 35) osa osb da db
              have hflat:=zjE (((more ((more (w.alloc (Obj.cells #[.int .i64 0,.int .i64 0,.slice none 0 0] 30)) oz dz).alloc (Obj.cells #[.int .i64 x1,.int .i64 x2,.int .i64 y1,.int .i64 y2] 35)) os d).alloc (Obj.cells #[.int .i64 (M:Int),.int .i64 (Kc:Int),.slice B k c] 30)).alloc (Obj.cells #[.int .i64 pm,.int .i64 pe] 35)) os' osa osb d' da db (.cells #[.int .i64 0,.int .i64 0] 35)
              rw [← HU.out] at hflat
              rw [hflat] at hrow ⊢
              clear hflat
              have hO9:=Lib.hid (zw HO.out (zaV (w:=(((more ((more (w.alloc (Obj.cells #[.int .i64 0,.int .i64 0,.slice none 0 0] 30)) oz dz).alloc (Obj.cells #[.int .i64 x1,.int .i64 x2,.int .i64 y1,.int .i64 y2] 35)) os d).alloc (Obj.cells #[.int .i64 (M:Int),.int .i64 (Kc:Int),.slice B k c] 30)).alloc (Obj.cells #[.int .i64 pm,.int .i64 pe] 35))) (os':=(os'++osa).push (.cells #[.int .i64 0,.int .i64 0] 35)++osb) (d':=db) ⟨osa.push (.cells #[.int .i64 0,.int .i64 0] 35)++osb,zkM _ _ _ _⟩))
              generalize (os'++osa).push (.cells #[.int .i64 0,.int .i64 0] 35)++osb=os9 at *
              generalize U.heap.size+osa.size=pz at *
              clear HU hx
              have m0:=cell_of_row _ _ 0 _ _ _ hrow
              have m1:=cell_of_row _ _ 1 _ _ _ hrow
              have ln:=zg m0
              clear hrow
              go_wp2_with (go_at_call 44;with_reducible refine aR (zE 5 (by omega) _) fun D m cc os5 d5 hD=>?_;have hDr:=hD.rd)
              exact bodyPost_ret (v:=AV (zf 5).R (zf 5).C (.slice D m cc)) (by simp [results,results52,go_sem]) rfl ⟨D,m,cc,rfl,⟨(by (try simp only [ze,za] at hDr);(try simp only [ze,za]);(try simp only [zc] at hDr);(try simp only [zb] at hDr);(try simp only [Array.append_assoc] at hDr);(try simp only [Array.append_assoc]);exact Rd.swap hDr (by first | (simp;done) | (simp;omega) | omega) (by first | (simp;done) | (simp;omega) | omega) (by first | (simp;done) | (simp;omega) | omega)),hD.len,hD.cap,hD.small,hD.ok⟩,by with_reducible repeat (first | exact Ext.refl _ | apply Ext.drew | apply Ext.alloc | apply Ext.more_)⟩
             | some q =>
              obtain ⟨qm,qe⟩:=q
              have hqq:=zdq hs
              rw [hs] at had
              simp only [rnV,rm,re,Option.getD_some,Option.isSome_some] at had
              have HQ3:Hid (zaL (x1,x2) (y1,y2) k=some (L++[⟨1,qm,qe,⟨#[]⟩,false,0⟩],(qm,qe))):=by
               show _=_
               obtain ⟨k',rfl⟩:∃ k',k=k'+1:=⟨k - 1,by omega⟩
               have hq':zaL (x1,x2) (y1,y2) k'=some (L,(pm,pe)):=hq
               conv=>lhs;unfold zaL
               rw [hq'];simp only;rw [hs]
              clear hs hq
              refine zaB [(8,4),(0,0),(1,0),(2,0),(3,0),(4,1),(5,0),(6,0),(7,2),(8,3)] [9,10] [9,10] [7] (by kernel_rfl) (by kernel_rfl) (by kernel_rfl) (fun _ _ d _ _ h=>by cases d <;> exact h) (fun _ _ d _ _ h=>by cases d <;> exact h) ?_
              (refine zaD (t:=14) (.cells #[.int .i64 0,.int .i64 0] 35) zbK rfl rfl rfl (fun w1=>?_) ?_;(first | rfl | (simp [go_sem,zbK];done) | (go_simp;rfl)))
              iterate 4 (apply rdG rfl rfl;(intros;go_simp;first | done | rfl);try simp only [zq])
              (refine zag rfl ?_ (fun wf hXf hE K hK=>?_);rfl;obtain ⟨osf,df,rfl⟩:=hXf.more;go_simp;refine (had _).mono ?_;rintro e w' ⟨rfl,hb⟩;refine hK _ _ (fun _=>True) (by (try simp only [zb,za,Array.append_assoc]);exact hb) (fun _ _ _ _=>trivial) trivial ?_)
              try simp only [zq]
              iterate 3 ((first | (apply rdG rfl rfl;(intros;go_simp;first | done | rfl)) | (refine zbf (v:=?_) rfl ?_ (fun w1=>?_) ?_;rotate_left 1;rfl;(go_simp;first | done | rfl)));try simp only [zq])
              refine zca fun osa da osb db hE=>?_
              try simp only [zq]
              (refine zX rfl ?_ (fun K hK=>?_);rfl;go_simp;refine hK _ _ ?_)
              try simp only [zq]
              (refine zX rfl ?_ (fun K hK=>?_);rfl;go_simp;refine hK _ _ ?_)
              try simp only [zq]
              refine zaZ ?_
              clear c0 c1 c2 c3 lc lc2 hE
              have hrow:=zd4 U (.cells #[.int .i64 qm,.int .i64 qe] 35) osa osb da db
              have hflat:=zjE (((more ((more (w.alloc (Obj.cells #[.int .i64 0,.int .i64 0,.slice none 0 0] 30)) oz dz).alloc (Obj.cells #[.int .i64 x1,.int .i64 x2,.int .i64 y1,.int .i64 y2] 35)) os d).alloc (Obj.cells #[.int .i64 (M:Int),.int .i64 (Kc:Int),.slice B k c] 30)).alloc (Obj.cells #[.int .i64 pm,.int .i64 pe] 35)) os' osa osb d' da db (.cells #[.int .i64 qm,.int .i64 qe] 35)
              rw [← HU.out] at hflat
              rw [hflat] at hrow ⊢
              clear hflat
              have hO9:=Lib.hid (zw HO.out (zaV (w:=(((more ((more (w.alloc (Obj.cells #[.int .i64 0,.int .i64 0,.slice none 0 0] 30)) oz dz).alloc (Obj.cells #[.int .i64 x1,.int .i64 x2,.int .i64 y1,.int .i64 y2] 35)) os d).alloc (Obj.cells #[.int .i64 (M:Int),.int .i64 (Kc:Int),.slice B k c] 30)).alloc (Obj.cells #[.int .i64 pm,.int .i64 pe] 35))) (os':=(os'++osa).push (.cells #[.int .i64 qm,.int .i64 qe] 35)++osb) (d':=db) ⟨osa.push (.cells #[.int .i64 qm,.int .i64 qe] 35)++osb,zkM _ _ _ _⟩))
              generalize (os'++osa).push (.cells #[.int .i64 qm,.int .i64 qe] 35)++osb=os9 at *
              generalize U.heap.size+osa.size=pz at *
              clear HU hx
              have m0:=cell_of_row _ _ 0 _ _ _ hrow
              have m1:=cell_of_row _ _ 1 _ _ _ hrow
              have ln:=zg m0
              clear hrow
              go_wp2_with fail
              go_meet
              exact ⟨(qm,qe),os9,_,rfl,hqq,HQ3,zd3 (.cells #[.int .i64 (M:Int),.int .i64 (Kc:Int),.slice B k c] 30) (.cells #[.int .i64 qm,.int .i64 qe] 35) hO9.out (by simp)⟩
           case rest =>
           obtain ⟨⟨qm,qe⟩,osx,dx,rfl,hqr,HQ2,HO2⟩:=hcut
           clear HQ HO
           simp only at hqr
           go_upto_region 30 with fail
           refine zcj (S:=Ext (((more ((more (w.alloc (Obj.cells #[.int .i64 0,.int .i64 0,.slice none 0 0] 30)) oz dz).alloc (Obj.cells #[.int .i64 x1,.int .i64 x2,.int .i64 y1,.int .i64 y2] 35)) os d).alloc (Obj.cells #[.int .i64 (M:Int),.int .i64 (Kc:Int),.slice B k c] 30)).alloc (Obj.cells #[.int .i64 qm,.int .i64 qe] 35))) [(0,0),(1,0),(2,0),(3,1),(4,1),(5,1),(6,0),(7,2)] [7] (by kernel_rfl) (by kernel_rfl) (by kernel_rfl) (fun _ _ d _ _ h=>by cases d <;> exact h) (Ext.drew (zP _ _ _)) ?_
           iterate 3 (apply rdP rfl rfl;(intros;go_simp;first | done | rfl);try simp only [zq])
           (refine zh rfl ?_ (fun K hK=>?_);rfl;go_simp;refine aM (zeE _ _ _) fun osf df=>?_;refine hK _ _ ?_ ?_;(simp [go_sem]))
           try simp only [zq]
           (refine zh rfl ?_ (fun K hK=>?_);rfl;go_simp;refine hK _ _ ?_ ?_;(simp [go_sem]))
           try simp only [zq]
           (refine zh rfl ?_ (fun K hK=>?_);rfl)
           refine zbA _ _ _ _ rfl (w.heap.size+1+oz.size+1+os.size+2) 37 j0 (VV 0 0 0 ⟨#[]⟩ false 0) 6 56 Tryz.underlying28 hi0 hz0 hz1 hz2 rfl (by decide) (.slice B k c) k (zm L) rfl (zw HO2.out (by simp [go_sem])) _ 1 1 (Val.cells ⟨1,qm,qe,⟨#[]⟩,false,0⟩) rfl rfl (z7 _ _ _ (by simp) rfl _) (zbe _) (by simp only [maxLen];omega) (by omega) (by simp;omega) ?_
           intro v4 w4 ho4 hg4
           have hx4:Ext (((more ((more (w.alloc (Obj.cells #[.int .i64 0,.int .i64 0,.slice none 0 0] 30)) oz dz).alloc (Obj.cells #[.int .i64 x1,.int .i64 x2,.int .i64 y1,.int .i64 y2] 35)) os d).alloc (Obj.cells #[.int .i64 (M:Int),.int .i64 (Kc:Int),.slice B k c] 30)).alloc (Obj.cells #[.int .i64 qm,.int .i64 qe] 35)) w4:=zba (n:=k) (ty:=37) (size:=6) (xs:=zm L) (v:=.slice B k c) (by simp [go_sem]) (by simpa [Nat.add_assoc] using zw HO2.out (by simp [go_sem])) hg4
           obtain ⟨os9,d9,rfl⟩:=hx4.more
           obtain ⟨G4,c4,rfl⟩:=za5 ho4
           have HO4:=Lib.hid ho4
           clear ho4 hg4 hx4
           refine hK _ _ (zP _ _ _) ?_
           try simp only [zq]
           (apply rdP rfl rfl;(intros;go_simp;first | done | rfl))
           try simp only [zq]
           (refine zaa rfl ?_ (fun K hK=>?_);rfl;go_simp;refine hK _ _ ?_)
           try simp only [zq]
           refine zj ?_
           go_wp2_with fail
           refine ⟨⟨k+1,L++[⟨1,qm,qe,⟨#[]⟩,false,0⟩],(qm,qe),G4,c4,os9,_,by omega,by go_num,rfl,hqr,(Lib.hid (show zqw (x1,x2) (y1,y2) (k+1) (L++[⟨1,qm,qe,⟨#[]⟩,false,0⟩]) (qm,qe) from HQ2.out)),?_⟩,by simp [intOf];omega⟩
           show World.ownsRow _ _ _ _ _ _ _
           rw [zar]
           refine zd3 (Z:=(more ((more (w.alloc (Obj.cells #[.int .i64 0,.int .i64 0,.slice none 0 0] 30)) oz dz).alloc (Obj.cells #[.int .i64 x1,.int .i64 x2,.int .i64 y1,.int .i64 y2] 35)) os d)) (.cells #[.int .i64 (M:Int),.int .i64 (Kc:Int),.slice G4 (k+1) c4] 30) (.cells #[.int .i64 qm,.int .i64 qe] 35) (o:=.cells #[.int .i64 (M:Int),.int .i64 (Kc:Int),.slice B k c] 30) (s:=.cells #[.int .i64 qm,.int .i64 qe] 35) ?_ (by simp)
           simpa [zm] using HO4.out
          ·obtain rfl:k=T:=by omega
           have hq:zaL (x1,x2) (y1,y2) (k - 1)=some (L,(pm,pe)):=by
            have:=HQ.out
            obtain ⟨k',rfl⟩:∃ k',k=k'+1:=⟨k - 1,by omega⟩
            exact this
           obtain rfl:(⟨M,Kc,L⟩:NA)=X:=by rw [← HE.out,hq]
           obtain ⟨i1,i2,i3⟩:=zey har hsr hq
           obtain ⟨D,cc,hv,hD⟩:=zcD (n:=k) (l:=L) (v:=.slice B k c) (w:=w.alloc (Obj.cells #[.int .i64 0,.int .i64 0,.slice none 0 0] 30)) (X:=(((more ((more (w.alloc (Obj.cells #[.int .i64 0,.int .i64 0,.slice none 0 0] 30)) oz dz).alloc (Obj.cells #[.int .i64 x1,.int .i64 x2,.int .i64 y1,.int .i64 y2] 35)) os d).alloc (Obj.cells #[.int .i64 (M:Int),.int .i64 (Kc:Int),.slice B k c] 30)).alloc (Obj.cells #[.int .i64 pm,.int .i64 pe] 35))) (by simpa [Nat.add_assoc] using HO.out) (by simp only [World.size_alloc,zf2];omega) (by omega) (fun x hx=>(i3 x hx).ok)
           simp only [Value.slice.injEq,true_and] at hv
           obtain ⟨rfl,rfl⟩:=hv
           have hDr:=hD.rd
           clear HE HQ HO hk hq
           go_wp2_with fail
           exact rc1 (v:=AV M Kc (.slice B k c)) rfl rfl (by simp [go_sem]) (by (try simp only [ze,za,zc,zb,Array.append_assoc] at hDr);(try simp only [ze,za,zc,zb,Array.append_assoc]);exact raS hDr hD (by simp <;> omega) (by simp [go_sem]))
  ·have hX:zaM (mi,0) (ki,kf) (tnO xs 2) (tnO xs 3)=zf kf:=by unfold zaM;rw [if_neg (by simp),if_pos hkf]
   rw [hX]
   have hf':(kf != 0)=true:=by simpa using hkf
   have HF:=Lib.hid (f2.resolve_left hkf)
   clear hX hkf f1 f2 f3 f4
   go_enter func52,ntmps52
   go_wp2_with (first | (first | (go_at_call 95;with_reducible refine aM (n0 _ (H.out.ext (by simp [go_sem]))) fun osa da=>?_) | (go_at_call 95;with_reducible refine aM (n1 _ (H.out.ext (by simp [go_sem]))) fun osb db=>?_) | (go_at_call 48;with_reducible refine aM (zdj _) fun osc dc=>?_)) | (go_at_call 44;with_reducible refine aR (zE _ HF.out _) fun D m cc os5 d5 hD=>?_;have hDr:=hD.rd))
   exact rc1 (v:=AV (zf kf).R (zf kf).C (.slice D m cc)) rfl rfl (by simp [go_sem]) (by (try simp only [ze,za,zc,zb,Array.append_assoc] at hDr);(try simp only [ze,za,zc,zb,Array.append_assoc]);exact raS hDr hD (by simp <;> omega) (by simp [go_sem]))
 ·have hX:zaM (mi,mf) (ki,kf) (tnO xs 2) (tnO xs 3)=zf mf:=by unfold zaM;rw [if_pos hmf]
  rw [hX]
  have hf':(mf != 0)=true:=by simpa using hmf
  have HF:=Lib.hid (f1.resolve_left hmf)
  clear hX hmf f1 f2 f3 f4
  go_enter func52,ntmps52
  go_wp2_with (first | (first | (go_at_call 95;with_reducible refine aM (n0 _ (H.out.ext (by simp [go_sem]))) fun osa da=>?_) | (go_at_call 95;with_reducible refine aM (n1 _ (H.out.ext (by simp [go_sem]))) fun osb db=>?_) | (go_at_call 48;with_reducible refine aM (zdj _) fun osc dc=>?_)) | (go_at_call 44;with_reducible refine aR (zE _ HF.out _) fun D m cc os5 d5 hD=>?_;have hDr:=hD.rd))
  exact rc1 (v:=AV (zf mf).R (zf mf).C (.slice D m cc)) rfl rfl (by simp [go_sem]) (by (try simp only [ze,za,zc,zb,Array.append_assoc] at hDr);(try simp only [ze,za,zc,zb,Array.append_assoc]);exact raS hDr hD (by simp <;> omega) (by simp [go_sem]))
theorem ziG (A:Option Addr) (n cap:Nat) (xs:List Ar) (w:World) (h:ArgsIn w A n cap xs) (h1:1≤n) (h2:n≤4):Calls prog 15 #[.string ⟨#[83,69,81,85,69,78,67,69]⟩,.slice A n cap] w (za6 w (zbG xs)):=by
 have hsm:=h.small
 have hcap:=h.cap
 have q1:¬ n < 1:=by omega
 have q2:¬ 4 < n:=by omega
 have hst:=fun W (hW:ArgsIn W A n cap xs)=>zqb A n cap xs W hW
 obtain ⟨R0,C0,l0,b1,off1,n1,cap1,b,off,x0,_,rfl,⟨v0,v1,v2⟩,_,_,_,_,_,hbl,_,_,_,_,_⟩:=h.first (k:=0) (by omega)
 simp only [Nat.zero_mul,Nat.add_zero] at v0 v1 v2
 have H:=Lib.hid h
 clear h
 generalize (zbG xs)=X at *
 go_enter func15,ntmps15
 go_wp2_with (go_at_call 43;with_reducible refine aM (zeF _) fun os1 d1=>?_)
 go_loopw [8] (fun i wr=>∃ k:Nat,k≤n∧i = .int .i64 k∧Ext (more (w.alloc (Obj.cells #[.int .i64 0,.int .i64 0,.slice none 0 0] 30)) os1 d1) wr) (fun i _=>n - (intOf i).toNat)
 case atStart=>exact ⟨0,Nat.zero_le _,rfl,Ext.refl _⟩
 case round =>
  obtain ⟨k,hk,rfl,hX⟩:=hrel
  obtain ⟨os,d,rfl⟩:=hX.more
  clear hX
  by_cases hlt:k < n
  ·obtain ⟨a,b',off',ha,hbo,⟨u0,u1,u2⟩,hok⟩:=H.out.at hlt
   obtain ⟨rfl,rfl⟩:=aI hbo
   have hra:=fun W (hW:ArrIn W a.A a.n a.cap a.x.l)=>zU a.x.R a.x.C a.A a.n a.cap a.x.l W hW
   rw [← zaA _ _ _ hok.arr.ok,show zo (a.x.R:Int) a.x.C a.x.l=true from hok.right] at hra
   have HOK:=Lib.hid hok.arr
   clear hok hst
   go_wp2_with (go_at_call 45;refine (hra _ (HOK.out.ext (by simp [go_sem]))).mono ?_;rintro e w' ⟨rfl,hb⟩;obtain ⟨os',d',rfl⟩:=hb.more;clear hb)
   exact ⟨⟨k+1,by omega,by go_num,by simp [go_sem]⟩,by simp [intOf];omega⟩
  ·go_wp2_with (go_at_call 52;(with_reducible refine (hst _ (H.out.ext (by simp [go_sem]))).mono ?_);rintro e w' ⟨D,m,cc,rfl,hD,hb⟩;have hNl:=hD.len;have hNc:=hD.cap;have hNs:=hD.small;have hNo:=hD.ok;have hDr:=hD.rd;clear hD;obtain ⟨os5,d5,rfl⟩:=hb.more;clear hb)
   exact rct rfl rfl (by simp [go_sem]) ⟨D,m,cc,rfl,ArrN.arr (base:=w.heap.size) ⟨(by (try simp only [ze,za] at hDr);(try simp only [ze,za]);(try simp only [zc] at hDr);(try simp only [zb] at hDr);(try simp only [Array.append_assoc] at hDr);(try simp only [Array.append_assoc]);exact hDr.sw (by simp <;> omega)),hNl,hNc,hNs,hNo⟩,by simp [go_sem]⟩
theorem zqc (A:Option Addr) (n cap:Nat) (gs:List GA) (w:World) (htab:Tab w) (h:ArgsG w A n cap gs):Tl prog 8 #[.string ⟨#[83,69,81,85,69,78,67,69]⟩,.slice A n cap] w (.bool true) :=
 zaw ⟨#[83,69,81,85,69,78,67,69]⟩ A n cap w (zI 1 4 gs (zbG (zae gs))) (fun W hW=>zfi A n cap gs W (htab.ext hW) (h.ext hW)) (fun W hW=>zbx _ 1 4 (by decide) (by decide) (by decide) (fun W'=>zeF W') _ A n cap gs W (h.ext hW) (fun hi h1 h2=>ziG A n cap _ W hi h1 h2))
theorem zek:∀ (l l':List Val),zaG (l++l')=if zaG l≠0 then zaG l else zaG l'
 | [],l'=>by simp [zaG]
 | v::l,l'=>by
  show (if (zZ v).2≠0 then (zZ v).2 else zaG (l++l'))=if (if (zZ v).2≠0 then (zZ v).2 else zaG l)≠0 then (if (zZ v).2≠0 then (zZ v).2 else zaG l) else zaG l'
  by_cases h:(zZ v).2≠0
  ·rw [if_pos h,if_pos h,if_pos h]
  ·rw [if_neg h,if_neg h,zek l l']
theorem zgr:∀ (l l':List Val) (k:Nat),zai (l++l') k=zai l k++zai l' (k+l.length)
 | [],l',k=>by simp [zai]
 | v::l,l',k=>by
  show (if (zZ v).1 then k::zai (l++l') (k+1) else zai (l++l') (k+1))=(if (zZ v).1 then k::zai l (k+1) else zai l (k+1))++zai l' (k+(l.length+1))
  rw [zgr l l' (k+1),show k+1+l.length=k+(l.length+1) by omega]
  split
  ·rfl
  ·rfl
theorem zgs {l:List Val} {k:Nat} {v:Val} (hv:l[k]? = some v):zaG (l.take (k+1))=(if zaG (l.take k)≠0 then zaG (l.take k) else (zZ v).2)∧zai (l.take (k+1)) 0=zai (l.take k) 0++(if (zZ v).1 then [k] else []):=by
 have hk:=(List.getElem?_eq_some_iff.1 hv).1
 have e:l.take (k+1)=l.take k++[v]:=by rw [List.take_add_one,hv];rfl
 have hl:(l.take k).length=k:=by rw [List.length_take];omega
 rw [e,zek,zgr,hl,Nat.zero_add]
 constructor
 ·congr 1
  show (if (zZ v).2≠0 then (zZ v).2 else 0)=_
  split
  ·rfl
  ·rename_i h;have:(zZ v).2=0:=by simpa using h
   exact this.symm
 ·congr 1
theorem zg7 {l:List Val} {k:Nat} {v:Val} (hv:l[k]? = some v) (h0:zaG (l.take k)=0) (h1:(zZ v).2≠0):zaG l=(zZ v).2:=by
 have h2:=(zgs hv).1
 rw [h0,if_neg (by simp)] at h2
 conv=>lhs;rw [← List.take_append_drop (k+1) l]
 rw [zek,h2,if_pos h1]
theorem zfJ:∀ {l:List Val} {k i:Nat},i∈zai l k→k≤i∧i < k+l.length
 | [],k,i,h=>by simp [zai] at h
 | v::l,k,i,h=>by
  have h':i∈(if (zZ v).1 then k::zai l (k+1) else zai l (k+1)):=h
  rw [List.length_cons]
  split at h'
  ·rcases List.mem_cons.1 h' with rfl | h'
   ·omega
   ·have:=zfJ h';omega
  ·have:=zfJ h';omega
theorem zel:∀ (l:List Val) (k:Nat),(zai l k).length≤l.length
 | [],k=>Nat.le_refl _
 | v::l,k=>by
  show (if (zZ v).1 then k::zai l (k+1) else zai l (k+1)).length≤l.length+1
  have:=zel l (k+1)
  split
  ·rw [List.length_cons];omega
  ·omega
theorem zoK {x:Val} (h:x.right):(zZ x).2=0∨(1≤(zZ x).2∧(zZ x).2≤9):=by
 rcases h.form with rfl | ⟨m,e,rfl,hr⟩ | ⟨t,rfl,ht⟩ | ⟨b,rfl⟩ | ⟨f,rfl,hf⟩
 ·left;rfl
 ·left;rfl
 ·rw [show zZ ⟨2,0,0,t,false,0⟩=if (zac t).toList == [84,82,85,69] then (true,(0:Int)) else if (zac t).toList == [70,65,76,83,69] then (false,0) else (false,2) from rfl]
  split
  ·left;rfl
  ·split
   ·left;rfl
   ·right;show (1:Int)≤2∧(2:Int)≤9;omega
 ·left;rfl
 ·right;exact hf
theorem zg8 {a b c:NA} {g br:Bool} (h1:(decide (b.C=1) && decide (b.R=a.R))=br) (h2:(!br && (decide (b.R≠1) || decide (b.C≠a.C)))=true):zdt a b c g=zf 2:=by
 unfold zdt
 rw [if_pos]
 subst h1
 simp only [Bool.and_eq_true,Bool.not_eq_true',Bool.or_eq_true,decide_eq_true_eq,Bool.and_eq_false_iff,decide_eq_false_iff_not] at h2
 refine ⟨fun e=>?_,h2.2⟩
 rcases h2.1 with h | h
 ·exact h e.1
 ·exact h e.2
theorem zh2 {a b c:NA} {g br:Bool} (h1:(decide (b.C=1) && decide (b.R=a.R))=br) (h2:(!br && (decide (b.R≠1) || decide (b.C≠a.C)))=false) :
  zdt a b c g=if zaG b.l≠0 then zf (zaG b.l) else if zai b.l 0=[] then (if g then c else zf 9) else if br=true then zL a (zai b.l 0) else zaF a (zai b.l 0):=by
 have e3:(br=true)=(b.C=1∧b.R=a.R):=by rw [← h1];simp
 unfold zdt
 rw [if_neg]
 ·simp only [e3]
 ·rintro ⟨e1,e2⟩
  rw [← e3] at e1
  have e1:br=false:=by simpa using e1
  rw [e1] at h2
  rcases e2 with e2 | e2 <;> simp [e2] at h2
end Go.Proofs.YtkoidgbgoccgmaaGreatDoor
