/- What the rows' proofs lean on: the contracts of the functions that they reach, and plain facts (part N6). -/
import Derived.Test.YtkoidgbgoccgmaaGreatDoorN5
set_option linter.unusedSimpArgs false
set_option linter.unusedVariables false
set_option maxRecDepth 100000
set_option maxHeartbeats 8000000
namespace Go.Proofs.YtkoidgbgoccgmaaGreatDoor
open Tryz
open Go.RowKit NM
def zb8 (l:List Val) (h:Nat):Prop:=l.length=h
theorem zlu (A:Option Addr) (n cap:Nat) (xs:List Ar) (w:World) (h:ArgsIn w A n cap xs) (h2:2≤n) :
  Calls prog 27 #[.slice A n cap] w fun e w'=>zan w (zc1 xs) e w':=by
 obtain ⟨R,C,l,b1,off1,n1,cap1,b,off,x0,ha,rfl,⟨v0,v1,v2⟩,_,hc1,_,_,_,hbl,_,_,_,harr,_⟩:=h.first (k:=0) (by omega)
 obtain ⟨R2,C2,l2,b2,off2,n2,cap2,b',off',x2,ha2,hbo,⟨u0,u1,u2⟩,hn2,hc2,_,_,_,_,hb2,_,_,harr2,_⟩:=h.first (k:=1) (by omega)
 obtain ⟨rfl,rfl⟩:=aI hbo
 have hxr:NA.right ⟨R,C,l⟩:=(h.all _ (List.mem_of_getElem? ha)).right
 have hxr2:NA.right ⟨R2,C2,l2⟩:=(h.all _ (List.mem_of_getElem? ha2)).right
 have hcap:=h.cap
 have hsm:=h.small
 simp only [Nat.zero_mul,Nat.add_zero,Nat.one_mul] at v0 v1 v2 u0 u1 u2
 have hx0:zF xs 0=⟨R,C,l⟩:=by unfold zF;rw [ha]
 have hx1:zF xs 1=⟨R2,C2,l2⟩:=by unfold zF;rw [ha2]
 obtain ⟨r1,r2,r3,r4,r5⟩:=zi.1 hxr
 obtain ⟨s1,s2,s3,s4,s5⟩:=zi.1 hxr2
 simp only at r1 r2 r3 r4 s1 s2 s3 s4 s5
 have hln2:=harr2.len
 have hn24:n2≤4096:=by omega
 unfold zc1
 rw [hx0,hx1]
 have gv:=fun W (hW:ArgsIn W (some ⟨b,off,none⟩) n cap xs)=>zeD _ n cap xs 2 W hW _ rfl
 have H:=Lib.hid h
 have HA:=Lib.hid harr
 have HA2:=Lib.hid harr2
 obtain ⟨g,hg⟩:∃ g,zA xs 2=g:=⟨_,rfl⟩
 rw [hg]
 have HG:=Lib.hid hg
 rw [hg] at gv
 simp only [show ((2:Nat):Int)=2 from rfl] at gv
 obtain ⟨X,hX⟩:∃ X,zdt ⟨R,C,l⟩ ⟨R2,C2,l2⟩ (zF xs 2) g=X:=⟨_,rfl⟩
 rw [hX]
 have HX:=Lib.hid hX
 clear h harr harr2 ha ha2 hx0 hx1 hX r4 hg
 go_enter func27,ntmps27
 go_upto_region 1 with fail
 go_cut [3,4] (fun s3 s4 wx=>∃ pa pb:Nat,s3 = .pointer (some ⟨pa,0,none⟩)∧s4 = .pointer (some ⟨pb,0,none⟩)∧Ext w wx∧w.heap.size+3≤wx.heap.size∧wx.cell? ⟨pa,0,none⟩=some (.int .i64 (R:Int))∧wx.cell? ⟨pa,1,none⟩=some (.int .i64 (C:Int))∧wx.cell? ⟨pa,2,none⟩=some (.slice (some ⟨b1,off1,none⟩) n1 cap1)∧wx.cell? ⟨pb,0,none⟩=some (.int .i64 (R2:Int))∧wx.cell? ⟨pb,1,none⟩=some (.int .i64 (C2:Int))∧wx.cell? ⟨pb,2,none⟩=some (.slice (some ⟨b2,off2,none⟩) n2 cap2)∧Hid (∃ os d,wx=more (w.alloc (Obj.cells #[.int .i64 0,.int .i64 0,.slice none 0 0] 30)) os d))
 case first =>
  go_region
  ·go_wp2_with fail
   go_meet
   refine ⟨_,_,rfl,rfl,by simp [go_sem],by simp,?_,?_,?_,?_,?_,?_,(show Ext (w.alloc (Obj.cells #[.int .i64 0,.int .i64 0,.slice none 0 0] 30)) _ from (by simp [go_sem])).more⟩
   all_goals (simp [go_sem];done)
  ·go_wp2_with fail
   go_meet
   refine ⟨_,_,rfl,rfl,by simp [go_sem],by simp,?_,?_,?_,?_,?_,?_,(show Ext (w.alloc (Obj.cells #[.int .i64 0,.int .i64 0,.slice none 0 0] 30)) _ from (by simp [go_sem])).more⟩
   all_goals (simp [go_sem];done)
 case rest =>
 obtain ⟨pa,pb,rfl,rfl,hx,hsz,c0,c1,c2,e0,e1,e2,HU⟩:=hcut
 have la:=zg c0
 have lb:=zg e0
 replace v0:=hx.cell_some v0
 clear v0 v1 v2 u0 u1 u2
 obtain ⟨br,hbr⟩:∃ br,(decide (C2=1) && decide (R2=R))=br:=⟨_,rfl⟩
 have HBR:=Lib.hid hbr
 go_upto_region 2 with fail
 go_cut [5] (fun s5 wx=>s5 = .bool br∧wx=wc)
 case first =>
  by_cases q1:C2=1
  ·have q1':((C2:Int) == 1)=true:=by simp;omega
   by_cases q2:R2=R
   ·have q2':((R2:Int) == (R:Int))=true:=by simp;omega
    obtain rfl:true=br:=by rw [← hbr];simp [q1,q2]
    clear hbr q1 q2
    go_wp2_with fail
    go_meet
    exact ⟨rfl,rfl⟩
   ·have q2':((R2:Int) == (R:Int))=false:=by simp;omega
    obtain rfl:false=br:=by rw [← hbr];simp [q2]
    clear hbr q1 q2
    go_wp2_with fail
    go_meet
    exact ⟨rfl,rfl⟩
  ·have q1':((C2:Int) == 1)=false:=by simp;omega
   obtain rfl:false=br:=by rw [← hbr];simp [q1]
   clear hbr q1
   go_wp2_with fail
   go_meet
   exact ⟨rfl,rfl⟩
 case rest =>
 obtain ⟨rfl,rfl⟩:=hcut
 clear hbr
 obtain ⟨bad,hbad⟩:∃ bad,(!br && (decide (R2≠1) || decide (C2≠C)))=bad:=⟨_,rfl⟩
 have HBAD:=Lib.hid hbad
 go_upto_region 3 with fail
 go_cut [40] (fun s40 wx=>s40 = .bool bad∧wx=wc)
 case first =>
  cases br with
  | true =>
   obtain rfl:false=bad:=by rw [← hbad];simp
   clear hbad
   go_wp2_with fail
   go_meet
   exact ⟨rfl,rfl⟩
  | false =>
   by_cases q1:R2=1
   ·have q1':((R2:Int) != 1)=false:=by simp;omega
    by_cases q2:C2=C
    ·have q2':((C2:Int) != (C:Int))=false:=by simp;omega
     obtain rfl:false=bad:=by rw [← hbad];simp [q1,q2]
     clear hbad q1 q2
     go_wp2_with fail
     go_meet
     exact ⟨rfl,rfl⟩
    ·have q2':((C2:Int) != (C:Int))=true:=by simp;omega
     obtain rfl:true=bad:=by rw [← hbad];simp [q2]
     clear hbad q1 q2
     go_wp2_with fail
     go_meet
     exact ⟨rfl,rfl⟩
   ·have q1':((R2:Int) != 1)=true:=by simp;omega
    obtain rfl:true=bad:=by rw [← hbad];simp [q1]
    clear hbad q1
    go_wp2_with fail
    go_meet
    exact ⟨rfl,rfl⟩
 case rest =>
 obtain ⟨rfl,rfl⟩:=hcut
 clear hbad
 cases bad with
 | true =>
  obtain rfl:zf 2=X:=by rw [← HX.out];exact (zg8 (a:=⟨R,C,l⟩) (b:=⟨R2,C2,l2⟩) HBR.out HBAD.out).symm
  go_wp2_with ((go_at_call 17;with_reducible refine aR (zt _ _) fun D m cc os5 d5 hD=>?_;have hDr:=hD.rd);obtain ⟨osu,du,rfl⟩:=HU.out)
  exact rc1 (v:=AV (zf 2).R (zf 2).C (.slice D m cc)) rfl rfl (by simp [go_sem]) (by (try simp only [ze,za,zc,zb,Array.append_assoc] at hDr);(try simp only [ze,za,zc,zb,Array.append_assoc]);exact raS hDr hD (by simp <;> omega) (by simp [go_sem]))
 | false =>
 have HX2:Hid ((if zaG l2≠0 then zf (zaG l2) else if zai l2 0=[] then (if g then zF xs 2 else zf 9) else if br=true then zL ⟨R,C,l⟩ (zai l2 0) else zaF ⟨R,C,l⟩ (zai l2 0))=X):=by
  show _=_
  rw [← HX.out];exact (zh2 (a:=⟨R,C,l⟩) (b:=⟨R2,C2,l2⟩) HBR.out HBAD.out).symm
 have hpl:(br=true→zb8 l2 R)∧(br=false→zb8 l2 C):=by
  have e1:=HBR.out
  have e2:=HBAD.out
  constructor
  ·intro hb
   rw [hb] at e1
   simp only [Bool.and_eq_true,decide_eq_true_eq] at e1
   unfold zb8
   rw [s4,e1.1,e1.2,Nat.mul_one]
  ·intro hb
   rw [hb] at e2
   simp only [Bool.not_false,Bool.true_and,Bool.or_eq_false_iff,decide_eq_false_iff_not,ne_eq,Decidable.not_not] at e2
   unfold zb8
   rw [s4,e2.1,e2.2,Nat.one_mul]
 have HPL:=Lib.hid hpl
 clear HX HBR HBAD hpl
 obtain ⟨i0,hi0,hz0,hz1,hz2⟩:=info_parts zbq
 go_wp2_with fail
 go_loopw [6,45] (fun v i wr=>∃ (k:Nat) (ps:List Nat),k≤n2∧i = .int .i64 (k:Int)∧ps.length≤k∧Hid (zaG (l2.take k)=0)∧Hid (ps=zai (l2.take k) 0)∧Hid (wr.ownsRow wc.heap.size 3 1 v ps.length (i6 ps))∧Ext wc wr) (fun _ i _=>n2 - (intOf i).toNat)
 case atStart=>exact ⟨0,[],Nat.zero_le _,rfl,Nat.le_refl _,rfl,rfl,World.ownsRow_nil _ _ _ _,Ext.refl _⟩
 case round =>
  obtain ⟨k,ps,hk,rfl,hpk,HF,HP,HO,hxr⟩:=hrel
  have hsr:=hxr.size
  have hxr0:=hxr
  obtain ⟨os,d,rfl⟩:=hxr.more
  clear hxr
  by_cases hlt:k < n2
  ·have hlt':(k:Int) < (n2:Int):=by omega
   obtain ⟨x,bq,oq,hxk,hxo,hbq,hat⟩:=HA2.out.at hlt
   obtain ⟨rfl,rfl⟩:=aI hbq
   obtain ⟨y0,y1,y2,y3,y4,y5⟩:=hat.ext hx
   have hb2':=zg y0
   have hxR:x.right:=s5 x (List.mem_of_getElem? hxk)
   have ht:=fun W=>zlh x W hxR
   obtain ⟨m1,m2⟩:=zgs hxk
   rw [HF.out,if_neg (by simp)] at m1
   rw [← HP.out] at m2
   have hmf0:=zg7 hxk HF.out
   obtain ⟨⟨tb,tf⟩,hxt⟩:∃ p,zZ x=p:=⟨_,rfl⟩
   rw [hxt] at m1 m2 ht hmf0
   simp only at m1 m2 hmf0
   clear hxt
   by_cases hf:tf=0
   ·have M1:=Lib.hid (m1.trans hf)
    cases hb:tb with
    | true =>
     rw [hb,if_pos rfl] at m2
     have M2:=Lib.hid m2
     have ht2:∀ W,Tl prog 72 #[VV x.kind x.mant x.exp x.text x.truth x.fault] W (.tuple #[.bool true,.int .i64 0]):=fun W=>by have:=ht W;unfold bfV at this;rw [hb,hf] at this;exact this
     clear ht m1 m2 hf hb hxk hxo hat HX2 HPL hmf0
     go_wp2_with (first | (go_at_call 72;(with_reducible refine (ht2 _).mono ?_);rintro e w' ⟨rfl,hb⟩;obtain ⟨ost,dt,rfl⟩:=hb.more;clear hb) | (at_builtin;refine wpList_append_own _ rfl _ _ _ rfl wc.heap.size 3 i0 (.int .i64 0) 1 8 Tryz.underlying71 hi0 hz0 hz1 hz2 rfl (by decide) _ ps.length (i6 ps) rfl (zw HO.out (by simp [go_sem])) _ 1 1 [.int .i64 k] rfl rfl (Rd.one_ _ _ (by first | rfl | (simp;done))).add (zcr [k]) (by simp [maxLen];omega) (by omega) (by simp;omega) ?_;intro v4 w4 ho4 hg4 _))
     have hx4:=zbr (X:=wc) (by simp [go_sem]) (zw HO.out (by simp [go_sem])) hg4
     refine ⟨⟨k+1,ps++[k],by omega,by go_num,by simp;omega,M1,Lib.hid M2.out.symm,?_,hx4⟩,by simp [intOf];omega⟩
     show World.ownsRow _ _ _ _ _ _ _
     unfold i6;rw [List.map_append,List.length_append]
     exact ho4
    | false =>
     rw [hb,if_neg (by simp),List.append_nil] at m2
     have M2:=Lib.hid m2
     have ht2:∀ W,Tl prog 72 #[VV x.kind x.mant x.exp x.text x.truth x.fault] W (.tuple #[.bool false,.int .i64 0]):=fun W=>by have:=ht W;unfold bfV at this;rw [hb,hf] at this;exact this
     clear ht m1 m2 hf hb hxk hxo hat HX2 HPL hmf0
     go_wp2_with (go_at_call 72;with_reducible refine aM (ht2 _) fun ost dt=>?_)
     exact ⟨⟨k+1,ps,by omega,by go_num,by omega,M1,Lib.hid M2.out.symm,zw HO.out (by simp [go_sem]),by simp [go_sem]⟩,by simp [intOf];omega⟩
   ·have hmf:zaG l2=tf:=hmf0 hf
    obtain rfl:zf tf=X:=by rw [← HX2.out,hmf,if_pos hf]
    have hf':(tf != 0)=true:=by simpa using hf
    clear m1 m2 hf hxk hxo hat HX2 HPL hmf hmf0
    go_wp2_with (first | (go_at_call 72;with_reducible refine aM (ht _) fun ost dt=>?_) | ((go_at_call 17;with_reducible refine aR (zt _ _) fun D m cc os5 d5 hD=>?_;have hDr:=hD.rd);obtain ⟨osu,du,rfl⟩:=HU.out))
    exact bodyPost_ret (v:=AV (zf tf).R (zf tf).C (.slice D m cc)) (by simp [results,results27,go_sem]) rfl ⟨D,m,cc,rfl,⟨(by (try simp only [ze,za] at hDr);(try simp only [ze,za]);(try simp only [zc] at hDr);(try simp only [zb] at hDr);(try simp only [Array.append_assoc] at hDr);(try simp only [Array.append_assoc]);exact Rd.swap hDr (by first | (simp;done) | (simp;omega) | omega) (by first | (simp;done) | (simp;omega) | omega) (by first | (simp;done) | (simp;omega) | omega)),hD.len,hD.cap,hD.small,hD.ok⟩,by with_reducible repeat (first | exact Ext.refl _ | apply Ext.drew | apply Ext.alloc | apply Ext.more_)⟩
  ·obtain rfl:k=n2:=by omega
   have hT:l2.take k=l2:=List.take_of_length_le (by omega)
   have hF0:=HF.out
   have hP0:=HP.out
   rw [hT] at hF0 hP0
   have HX3:=HX2.out
   rw [hF0,if_neg (by simp),← hP0] at HX3
   have HX3:=Lib.hid HX3
   clear HX2 HF hT hF0
   obtain ⟨B1,cb1,rfl,hB1,hcb1⟩:=Rd.of_own HO.out
   have HB1:=Lib.hid (Rd.mono hB1 (Nat.zero_le _))
   have HLT:=Lib.hid (fun i (hi:i∈ps)=>by rw [hP0] at hi;exact zfJ hi)
   have HLE:=Lib.hid (show ps.length≤l2.length by rw [hP0];exact zel _ _)
   clear hB1 HO HP hP0
   by_cases hps:ps=[]
   ·have l0:((ps.length:Int) == 0)=true:=by rw [hps];rfl
    have HX4:=HX3.out
    rw [if_pos hps] at HX4
    cases g with
    | true =>
     have hlt3:=zcf H.out HG.out
     obtain ⟨R3,C3,l3,b3,off3,n3,cap3,b',off',x3,ha3,hbo,⟨t0,t1,t2⟩,_,hc3,_,_,_,_,hb3,_,_,harr3,_⟩:=H.out.first (k:=2) hlt3
     obtain ⟨rfl,rfl⟩:=aI hbo
     simp only at t0 t1 t2
     replace t0:=hx.cell_some t0
     replace t1:=hx.cell_some t1
     replace t2:=hx.cell_some t2
     have lt0:=zg t0
     have hxr3:NA.right ⟨R3,C3,l3⟩:=(H.out.all _ (List.mem_of_getElem? ha3)).right
     have hco:=fun W (hW:ArrIn W (some ⟨b3,off3,none⟩) n3 cap3 l3)=>zhZ ⟨R3,C3,l3⟩ _ n3 cap3 W hW hxr3
     obtain rfl:(⟨R3,C3,l3⟩:NA)=X:=by rw [← HX4,if_pos rfl];unfold zF;rw [ha3]
     have HA3:=Lib.hid (harr3.ext hx)
     clear HX3 HX4 hps HLT HLE HPL ha3 harr3 hxr3
     go_wp2_with (first | (go_at_call 73;with_reducible refine aM (gv _ (H.out.ext (Ext.trans hx (by simp [go_sem])))) fun osg dg=>?_) | ((go_at_call 74;with_reducible refine aR (hco _ (HA3.out.ext (by simp [go_sem]))) fun D m cc os5 d5 hD=>?_;have hDr:=hD.rd);obtain ⟨osu,du,rfl⟩:=HU.out))
     exact bodyPost_ret (v:=AV R3 C3 (.slice D m cc)) (by simp [results,results27,go_sem]) rfl ⟨D,m,cc,rfl,⟨(by (try simp only [ze,za] at hDr);(try simp only [ze,za]);(try simp only [zc] at hDr);(try simp only [zb] at hDr);(try simp only [Array.append_assoc] at hDr);(try simp only [Array.append_assoc]);exact Rd.swap hDr (by first | (simp;done) | (simp;omega) | omega) (by first | (simp;done) | (simp;omega) | omega) (by first | (simp;done) | (simp;omega) | omega)),hD.len,hD.cap,hD.small,hD.ok⟩,by with_reducible repeat (first | exact Ext.refl _ | apply Ext.drew | apply Ext.alloc | apply Ext.more_)⟩
    | false =>
     obtain rfl:zf 9=X:=by rw [← HX4];rfl
     clear HX3 HX4 hps HLT HLE HPL
     go_wp2_with (first | (go_at_call 73;with_reducible refine aM (gv _ (H.out.ext (Ext.trans hx (by simp [go_sem])))) fun osg dg=>?_) | ((go_at_call 17;with_reducible refine aR (zt _ _) fun D m cc os5 d5 hD=>?_;have hDr:=hD.rd);obtain ⟨osu,du,rfl⟩:=HU.out))
     exact bodyPost_ret (v:=AV (zf 9).R (zf 9).C (.slice D m cc)) (by simp [results,results27,go_sem]) rfl ⟨D,m,cc,rfl,⟨(by (try simp only [ze,za] at hDr);(try simp only [ze,za]);(try simp only [zc] at hDr);(try simp only [zb] at hDr);(try simp only [Array.append_assoc] at hDr);(try simp only [Array.append_assoc]);exact Rd.swap hDr (by first | (simp;done) | (simp;omega) | omega) (by first | (simp;done) | (simp;omega) | omega) (by first | (simp;done) | (simp;omega) | omega)),hD.len,hD.cap,hD.small,hD.ok⟩,by with_reducible repeat (first | exact Ext.refl _ | apply Ext.drew | apply Ext.alloc | apply Ext.more_)⟩
   ·have hpos:1≤ps.length:=by
     cases ps with
     | nil=>exact absurd rfl hps
     | cons _ _=>simp
    have l0:((ps.length:Int) == 0)=false:=by simp;omega
    have HX4:=HX3.out
    rw [if_neg hps] at HX4
    cases br with
    | true =>
     have hXe:zL ⟨R,C,l⟩ ps=X:=by rw [← HX4];rfl
     have hPl:PlOk ps R:=⟨hpos,by have h1:=HPL.out.1 rfl;unfold zb8 at h1;have:=HLE.out;omega,fun i hi=>by have h1:=HPL.out.1 rfl;unfold zb8 at h1;have:=HLT.out i hi;omega⟩
     have hr1:=fun W (hW:ArrIn W (some ⟨b1,off1,none⟩) n1 cap1 l) hB=>zdM ⟨R,C,l⟩ _ n1 cap1 ps B1 cb1 W hW hxr hB hcb1 hPl
     rw [hXe] at hr1
     have HR1:=Lib.hid hr1
     clear hXe hr1 HX3 HX4 hps HLT HLE HPL hPl hpos
     go_wp2_with (first | ((go_at_call 71;with_reducible refine aR (HR1.out _ ((HA.out.ext hx).ext (by simp [go_sem])) (HB1.out.ext (by simp [go_sem]))) fun D m cc os5 d5 hD=>?_;have hDr:=hD.rd);obtain ⟨osu,du,rfl⟩:=HU.out))
     exact bodyPost_ret (v:=AV X.R X.C (.slice D m cc)) (by simp [results,results27,go_sem]) rfl ⟨D,m,cc,rfl,⟨(by (try simp only [ze,za] at hDr);(try simp only [ze,za]);(try simp only [zc] at hDr);(try simp only [zb] at hDr);(try simp only [Array.append_assoc] at hDr);(try simp only [Array.append_assoc]);exact Rd.swap hDr (by first | (simp;done) | (simp;omega) | omega) (by first | (simp;done) | (simp;omega) | omega) (by first | (simp;done) | (simp;omega) | omega)),hD.len,hD.cap,hD.small,hD.ok⟩,by with_reducible repeat (first | exact Ext.refl _ | apply Ext.drew | apply Ext.alloc | apply Ext.more_)⟩
    | false =>
     have hXe:zaF ⟨R,C,l⟩ ps=X:=by rw [← HX4];rfl
     have hPl:PlOk ps C:=⟨hpos,by have h1:=HPL.out.2 rfl;unfold zb8 at h1;have:=HLE.out;omega,fun i hi=>by have h1:=HPL.out.2 rfl;unfold zb8 at h1;have:=HLT.out i hi;omega⟩
     have hr1:=fun W (hW:ArrIn W (some ⟨b1,off1,none⟩) n1 cap1 l) hB=>zgq ⟨R,C,l⟩ _ n1 cap1 ps B1 cb1 W hW hxr hB hcb1 hPl
     rw [hXe] at hr1
     have HR1:=Lib.hid hr1
     clear hXe hr1 HX3 HX4 hps HLT HLE HPL hPl hpos
     go_wp2_with (first | ((go_at_call 70;with_reducible refine aR (HR1.out _ ((HA.out.ext hx).ext (by simp [go_sem])) (HB1.out.ext (by simp [go_sem]))) fun D m cc os5 d5 hD=>?_;have hDr:=hD.rd);obtain ⟨osu,du,rfl⟩:=HU.out))
     exact bodyPost_ret (v:=AV X.R X.C (.slice D m cc)) (by simp [results,results27,go_sem]) rfl ⟨D,m,cc,rfl,⟨(by (try simp only [ze,za] at hDr);(try simp only [ze,za]);(try simp only [zc] at hDr);(try simp only [zb] at hDr);(try simp only [Array.append_assoc] at hDr);(try simp only [Array.append_assoc]);exact Rd.swap hDr (by first | (simp;done) | (simp;omega) | omega) (by first | (simp;done) | (simp;omega) | omega) (by first | (simp;done) | (simp;omega) | omega)),hD.len,hD.cap,hD.small,hD.ok⟩,by with_reducible repeat (first | exact Ext.refl _ | apply Ext.drew | apply Ext.alloc | apply Ext.more_)⟩
theorem zem (R C:Nat) (l:List Val) (b off n cap i:Nat) (w:World) (h:ArrIn w (some ⟨b,off,none⟩) n cap l) (hr:NA.right ⟨R,C,l⟩) (hi:i < R) :
  Tl prog 102 #[AV R C (.slice (some ⟨b,off,none⟩) n cap),.int .i64 (i:Int)] w (.slice (some ⟨b,off+i * C * 6,none⟩) C (cap - i * C)):=by
 obtain ⟨r1,r2,r3,r4,r5⟩:=zi.1 hr
 simp only at r1 r2 r3 r4 r5
 have hln:=h.len
 have hcap:=h.cap
 obtain ⟨m1,m2⟩:=zei hi r3
 have e1:IntKind.i64.wrap ((i:Int) * (C:Int))=((i * C:Nat):Int):=by rw [IntKind.wrap_i64,← Int.natCast_mul];omega
 have hC4:C≤4096:=Nat.le_trans (Nat.le_mul_of_pos_left C r1) r3
 have hi4:i≤4096:=Nat.le_trans (Nat.le_mul_of_pos_right i r2) m2
 have e2:IntKind.i64.wrap ((i:Int)+1)=(i:Int)+1:=by rw [IntKind.wrap_i64];omega
 have e3:IntKind.i64.wrap (((i:Int)+1) * (C:Int))=((i * C+C:Nat):Int):=by
  rw [IntKind.wrap_i64,Int.add_mul,Int.one_mul,← Int.natCast_mul,← Int.natCast_add]
  generalize i * C+C=z at *
  omega
 have hle:i * C+C≤cap:=by omega
 have hne:¬ cap=i * C:=by omega
 generalize hP:i * C=P at *
 have hPC:P+C - P=C:=by omega
 clear h hr r3 r4 r5 hP m1
 go_enter func102,ntmps102
 go_wp2_with fail
 exact bodyPost_ret (v:=.slice (some ⟨b,off+P * 6,none⟩) (P+C - P) (cap - P)) (by simp [results,results102,go_sem]) rfl ⟨by rw [hPC],by simp [go_sem]⟩
theorem zqd (Z:World) (o o':Obj) (os:Array Obj) (d:Nat) {g:Nat} (hg:Z.heap.size+1≤g):(more (Z.alloc o) os d).heap[g]? = (more (Z.alloc o') os d).heap[g]?:=by
 simp only [more,World.alloc,Array.getElem?_append,Array.getElem?_push,Array.size_push]
 by_cases h:g < Z.heap.size+1
 ·omega
 ·rw [if_neg h,if_neg h]
theorem zmm {Z:World} {o:Obj} (o':Obj) {os:Array Obj} {d base size n:Nat} {ty:TypeId} {v:Value} {xs:List Value} (h:(more (Z.alloc o) os d).ownsRow base ty size v n xs) (hb:Z.heap.size+1≤base):(more (Z.alloc o') os d).ownsRow base ty size v n xs:=by
 refine ⟨h.1,?_⟩
 rcases h.2 with h2 | ⟨g,cap,cur,hv,hg,hh,r⟩
 ·exact .inl h2
 ·exact .inr ⟨g,cap,cur,hv,hg,by rw [zqd Z o' o os d (by omega)];exact hh,r⟩
theorem zeH (R C:Nat) (l:List Val) (A:Option Addr) (n cap:Nat) (ps:List Nat) (B:Option Addr) (cb:Nat) (w:World) (h:ArrIn w A n cap l) (hr:NA.right ⟨R,C,l⟩) (hps:Rd 0 w B (i6 ps)) (hcb:ps.length≤cb) (hp:PlOk ps R) :
  Calls prog 103 #[AV R C (.slice A n cap),.slice B ps.length cb] w fun e w'=>zan w (zL ⟨R,C,l⟩ ps) e w':=by
 obtain ⟨r1,r2,r3,r4,r5⟩:=zi.1 hr
 simp only at r1 r2 r3 r4 r5
 have hln:=h.len
 obtain ⟨i0,hi0,hz0,hz1,hz2⟩:=info_parts zaY
 have hres:zL ⟨R,C,l⟩ ps=⟨ps.length,C,ps.flatMap (zcK C l)⟩:=rfl
 have hok:∀ x∈ps.flatMap (zcK C l),x.ok:=zgk (a:=⟨R,C,l⟩) r4 hp.lt h.ok
 have hm:ps.length * C≤4096:=Nat.le_trans (Nat.mul_le_mul_right _ hp.le) r3
 have hm2:ps.length≤4096:=Nat.le_trans hp.le (Nat.le_trans (Nat.le_mul_of_pos_right R r2) r3)
 rw [hres]
 have HO:=Lib.hid hok
 have HL:=Lib.hid hm
 have hC4:C≤4096:=Nat.le_trans (Nat.le_mul_of_pos_left C r1) r3
 generalize hN:ps.length * C=N at *
 have HN:=Lib.hid hN
 clear hN hres hok
 go_enter func103,ntmps103
 go_wp2_with fail
 go_loopw [6] (fun i wr=>∃ (k:Nat) (E:Option Addr) (c:Nat) (os:Array Obj) (d:Nat),k≤ps.length∧i = .int .i64 (k:Int)∧wr=more (((w.alloc (Obj.cells #[.int .i64 (R:Int),.int .i64 (C:Int),.slice (A) n cap] 30)).alloc (Obj.cells #[.int .i64 0,.int .i64 0,.slice none 0 0] 30)).alloc (Obj.cells #[.int .i64 (ps.length:Int),.int .i64 (C:Int),.slice E (k * C) c] 30)) os d∧Hid (wr.ownsRow (w.heap.size+3) 37 6 (.slice E (k * C) c) (k * C) (zm ((ps.take k).flatMap (zcK C l))))) (fun i _=>ps.length - (intOf i).toNat)
 case atStart =>
  have h0:0 * C=0:=Nat.zero_mul C
  refine ⟨0,none,0,#[],((((w.alloc (Obj.cells #[.int .i64 (R:Int),.int .i64 (C:Int),.slice (A) n cap] 30)).alloc (Obj.cells #[.int .i64 0,.int .i64 0,.slice none 0 0] 30)).alloc (Obj.cells #[.int .i64 (ps.length:Int),.int .i64 (C:Int),.slice none 0 0] 30))).drawn,Nat.zero_le _,rfl,?_,?_⟩
  ·rw [h0];exact (zbo _).symm
  ·show World.ownsRow _ _ _ _ _ _ _
   rw [h0]
   exact World.ownsRow_nil _ _ _ _
 case round =>
  obtain ⟨k,E,c,os,d,hk,rfl,rfl,HW⟩:=hrel
  by_cases hlt:k < ps.length
  ·have hlt':(k:Int) < (ps.length:Int):=by omega
   obtain ⟨r,hrk⟩:∃ r,ps[k]? = some r:=⟨_,List.getElem?_eq_getElem hlt⟩
   have hrR:r < R:=hp.lt r (List.mem_of_getElem? hrk)
   obtain ⟨m1,m2⟩:=zei hrR r3
   obtain ⟨bp,op,rfl,_,hcp⟩:=hps k (.int .i64 r) (by rw [List.getElem?_map,hrk];rfl)
   have hbp:=zg hcp
   obtain ⟨b,off,rfl,hbl,hcell⟩:=h.part (p:=r * C) (m:=C) (by omega) r2
   have hcap:=h.cap
   have hkC:k * C+C≤N:=by rw [← HN.out];have:=Nat.mul_le_mul_right C (show k+1≤ps.length by omega);rw [Nat.add_mul,Nat.one_mul] at this;exact this
   have hl6:(zm ((l.drop (r * C)).take C)).length=C * 6:=by rw [zaU,List.length_take,List.length_drop];omega
   have hstep:=zjd (C:=C) (l:=l) hrk
   have hrw:=fun W (hW:ArrIn W (some ⟨b,off,none⟩) n cap l)=>zem R C l b off n cap r W hW hr hrR
   have HS:=Lib.hid hstep
   have HK:=Lib.hid hkC
   have HA:=Lib.hid h
   have HC:=Lib.hid hcell
   have HR:=Lib.hid hrw
   have H6:=Lib.hid hl6
   clear hstep hkC hrk hcell hrw hl6 m1 m2
   go_upto_region 5 with fail
   refine zcj (S:=Ext (((w.alloc (Obj.cells #[.int .i64 (R:Int),.int .i64 (C:Int),.slice (some ⟨b,off,none⟩) n cap] 30)).alloc (Obj.cells #[.int .i64 0,.int .i64 0,.slice none 0 0] 30)).alloc (Obj.cells #[.int .i64 (ps.length:Int),.int .i64 (C:Int),.slice E (k * C) c] 30))) [(0,0),(1,0),(2,0),(3,0),(4,0),(5,0),(6,0),(7,1),(8,1),(9,0),(10,2)] [10] (by kernel_rfl) (by kernel_rfl) (by kernel_rfl) (fun _ _ d _ _ h=>by cases d <;> exact h) (Ext.drew (zP _ _ _)) ?_
   iterate 7 (apply rdP rfl rfl;(intros;go_simp;first | done | rfl);try simp only [zq])
   (refine zh rfl ?_ (fun K hK=>?_);rfl;go_simp;refine aM (HR.out _ (HA.out.ext (by simp [go_sem]))) fun osf df=>?_;refine hK _ _ ?_ ?_;(simp [go_sem]))
   try simp only [zq]
   (refine zh rfl ?_ (fun K hK=>?_);rfl)
   refine zbA _ _ _ _ rfl (w.heap.size+3) 37 i0 (VV 0 0 0 ⟨#[]⟩ false 0) 6 56 Tryz.underlying28 hi0 hz0 hz1 hz2 rfl (by decide) (.slice E (k * C) c) (k * C) _ rfl (zw HW.out (by simp [go_sem])) _ C _ (zm ((l.drop (r * C)).take C)) rfl H6.out (fun j u hu=>by rw [Addr.add_mid];exact (show Ext w _ from (by simp [go_sem])).cell_some (HC.out j u hu)) (fun u hu=>zbB u hu) (by have:=HK.out;simp only [maxLen];omega) (by have:=HK.out;omega) (by simp;omega) ?_
   intro v4 w4 ho4 hg4
   have hx4:Ext (((w.alloc (Obj.cells #[.int .i64 (R:Int),.int .i64 (C:Int),.slice (some ⟨b,off,none⟩) n cap] 30)).alloc (Obj.cells #[.int .i64 0,.int .i64 0,.slice none 0 0] 30)).alloc (Obj.cells #[.int .i64 (ps.length:Int),.int .i64 (C:Int),.slice E (k * C) c] 30)) w4:=zba (n:=k * C) (ty:=37) (size:=6) (xs:=zm ((ps.take k).flatMap (zcK C l))) (v:=.slice E (k * C) c) (by simp [go_sem]) (by simpa [Nat.add_assoc] using zw HW.out (by simp [go_sem])) hg4
   obtain ⟨os9,d9,rfl⟩:=hx4.more
   obtain ⟨G4,c4,rfl⟩:=za5 ho4
   have HO4:=Lib.hid ho4
   clear ho4 hg4 hx4
   refine hK _ _ (zP _ _ _) ?_
   try simp only [zq]
   (apply rdP rfl rfl;(intros;go_simp;first | done | rfl))
   try simp only [zq]
   (refine zaa rfl ?_ (fun K hK=>?_);rfl;go_simp;refine hK _ _ ?_)
   try simp only [zq]
   refine zj ?_
   go_wp2_with fail
   have hkk:(k+1) * C=k * C+C:=by rw [Nat.add_mul,Nat.one_mul]
   refine ⟨⟨k+1,G4,c4,os9,_,by omega,by go_num,by rw [hkk],?_⟩,by simp [intOf];omega⟩
   show World.ownsRow _ _ _ _ _ _ _
   rw [HS.out,zar,hkk]
   exact zmm (Z:=((w.alloc (Obj.cells #[.int .i64 (R:Int),.int .i64 (C:Int),.slice (some ⟨b,off,none⟩) n cap] 30)).alloc (Obj.cells #[.int .i64 0,.int .i64 0,.slice none 0 0] 30))) _ HO4.out (by simp)
  ·obtain rfl:k=ps.length:=by omega
   have hT:ps.take ps.length=ps:=List.take_length
   have HW2:=HW.out
   rw [hT,HN.out] at HW2
   rw [HN.out]
   obtain ⟨D,cc,hv,hD⟩:=zcD (n:=N) (l:=ps.flatMap (zcK C l)) (v:=.slice E N c) (w:=(((w.alloc (Obj.cells #[.int .i64 (R:Int),.int .i64 (C:Int),.slice (A) n cap] 30)).alloc (Obj.cells #[.int .i64 0,.int .i64 0,.slice none 0 0] 30)).alloc (Obj.cells #[.int .i64 (ps.length:Int),.int .i64 (C:Int),.slice E N c] 30))) (X:=(((w.alloc (Obj.cells #[.int .i64 (R:Int),.int .i64 (C:Int),.slice (A) n cap] 30)).alloc (Obj.cells #[.int .i64 0,.int .i64 0,.slice none 0 0] 30)).alloc (Obj.cells #[.int .i64 (ps.length:Int),.int .i64 (C:Int),.slice E N c] 30))) (by simpa [Nat.add_assoc] using HW2) (Nat.le_refl _) (by omega) HO.out
   simp only [Value.slice.injEq,true_and] at hv
   obtain ⟨rfl,rfl⟩:=hv
   have hDr:=hD.rd
   clear HW HW2 hT
   go_wp2_with fail
   exact rc1 (v:=AV ps.length C (.slice E N c)) rfl rfl (by simp [go_sem]) (by (try simp only [ze,za,zc,zb,Array.append_assoc] at hDr);(try simp only [ze,za,zc,zb,Array.append_assoc]);exact raS hDr hD (by simp <;> omega) (by simp [go_sem]))
theorem zkN (v:Val) (w:World) (hv:v.right) :
  Tl prog 105 #[VV v.kind v.mant v.exp v.text v.truth v.fault] w (bfV (zZ v)):=by
 rcases hv.form with rfl | ⟨m,e,rfl,hr⟩ | ⟨t,rfl,ht⟩ | ⟨x,rfl⟩ | ⟨f,rfl,hf⟩
 ·show Tl prog 105 #[VV 0 0 0 ⟨#[]⟩ false 0] w (.tuple #[.bool false,.int .i64 0])
  go_enter func105,ntmps105
  go_wp2
  exact rt2 rfl rfl ⟨rfl,by simp [go_sem]⟩
 ·show Tl prog 105 #[VV 1 m e ⟨#[]⟩ false 0] w (.tuple #[.bool (decide (m≠0)),.int .i64 0])
  clear hr hv
  by_cases hm:m=0
  ·subst hm
   go_enter func105,ntmps105
   go_wp2
   exact rt2 rfl rfl ⟨rfl,by simp [go_sem]⟩
  ·rw [decide_eq_true hm]
   have hm':(m != 0)=true:=by simpa using hm
   go_enter func105,ntmps105
   go_wp2
   exact rt2 rfl rfl ⟨rfl,by simp [go_sem]⟩
 ·have hF:=fun W=>zcw t W (by omega)
  have hT:zZ ⟨2,0,0,t,false,0⟩=if (zac t).toList == [84,82,85,69] then (true,0) else if (zac t).toList == [70,65,76,83,69] then (false,0) else (false,2):=rfl
  rw [hT]
  show Calls prog 105 #[VV 2 0 0 t false 0] w _
  clear hT ht hv
  generalize zac t=X at *
  cases h1:X.toList == [84,82,85,69] with
  | true =>
   rw [if_pos rfl]
   go_enter func105,ntmps105
   go_wp2_with (go_at_call 148;with_reducible refine aM (hF _) fun os d=>?_)
   exact rt2 rfl rfl ⟨rfl,by simp [go_sem]⟩
  | false =>
   rw [if_neg (by simp)]
   cases h2:X.toList == [70,65,76,83,69] with
   | true =>
    rw [if_pos rfl]
    go_enter func105,ntmps105
    go_wp2_with (go_at_call 148;with_reducible refine aM (hF _) fun os d=>?_)
    exact rt2 rfl rfl ⟨rfl,by simp [go_sem]⟩
   | false =>
    rw [if_neg (by simp)]
    go_enter func105,ntmps105
    go_wp2_with (go_at_call 148;with_reducible refine aM (hF _) fun os d=>?_)
    exact rt2 rfl rfl ⟨rfl,by simp [go_sem]⟩
 ·show Tl prog 105 #[VV 3 0 0 ⟨#[]⟩ x 0] w (.tuple #[.bool x,.int .i64 0])
  cases x
  all_goals
   go_enter func105,ntmps105
   go_wp2
   exact bodyPost_ret (v:=_) (by simp [results,results105,go_sem]) rfl ⟨rfl,by simp [go_sem]⟩
 ·show Tl prog 105 #[VV 4 0 0 ⟨#[]⟩ false f] w (.tuple #[.bool false,.int .i64 f])
  go_enter func105,ntmps105
  go_upto_region 2 with fail
  go_region
  all_goals
   go_wp2
   exact rt2 rfl rfl ⟨rfl,by simp [go_sem]⟩
theorem zgt {w:World} {n:Nat} {ty:TypeId} {cs:Array Value} (hn:n=w.heap.size) (hc:cs = #[]):(w.alloc (.cells cs ty)).ownsRow w.heap.size ty 1 (.slice (some ⟨n,0,none⟩) 0 0) 0 []:=by
 subst hn hc
 exact ⟨rfl,Or.inr ⟨w.heap.size,0,_,rfl,Nat.le_refl _,Array.getElem?_push_size,Nat.le_refl _,by decide,by simp,by simp⟩⟩
theorem zlv (A:Option Addr) (n cap:Nat) (xs:List Ar) (w:World) (h:ArgsIn w A n cap xs) (h2:2≤n) :
  Calls prog 55 #[.slice A n cap] w fun e w'=>zp2 w xs (zc1 xs) e w':=by
 obtain ⟨R,C,l,b1,off1,n1,cap1,b,off,x0,ha,rfl,⟨v0,v1,v2⟩,_,hc1,_,_,_,hbl,_,_,_,harr,_⟩:=h.first (k:=0) (by omega)
 obtain ⟨R2,C2,l2,b2,off2,n2,cap2,b',off',x2,ha2,hbo,⟨u0,u1,u2⟩,hn2,hc2,_,_,_,_,hb2,_,_,harr2,_⟩:=h.first (k:=1) (by omega)
 obtain ⟨rfl,rfl⟩:=aI hbo
 have hxr:NA.right ⟨R,C,l⟩:=(h.all _ (List.mem_of_getElem? ha)).right
 have hxr2:NA.right ⟨R2,C2,l2⟩:=(h.all _ (List.mem_of_getElem? ha2)).right
 have hcap:=h.cap
 have hsm:=h.small
 simp only [Nat.zero_mul,Nat.add_zero,Nat.one_mul] at v0 v1 v2 u0 u1 u2
 have hx0:zF xs 0=⟨R,C,l⟩:=by unfold zF;rw [ha]
 have hx1:zF xs 1=⟨R2,C2,l2⟩:=by unfold zF;rw [ha2]
 obtain ⟨r1,r2,r3,r4,r5⟩:=zi.1 hxr
 obtain ⟨s1,s2,s3,s4,s5⟩:=zi.1 hxr2
 simp only at r1 r2 r3 r4 s1 s2 s3 s4 s5
 have hln2:=harr2.len
 have hn24:n2≤4096:=by omega
 unfold zc1
 rw [hx0,hx1]
 have gv:=fun W (hW:ArgsIn W (some ⟨b,off,none⟩) n cap xs)=>zdu _ n cap xs 2 W hW _ rfl
 have H:=Lib.hid h
 have HA:=Lib.hid harr
 have HA2:=Lib.hid harr2
 obtain ⟨g,hg⟩:∃ g,zA xs 2=g:=⟨_,rfl⟩
 rw [hg]
 have HG:=Lib.hid hg
 rw [hg] at gv
 simp only [show ((2:Nat):Int)=2 from rfl] at gv
 obtain ⟨X,hX⟩:∃ X,zdt ⟨R,C,l⟩ ⟨R2,C2,l2⟩ (zF xs 2) g=X:=⟨_,rfl⟩
 rw [hX]
 have HX:=Lib.hid hX
 clear h harr harr2 ha ha2 hx0 hx1 hX r4 hg
 have hbl':b < w.heap.size:=hbl
 go_enter func55,ntmps55
 go_upto_region 3 with fail
 refine zz fun wc hU=>?_
 have hx:Ext w wc:=by rw [hU];exact (by simp [go_sem])
 have hsz:w.heap.size+3≤wc.heap.size:=by rw [hU];simp
 have c0:wc.cell? ⟨w.heap.size+1,0,none⟩=some (.int .i64 (R:Int)):=by rw [hU];go_simp
 have c1:wc.cell? ⟨w.heap.size+1,1,none⟩=some (.int .i64 (C:Int)):=by rw [hU];go_simp
 have c2:wc.cell? ⟨w.heap.size+1,2,none⟩=some (.slice (some ⟨b1,off1,none⟩) n1 cap1):=by rw [hU];go_simp
 have e0:wc.cell? ⟨w.heap.size+1+1,0,none⟩=some (.int .i64 (R2:Int)):=by rw [hU];go_simp
 have e1:wc.cell? ⟨w.heap.size+1+1,1,none⟩=some (.int .i64 (C2:Int)):=by rw [hU];go_simp
 have e2:wc.cell? ⟨w.heap.size+1+1,2,none⟩=some (.slice (some ⟨b2,off2,none⟩) n2 cap2):=by rw [hU];go_simp
 have HU:Hid (∃ os d,wc=more (w.alloc (Obj.cells #[.int .i64 0,.int .i64 0,.slice none 0 0] 30)) os d):=Lib.hid ((show Ext (w.alloc (Obj.cells #[.int .i64 0,.int .i64 0,.slice none 0 0] 30)) wc by rw [hU];exact (by simp [go_sem])).more)
 clear hU
 generalize w.heap.size+1+1=pb at *
 generalize w.heap.size+1=pa at *
 have la:=zg c0
 have lb:=zg e0
 replace v0:=hx.cell_some v0
 clear v0 v1 v2 u0 u1 u2
 obtain ⟨br,hbr⟩:∃ br,(decide (C2=1) && decide (R2=R))=br:=⟨_,rfl⟩
 have HBR:=Lib.hid hbr
 go_cut [5] (fun s5 wx=>s5 = .bool br∧wx=wc)
 case first =>
  by_cases q1:C2=1
  ·have q1':((C2:Int) == 1)=true:=by simp;omega
   by_cases q2:R2=R
   ·have q2':((R2:Int) == (R:Int))=true:=by simp;omega
    obtain rfl:true=br:=by rw [← hbr];simp [q1,q2]
    clear hbr q1 q2
    go_wp2_with fail
    go_meet
    exact ⟨rfl,rfl⟩
   ·have q2':((R2:Int) == (R:Int))=false:=by simp;omega
    obtain rfl:false=br:=by rw [← hbr];simp [q2]
    clear hbr q1 q2
    go_wp2_with fail
    go_meet
    exact ⟨rfl,rfl⟩
  ·have q1':((C2:Int) == 1)=false:=by simp;omega
   obtain rfl:false=br:=by rw [← hbr];simp [q1]
   clear hbr q1
   go_wp2_with fail
   go_meet
   exact ⟨rfl,rfl⟩
 case rest =>
 obtain ⟨rfl,rfl⟩:=hcut
 clear hbr
 obtain ⟨bad,hbad⟩:∃ bad,(!br && (decide (R2≠1) || decide (C2≠C)))=bad:=⟨_,rfl⟩
 have HBAD:=Lib.hid hbad
 go_upto_region 4 with fail
 go_cut [39] (fun s40 wx=>s40 = .bool bad∧wx=wc)
 case first =>
  cases br with
  | true =>
   obtain rfl:false=bad:=by rw [← hbad];simp
   clear hbad
   go_wp2_with fail
   go_meet
   exact ⟨rfl,rfl⟩
  | false =>
   by_cases q1:R2=1
   ·have q1':((R2:Int) != 1)=false:=by simp;omega
    by_cases q2:C2=C
    ·have q2':((C2:Int) != (C:Int))=false:=by simp;omega
     obtain rfl:false=bad:=by rw [← hbad];simp [q1,q2]
     clear hbad q1 q2
     go_wp2_with fail
     go_meet
     exact ⟨rfl,rfl⟩
    ·have q2':((C2:Int) != (C:Int))=true:=by simp;omega
     obtain rfl:true=bad:=by rw [← hbad];simp [q2]
     clear hbad q1 q2
     go_wp2_with fail
     go_meet
     exact ⟨rfl,rfl⟩
   ·have q1':((R2:Int) != 1)=true:=by simp;omega
    obtain rfl:true=bad:=by rw [← hbad];simp [q1]
    clear hbad q1
    go_wp2_with fail
    go_meet
    exact ⟨rfl,rfl⟩
 case rest =>
 obtain ⟨rfl,rfl⟩:=hcut
 clear hbad
 cases bad with
 | true =>
  obtain rfl:zf 2=X:=by rw [← HX.out];exact (zg8 (a:=⟨R,C,l⟩) (b:=⟨R2,C2,l2⟩) HBR.out HBAD.out).symm
  go_wp2_with ((go_at_call 44;with_reducible refine aR (zE 2 (by omega) _) fun D m cc os5 d5 hD=>?_;have hDr:=hD.rd);obtain ⟨osu,du,rfl⟩:=HU.out)
  exact rc1 rfl rfl (by simp [go_sem]) ⟨D,m,cc,rfl,ArrN.arr (base:=w.heap.size) ⟨(by (try simp only [ze,za] at hDr);(try simp only [ze,za]);(try simp only [zc] at hDr);(try simp only [zb] at hDr);(try simp only [Array.append_assoc] at hDr);(try simp only [Array.append_assoc]);exact hDr.sw (by simp <;> omega)),hD.len,hD.cap,hD.small,hD.ok⟩,by simp [go_sem],Or.inr (by (try simp only [ze,za] at hDr);(try simp only [ze,za]);(try simp only [zc] at hDr);(try simp only [zb] at hDr);(try simp only [Array.append_assoc] at hDr);(try simp only [Array.append_assoc]);exact hDr.sw (by simp <;> omega))⟩
 | false =>
 have HX2:Hid ((if zaG l2≠0 then zf (zaG l2) else if zai l2 0=[] then (if g then zF xs 2 else zf 9) else if br=true then zL ⟨R,C,l⟩ (zai l2 0) else zaF ⟨R,C,l⟩ (zai l2 0))=X):=by
  show _=_
  rw [← HX.out];exact (zh2 (a:=⟨R,C,l⟩) (b:=⟨R2,C2,l2⟩) HBR.out HBAD.out).symm
 have hpl:(br=true→zb8 l2 R)∧(br=false→zb8 l2 C):=by
  have e1:=HBR.out
  have e2:=HBAD.out
  constructor
  ·intro hb
   rw [hb] at e1
   simp only [Bool.and_eq_true,decide_eq_true_eq] at e1
   unfold zb8
   rw [s4,e1.1,e1.2,Nat.mul_one]
  ·intro hb
   rw [hb] at e2
   simp only [Bool.not_false,Bool.true_and,Bool.or_eq_false_iff,decide_eq_false_iff_not,ne_eq,Decidable.not_not] at e2
   unfold zb8
   rw [s4,e2.1,e2.2,Nat.one_mul]
 have HPL:=Lib.hid hpl
 clear HX HBR HBAD hpl
 obtain ⟨i0,hi0,hz0,hz1,hz2⟩:=info_parts zbq
 go_wp2_with fail
 go_loopw [6,7] (fun v i wr=>∃ (k:Nat) (ps:List Nat),k≤n2∧i = .int .i64 (k:Int)∧ps.length≤k∧Hid (zaG (l2.take k)=0)∧Hid (ps=zai (l2.take k) 0)∧Hid (wr.ownsRow wc.heap.size 3 1 v ps.length (i6 ps))∧Ext wc wr) (fun _ i _=>n2 - (intOf i).toNat)
 case atStart=>exact ⟨0,[],Nat.zero_le _,rfl,Nat.le_refl _,rfl,rfl,zgt rfl rfl,(Ext.refl _).alloc _⟩
 case round =>
  obtain ⟨k,ps,hk,rfl,hpk,HF,HP,HO,hxr⟩:=hrel
  have hsr:=hxr.size
  have hxr0:=hxr
  obtain ⟨os,d,rfl⟩:=hxr.more
  clear hxr
  by_cases hlt:k < n2
  ·have hlt':(k:Int) < (n2:Int):=by omega
   obtain ⟨x,bq,oq,hxk,hxo,hbq,hat⟩:=HA2.out.at hlt
   obtain ⟨rfl,rfl⟩:=aI hbq
   obtain ⟨y0,y1,y2,y3,y4,y5⟩:=hat.ext hx
   have hb2':=zg y0
   have hxR:x.right:=s5 x (List.mem_of_getElem? hxk)
   have ht:=fun W=>zkN x W hxR
   obtain ⟨m1,m2⟩:=zgs hxk
   rw [HF.out,if_neg (by simp)] at m1
   rw [← HP.out] at m2
   have hmf0:=zg7 hxk HF.out
   obtain ⟨⟨tb,tf⟩,hxt⟩:∃ p,zZ x=p:=⟨_,rfl⟩
   have hbd:=zoK hxR
   rw [hxt] at m1 m2 ht hmf0 hbd
   simp only at m1 m2 hmf0 hbd
   clear hxt
   by_cases hf:tf=0
   ·have M1:=Lib.hid (m1.trans hf)
    cases hb:tb with
    | true =>
     rw [hb,if_pos rfl] at m2
     have M2:=Lib.hid m2
     have ht2:∀ W,Tl prog 105 #[VV x.kind x.mant x.exp x.text x.truth x.fault] W (.tuple #[.bool true,.int .i64 0]):=fun W=>by have:=ht W;unfold bfV at this;rw [hb,hf] at this;exact this
     clear ht m1 m2 hf hb hxk hxo hat HX2 HPL hmf0 hbd
     go_wp2_with (first | (go_at_call 105;(with_reducible refine (ht2 _).mono ?_);rintro e w' ⟨rfl,hb⟩;obtain ⟨ost,dt,rfl⟩:=hb.more;clear hb) | (at_builtin;refine wpList_append_own _ rfl _ _ _ rfl wc.heap.size 3 i0 (.int .i64 0) 1 8 Tryz.underlying71 hi0 hz0 hz1 hz2 rfl (by decide) _ ps.length (i6 ps) rfl (zw HO.out (by simp [go_sem])) _ 1 1 [.int .i64 k] rfl rfl (Rd.one_ _ _ (by first | rfl | (simp;done))).add (zcr [k]) (by simp [maxLen];omega) (by omega) (by simp;omega) ?_;intro v4 w4 ho4 hg4 _))
     have hx4:=zbr (X:=wc) (by simp [go_sem]) (zw HO.out (by simp [go_sem])) hg4
     refine ⟨⟨k+1,ps++[k],by omega,by go_num,by simp;omega,M1,Lib.hid M2.out.symm,?_,hx4⟩,by simp [intOf];omega⟩
     show World.ownsRow _ _ _ _ _ _ _
     unfold i6;rw [List.map_append,List.length_append]
     exact ho4
    | false =>
     rw [hb,if_neg (by simp),List.append_nil] at m2
     have M2:=Lib.hid m2
     have ht2:∀ W,Tl prog 105 #[VV x.kind x.mant x.exp x.text x.truth x.fault] W (.tuple #[.bool false,.int .i64 0]):=fun W=>by have:=ht W;unfold bfV at this;rw [hb,hf] at this;exact this
     clear ht m1 m2 hf hb hxk hxo hat HX2 HPL hmf0 hbd
     go_wp2_with (go_at_call 105;with_reducible refine aM (ht2 _) fun ost dt=>?_)
     exact ⟨⟨k+1,ps,by omega,by go_num,by omega,M1,Lib.hid M2.out.symm,zw HO.out (by simp [go_sem]),by simp [go_sem]⟩,by simp [intOf];omega⟩
   ·have hmf:zaG l2=tf:=hmf0 hf
    obtain rfl:zf tf=X:=by rw [← HX2.out,hmf,if_pos hf]
    have hf':(tf != 0)=true:=by simpa using hf
    have HB:=Lib.hid (hbd.resolve_left hf)
    clear m1 m2 hf hxk hxo hat HX2 HPL hmf hmf0 hbd
    go_wp2_with (first | (go_at_call 105;with_reducible refine aM (ht _) fun ost dt=>?_) | ((go_at_call 44;with_reducible refine aR (zE _ HB.out _) fun D m cc os5 d5 hD=>?_;have hDr:=hD.rd);obtain ⟨osu,du,rfl⟩:=HU.out))
    exact rc1 rfl rfl (by simp [go_sem]) ⟨D,m,cc,rfl,ArrN.arr (base:=w.heap.size) ⟨(by (try simp only [ze,za] at hDr);(try simp only [ze,za]);(try simp only [zc] at hDr);(try simp only [zb] at hDr);(try simp only [Array.append_assoc] at hDr);(try simp only [Array.append_assoc]);exact hDr.sw (by simp <;> omega)),hD.len,hD.cap,hD.small,hD.ok⟩,by simp [go_sem],Or.inr (by (try simp only [ze,za] at hDr);(try simp only [ze,za]);(try simp only [zc] at hDr);(try simp only [zb] at hDr);(try simp only [Array.append_assoc] at hDr);(try simp only [Array.append_assoc]);exact hDr.sw (by simp <;> omega))⟩
  ·obtain rfl:k=n2:=by omega
   have hT:l2.take k=l2:=List.take_of_length_le (by omega)
   have hF0:=HF.out
   have hP0:=HP.out
   rw [hT] at hF0 hP0
   have HX3:=HX2.out
   rw [hF0,if_neg (by simp),← hP0] at HX3
   have HX3:=Lib.hid HX3
   clear HX2 HF hT hF0
   obtain ⟨B1,cb1,rfl,hB1,hcb1⟩:=Rd.of_own HO.out
   have HB1:=Lib.hid (Rd.mono hB1 (Nat.zero_le _))
   have HLT:=Lib.hid (fun i (hi:i∈ps)=>by rw [hP0] at hi;exact zfJ hi)
   have HLE:=Lib.hid (show ps.length≤l2.length by rw [hP0];exact zel _ _)
   clear hB1 HO HP hP0
   by_cases hps:ps=[]
   ·have l0:((ps.length:Int) == 0)=true:=by rw [hps];rfl
    have HX4:=HX3.out
    rw [if_pos hps] at HX4
    cases g with
    | true =>
     have hlt3:=zcf H.out HG.out
     obtain ⟨R3,C3,l3,b3,off3,n3,cap3,b',off',x3,ha3,hbo,⟨t0,t1,t2⟩,_,hc3,_,_,_,_,hb3,_,_,harr3,_⟩:=H.out.first (k:=2) hlt3
     obtain ⟨rfl,rfl⟩:=aI hbo
     simp only at t0 t1 t2
     have t3:=hx.cell_some t0
     have t4:=hx.cell_some t1
     have t5:=hx.cell_some t2
     have lt0:=zg t3
     have hxr3:NA.right ⟨R3,C3,l3⟩:=(H.out.all _ (List.mem_of_getElem? ha3)).right
     obtain rfl:(⟨R3,C3,l3⟩:NA)=X:=by rw [← HX4,if_pos rfl];unfold zF;rw [ha3]
     have HA3w:=Lib.hid harr3
     have HM:=Lib.hid (List.mem_of_getElem? ha3)
     clear HX3 HX4 hps HLT HLE HPL ha3 harr3 hxr3
     go_wp2_with (go_at_call 97;with_reducible refine aM (gv _ (H.out.ext (Ext.trans hx (by simp [go_sem])))) fun osg dg=>?_;obtain ⟨osu,du,rfl⟩:=HU.out)
     exact rc1 rfl rfl (by simp [go_sem]) ⟨_,n3,cap3,rfl,HA3w.out.ext (by simp [go_sem]),by simp [go_sem],Or.inl ⟨_,HM.out,rfl⟩⟩
    | false =>
     obtain rfl:zf 9=X:=by rw [← HX4];rfl
     clear HX3 HX4 hps HLT HLE HPL
     go_wp2_with (first | (go_at_call 97;with_reducible refine aM (gv _ (H.out.ext (Ext.trans hx (by simp [go_sem])))) fun osg dg=>?_) | ((go_at_call 44;with_reducible refine aR (zE 9 (by omega) _) fun D m cc os5 d5 hD=>?_;have hDr:=hD.rd);obtain ⟨osu,du,rfl⟩:=HU.out))
     exact rc1 rfl rfl (by simp [go_sem]) ⟨D,m,cc,rfl,ArrN.arr (base:=w.heap.size) ⟨(by (try simp only [ze,za] at hDr);(try simp only [ze,za]);(try simp only [zc] at hDr);(try simp only [zb] at hDr);(try simp only [Array.append_assoc] at hDr);(try simp only [Array.append_assoc]);exact hDr.sw (by simp <;> omega)),hD.len,hD.cap,hD.small,hD.ok⟩,by simp [go_sem],Or.inr (by (try simp only [ze,za] at hDr);(try simp only [ze,za]);(try simp only [zc] at hDr);(try simp only [zb] at hDr);(try simp only [Array.append_assoc] at hDr);(try simp only [Array.append_assoc]);exact hDr.sw (by simp <;> omega))⟩
   ·have hpos:1≤ps.length:=by
     cases ps with
     | nil=>exact absurd rfl hps
     | cons _ _=>simp
    have l0:((ps.length:Int) == 0)=false:=by simp;omega
    have HX4:=HX3.out
    rw [if_neg hps] at HX4
    cases br with
    | true =>
     have hXe:zL ⟨R,C,l⟩ ps=X:=by rw [← HX4];rfl
     have hPl:PlOk ps R:=⟨hpos,by have h1:=HPL.out.1 rfl;unfold zb8 at h1;have:=HLE.out;omega,fun i hi=>by have h1:=HPL.out.1 rfl;unfold zb8 at h1;have:=HLT.out i hi;omega⟩
     have hr1:=fun W (hW:ArrIn W (some ⟨b1,off1,none⟩) n1 cap1 l) hB=>zeH R C l _ n1 cap1 ps B1 cb1 W hW hxr hB hcb1 hPl
     rw [hXe] at hr1
     have HR1:=Lib.hid hr1
     clear hXe hr1 HX3 HX4 hps HLT HLE HPL hPl hpos
     go_wp2_with (first | ((go_at_call 103;with_reducible refine aR (HR1.out _ ((HA.out.ext hx).ext (by simp [go_sem])) (HB1.out.ext (by simp [go_sem]))) fun D m cc os5 d5 hD=>?_;have hDr:=hD.rd);obtain ⟨osu,du,rfl⟩:=HU.out))
     exact rc1 rfl rfl (by simp [go_sem]) ⟨D,m,cc,rfl,ArrN.arr (base:=w.heap.size) ⟨(by (try simp only [ze,za] at hDr);(try simp only [ze,za]);(try simp only [zc] at hDr);(try simp only [zb] at hDr);(try simp only [Array.append_assoc] at hDr);(try simp only [Array.append_assoc]);exact hDr.sw (by simp <;> omega)),hD.len,hD.cap,hD.small,hD.ok⟩,by simp [go_sem],Or.inr (by (try simp only [ze,za] at hDr);(try simp only [ze,za]);(try simp only [zc] at hDr);(try simp only [zb] at hDr);(try simp only [Array.append_assoc] at hDr);(try simp only [Array.append_assoc]);exact hDr.sw (by simp <;> omega))⟩
    | false =>
     have hXe:zaF ⟨R,C,l⟩ ps=X:=by rw [← HX4];rfl
     have hPl:PlOk ps C:=⟨hpos,by have h1:=HPL.out.2 rfl;unfold zb8 at h1;have:=HLE.out;omega,fun i hi=>by have h1:=HPL.out.2 rfl;unfold zb8 at h1;have:=HLT.out i hi;omega⟩
     have htr:=zon hxr hPl.lt
     have hTr:(zaN ⟨R,C,l⟩).right:=zfD hxr
     have hYr:(zL (zaN ⟨R,C,l⟩) ps).right:=ze2 hTr hPl.lt hPl.pos hPl.le
     have ht1:=fun W (hW:ArrIn W (some ⟨b1,off1,none⟩) n1 cap1 l)=>ze1 ⟨R,C,l⟩ _ n1 cap1 W hW hxr
     have hr1:=fun W D m c (hW:ArrIn W D m c (zaN ⟨R,C,l⟩).l) hB=>zeH (zaN ⟨R,C,l⟩).R (zaN ⟨R,C,l⟩).C (zaN ⟨R,C,l⟩).l D m c ps B1 cb1 W hW hTr hB hcb1 hPl
     have ht2:=fun W D m c (hW:ArrIn W D m c (zL (zaN ⟨R,C,l⟩) ps).l)=>ze1 (zL (zaN ⟨R,C,l⟩) ps) D m c W hW hYr
     rw [htr,hXe] at ht2
     generalize zaN ⟨R,C,l⟩=Y at *
     have hr1:∀ W D m c,ArrIn W D m c Y.l→Rd 0 W B1 (i6 ps)→Calls prog 103 #[AV Y.R Y.C (.slice D m c),.slice B1 ps.length cb1] W fun e w'=>zan W (zL Y ps) e w':=fun W D m c h1 h2=>hr1 W D m c h1 h2
     generalize zL Y ps=V at *
     have T1:=Lib.hid ht1
     have T2:=Lib.hid ht2
     have HR1:=Lib.hid hr1
     clear hXe hr1 ht1 ht2 htr hTr hYr HX3 HX4 hps HLT HLE HPL hPl hpos
     go_wp2_with (first | (go_at_call 103;refine (HR1.out _ D1 m1 c1 (a1.ext (by simp [go_sem])) (HB1.out.ext (by simp [go_sem]))).mono ?_;rintro e w' ⟨D2,m2,c2,rfl,hD2,hb⟩;have a2:=hD2.arr;obtain ⟨os7,d7,rfl⟩:=hb.more;clear hb hD2;(try simp only [za,zc,zb,Array.append_assoc] at a2)) | (go_at_call 49;first | (refine (T2.out _ D2 m2 c2 (a2.ext (by simp [go_sem]))).mono ?_;rintro e w' ⟨D,m,cc,rfl,hD,hb⟩;obtain ⟨os5,d5,rfl⟩:=hb.more;clear hb;have hDr:=hD.rd;clear a1 a2;obtain ⟨osu,du,rfl⟩:=HU.out) | (refine (T1.out _ ((HA.out.ext hx).ext (by simp [go_sem]))).mono ?_;rintro e w' ⟨D1,m1,c1,rfl,hD1,hb⟩;have a1:=hD1.arr;obtain ⟨os6,d6,rfl⟩:=hb.more;clear hb hD1;(try simp only [za,zc,zb,Array.append_assoc] at a1))))
     exact rc1 rfl rfl (by simp [go_sem]) ⟨D,m,cc,rfl,ArrN.arr (base:=w.heap.size) ⟨(by (try simp only [ze,za] at hDr);(try simp only [ze,za]);(try simp only [zc] at hDr);(try simp only [zb] at hDr);(try simp only [Array.append_assoc] at hDr);(try simp only [Array.append_assoc]);exact hDr.sw (by simp <;> omega)),hD.len,hD.cap,hD.small,hD.ok⟩,by simp [go_sem],Or.inr (by (try simp only [ze,za] at hDr);(try simp only [ze,za]);(try simp only [zc] at hDr);(try simp only [zb] at hDr);(try simp only [Array.append_assoc] at hDr);(try simp only [Array.append_assoc]);exact hDr.sw (by simp <;> omega))⟩
theorem zkO (A:Option Addr) (n cap:Nat) (xs:List Ar) (w:World) (h:ArgsIn w A n cap xs) (h1:2≤n) (h2:n≤3):Calls prog 15 #[.string ⟨#[70,73,76,84,69,82]⟩,.slice A n cap] w (za6 w (zc1 xs)):=by
 have hsm:=h.small
 have hcap:=h.cap
 have q1:¬ n < 2:=by omega
 have q2:¬ 3 < n:=by omega
 have hst:=fun W (hW:ArgsIn W A n cap xs)=>zlv A n cap xs W hW h1
 obtain ⟨R0,C0,l0,b1,off1,n1,cap1,b,off,x0,_,rfl,⟨v0,v1,v2⟩,_,_,_,_,_,hbl,_,_,_,_,_⟩:=h.first (k:=0) (by omega)
 simp only [Nat.zero_mul,Nat.add_zero] at v0 v1 v2
 have H:=Lib.hid h
 clear h
 generalize (zc1 xs)=X at *
 go_enter func15,ntmps15
 go_wp2_with (go_at_call 43;with_reducible refine aM (zfW _) fun os1 d1=>?_)
 go_loopw [8] (fun i wr=>∃ k:Nat,k≤n∧i = .int .i64 k∧Ext (more (w.alloc (Obj.cells #[.int .i64 0,.int .i64 0,.slice none 0 0] 30)) os1 d1) wr) (fun i _=>n - (intOf i).toNat)
 case atStart=>exact ⟨0,Nat.zero_le _,rfl,Ext.refl _⟩
 case round =>
  obtain ⟨k,hk,rfl,hX⟩:=hrel
  obtain ⟨os,d,rfl⟩:=hX.more
  clear hX
  by_cases hlt:k < n
  ·obtain ⟨a,b',off',ha,hbo,⟨u0,u1,u2⟩,hok⟩:=H.out.at hlt
   obtain ⟨rfl,rfl⟩:=aI hbo
   have hra:=fun W (hW:ArrIn W a.A a.n a.cap a.x.l)=>zU a.x.R a.x.C a.A a.n a.cap a.x.l W hW
   rw [← zaA _ _ _ hok.arr.ok,show zo (a.x.R:Int) a.x.C a.x.l=true from hok.right] at hra
   have HOK:=Lib.hid hok.arr
   clear hok hst
   go_wp2_with (go_at_call 45;refine (hra _ (HOK.out.ext (by simp [go_sem]))).mono ?_;rintro e w' ⟨rfl,hb⟩;obtain ⟨os',d',rfl⟩:=hb.more;clear hb)
   exact ⟨⟨k+1,by omega,by go_num,by simp [go_sem]⟩,by simp [intOf];omega⟩
  ·go_wp2_with (go_at_call 55;(with_reducible refine (hst _ (H.out.ext (by simp [go_sem]))).mono ?_);rintro e w' ⟨D,m,cc,rfl,hN,hb,hD⟩;have hNl:=hN.len;have hNc:=hN.cap;have hNs:=hN.small;have hNo:=hN.ok;clear hN;obtain ⟨os5,d5,rfl⟩:=hb.more;clear hb)
   refine bodyPost_ret (v:=.tuple #[AV X.R X.C (.slice D m cc),.bool true]) (by simp [results,results15,go_sem]) rfl ⟨D,m,cc,rfl,?_,by simp [go_sem]⟩
   rcases hD with ⟨a,ha,rfl⟩ | hDr
   ·exact (H.out.all _ ha).arr.ext (by simp [go_sem])
   ·exact ArrN.arr (base:=w.heap.size) ⟨(by (try simp only [ze,za] at hDr);(try simp only [ze,za]);(try simp only [zc] at hDr);(try simp only [zb] at hDr);(try simp only [Array.append_assoc] at hDr);(try simp only [Array.append_assoc]);exact hDr.sw (by simp <;> omega)),hNl,hNc,hNs,hNo⟩
theorem zkP (A:Option Addr) (n cap:Nat) (gs:List GA) (w:World) (htab:Tab w) (h:ArgsG w A n cap gs):Calls prog 9 #[.string ⟨#[70,73,76,84,69,82]⟩,.slice A n cap] w (zbM w (zI 2 3 gs (zc1 (zae gs)))) :=
 zaO ⟨#[70,73,76,84,69,82]⟩ 2 3 27 (fun _ _=>#[]) (by decide) (fun _ _=>rfl) (fun args W=>by go_simp) (by decide) (by decide) A n cap gs w h _ (fun hr h1 h2 p1 p2 W hW _=>zlu A n cap _ W ((zam h hr).ext hW) h1)
theorem zlw (A:Option Addr) (n cap:Nat) (gs:List GA) (w:World) (htab:Tab w) (h:ArgsG w A n cap gs):Tl prog 8 #[.string ⟨#[70,73,76,84,69,82]⟩,.slice A n cap] w (.bool true) :=
 zaw ⟨#[70,73,76,84,69,82]⟩ A n cap w (zI 2 3 gs (zc1 (zae gs))) (fun W hW=>zkP A n cap gs W (htab.ext hW) (h.ext hW)) (fun W hW=>zbx _ 2 3 (by decide) (by decide) (by decide) (fun W'=>zfW W') _ A n cap gs W (h.ext hW) (fun hi h1 h2=>zkO A n cap _ W hi h1 h2))
theorem zfK (a b:NA) (t:Nat):zbh a b (t+1)=(zbh a b t).bind fun l=>(zaH a b (t / b.C) (t % b.C) (a.C - 1)).map fun p=>l++[(⟨1,p.1,p.2,⟨#[]⟩,false,0⟩:Val)]:=rfl
theorem zh3 {a b:NA} {t:Nat} (h:zbh a b t=none):∀ u,zbh a b (t+u)=none
 | 0=>h
 | u+1=>by
  rw [← Nat.add_assoc]
  show (zbh a b (t+u)).bind _=none
  rw [zh3 h u];rfl
theorem zh4 {b:NA} {i j:Nat} (hj:j < b.C):(i * b.C+j) / b.C=i∧(i * b.C+j) % b.C=j:=by
 have hC:0 < b.C:=by omega
 constructor
 ·rw [Nat.mul_comm,Nat.mul_add_div hC,Nat.div_eq_of_lt hj,Nat.add_zero]
 ·rw [Nat.mul_comm,Nat.mul_add_mod,Nat.mod_eq_of_lt hj]
theorem zji {a b:NA} {i j:Nat} {L:List Val} {p:Int×Int} (hj:j < b.C) (h:zbh a b (i * b.C+j)=some L) (hd:zaH a b i j (a.C - 1)=some p) :
  zbh a b (i * b.C+(j+1))=some (L++[⟨1,p.1,p.2,⟨#[]⟩,false,0⟩]):=by
 obtain ⟨e1,e2⟩:=zh4 (b:=b) (i:=i) hj
 rw [← Nat.add_assoc,zfK,h,Option.bind_some,e1,e2,hd];rfl
theorem zjj {a b:NA} {i j:Nat} {L:List Val} (hj:j < b.C) (hi:i < a.R) (h:zbh a b (i * b.C+j)=some L) (hd:zaH a b i j (a.C - 1)=none):zbh a b (a.R * b.C)=none:=by
 obtain ⟨e1,e2⟩:=zh4 (b:=b) (i:=i) hj
 have h1:zbh a b (i * b.C+j+1)=none:=by
  rw [zfK,h,Option.bind_some,e1,e2,hd];rfl
 have hlt:=zc0 hi hj
 have:=zh3 h1 (a.R * b.C - (i * b.C+j+1))
 rw [show i * b.C+j+1+(a.R * b.C - (i * b.C+j+1))=a.R * b.C by omega] at this
 exact this
theorem zg9 {a b:NA} {f:Int} (h0:a.C=b.R) (h1:zaj a.l=some f):zbE a b=zf f:=by
 unfold zbE;rw [if_neg (by simpa using h0),h1]
theorem zha {a b:NA} {f:Int} (h0:a.C=b.R) (h1:zaj a.l=none) (h2:zaj b.l=some f):zbE a b=zf f:=by
 unfold zbE;rw [if_neg (by simpa using h0),h1];simp only;rw [h2]
theorem zgu {a b:NA} (h0:a.C=b.R) (h1:zaj a.l=none) (h2:zaj b.l=none) {x:Val} (hx:x∈a.l++b.l) (hk:x.kind≠1):zbE a b=zf 2:=by
 unfold zbE;rw [if_neg (by simpa using h0),h1];simp only;rw [h2];simp only
 rw [if_pos (List.any_eq_true.2 ⟨x,hx,by simpa using hk⟩)]
theorem zh5 {a b:NA} (h0:a.C=b.R) (h1:zaj a.l=none) (h2:zaj b.l=none) (hn:∀ x∈a.l++b.l,x.kind=1) (hg:4096 < a.R * b.C):zbE a b=zf 5:=by
 unfold zbE;rw [if_neg (by simpa using h0),h1];simp only;rw [h2];simp only
 rw [if_neg (by rw [List.any_eq_true];rintro ⟨x,hx,hk⟩;simp [hn x hx] at hk),if_pos hg]
theorem zjk {a b:NA} (h0:a.C=b.R) (h1:zaj a.l=none) (h2:zaj b.l=none) (hn:∀ x∈a.l++b.l,x.kind=1) (hg:¬ 4096 < a.R * b.C) :
  zbE a b=match zbh a b (a.R * b.C) with
   | none=>zf 5
   | some l=>⟨a.R,b.C,l⟩:=by
 unfold zbE;rw [if_neg (by simpa using h0),h1];simp only;rw [h2];simp only
 rw [if_neg (by rw [List.any_eq_true];rintro ⟨x,hx,hk⟩;simp [hn x hx] at hk),if_neg hg]
 try (cases zbh a b (a.R * b.C) <;> rfl)
theorem zgO {a b c d:Int} {p:Int×Int} (h:mulS a b c d=some p):Rt p.1 p.2:=by
 unfold mulS at h
 split at h
 ·exact rnd_right h
 ·cases h
theorem zri {a b:NA} {i j:Nat} {p:Int×Int} : ∀ {k:Nat},zaH a b i j k=some p→Rt p.1 p.2
 | 0,h=>zgO h
 | k+1,h=>by
  unfold zaH at h
  cases h1:zaH a b i j k with
  | none=>rw [h1] at h;cases h
  | some s =>
   rw [h1,Option.bind_some] at h
   cases h2:mulS (zk a.l (i * a.C+(k+1))).mant (zk a.l (i * a.C+(k+1))).exp (zk b.l ((k+1) * b.C+j)).mant (zk b.l ((k+1) * b.C+j)).exp with
   | none=>rw [h2] at h;cases h
   | some q=>rw [h2,Option.bind_some] at h;exact zdq h
theorem zfL {a b:NA} : ∀ {t:Nat} {L:List Val},zbh a b t=some L→∀ x∈L,x.right
 | 0,L,h,x,hx=>by
  obtain rfl:[]=L:=by simpa [zbh] using h
  cases hx
 | t+1,L,h,x,hx=>by
  rw [zfK] at h
  cases h1:zbh a b t with
  | none=>rw [h1] at h;cases h
  | some l1 =>
   rw [h1,Option.bind_some] at h
   cases h2:zaH a b (t / b.C) (t % b.C) (a.C - 1) with
   | none=>rw [h2] at h;cases h
   | some p =>
    rw [h2,Option.map_some,Option.some.injEq] at h
    subst h
    rcases List.mem_append.1 hx with hx | hx
    ·exact zfL h1 x hx
    ·obtain rfl:=List.mem_singleton.1 hx
     exact zbT (zri h2)
theorem zh6 (V:World) (os os2:Array Obj) (d d2:Nat) (o:Obj):more ((more V os d).alloc o) os2 d2=more V (os.push o++os2) d2:=by rw [ze,za]
def zdX (a b:NA) (i j k:Nat) (ok:Bool) (m e:Int):Prop:=(ok=true∧zaH a b i j (k - 1)=some (m,e))∨(ok=false∧zaH a b i j (a.C - 1)=none)
theorem zkQ {a b:NA} {i j k:Nat} (h:zaH a b i j k=none):∀ t,zaH a b i j (k+t)=none
 | 0=>h
 | t+1=>by
  rw [← Nat.add_assoc]
  show (zaH a b i j (k+t)).bind _=none
  rw [zkQ h t];rfl
theorem zdB {a b:NA} {i j k:Nat} (h:zaH a b i j k=none) (hk:k < a.C):zaH a b i j (a.C - 1)=none:=by
 have:=zkQ h (a.C - 1 - k)
 rw [show k+(a.C - 1 - k)=a.C - 1 by omega] at this
 exact this
theorem zoL (a b:NA) (A B:Option Addr) (n cap n' cap' i j:Nat) (w:World) (htab:Tab w) (ha:ArrIn w A n cap a.l) (hb:ArrIn w B n' cap' b.l) (har:a.right) (hbr:b.right) (hab:a.C=b.R) (hi:i < a.R) (hj:j < b.C) :
  Calls prog 80 #[AV a.R a.C (.slice A n cap),AV b.R b.C (.slice B n' cap'),.int .i64 (i:Int),.int .i64 (j:Int)] w fun e w'=>(∃ m ex ok,e = .returned (.tuple #[NV m ex,.bool ok])∧zdX a b i j a.C ok m ex)∧Ext w w':=by
 obtain ⟨r1,r2,r3,r4,r5⟩:=zi.1 har
 obtain ⟨s1,s2,s3,s4,s5⟩:=zi.1 hbr
 have hln:=ha.len
 have hln':=hb.len
 obtain ⟨m1,m2⟩:=zei hi r3
 have hb4:b.C≤4096:=Nat.le_trans (Nat.le_mul_of_pos_left b.C s1) s3
 have ha4:a.C≤4096:=Nat.le_trans (Nat.le_mul_of_pos_left a.C r1) r3
 obtain ⟨x,b1,off1,hx,hxo,hA,hxat⟩:=ha.at (k:=i * a.C) (by omega)
 obtain ⟨y,b2,off2,hy,hyo,hB,hyat⟩:=hb.at (k:=j) (by
  have:=Nat.mul_le_mul_right b.C s1
  rw [Nat.one_mul] at this;omega)
 subst hA hB
 obtain ⟨x0,x1,x2,x3,x4,x5⟩:=hxat
 obtain ⟨y0,y1,y2,y3,y4,y5⟩:=hyat
 have hcap:=ha.cap
 have hcap':=hb.cap
 have lb1:=zg x0
 have lb2:=zg y0
 have e1:IntKind.i64.wrap ((i:Int) * (a.C:Int))=((i * a.C:Nat):Int):=by rw [IntKind.wrap_i64,← Int.natCast_mul];omega
 have l1:i * a.C < n:=by omega
 have l2:j < n':=by
  have:=Nat.mul_le_mul_right b.C s1
  rw [Nat.one_mul] at this;omega
 have hd0:zaH a b i j 0=mulS x.mant x.exp y.mant y.exp:=by
  show mulS (zk a.l (i * a.C)).mant (zk a.l (i * a.C)).exp (zk b.l j).mant (zk b.l j).exp=_
  rw [show zk a.l (i * a.C)=x by unfold zk;rw [hx];rfl,show zk b.l j=y by unfold zk;rw [hy];rfl]
 have hmu:=fun W (hT:Tab W)=>zlU x.mant x.exp y.mant y.exp W hT hxo.2.1 hyo.2.1
 rw [← hd0] at hmu
 have HT:=Lib.hid htab
 have HA:=Lib.hid ha
 have HB:=Lib.hid hb
 have HD:Hid (zdX a b i j 1 (zaH a b i j 0).isSome (rm (zaH a b i j 0)) (re (zaH a b i j 0))):=by
  show zdX _ _ _ _ _ _ _ _
  cases hs:zaH a b i j 0 with
  | none=>exact Or.inr ⟨rfl,zdB hs r2⟩
  | some p=>exact Or.inl ⟨rfl,hs⟩
 have HI:Hid (I64 (rm (zaH a b i j 0))):=by
  show I64 _
  rw [hd0]
  cases hs:mulS x.mant x.exp y.mant y.exp with
  | none=>show I64 0;unfold I64;omega
  | some p=>exact zbu (zgO hs)
 generalize zaH a b i j 0=r0 at *
 have HAB:=Lib.hid hab
 clear htab ha hb hx hy hd0 hab
 generalize hP:i * a.C=P at *
 have HP:=Lib.hid hP
 clear hP
 go_enter func80,ntmps80
 go_upto_region 1 with fail
 refine zz fun U hU=>?_
 have hx0:Ext w U:=by rw [hU];exact (by simp [go_sem])
 have c1:U.cell? ⟨w.heap.size,1,none⟩=some (.int .i64 (a.C:Int)):=by rw [hU];go_simp
 have c2:U.cell? ⟨w.heap.size,2,none⟩=some (.slice (some ⟨b1,off1,none⟩) n cap):=by rw [hU];go_simp
 have c3:U.cell? ⟨w.heap.size+1,1,none⟩=some (.int .i64 (b.C:Int)):=by rw [hU];go_simp
 have c4:U.cell? ⟨w.heap.size+1,2,none⟩=some (.slice (some ⟨b2,off2,none⟩) n' cap'):=by rw [hU];go_simp
 have lc:=zg c1
 have lc':=zg c3
 have HU:Hid (∃ os d,U=more ((((w.alloc (Obj.cells #[.int .i64 (a.R:Int),.int .i64 (a.C:Int),.slice (some ⟨b1,off1,none⟩) n cap] 30)).alloc (Obj.cells #[.int .i64 (b.R:Int),.int .i64 (b.C:Int),.slice (some ⟨b2,off2,none⟩) n' cap'] 30)).alloc (Obj.cells #[.int .i64 0,.int .i64 0] 35))) os d):=Lib.hid ((show Ext ((((w.alloc (Obj.cells #[.int .i64 (a.R:Int),.int .i64 (a.C:Int),.slice (some ⟨b1,off1,none⟩) n cap] 30)).alloc (Obj.cells #[.int .i64 (b.R:Int),.int .i64 (b.C:Int),.slice (some ⟨b2,off2,none⟩) n' cap'] 30)).alloc (Obj.cells #[.int .i64 0,.int .i64 0] 35))) U by rw [hU];exact (by simp [go_sem])).more)
 clear hU
 have z1:=hx0.cell_some x1
 have z2:=hx0.cell_some x2
 have v1:=hx0.cell_some y1
 have v2:=hx0.cell_some y2
 have lz:=zg z1
 have lv:=zg v1
 refine zaB [(19,4),(0,0),(1,0),(2,0),(3,0),(4,0),(5,0),(6,0),(7,0),(8,0),(9,0),(10,0),(11,0),(12,0),(13,0),(14,0),(15,1),(16,0),(17,0),(18,2),(19,3)] [20,21] [20,21] [18] (by kernel_rfl) (by kernel_rfl) (by kernel_rfl) (fun _ _ d _ _ h=>by cases d <;> exact h) (fun _ _ d _ _ h=>by cases d <;> exact h) ?_
 (refine zaD (t:=10) (.cells #[.int .i64 0,.int .i64 0] 35) zbK rfl rfl rfl (fun w1=>?_) ?_;(first | rfl | (simp [go_sem,zbK];done) | (go_simp;rfl)))
 iterate 15 (apply rdG rfl rfl;(intros;go_simp;first | done | rfl);try simp only [zq])
 (refine zag rfl ?_ (fun wf hXf hE K hK=>?_);rfl;obtain ⟨osf,df,rfl⟩:=hXf.more;go_simp;refine (hmu _ ((HT.out.ext hx0).ext (by simp [go_sem]))).mono ?_;rintro e w' ⟨rfl,hb⟩;refine hK _ _ (fun _=>True) (by (try simp only [zb,za,Array.append_assoc]);exact hb) (fun _ _ _ _=>trivial) trivial ?_)
 try simp only [zq]
 iterate 3 ((first | (apply rdG rfl rfl;(intros;go_simp;first | done | rfl)) | (refine zbf (v:=?_) rfl ?_ (fun w1=>?_) ?_;rotate_left 1;rfl;(go_simp;first | done | rfl)));try simp only [zq])
 refine zca fun osa da osb db hE=>?_
 try simp only [zq]
 (refine zX rfl ?_ (fun K hK=>?_);rfl;go_simp;refine hK _ _ ?_)
 try simp only [zq]
 (refine zX rfl ?_ (fun K hK=>?_);rfl;go_simp;refine hK _ _ ?_)
 try simp only [zq]
 refine zaZ ?_
 clear hE hmu
 obtain ⟨V,hV⟩:∃ V,more U osa da=V:=⟨_,rfl⟩
 have hxV:Ext U V:=by rw [← hV];exact zP _ _ _
 have hps:U.heap.size+osa.size=V.heap.size:=by rw [← hV];simp
 rw [hV,hps]
 replace HU:=Lib.hid (show ∃ os d,V=more ((((w.alloc (Obj.cells #[.int .i64 (a.R:Int),.int .i64 (a.C:Int),.slice (some ⟨b1,off1,none⟩) n cap] 30)).alloc (Obj.cells #[.int .i64 (b.R:Int),.int .i64 (b.C:Int),.slice (some ⟨b2,off2,none⟩) n' cap'] 30)).alloc (Obj.cells #[.int .i64 0,.int .i64 0] 35))) os d by obtain ⟨o1,d1,h1⟩:=HU.out;exact ⟨o1++osa,da,by rw [← hV,h1,za]⟩)
 clear hV hps
 replace c1:=hxV.cell_some c1
 replace c2:=hxV.cell_some c2
 replace c3:=hxV.cell_some c3
 replace c4:=hxV.cell_some c4
 replace lc:=zg c1
 replace lc':=zg c3
 replace hx0:=hx0.trans hxV
 clear hxV z1 z2 v1 v2 lz lv x0 x1 x2 x3 x4 x5 y0 y1 y2 y3 y4 y5
 go_wp2_with fail
 go_loopw [11,12] (fun s11 s12 wr=>∃ (k:Nat) (ok:Bool) (m ex:Int) (os:Array Obj) (d:Nat),1≤k∧k≤a.C∧s11 = .bool ok∧s12 = .int .i64 (k:Int)∧wr=more (V.alloc (Obj.cells #[.int .i64 m,.int .i64 ex] 35)) os d∧Hid (zdX a b i j k ok m ex)∧Hid (I64 m)) (fun _ s12 _=>a.C - (intOf s12).toNat)
 case atStart=>exact ⟨1,r0.isSome,rm r0,re r0,_,_,Nat.le_refl _,r2,rfl,rfl,rfl,HD,HI⟩
 case round =>
  clear HD HI
  obtain ⟨k,ok,m,ex,os,d,hk1,hkC,rfl,rfl,rfl,HD,HI⟩:=hrel
  by_cases hgo:ok=true∧k < a.C
  ·obtain ⟨rfl,hlt⟩:=hgo
   have hlt':(k:Int) < (a.C:Int):=by omega
   have hds:zaH a b i j (k - 1)=some (m,ex):=by
    rcases HD.out with ⟨_,h⟩ | ⟨h,_⟩
    ·exact h
    ·cases h
   have hP:=HP.out
   have hkR:k < b.R:=by have:=HAB.out;omega
   obtain ⟨q1,q2⟩:=zei hkR s3
   obtain ⟨x',b',off',hx',hxo',hA',hxat⟩:=HA.out.at (k:=P+k) (by omega)
   obtain ⟨y',b'',off'',hy',hyo',hB',hyat⟩:=HB.out.at (k:=k * b.C+j) (by omega)
   simp only [Option.some.injEq,Addr.mk.injEq,and_true] at hA' hB'
   obtain ⟨rfl,rfl⟩:=hA'
   obtain ⟨rfl,rfl⟩:=hB'
   obtain ⟨_,z1,z2,_,_,_⟩:=hxat.ext hx0
   obtain ⟨_,v1,v2,_,_,_⟩:=hyat.ext hx0
   have lz:=zg z1
   have lv:=zg v1
   have e2:IntKind.i64.wrap ((P:Int)+(k:Int))=((P+k:Nat):Int):=by rw [IntKind.wrap_i64];omega
   have e3:IntKind.i64.wrap ((k:Int) * (b.C:Int))=((k * b.C:Nat):Int):=by rw [IntKind.wrap_i64,← Int.natCast_mul];omega
   have e4:IntKind.i64.wrap (((k * b.C:Nat):Int)+(j:Int))=((k * b.C+j:Nat):Int):=by rw [IntKind.wrap_i64];omega
   have t1:P+k < n:=by omega
   have t2:k * b.C+j < n':=by omega
   have hdk:zaH a b i j k=(mulS x'.mant x'.exp y'.mant y'.exp).bind fun z=>addS m ex z.1 z.2:=by
    obtain ⟨k',rfl⟩:∃ k',k=k'+1:=⟨k - 1,by omega⟩
    show (zaH a b i j k').bind _=_
    rw [show zaH a b i j k'=some (m,ex) from hds,Option.bind_some,show i * a.C+(k'+1)=P+(k'+1) by omega]
    rw [show zk a.l (P+(k'+1))=x' by unfold zk;rw [hx'];rfl,show zk b.l ((k'+1) * b.C+j)=y' by unfold zk;rw [hy'];rfl]
   have hm:=fun W (hT:Tab W)=>zlU x'.mant x'.exp y'.mant y'.exp W hT hxo'.2.1 hyo'.2.1
   have hIm:=HI.out
   clear hx' hy' hds hP hkR q1 q2 hxat hyat hxo' hyo' HD HI
   generalize hK2:k * b.C+j=K2 at *
   generalize hK3:k * b.C=K3 at *
   generalize hK1:P+k=K1 at *
   generalize x'.mant=xm at *
   generalize x'.exp=xe at *
   generalize y'.mant=ym at *
   generalize y'.exp=ye at *
   clear hK1 hK2 hK3
   cases hs:mulS xm xe ym ye with
   | none =>
    rw [hs] at hm hdk
    simp only [rnV,rm,re,Option.getD_none,Option.isSome_none,Option.bind_none] at hm hdk
    have HD2:Hid (zdX a b i j (k+1) false m ex):=Lib.hid (Or.inr ⟨rfl,zdB hdk hlt⟩)
    clear hdk hs
    go_upto_region 6 with fail
    refine zaB [(0,0),(1,0),(2,0),(3,0),(4,0),(5,0),(6,0),(7,0),(8,0),(9,0),(10,0),(11,0),(12,0),(13,0),(14,0),(15,0),(16,0),(17,0),(18,0),(19,0),(20,0),(21,0),(22,1),(23,0),(24,0),(25,2)] [26,27] [26,27] [25] (by kernel_rfl) (by kernel_rfl) (by kernel_rfl) (fun _ _ d _ _ h=>by cases d <;> exact h) (fun _ _ d _ _ h=>by cases d <;> exact h) ?_
    iterate 22 (apply rdG rfl rfl;(intros;go_simp;first | done | rfl);try simp only [zq])
    (refine zag rfl ?_ (fun wf hXf hE K hK=>?_);rfl;obtain ⟨osf,df,rfl⟩:=hXf.more;go_simp;refine (hm _ (HT.out.ext (hx0.trans (by simp [go_sem])))).mono ?_;rintro e w' ⟨rfl,hb⟩;refine hK _ _ (fun _=>True) (by (try simp only [zb,za,Array.append_assoc]);exact hb) (fun _ _ _ _=>trivial) trivial ?_)
    try simp only [zq]
    iterate 3 ((first | (apply rdG rfl rfl;(intros;go_simp;first | done | rfl)) | (refine zbf (v:=?_) rfl ?_ (fun w1=>?_) ?_;rotate_left 1;rfl;(go_simp;first | done | rfl)));try simp only [zq])
    (refine zcx fun wz hXz hE=>?_;obtain ⟨osa,da,rfl⟩:=hXz.more)
    try simp only [zq]
    (refine zX rfl ?_ (fun K hK=>?_);rfl;go_simp;refine hK _ _ ?_)
    try simp only [zq]
    (refine zX rfl ?_ (fun K hK=>?_);rfl;go_simp;refine hK _ _ ?_)
    try simp only [zq]
    refine zaZ ?_
    clear hE hm
    go_wp2_with fail
    exact ⟨⟨k+1,false,m,ex,_,_,by omega,by omega,rfl,by go_num,zh6 _ _ _ _ _ _,HD2,hIm⟩,by simp [intOf];omega⟩
   | some q =>
    obtain ⟨qm,qe⟩:=q
    have hqr:=zgO hs
    rw [hs] at hm hdk
    simp only [rnV,rm,re,Option.getD_some,Option.isSome_some,Option.bind_some] at hm hdk
    have had:=fun W (hT:Tab W)=>zio m ex qm qe W hT hIm (zbu hqr)
    cases ha:addS m ex qm qe with
    | none =>
     rw [ha] at had hdk
     simp only [rnV,rm,re,Option.getD_none,Option.isSome_none] at had
     have HD2:Hid (zdX a b i j (k+1) false 0 0):=Lib.hid (Or.inr ⟨rfl,zdB hdk hlt⟩)
     clear hdk hs ha hqr
     go_upto_region 6 with fail
     refine zaB [(0,0),(1,0),(2,0),(3,0),(4,0),(5,0),(6,0),(7,0),(8,0),(9,0),(10,0),(11,0),(12,0),(13,0),(14,0),(15,0),(16,0),(17,0),(18,0),(19,0),(20,0),(21,0),(22,1),(23,0),(24,0),(25,2)] [26,27] [26,27] [25] (by kernel_rfl) (by kernel_rfl) (by kernel_rfl) (fun _ _ d _ _ h=>by cases d <;> exact h) (fun _ _ d _ _ h=>by cases d <;> exact h) ?_
     iterate 22 (apply rdG rfl rfl;(intros;go_simp;first | done | rfl);try simp only [zq])
     (refine zag rfl ?_ (fun wf hXf hE K hK=>?_);rfl;obtain ⟨osf,df,rfl⟩:=hXf.more;go_simp;refine (hm _ (HT.out.ext (hx0.trans (by simp [go_sem])))).mono ?_;rintro e w' ⟨rfl,hb⟩;refine hK _ _ (fun _=>True) (by (try simp only [zb,za,Array.append_assoc]);exact hb) (fun _ _ _ _=>trivial) trivial ?_)
     try simp only [zq]
     iterate 3 ((first | (apply rdG rfl rfl;(intros;go_simp;first | done | rfl)) | (refine zbf (v:=?_) rfl ?_ (fun w1=>?_) ?_;rotate_left 1;rfl;(go_simp;first | done | rfl)));try simp only [zq])
     (refine zcx fun wz hXz hE=>?_;obtain ⟨osa,da,rfl⟩:=hXz.more)
     try simp only [zq]
     (refine zX rfl ?_ (fun K hK=>?_);rfl;go_simp;refine hK _ _ ?_)
     try simp only [zq]
     (refine zX rfl ?_ (fun K hK=>?_);rfl;go_simp;refine hK _ _ ?_)
     try simp only [zq]
     refine zaZ ?_
     clear hE hm
     go_wp2_with (go_at_call 82;refine aM (had _ (HT.out.ext (hx0.trans (by simp [go_sem])))) fun ost dt=>?_)
     exact ⟨⟨k+1,false,0,0,_,_,by omega,by omega,rfl,by go_num,zh6 _ _ _ _ _ _,HD2,(show I64 0 by unfold I64;omega)⟩,by simp [intOf];omega⟩
    | some p =>
     obtain ⟨pm,pe⟩:=p
     have hpr:=zdq ha
     rw [ha] at had hdk
     simp only [rnV,rm,re,Option.getD_some,Option.isSome_some] at had
     have HD2:Hid (zdX a b i j (k+1) true pm pe):=Lib.hid (Or.inl ⟨rfl,hdk⟩)
     have HI2:Hid (I64 pm):=Lib.hid (zbu hpr)
     clear hdk hs ha hqr hpr
     go_upto_region 6 with fail
     refine zaB [(0,0),(1,0),(2,0),(3,0),(4,0),(5,0),(6,0),(7,0),(8,0),(9,0),(10,0),(11,0),(12,0),(13,0),(14,0),(15,0),(16,0),(17,0),(18,0),(19,0),(20,0),(21,0),(22,1),(23,0),(24,0),(25,2)] [26,27] [26,27] [25] (by kernel_rfl) (by kernel_rfl) (by kernel_rfl) (fun _ _ d _ _ h=>by cases d <;> exact h) (fun _ _ d _ _ h=>by cases d <;> exact h) ?_
     iterate 22 (apply rdG rfl rfl;(intros;go_simp;first | done | rfl);try simp only [zq])
     (refine zag rfl ?_ (fun wf hXf hE K hK=>?_);rfl;obtain ⟨osf,df,rfl⟩:=hXf.more;go_simp;refine (hm _ (HT.out.ext (hx0.trans (by simp [go_sem])))).mono ?_;rintro e w' ⟨rfl,hb⟩;refine hK _ _ (fun _=>True) (by (try simp only [zb,za,Array.append_assoc]);exact hb) (fun _ _ _ _=>trivial) trivial ?_)
     try simp only [zq]
     iterate 3 ((first | (apply rdG rfl rfl;(intros;go_simp;first | done | rfl)) | (refine zbf (v:=?_) rfl ?_ (fun w1=>?_) ?_;rotate_left 1;rfl;(go_simp;first | done | rfl)));try simp only [zq])
     (refine zcx fun wz hXz hE=>?_;obtain ⟨osa,da,rfl⟩:=hXz.more)
     try simp only [zq]
     (refine zX rfl ?_ (fun K hK=>?_);rfl;go_simp;refine hK _ _ ?_)
     try simp only [zq]
     (refine zX rfl ?_ (fun K hK=>?_);rfl;go_simp;refine hK _ _ ?_)
     try simp only [zq]
     refine zaZ ?_
     clear hE hm
     go_wp2_with (go_at_call 82;refine aM (had _ (HT.out.ext (hx0.trans (by simp [go_sem])))) fun ost dt=>?_)
     exact ⟨⟨k+1,true,pm,pe,_,_,by omega,by omega,rfl,by go_num,zh6 _ _ _ _ _ _,HD2,HI2⟩,by simp [intOf];omega⟩
  ·cases ok with
   | false =>
    have HD3:Hid (zdX a b i j a.C false m ex):=by
     rcases HD.out with ⟨h,_⟩ | ⟨_,h⟩
     ·cases h
     ·exact Lib.hid (Or.inr ⟨rfl,h⟩)
    obtain ⟨osu,du,rfl⟩:=HU.out
    go_wp2_with fail
    exact rct rfl rfl (by simp [go_sem]) ⟨⟨m,ex,false,rfl,HD3.out⟩,by simp [go_sem]⟩
   | true =>
    have hlt:¬ k < a.C:=fun e=>hgo ⟨rfl,e⟩
    obtain rfl:a.C=k:=by omega
    obtain ⟨osu,du,rfl⟩:=HU.out
    go_wp2_with fail
    first
     | exact rct rfl rfl (by simp [go_sem]) ⟨⟨m,ex,true,rfl,HD.out⟩,by simp [go_sem]⟩
     | exact rct rfl rfl (by simp [go_sem]) ⟨⟨m,ex,Or.inr ⟨rfl,HD.out⟩⟩,by simp [go_sem]⟩
theorem zoM (A:Option Addr) (n cap:Nat) (xs:List Ar) (w:World) (htab:Tab w) (h:ArgsIn w A n cap xs) (h2:2≤n) (h3:n≤2) :
  Calls prog 30 #[.slice A n cap] w fun e w'=>zan w (zcz xs) e w':=by
 obtain rfl:n=2:=by omega
 clear h2 h3
 obtain ⟨R,C,l,b1,off1,n1,cap1,b,off,x0,ha,rfl,⟨v0,v1,v2⟩,_,hc1,_,_,_,hbl,_,_,_,harr,_⟩:=h.first (k:=0) (by omega)
 obtain ⟨R2,C2,l2,b2,off2,n2,cap2,b',off',x2,ha2,hbo,⟨u0,u1,u2⟩,hn2,hc2,_,_,_,_,hb2,_,_,harr2,_⟩:=h.first (k:=1) (by omega)
 obtain ⟨rfl,rfl⟩:=aI hbo
 have hxr:NA.right ⟨R,C,l⟩:=(h.all _ (List.mem_of_getElem? ha)).right
 have hxr2:NA.right ⟨R2,C2,l2⟩:=(h.all _ (List.mem_of_getElem? ha2)).right
 have hcap:=h.cap
 have hsm:=h.small
 simp only [Nat.zero_mul,Nat.add_zero,Nat.one_mul] at v0 v1 v2 u0 u1 u2
 have hx0:zF xs 0=⟨R,C,l⟩:=by unfold zF;rw [ha]
 have hx1:zF xs 1=⟨R2,C2,l2⟩:=by unfold zF;rw [ha2]
 obtain ⟨r1,r2,r3,r4,r5⟩:=zi.1 hxr
 obtain ⟨s1,s2,s3,s4,s5⟩:=zi.1 hxr2
 simp only at r1 r2 r3 r4 s1 s2 s3 s4 s5
 have hln2:=harr2.len
 have hn24:n2≤4096:=by omega
 have hln1:=harr.len
 have hsm1:=harr.small
 have hR4:R≤4096:=Nat.le_trans (Nat.le_mul_of_pos_right R r2) r3
 have hC4:C2≤4096:=Nat.le_trans (Nat.le_mul_of_pos_left C2 s1) s3
 unfold zcz
 rw [hx0,hx1]
 have H:=Lib.hid h
 have HA:=Lib.hid harr
 have HA2:=Lib.hid harr2
 have HT:=Lib.hid htab
 obtain ⟨X,hX⟩:∃ X,zbE ⟨R,C,l⟩ ⟨R2,C2,l2⟩=X:=⟨_,rfl⟩
 rw [hX]
 have HX:=Lib.hid hX
 clear h harr harr2 ha ha2 hx0 hx1 hX htab
 have hf1:=fun W (hW:ArrIn W (some ⟨b1,off1,none⟩) n1 cap1 l)=>zi7 R C _ n1 cap1 l W hW hxr _ _ rfl rfl
 have hf2:=fun W (hW:ArrIn W (some ⟨b2,off2,none⟩) n2 cap2 l2)=>zi7 R2 C2 _ n2 cap2 l2 W hW hxr2 _ _ rfl rfl
 go_enter func30,ntmps30
 go_upto_region 1 with fail
 go_cut [3,4] (fun s3 s4 wx=>∃ pa pb:Nat,s3 = .pointer (some ⟨pa,0,none⟩)∧s4 = .pointer (some ⟨pb,0,none⟩)∧Ext w wx∧w.heap.size+3≤wx.heap.size∧wx.cell? ⟨pa,0,none⟩=some (.int .i64 (R:Int))∧wx.cell? ⟨pa,1,none⟩=some (.int .i64 (C:Int))∧wx.cell? ⟨pa,2,none⟩=some (.slice (some ⟨b1,off1,none⟩) n1 cap1)∧wx.cell? ⟨pb,0,none⟩=some (.int .i64 (R2:Int))∧wx.cell? ⟨pb,1,none⟩=some (.int .i64 (C2:Int))∧wx.cell? ⟨pb,2,none⟩=some (.slice (some ⟨b2,off2,none⟩) n2 cap2)∧Hid (∃ os d,wx=more (w.alloc (Obj.cells #[.int .i64 0,.int .i64 0,.slice none 0 0] 30)) os d))
 case first =>
  go_region
  ·go_wp2_with fail
   go_meet
   refine ⟨_,_,rfl,rfl,by simp [go_sem],by simp,?_,?_,?_,?_,?_,?_,(show Ext (w.alloc (Obj.cells #[.int .i64 0,.int .i64 0,.slice none 0 0] 30)) _ from (by simp [go_sem])).more⟩
   all_goals (simp [go_sem];done)
  ·go_wp2_with fail
   go_meet
   refine ⟨_,_,rfl,rfl,by simp [go_sem],by simp,?_,?_,?_,?_,?_,?_,(show Ext (w.alloc (Obj.cells #[.int .i64 0,.int .i64 0,.slice none 0 0] 30)) _ from (by simp [go_sem])).more⟩
   all_goals (simp [go_sem];done)
 case rest =>
 obtain ⟨pa,pb,rfl,rfl,hx,hsz,c0,c1,c2,e0,e1,e2,HU⟩:=hcut
 have la:=zg c0
 have lb:=zg e0
 replace v0:=hx.cell_some v0
 replace v1:=hx.cell_some v1
 replace v2:=hx.cell_some v2
 replace u0:=hx.cell_some u0
 replace u1:=hx.cell_some u1
 replace u2:=hx.cell_some u2
 have lv:=zg v0
 by_cases h0:C=R2
 ·have h0':((C:Int) != (R2:Int))=false:=by simp;omega
  have H0:=Lib.hid h0
  clear h0
  cases q1:zaj l with
  | some f =>
   obtain rfl:zf f=X:=by rw [← HX.out];exact (zg9 (a:=⟨R,C,l⟩) (b:=⟨R2,C2,l2⟩) H0.out q1).symm
   rw [q1] at hf1
   simp only [Option.getD_some,Option.isSome_some] at hf1
   clear q1 HX hf2
   go_wp2_with fail
   refine wp_loop_rounds 1 ?_
   rw [rounds_succ]
   go_wp2_with (first | (go_at_call 79;with_reducible refine aM (hf1 _ (HA.out.ext (hx.trans (by simp [go_sem])))) fun osf df=>?_) | ((go_at_call 17;with_reducible refine aR (zt _ _) fun D m cc os5 d5 hD=>?_;have hDr:=hD.rd);obtain ⟨osu,du,rfl⟩:=HU.out))
   exact bodyPost_ret (v:=AV (zf f).R (zf f).C (.slice D m cc)) (by simp [results,results30,go_sem]) rfl ⟨D,m,cc,rfl,⟨(by (try simp only [ze,za] at hDr);(try simp only [ze,za]);(try simp only [zc] at hDr);(try simp only [zb] at hDr);(try simp only [Array.append_assoc] at hDr);(try simp only [Array.append_assoc]);exact Rd.swap hDr (by first | (simp;done) | (simp;omega) | omega) (by first | (simp;done) | (simp;omega) | omega) (by first | (simp;done) | (simp;omega) | omega)),hD.len,hD.cap,hD.small,hD.ok⟩,by with_reducible repeat (first | exact Ext.refl _ | apply Ext.drew | apply Ext.alloc | apply Ext.more_)⟩
  | none =>
   rw [q1] at hf1
   simp only [Option.getD_none,Option.isSome_none] at hf1
   cases q2:zaj l2 with
   | some f =>
    obtain rfl:zf f=X:=by rw [← HX.out];exact (zha (a:=⟨R,C,l⟩) (b:=⟨R2,C2,l2⟩) H0.out q1 q2).symm
    rw [q2] at hf2
    simp only [Option.getD_some,Option.isSome_some] at hf2
    clear q1 q2 HX
    go_wp2_with fail
    refine wp_loop_rounds 2 ?_
    rw [rounds_succ]
    go_wp2_with (first | (go_at_call 79;with_reducible refine aM (hf1 _ (HA.out.ext (hx.trans (by simp [go_sem])))) fun osf df=>?_))
    rw [rounds_succ]
    go_wp2_with (first | (go_at_call 79;with_reducible refine aM (hf2 _ (HA2.out.ext (hx.trans (by simp [go_sem])))) fun osf df=>?_) | ((go_at_call 17;with_reducible refine aR (zt _ _) fun D m cc os5 d5 hD=>?_;have hDr:=hD.rd);obtain ⟨osu,du,rfl⟩:=HU.out))
    exact bodyPost_ret (v:=AV (zf f).R (zf f).C (.slice D m cc)) (by simp [results,results30,go_sem]) rfl ⟨D,m,cc,rfl,⟨(by (try simp only [ze,za] at hDr);(try simp only [ze,za]);(try simp only [zc] at hDr);(try simp only [zb] at hDr);(try simp only [Array.append_assoc] at hDr);(try simp only [Array.append_assoc]);exact Rd.swap hDr (by first | (simp;done) | (simp;omega) | omega) (by first | (simp;done) | (simp;omega) | omega) (by first | (simp;done) | (simp;omega) | omega)),hD.len,hD.cap,hD.small,hD.ok⟩,by with_reducible repeat (first | exact Ext.refl _ | apply Ext.drew | apply Ext.alloc | apply Ext.more_)⟩
   | none =>
    rw [q2] at hf2
    simp only [Option.getD_none,Option.isSome_none] at hf2
    have Q1:=Lib.hid q1
    have Q2:=Lib.hid q2
    clear q1 q2
    go_wp2_with fail
    refine wp_loop_rounds 3 ?_
    rw [rounds_succ]
    go_wp2_with (first | (go_at_call 79;with_reducible refine aM (hf1 _ (HA.out.ext (hx.trans (by simp [go_sem])))) fun osf df=>?_))
    rw [rounds_succ]
    go_wp2_with (first | (go_at_call 79;with_reducible refine aM (hf2 _ (HA2.out.ext (hx.trans (by simp [go_sem])))) fun osf df=>?_))
    rw [rounds_succ]
    go_wp2_with fail
    refine zz fun wd hd=>?_
    have hxd:Ext wc wd:=by rw [hd];exact (by simp [go_sem])
    replace hx:=hx.trans hxd
    replace c0:=hxd.cell_some c0
    replace c1:=hxd.cell_some c1
    replace c2:=hxd.cell_some c2
    replace e0:=hxd.cell_some e0
    replace e1:=hxd.cell_some e1
    replace e2:=hxd.cell_some e2
    replace v0:=hxd.cell_some v0
    replace v1:=hxd.cell_some v1
    replace v2:=hxd.cell_some v2
    replace u0:=hxd.cell_some u0
    replace u1:=hxd.cell_some u1
    replace u2:=hxd.cell_some u2
    replace la:=zg c0
    replace lb:=zg e0
    replace lv:=zg v0
    replace HU:Hid (∃ os d,wd=more (w.alloc (Obj.cells #[.int .i64 0,.int .i64 0,.slice none 0 0] 30)) os d):=Lib.hid (by obtain ⟨o1,d1,h1⟩:=HU.out;rw [h1] at hxd;exact Ext.more ((zP _ _ _).trans hxd))
    clear hd hxd
    refine wp_loop_rounds 3 ?_
    rw [rounds_succ]
    go_wp2_with fail
    go_loopw [54] (fun i wr=>∃ k:Nat,k≤n1∧i = .int .i64 (k:Int)∧Ext wd wr∧Hid (∀ j y,j < k→l[j]? = some y→y.kind=1)) (fun i _=>n1 - (intOf i).toNat)
    case atStart=>exact ⟨0,Nat.zero_le _,rfl,by simp [go_sem],fun j y hj=>absurd hj (Nat.not_lt_zero _)⟩
    case round =>
     obtain ⟨k,hk,rfl,hX,HK⟩:=hrel
     have hX0:=hX
     obtain ⟨os,d,rfl⟩:=hX.more
     clear hX
     by_cases hlt:k < n1
     ·have hlt':(k:Int) < (n1:Int):=by omega
      obtain ⟨x,bq,oq,hxk,hxo,hbq,hat⟩:=HA.out.at hlt
      obtain ⟨rfl,rfl⟩:=aI hbq
      obtain ⟨y0,y1,y2,y3,y4,y5⟩:=hat.ext hx
      have lx:=zg y0
      by_cases hkk:x.kind=1
      ·have hkk':(x.kind != 1)=false:=by simpa using hkk
       have HK2:Hid (∀ j y,j < k+1→l[j]? = some y→y.kind=1):=fun j y hj hy=>by
        by_cases e:j=k
        ·subst e;rw [hxk] at hy;obtain rfl:x=y:=by simpa using hy
         exact hkk
        ·exact HK.out j y (by omega) hy
       clear hkk hxk hxo hat HX
       go_wp2_with fail
       exact ⟨⟨k+1,by omega,by go_num,by simp [go_sem],HK2⟩,by simp [intOf];omega⟩
      ·have hkk':(x.kind != 1)=true:=by simpa using hkk
       obtain rfl:zf 2=X:=by rw [← HX.out];exact (zgu (a:=⟨R,C,l⟩) (b:=⟨R2,C2,l2⟩) H0.out Q1.out Q2.out (List.mem_append_left _ (List.mem_of_getElem? hxk)) hkk).symm
       clear hkk hxk hxo hat HX
       go_wp2_with ((go_at_call 17;with_reducible refine aR (zt _ _) fun D m cc os5 d5 hD=>?_;have hDr:=hD.rd);obtain ⟨osu,du,rfl⟩:=HU.out)
       exact bodyPost_ret (v:=AV (zf 2).R (zf 2).C (.slice D m cc)) (by simp [results,results30,go_sem]) rfl ⟨D,m,cc,rfl,⟨(by (try simp only [ze,za] at hDr);(try simp only [ze,za]);(try simp only [zc] at hDr);(try simp only [zb] at hDr);(try simp only [Array.append_assoc] at hDr);(try simp only [Array.append_assoc]);exact Rd.swap hDr (by first | (simp;done) | (simp;omega) | omega) (by first | (simp;done) | (simp;omega) | omega) (by first | (simp;done) | (simp;omega) | omega)),hD.len,hD.cap,hD.small,hD.ok⟩,by with_reducible repeat (first | exact Ext.refl _ | apply Ext.drew | apply Ext.alloc | apply Ext.more_)⟩
     ·have HNn1:Hid (∀ y∈l,y.kind=1):=fun y hy=>by
       obtain ⟨j,hj,rfl⟩:=List.mem_iff_getElem.1 hy
       exact HK.out j _ (by omega) (List.getElem?_eq_getElem hj)
      clear HK
      go_wp2_with fail
      rw [rounds_succ]
      go_wp2_with fail
      go_loopw [54] (fun i wr=>∃ k:Nat,k≤n2∧i = .int .i64 (k:Int)∧Ext wd wr∧Hid (∀ j y,j < k→l2[j]? = some y→y.kind=1)) (fun i _=>n2 - (intOf i).toNat)
      case atStart=>exact ⟨0,Nat.zero_le _,rfl,by simp [go_sem],fun j y hj=>absurd hj (Nat.not_lt_zero _)⟩
      case round =>
       obtain ⟨k,hk,rfl,hX,HK⟩:=hrel
       have hX0:=hX
       obtain ⟨os,d,rfl⟩:=hX.more
       clear hX
       by_cases hlt:k < n2
       ·have hlt':(k:Int) < (n2:Int):=by omega
        obtain ⟨x,bq,oq,hxk,hxo,hbq,hat⟩:=HA2.out.at hlt
        obtain ⟨rfl,rfl⟩:=aI hbq
        obtain ⟨y0,y1,y2,y3,y4,y5⟩:=hat.ext hx
        have lx:=zg y0
        by_cases hkk:x.kind=1
        ·have hkk':(x.kind != 1)=false:=by simpa using hkk
         have HK2:Hid (∀ j y,j < k+1→l2[j]? = some y→y.kind=1):=fun j y hj hy=>by
          by_cases e:j=k
          ·subst e;rw [hxk] at hy;obtain rfl:x=y:=by simpa using hy
           exact hkk
          ·exact HK.out j y (by omega) hy
         clear hkk hxk hxo hat HX
         go_wp2_with fail
         exact ⟨⟨k+1,by omega,by go_num,by simp [go_sem],HK2⟩,by simp [intOf];omega⟩
        ·have hkk':(x.kind != 1)=true:=by simpa using hkk
         obtain rfl:zf 2=X:=by rw [← HX.out];exact (zgu (a:=⟨R,C,l⟩) (b:=⟨R2,C2,l2⟩) H0.out Q1.out Q2.out (List.mem_append_right _ (List.mem_of_getElem? hxk)) hkk).symm
         clear hkk hxk hxo hat HX
         go_wp2_with ((go_at_call 17;with_reducible refine aR (zt _ _) fun D m cc os5 d5 hD=>?_;have hDr:=hD.rd);obtain ⟨osu,du,rfl⟩:=HU.out)
         exact bodyPost_ret (v:=AV (zf 2).R (zf 2).C (.slice D m cc)) (by simp [results,results30,go_sem]) rfl ⟨D,m,cc,rfl,⟨(by (try simp only [ze,za] at hDr);(try simp only [ze,za]);(try simp only [zc] at hDr);(try simp only [zb] at hDr);(try simp only [Array.append_assoc] at hDr);(try simp only [Array.append_assoc]);exact Rd.swap hDr (by first | (simp;done) | (simp;omega) | omega) (by first | (simp;done) | (simp;omega) | omega) (by first | (simp;done) | (simp;omega) | omega)),hD.len,hD.cap,hD.small,hD.ok⟩,by with_reducible repeat (first | exact Ext.refl _ | apply Ext.drew | apply Ext.alloc | apply Ext.more_)⟩
       ·have HNn2:Hid (∀ y∈l2,y.kind=1):=fun y hy=>by
         obtain ⟨j,hj,rfl⟩:=List.mem_iff_getElem.1 hy
         exact HK.out j _ (by omega) (List.getElem?_eq_getElem hj)
        clear HK
        go_wp2_with fail
        rw [rounds_succ]
        go_upto_region 21 with fail
        refine zz fun wm hd=>?_
        have hxd:Ext wd wm:=by rw [hd];exact (by simp [go_sem])
        replace hx:=hx.trans hxd
        replace c0:=hxd.cell_some c0
        replace c1:=hxd.cell_some c1
        replace c2:=hxd.cell_some c2
        replace e0:=hxd.cell_some e0
        replace e1:=hxd.cell_some e1
        replace e2:=hxd.cell_some e2
        replace v0:=hxd.cell_some v0
        replace v1:=hxd.cell_some v1
        replace v2:=hxd.cell_some v2
        replace u0:=hxd.cell_some u0
        replace u1:=hxd.cell_some u1
        replace u2:=hxd.cell_some u2
        replace la:=zg c0
        replace lb:=zg e0
        replace lv:=zg v0
        replace HU:Hid (∃ os d,wm=more (w.alloc (Obj.cells #[.int .i64 0,.int .i64 0,.slice none 0 0] 30)) os d):=Lib.hid (by obtain ⟨o1,d1,h1⟩:=HU.out;rw [h1] at hxd;exact Ext.more ((zP _ _ _).trans hxd))
        clear hd hxd
        have hw0:IntKind.i64.wrap ((R:Int) * (C2:Int))=((R * C2:Nat):Int):=by
         have:=Nat.mul_le_mul hR4 hC4
         rw [IntKind.wrap_i64,← Int.natCast_mul];omega
        have hkinds:∀ x∈l++l2,x.kind=1:=fun x hx=>(List.mem_append.1 hx).elim (HNn1.out x) (HNn2.out x)
        by_cases hg:4096 < R * C2
        ·obtain rfl:zf 5=X:=by rw [← HX.out];exact (zh5 (a:=⟨R,C,l⟩) (b:=⟨R2,C2,l2⟩) H0.out Q1.out Q2.out hkinds hg).symm
         have hg':(4096:Int) < ((R * C2:Nat):Int):=by omega
         generalize R * C2=N at *
         clear HX hkinds
         go_wp2_with ((go_at_call 17;with_reducible refine aR (zt _ _) fun D m cc os5 d5 hD=>?_;have hDr:=hD.rd);obtain ⟨osu,du,rfl⟩:=HU.out)
         exact rc1 (v:=AV (zf 5).R (zf 5).C (.slice D m cc)) rfl rfl (by simp [go_sem]) (by (try simp only [ze,za,zc,zb,Array.append_assoc] at hDr);(try simp only [ze,za,zc,zb,Array.append_assoc]);exact raS hDr hD (by simp <;> omega) (by simp [go_sem]))
        ·have HX2:=Lib.hid ((zjk (a:=⟨R,C,l⟩) (b:=⟨R2,C2,l2⟩) H0.out Q1.out Q2.out hkinds hg).symm.trans HX.out)
         have hm:R * C2≤4096:=by omega
         have hmk:=zgl (R * C2) hm
         have hmo:=zhq wm wm.heap.size (R * C2) hm (Nat.le_refl _)
         obtain ⟨i0,hi0,hz0,hz1,hz2⟩:=info_parts zaY
         have hg':¬ (4096:Int) < ((R * C2:Nat):Int):=by omega
         obtain ⟨N,hN⟩:∃ N,R * C2=N:=⟨_,rfl⟩
         rw [hN] at hw0 hm hmk hmo hg'
         have HN:=Lib.hid hN
         clear hg hN HX hkinds HNn1 HNn2 Q1 Q2
         go_wp2_with fail
         go_loopw [13,79] (fun v i wr=>∃ r:Nat,r≤R∧i = .int .i64 (r:Int)∧Hid (∃ L,zbh ⟨R,C,l⟩ ⟨R2,C2,l2⟩ (r * C2)=some L∧wr.ownsRow wm.heap.size 37 6 v (r * C2) (zm L))∧Ext wm wr) (fun _ i _=>R - (intOf i).toNat)
         case atStart =>
          have h0:0 * C2=0:=Nat.zero_mul C2
          refine ⟨0,Nat.zero_le _,rfl,?_,(Ext.refl _).alloc _⟩
          show ∃ L,_∧World.ownsRow _ _ _ _ _ _ _
          rw [h0]
          refine ⟨[],rfl,?_⟩
          simpa [zmx] using hmo
         case round =>
          obtain ⟨r,hk,rfl,HW,hxl⟩:=hrel
          clear hmo
          by_cases hlt:r < R
          ·have hlt':(r:Int) < (R:Int):=by omega
           obtain ⟨m1,m2⟩:=zei hlt (by rw [HN.out];exact hm)
           have hrM:r * C2+C2≤N:=by rw [← HN.out];exact m1
           have hrM:=Lib.hid hrM
           clear m1 m2
           go_upto_region 27 with fail
           refine zz fun wq hq=>?_
           have hxq:Ext wm wq:=by rw [hq];exact hxl
           have HW:Hid (∃ L,zbh ⟨R,C,l⟩ ⟨R2,C2,l2⟩ (r * C2)=some L∧wq.ownsRow wm.heap.size 37 6 u13 (r * C2) (zm L)):=by rw [hq];exact HW
           clear hq hxl
           obtain ⟨osq,dq,rfl⟩:=hxq.more
           go_wp2_with fail
           go_loopw [13,84] (fun v i wr=>∃ j:Nat,j≤C2∧i = .int .i64 (j:Int)∧Hid (∃ L,zbh ⟨R,C,l⟩ ⟨R2,C2,l2⟩ (r * C2+j)=some L∧wr.ownsRow wm.heap.size 37 6 v (r * C2+j) (zm L))∧Ext wm wr) (fun _ i _=>C2 - (intOf i).toNat)
           case atStart=>exact ⟨0,Nat.zero_le _,rfl,HW,hxq⟩
           case round =>
            obtain ⟨j,hj,rfl,HV,hxv⟩:=hrel
            clear HW
            have hsz:=hxv.size
            have hxv0:=hxv
            obtain ⟨os,d,rfl⟩:=hxv.more
            clear hxv
            by_cases hjC:j < C2
            ·have hjC':(j:Int) < (C2:Int):=by omega
             obtain ⟨L,hL,hO⟩:=HV.out
             have gp:∀ W,Tab W→ArrIn W (some ⟨b1,off1,none⟩) n1 cap1 l→ArrIn W (some ⟨b2,off2,none⟩) n2 cap2 l2→Calls prog 80 #[AV R C (.slice (some ⟨b1,off1,none⟩) n1 cap1),AV R2 C2 (.slice (some ⟨b2,off2,none⟩) n2 cap2),.int .i64 (r:Int),.int .i64 (j:Int)] W fun e w'=>(∃ m ex ok,e = .returned (.tuple #[NV m ex,.bool ok])∧zdX ⟨R,C,l⟩ ⟨R2,C2,l2⟩ r j C ok m ex)∧Ext W w':=fun W hT h1 h2=>zoL ⟨R,C,l⟩ ⟨R2,C2,l2⟩ _ _ n1 cap1 n2 cap2 r j W hT h1 h2 hxr hxr2 H0.out hlt hjC
             have HOn:=Lib.hid hO
             clear HV hO
             cases hd:zaH ⟨R,C,l⟩ ⟨R2,C2,l2⟩ r j (C - 1) with
             | none =>
              obtain rfl:zf 5=X:=by
               have:=HX2.out
               rw [zjj (a:=⟨R,C,l⟩) (b:=⟨R2,C2,l2⟩) hjC hlt hL hd] at this
               exact this
              have gp2:∀ W,Tab W→ArrIn W (some ⟨b1,off1,none⟩) n1 cap1 l→ArrIn W (some ⟨b2,off2,none⟩) n2 cap2 l2→Calls prog 80 #[AV R C (.slice (some ⟨b1,off1,none⟩) n1 cap1),AV R2 C2 (.slice (some ⟨b2,off2,none⟩) n2 cap2),.int .i64 (r:Int),.int .i64 (j:Int)] W fun e w'=>∃ m ex,e = .returned (.tuple #[NV m ex,.bool false])∧Ext W w':=fun W hT h1 h2=>(gp W hT h1 h2).mono fun e w' ⟨⟨m,ex,ok,h3,h4⟩,h5⟩=>by
               rcases h4 with ⟨_,h4⟩ | ⟨h4,_⟩
               ·exact absurd (hd.symm.trans h4) (by simp)
               ·rw [h4] at h3;exact ⟨m,ex,h3,h5⟩
              clear gp hd hL HX2
              go_wp2_with (first | (go_at_call 80;(with_reducible refine (gp2 _ (HT.out.ext (hx.trans (hxv0.trans (by simp [go_sem])))) (HA.out.ext (hx.trans (hxv0.trans (by simp [go_sem])))) (HA2.out.ext (hx.trans (hxv0.trans (by simp [go_sem]))))).mono ?_);rintro e w' ⟨m,ex,rfl,hb⟩;obtain ⟨osp,dp,rfl⟩:=hb.more;clear hb) | ((go_at_call 17;with_reducible refine aR (zt _ _) fun D m cc os5 d5 hD=>?_;have hDr:=hD.rd);obtain ⟨osu,du,rfl⟩:=HU.out))
              exact bodyPost_ret (v:=AV (zf 5).R (zf 5).C (.slice D m cc)) (by simp [results,results30,go_sem]) rfl ⟨D,m,cc,rfl,⟨(by (try simp only [ze,za] at hDr);(try simp only [ze,za]);(try simp only [zc] at hDr);(try simp only [zb] at hDr);(try simp only [Array.append_assoc] at hDr);(try simp only [Array.append_assoc]);exact Rd.swap hDr (by first | (simp;done) | (simp;omega) | omega) (by first | (simp;done) | (simp;omega) | omega) (by first | (simp;done) | (simp;omega) | omega)),hD.len,hD.cap,hD.small,hD.ok⟩,by with_reducible repeat (first | exact Ext.refl _ | apply Ext.drew | apply Ext.alloc | apply Ext.more_)⟩
             | some q =>
              obtain ⟨qm,qe⟩:=q
              have gp2:∀ W,Tab W→ArrIn W (some ⟨b1,off1,none⟩) n1 cap1 l→ArrIn W (some ⟨b2,off2,none⟩) n2 cap2 l2→Tl prog 80 #[AV R C (.slice (some ⟨b1,off1,none⟩) n1 cap1),AV R2 C2 (.slice (some ⟨b2,off2,none⟩) n2 cap2),.int .i64 (r:Int),.int .i64 (j:Int)] W (.tuple #[NV qm qe,.bool true]):=fun W hT h1 h2=>(gp W hT h1 h2).mono fun e w' ⟨⟨m,ex,ok,h3,h4⟩,h5⟩=>by
               rcases h4 with ⟨h4,h6⟩ | ⟨_,h4⟩
               ·have h7:=hd.symm.trans h6
                simp only [Option.some.injEq,Prod.mk.injEq] at h7
                obtain ⟨rfl,rfl⟩:=h7
                rw [h4] at h3;exact ⟨h3,h5⟩
               ·exact absurd (hd.symm.trans h4) (by simp)
              have HL2:=Lib.hid (zji (a:=⟨R,C,l⟩) (b:=⟨R2,C2,l2⟩) hjC hL hd)
              clear gp hd hL HX2
              go_wp2_with (first | (go_at_call 80;with_reducible refine aM (gp2 _ (HT.out.ext (hx.trans (hxv0.trans (by simp [go_sem])))) (HA.out.ext (hx.trans (hxv0.trans (by simp [go_sem])))) (HA2.out.ext (hx.trans (hxv0.trans (by simp [go_sem]))))) fun osp dp=>?_) | (go_at_call 67;with_reducible refine aM (zea _ _ _) fun oso do_=>?_) | (at_builtin;refine wpList_append_own _ rfl _ _ _ rfl wm.heap.size 37 i0 (VV 0 0 0 ⟨#[]⟩ false 0) 6 56 Tryz.underlying28 hi0 hz0 hz1 hz2 rfl (by decide) _ (r * C2+j) _ rfl (zw HOn.out (by simp [go_sem])) _ 1 1 (Val.cells ⟨1,qm,qe,⟨#[]⟩,false,0⟩) rfl rfl (z7 _ _ _ (by simp) rfl _) (fun u hu=>zbB (l:=[⟨1,qm,qe,⟨#[]⟩,false,0⟩]) u (by simpa [zm] using hu)) (by have:=hrM.out;simp only [maxLen];omega) (by have:=hrM.out;omega) (by simp;omega) ?_;intro v4 w4 ho4 hg4 _))
              have hx4:=zba (X:=wm) (by simp [go_sem]) (zw HOn.out (by simp [go_sem])) hg4
              refine ⟨⟨j+1,by omega,by go_num,?_,hx4⟩,by simp [intOf];omega⟩
              refine Lib.hid ⟨_,HL2.out,?_⟩
              rw [← Nat.add_assoc,zar]
              simpa [zm] using ho4
            ·obtain rfl:j=C2:=by omega
             go_wp2_with fail
             refine ⟨⟨r+1,by omega,by go_num,?_,hxv0⟩,by simp [intOf];omega⟩
             rw [show (r+1) * j=r * j+j by rw [Nat.add_mul,Nat.one_mul]]
             exact HV
          ·obtain rfl:r=R:=by omega
           obtain ⟨L,hL,hO⟩:=HW.out
           rw [HN.out] at hL hO
           have hXe:(⟨r,C2,L⟩:NA)=X:=by
            have:=HX2.out
            rw [show (⟨r,C,l⟩:NA).R * (⟨R2,C2,l2⟩:NA).C=N from HN.out,hL] at this
            exact this
           have hLok:∀ x∈L,x.ok:=fun x hx=>(zfL (a:=⟨r,C,l⟩) (b:=⟨R2,C2,l2⟩) hL x hx).ok
           obtain ⟨D,cc,rfl,hD⟩:=zcD (n:=N) (w:=wm) (X:=wm) hO (Nat.le_refl _) (by omega) hLok
           obtain ⟨os,d,rfl⟩:=hxl.more
           clear hxl HW hO HX2
           go_wp2_with (go_at_call 36;(with_reducible refine (zcB _ _ _ _ _ _).mono ?_);rintro e w' ⟨rfl,hb⟩;have hDr:=Rd.ext hD.rd hb;obtain ⟨os6,d6,rfl⟩:=hb.more;clear hb;obtain ⟨osu,du,rfl⟩:=HU.out)
           subst hXe
           exact rc1 (v:=AV r C2 (.slice D N cc)) rfl rfl (by simp [go_sem]) (by (try simp only [ze,za,zc,zb,Array.append_assoc] at hDr);(try simp only [ze,za,zc,zb,Array.append_assoc]);exact raS hDr hD (by simp <;> omega) (by simp [go_sem]))
 ·obtain rfl:zf 2=X:=by rw [← HX.out];unfold zbE;rw [if_pos h0]
  have h0':((C:Int) != (R2:Int))=true:=by simp;omega
  clear h0
  go_wp2_with ((go_at_call 17;with_reducible refine aR (zt _ _) fun D m cc os5 d5 hD=>?_;have hDr:=hD.rd);obtain ⟨osu,du,rfl⟩:=HU.out)
  exact rc1 (v:=AV (zf 2).R (zf 2).C (.slice D m cc)) rfl rfl (by simp [go_sem]) (by (try simp only [ze,za,zc,zb,Array.append_assoc] at hDr);(try simp only [ze,za,zc,zb,Array.append_assoc]);exact raS hDr hD (by simp <;> omega) (by simp [go_sem]))
def zqx (a b:NA) (i j k:Nat) (m e:Int):Prop:=(k=0∧m=0∧e=0)∨∃ k',k=k'+1∧zaH a b i j k'=some (m,e)
theorem zrT {w:World} {base:Nat} {e:TypeId} {size n:Nat} {v:Value} {xs:List Value} (h:w.ownsRow base e size v n xs):∀ k,v.ownBlock=some k→k < w.heap.size:=by
 intro k hk
 rcases h.2 with ⟨rfl,_⟩ | ⟨g,cap,cur,rfl,hg,hh,_⟩
 ·cases hk
 ·simp only [Value.ownBlock,Option.some.injEq] at hk
  subst hk;exact zbn hh
theorem zh7 {w:World} {n:Nat} {ty:TypeId} {cs:Array Value} (hn:n=w.heap.size) (hc:cs = #[]):(w.alloc (.cells cs ty)).ownsRow w.heap.size ty 6 (.slice (some ⟨n,0,none⟩) 0 0) 0 []:=by
 subst hn hc
 exact ⟨rfl,Or.inr ⟨w.heap.size,0,_,rfl,Nat.le_refl _,Array.getElem?_push_size,Nat.le_refl _,by decide,by simp,by simp⟩⟩
theorem zgv:∀ {l:List Val} {f:Int},(∀ x∈l,x.right)→zaj l=some f→1≤f∧f≤9
 | [],f,_,h=>by cases h
 | x::l,f,hr,h=>by
  unfold zaj at h
  split at h
  ·rename_i hk
   obtain rfl:x.fault=f:=by simpa using h
   exact (zeW (hr x (by simp))).2.2.2 hk
  ·exact zgv (fun y hy=>hr y (List.mem_cons_of_mem _ hy)) h
@[go_sem] theorem zrp (k m e:Int) (t:ByteArray) (b:Bool) (f:Int) (w:World):(Instr.field 37 (VV k m e t b f) 1).run prog w = .ok (NV m e) w:=by kernel_rfl
theorem zgP {w w1:World} {p:Nat} {o:Obj} (h:w.heap[p]? = some o) (hx:Ext w w1):w1.heap[p]? = some o:=by rw [hx.block (zbn h)];exact h
theorem zoN (R C R2 C2:Nat) (l l2:List Val) (A1 A2:Option Addr) (n1 cap1 n2 cap2:Nat) (w:World) (h1:ArrIn w A1 n1 cap1 l) (h2:ArrIn w A2 n2 cap2 l2) (hxr:NA.right ⟨R,C,l⟩) (hxr2:NA.right ⟨R2,C2,l2⟩) (h0:C=R2) (q1:zaj l=none) (q2:zaj l2=none) :
  Calls prog 56 #[AV R C (.slice A1 n1 cap1),AV R2 C2 (.slice A2 n2 cap2)] w fun e w'=>zan w (zbE ⟨R,C,l⟩ ⟨R2,C2,l2⟩) e w':=by
 obtain ⟨r1,r2,r3,r4,r5⟩:=zi.1 hxr
 obtain ⟨s1,s2,s3,s4,s5⟩:=zi.1 hxr2
 simp only at r1 r2 r3 r4 r5 s1 s2 s3 s4 s5
 have hln1:=h1.len
 have hln2:=h2.len
 have hR4:R≤4096:=Nat.le_trans (Nat.le_mul_of_pos_right R r2) r3
 have hC4:C2≤4096:=Nat.le_trans (Nat.le_mul_of_pos_left C2 s1) s3
 have hCC4:C≤4096:=Nat.le_trans (Nat.le_mul_of_pos_left C r1) r3
 obtain ⟨xa,b1,off1,_,_,hA1,_⟩:=h1.at (k:=0) (by have:=Nat.mul_pos r1 r2;omega)
 obtain ⟨xb,b2,off2,_,_,hA2,_⟩:=h2.at (k:=0) (by have:=Nat.mul_pos s1 s2;omega)
 subst hA1 hA2
 have hf1:=fun W (hW:ArrIn W (some ⟨b1,off1,none⟩) n1 cap1 l)=>zdf R C _ n1 cap1 l W hW _ rfl
 have hf2:=fun W (hW:ArrIn W (some ⟨b2,off2,none⟩) n2 cap2 l2)=>zdf R2 C2 _ n2 cap2 l2 W hW _ rfl
 have HA:=Lib.hid h1
 have HA2:=Lib.hid h2
 obtain ⟨X,hX⟩:∃ X,zbE ⟨R,C,l⟩ ⟨R2,C2,l2⟩=X:=⟨_,rfl⟩
 rw [hX]
 have HX:=Lib.hid hX
 clear h1 h2 hX
 have h0':((C:Int) != (R2:Int))=false:=by simp;omega
 have H0:=Lib.hid h0
 clear h0
 rw [q1] at hf1
 simp only [Option.getD_none] at hf1
 rw [q2] at hf2
 simp only [Option.getD_none] at hf2
 have Q1:=Lib.hid q1
 have Q2:=Lib.hid q2
 clear q1 q2
 go_enter func56,ntmps56
 go_upto_region 8 with (first | (have _t:=osf;clear _t;(go_at_call 106;with_reducible refine aM (hf2 _ (HA2.out.ext (by simp [go_sem]))) fun osf df=>?_)) | (go_at_call 106;with_reducible refine aM (hf1 _ (HA.out.ext (by simp [go_sem]))) fun osf df=>?_))
 refine zz fun U hU=>?_
 have hx:Ext w U:=by rw [hU];exact (by simp [go_sem])
 have c0:U.cell? ⟨w.heap.size,0,none⟩=some (.int .i64 (R:Int)):=by rw [hU];go_simp
 have c1:U.cell? ⟨w.heap.size,1,none⟩=some (.int .i64 (C:Int)):=by rw [hU];go_simp
 have c2:U.cell? ⟨w.heap.size,2,none⟩=some (.slice (some ⟨b1,off1,none⟩) n1 cap1):=by rw [hU];go_simp
 have e0:U.cell? ⟨w.heap.size+1,0,none⟩=some (.int .i64 (R2:Int)):=by rw [hU];go_simp
 have e1:U.cell? ⟨w.heap.size+1,1,none⟩=some (.int .i64 (C2:Int)):=by rw [hU];go_simp
 have e2:U.cell? ⟨w.heap.size+1,2,none⟩=some (.slice (some ⟨b2,off2,none⟩) n2 cap2):=by rw [hU];go_simp
 have HU:Hid (∃ os d,U=more (((w.alloc (Obj.cells #[.int .i64 (R:Int),.int .i64 (C:Int),.slice (some ⟨b1,off1,none⟩) n1 cap1] 30)).alloc (Obj.cells #[.int .i64 (R2:Int),.int .i64 (C2:Int),.slice (some ⟨b2,off2,none⟩) n2 cap2] 30)).alloc (Obj.cells #[.int .i64 0,.int .i64 0,.slice none 0 0] 30)) os d):=Lib.hid ((show Ext (((w.alloc (Obj.cells #[.int .i64 (R:Int),.int .i64 (C:Int),.slice (some ⟨b1,off1,none⟩) n1 cap1] 30)).alloc (Obj.cells #[.int .i64 (R2:Int),.int .i64 (C2:Int),.slice (some ⟨b2,off2,none⟩) n2 cap2] 30)).alloc (Obj.cells #[.int .i64 0,.int .i64 0,.slice none 0 0] 30)) U by rw [hU];exact (by simp [go_sem])).more)
 clear hU
 have la:=zg c0
 have lb:=zg e0
 obtain ⟨i0,hi0,hz0,hz1,hz2⟩:=info_parts zaY
 refine zcj (S:=Ext U) [(1,0),(2,0),(4,0),(5,0),(0,1),(3,1),(6,1),(7,0)] [] (by kernel_rfl) (by kernel_rfl) (by kernel_rfl) (fun _ _ d _ _ h=>by cases d <;> exact h) (Ext.drew (Ext.refl _)) ?_
 iterate 4 (apply rdP rfl rfl;(intros;go_simp;first | done | rfl);try simp only [zq])
 (refine zh rfl ?_ (fun K hK=>?_);rfl;go_simp;refine hK _ _ ?_ ?_;(simp [go_sem]))
 try simp only [zq]
 (refine zh rfl ?_ (fun K hK=>?_);rfl)
 refine zbA _ _ _ _ rfl U.heap.size 37 i0 (VV 0 0 0 ⟨#[]⟩ false 0) 6 56 Tryz.underlying28 hi0 hz0 hz1 hz2 rfl (by decide) _ 0 [] rfl (zh7 (w:=U.drew) rfl rfl) _ n1 cap1 (zm l) rfl (by rw [zaU,hln1]) (HA.out.ext (hx.trans (by simp [go_sem]))).rd.add (fun u hu=>zbB u hu) (by simp only [maxLen];omega) (by omega) (by simp) ?_
 intro v4 w4 ho4 hg4
 have hx4:Ext U w4:=zba (X:=U) (by simp [go_sem]) (zh7 (w:=U.drew) rfl rfl) hg4
 obtain ⟨os4,d4,rfl⟩:=hx4.more
 obtain ⟨G4,c4,rfl⟩:=za5 ho4
 have HO4:=Lib.hid ho4
 clear ho4 hg4 hx4
 refine hK _ _ (zP _ _ _) ?_
 try simp only [zq]
 (refine zh rfl ?_ (fun K hK=>?_);rfl)
 refine zbA _ _ _ _ rfl U.heap.size 37 i0 (VV 0 0 0 ⟨#[]⟩ false 0) 6 56 Tryz.underlying28 hi0 hz0 hz1 hz2 rfl (by decide) _ (0+n1) _ rfl HO4.out _ n2 cap2 (zm l2) rfl (by rw [zaU,hln2]) (HA2.out.ext (hx.trans (by simp [go_sem]))).rd.add (fun u hu=>zbB u hu) (by simp only [maxLen];omega) (by omega) (by simp) ?_
 intro v5 w5 ho5 hg5
 have hx5:Ext U w5:=zba (X:=U) (zP _ _ _) HO4.out hg5
 obtain ⟨os5,d5,rfl⟩:=hx5.more
 obtain ⟨G5,c5,rfl⟩:=za5 ho5
 obtain ⟨D5,cc5,hv5,hr5,hc5⟩:=Rd.of_own ho5
 simp only [Value.slice.injEq,true_and] at hv5
 obtain ⟨rfl,rfl⟩:=hv5
 have hall:ArrIn (more U os5 d5) G5 (0+n1+n2) c5 (l++l2):=⟨by have:=Rd.mono hr5 (Nat.zero_le _);rw [List.nil_append,← zar] at this;exact this,by rw [List.length_append];omega,hc5,by omega,fun x hx=>(List.mem_append.1 hx).elim (HA.out.ok x) (HA2.out.ok x)⟩
 have HALL:=Lib.hid hall
 clear ho5 hg5 hx5 hr5 hall HO4
 refine hK _ _ (zP _ _ _) ?_
 try simp only [zq]
 (apply rdP rfl rfl;(intros;go_simp;first | done | rfl))
 try simp only [zq]
 refine zj ?_
 obtain ⟨V,hV⟩:∃ V,more U os5 d5=V:=⟨_,rfl⟩
 have hxV:Ext U V:=by rw [← hV];exact zP _ _ _
 have hall:=HALL.out
 rw [hV] at hall ⊢
 replace c0:=hxV.cell_some c0
 replace c1:=hxV.cell_some c1
 replace c2:=hxV.cell_some c2
 replace e0:=hxV.cell_some e0
 replace e1:=hxV.cell_some e1
 replace e2:=hxV.cell_some e2
 replace la:=zg c0
 replace lb:=zg e0
 replace hx:=hx.trans hxV
 replace HU:Hid (∃ os d,V=more (((w.alloc (Obj.cells #[.int .i64 (R:Int),.int .i64 (C:Int),.slice (some ⟨b1,off1,none⟩) n1 cap1] 30)).alloc (Obj.cells #[.int .i64 (R2:Int),.int .i64 (C2:Int),.slice (some ⟨b2,off2,none⟩) n2 cap2] 30)).alloc (Obj.cells #[.int .i64 0,.int .i64 0,.slice none 0 0] 30)) os d):=Lib.hid (by obtain ⟨o1,d1,h1⟩:=HU.out;rw [h1] at hxV;exact Ext.more ((zP _ _ _).trans hxV))
 rw [Nat.zero_add] at hall
 try simp only [Nat.zero_add]
 clear HALL hV hxV
 obtain ⟨NN,hNN⟩:∃ NN,n1+n2=NN:=⟨_,rfl⟩
 rw [hNN] at hall ⊢
 have HNN:=Lib.hid hNN
 have HALL:=Lib.hid hall
 clear hNN hall
 go_wp2_with fail
 go_loopw [7] (fun i wr=>∃ k:Nat,k≤NN∧i = .int .i64 (k:Int)∧Ext V wr∧Hid (∀ j y,j < k→(l++l2)[j]? = some y→y.kind=1)) (fun i _=>NN - (intOf i).toNat)
 case atStart=>exact ⟨0,Nat.zero_le _,rfl,Ext.refl _,fun j y hj=>absurd hj (Nat.not_lt_zero _)⟩
 case round =>
  obtain ⟨k,hk,rfl,hX,HK⟩:=hrel
  have hX0:=hX
  obtain ⟨os,d,rfl⟩:=hX.more
  clear hX
  by_cases hlt:k < NN
  ·have hlt':(k:Int) < (NN:Int):=by omega
   obtain ⟨x,bq,oq,hxk,hxo,rfl,hat⟩:=HALL.out.at hlt
   obtain ⟨y0,y1,y2,y3,y4,y5⟩:=hat
   have lx:=zg y0
   have hcap5:=HALL.out.cap
   by_cases hkk:x.kind=1
   ·have hkk':(x.kind != 1)=false:=by simpa using hkk
    have HK2:Hid (∀ j y,j < k+1→(l++l2)[j]? = some y→y.kind=1):=fun j y hj hy=>by
     by_cases e:j=k
     ·subst e;rw [hxk] at hy;obtain rfl:x=y:=by simpa using hy
      exact hkk
     ·exact HK.out j y (by omega) hy
    clear hkk hxk hxo HX
    have hNN:NN≤8192:=by have:=HNN.out;omega
    go_wp2_with fail
    exact ⟨⟨k+1,by omega,by go_num,by simp [go_sem],HK2⟩,by simp [intOf];omega⟩
   ·have hkk':(x.kind != 1)=true:=by simpa using hkk
    obtain rfl:zf 2=X:=by rw [← HX.out];exact (zgu (a:=⟨R,C,l⟩) (b:=⟨R2,C2,l2⟩) H0.out Q1.out Q2.out (List.mem_of_getElem? hxk) hkk).symm
    clear hkk hxk hxo HX
    go_wp2_with ((go_at_call 44;with_reducible refine aR (zE 2 (by omega) _) fun D m cc os5 d5 hD=>?_;have hDr:=hD.rd);obtain ⟨osu,du,rfl⟩:=HU.out)
    exact bodyPost_ret (v:=AV (zf 2).R (zf 2).C (.slice D m cc)) (by simp [results,results56,go_sem]) rfl ⟨D,m,cc,rfl,⟨(by (try simp only [ze,za] at hDr);(try simp only [ze,za]);(try simp only [zc] at hDr);(try simp only [zb] at hDr);(try simp only [Array.append_assoc] at hDr);(try simp only [Array.append_assoc]);exact Rd.swap hDr (by first | (simp;done) | (simp;omega) | omega) (by first | (simp;done) | (simp;omega) | omega) (by first | (simp;done) | (simp;omega) | omega)),hD.len,hD.cap,hD.small,hD.ok⟩,by with_reducible repeat (first | exact Ext.refl _ | apply Ext.drew | apply Ext.alloc | apply Ext.more_)⟩
  ·have hkinds:∀ x∈l++l2,x.kind=1:=fun y hy=>by
    obtain ⟨j,hj,rfl⟩:=List.mem_iff_getElem.1 hy
    exact HK.out j _ (by have:=HALL.out.len;omega) (List.getElem?_eq_getElem hj)
   clear HK HALL
   have hw0:IntKind.i64.wrap ((R:Int) * (C2:Int))=((R * C2:Nat):Int):=by
    have:=Nat.mul_le_mul hR4 hC4
    rw [IntKind.wrap_i64,← Int.natCast_mul];omega
   by_cases hg:4096 < R * C2
   ·obtain rfl:zf 5=X:=by rw [← HX.out];exact (zh5 (a:=⟨R,C,l⟩) (b:=⟨R2,C2,l2⟩) H0.out Q1.out Q2.out hkinds hg).symm
    have hg':(4096:Int) < ((R * C2:Nat):Int):=by omega
    generalize R * C2=N at *
    clear HX hkinds hX0
    go_wp2_with ((go_at_call 44;with_reducible refine aR (zE 5 (by omega) _) fun D m cc os5 d5 hD=>?_;have hDr:=hD.rd);obtain ⟨osu,du,rfl⟩:=HU.out)
    exact bodyPost_ret (v:=AV (zf 5).R (zf 5).C (.slice D m cc)) (by simp [results,results56,go_sem]) rfl ⟨D,m,cc,rfl,⟨(by (try simp only [ze,za] at hDr);(try simp only [ze,za]);(try simp only [zc] at hDr);(try simp only [zb] at hDr);(try simp only [Array.append_assoc] at hDr);(try simp only [Array.append_assoc]);exact Rd.swap hDr (by first | (simp;done) | (simp;omega) | omega) (by first | (simp;done) | (simp;omega) | omega) (by first | (simp;done) | (simp;omega) | omega)),hD.len,hD.cap,hD.small,hD.ok⟩,by with_reducible repeat (first | exact Ext.refl _ | apply Ext.drew | apply Ext.alloc | apply Ext.more_)⟩
   ·have HX2:=Lib.hid ((zjk (a:=⟨R,C,l⟩) (b:=⟨R2,C2,l2⟩) H0.out Q1.out Q2.out hkinds hg).symm.trans HX.out)
    have hm:R * C2≤4096:=by omega
    have hg':¬ (4096:Int) < ((R * C2:Nat):Int):=by omega
    have HK1:=Lib.hid hkinds
    obtain ⟨N,hN⟩:∃ N,R * C2=N:=⟨_,rfl⟩
    rw [hN] at hw0 hm hg'
    have HN:=Lib.hid hN
    clear hg hN HX hkinds Q1 Q2
    go_upto_region 16 with fail
    refine zz fun wm hm2=>?_
    have hxV:Ext V wm:=by rw [hm2];first | exact hX0 | exact (by simp [go_sem])
    replace c0:=hxV.cell_some c0
    replace c1:=hxV.cell_some c1
    replace c2:=hxV.cell_some c2
    replace e0:=hxV.cell_some e0
    replace e1:=hxV.cell_some e1
    replace e2:=hxV.cell_some e2
    replace la:=zg c0
    replace lb:=zg e0
    replace hx:=hx.trans hxV
    replace HU:Hid (∃ os d,wm=more (((w.alloc (Obj.cells #[.int .i64 (R:Int),.int .i64 (C:Int),.slice (some ⟨b1,off1,none⟩) n1 cap1] 30)).alloc (Obj.cells #[.int .i64 (R2:Int),.int .i64 (C2:Int),.slice (some ⟨b2,off2,none⟩) n2 cap2] 30)).alloc (Obj.cells #[.int .i64 0,.int .i64 0,.slice none 0 0] 30)) os d):=Lib.hid (by obtain ⟨o1,d1,h1⟩:=HU.out;rw [h1] at hxV;exact Ext.more ((zP _ _ _).trans hxV))
    clear hm2 hxV hX0
    have HP:=Lib.hid (show ∀ (r j:Nat),r < R→j < C2→r * C2+j < N from fun r j h1 h2=>by rw [← HN.out];exact zc0 h1 h2)
    go_wp2_with fail
    go_loopw [9] (fun i wr=>∃ (r:Nat) (E:Option Addr) (c:Nat) (os:Array Obj) (d:Nat),r≤R∧i = .int .i64 (r:Int)∧wr=more (wm.alloc (Obj.cells #[.int .i64 (R:Int),.int .i64 (C2:Int),.slice E (r * C2) c] 30)) os d∧Hid (∃ L,zbh ⟨R,C,l⟩ ⟨R2,C2,l2⟩ (r * C2)=some L∧wr.ownsRow (wm.heap.size+1) 37 6 (.slice E (r * C2) c) (r * C2) (zm L))) (fun i _=>R - (intOf i).toNat)
    case atStart =>
     have hz:0 * C2=0:=Nat.zero_mul C2
     refine ⟨0,none,0,#[],((wm.alloc (Obj.cells #[.int .i64 (R:Int),.int .i64 (C2:Int),.slice none 0 0] 30))).drawn,Nat.zero_le _,rfl,?_,?_⟩
     ·rw [hz];exact (zbo _).symm
     ·show ∃ L,_∧World.ownsRow _ _ _ _ _ _ _
      rw [hz]
      exact ⟨[],rfl,World.ownsRow_nil _ _ _ _⟩
    case round =>
     obtain ⟨r,E,c,os,d,hk,rfl,rfl,HW⟩:=hrel
     by_cases hlt:r < R
     ·have hlt':(r:Int) < (R:Int):=by omega
      go_wp2_with fail
      go_loopw [10] (fun i wr=>∃ (j:Nat) (E:Option Addr) (c:Nat) (os:Array Obj) (d:Nat),j≤C2∧i = .int .i64 (j:Int)∧wr=more (wm.alloc (Obj.cells #[.int .i64 (R:Int),.int .i64 (C2:Int),.slice E (r * C2+j) c] 30)) os d∧Hid (∃ L,zbh ⟨R,C,l⟩ ⟨R2,C2,l2⟩ (r * C2+j)=some L∧wr.ownsRow (wm.heap.size+1) 37 6 (.slice E (r * C2+j) c) (r * C2+j) (zm L))) (fun i _=>C2 - (intOf i).toNat)
      case atStart=>exact ⟨0,E,c,os,d,Nat.zero_le _,rfl,rfl,HW⟩
      case round =>
       clear HW os d E c
       obtain ⟨j,E,c,os,d,hj,rfl,rfl,HW⟩:=hrel
       by_cases hjC:j < C2
       ·have hjC':(j:Int) < (C2:Int):=by omega
        obtain ⟨L,hL,hO⟩:=HW.out
        have HL:=Lib.hid hL
        have HOn:=Lib.hid hO
        clear hL hO HW
        have hpN:=HP.out r j hlt hjC
        go_upto_region 23 with fail
        refine zz fun wj hj2=>?_
        have HJ:=Lib.hid hj2
        have hxj:Ext wm wj:=by rw [hj2];exact (by simp [go_sem])
        have hj1:wm.heap.size+1≤wj.heap.size:=by rw [hj2];simp
        have hxw:Ext w wj:=hx.trans hxj
        have k0:=hxj.cell_some c0
        have k1:=hxj.cell_some c1
        have k2:=hxj.cell_some c2
        have f0:=hxj.cell_some e0
        have f1:=hxj.cell_some e1
        have f2:=hxj.cell_some e2
        have lka:=zg k0
        have lkb:=zg f0
        clear hj2
        go_wp2_with fail
        go_loopw [12] (fun i wr=>∃ (k:Nat) (m e:Int) (os:Array Obj) (d:Nat),k≤C∧i = .int .i64 (k:Int)∧wr=more (wj.alloc (Obj.cells #[.int .i64 m,.int .i64 e] 35)) os d∧Hid (zqx ⟨R,C,l⟩ ⟨R2,C2,l2⟩ r j k m e)∧Hid (I64 m)) (fun i _=>C - (intOf i).toNat)
        case atStart=>exact ⟨0,0,0,#[],_,Nat.zero_le _,rfl,(zbo _).symm,Lib.hid (Or.inl ⟨rfl,rfl,rfl⟩),(show I64 0 by unfold I64;omega)⟩
        case round =>
         obtain ⟨k,sm,se,os2,d2,hkC,rfl,rfl,HS,HI⟩:=hrel
         by_cases hkl:k < C
         ·have hkl':(k:Int) < (C:Int):=by omega
          have hkR2:k < R2:=by have:=H0.out;omega
          have t1:r * C+k < n1:=by rw [← hln1,r4];exact zc0 hlt hkl
          have t2:k * C2+j < n2:=by rw [← hln2,s4];exact zc0 hkR2 hjC
          obtain ⟨x,-,-,hx',hxo,-,-⟩:=HA.out.at t1
          obtain ⟨y,-,-,hy',hyo,-,-⟩:=HA2.out.at t2
          have hxv:zk l (r * C+k)=x:=by unfold zk;rw [hx'];rfl
          have hyv:zk l2 (k * C2+j)=y:=by unfold zk;rw [hy'];rfl
          have hg1:=fun W (hW:ArrIn W (some ⟨b1,off1,none⟩) n1 cap1 l)=>zbW R C r k _ n1 cap1 l W hW (by rw [← hln1,r4]) (by rw [← hln1,r4];exact r3) hlt hkl x hxv
          have hg2:=fun W (hW:ArrIn W (some ⟨b2,off2,none⟩) n2 cap2 l2)=>zbW R2 C2 k j _ n2 cap2 l2 W hW (by rw [← hln2,s4]) (by rw [← hln2,s4];exact s3) hkR2 hjC y hyv
          have hmu:=fun W=>zpy x.mant x.exp y.mant y.exp W hxo.2.1 hyo.2.1
          have hdk:zaH ⟨R,C,l⟩ ⟨R2,C2,l2⟩ r j k=(mulS x.mant x.exp y.mant y.exp).bind fun z=>if k=0 then some z else addS sm se z.1 z.2:=by
           rcases HS.out with ⟨rfl,_,_⟩ | ⟨k',rfl,hd⟩
           ·have hy2:zk l2 j=y:=by rw [← hyv,Nat.zero_mul,Nat.zero_add]
            have hx2:zk l (r * C)=x:=hxv
            show mulS (zk l (r * C)).mant (zk l (r * C)).exp (zk l2 j).mant (zk l2 j).exp=_
            rw [hx2,hy2]
            cases mulS x.mant x.exp y.mant y.exp <;> rfl
           ·show (zaH ⟨R,C,l⟩ ⟨R2,C2,l2⟩ r j k').bind _=_
            rw [hd,Option.bind_some]
            show (mulS (zk l (r * C+(k'+1))).mant (zk l (r * C+(k'+1))).exp (zk l2 ((k'+1) * C2+j)).mant (zk l2 ((k'+1) * C2+j)).exp).bind _=_
            rw [hxv,hyv]
            cases mulS x.mant x.exp y.mant y.exp <;> rfl
          have hbad:zaH ⟨R,C,l⟩ ⟨R2,C2,l2⟩ r j k=none→zf 5=X:=fun hn=>by
           have h1:=zjj (a:=⟨R,C,l⟩) (b:=⟨R2,C2,l2⟩) hjC hlt HL.out (zdB hn hkl)
           have h2:=HX2.out
           simp only at h1
           rw [h1] at h2
           exact h2
          have hnext:∀ p,zaH ⟨R,C,l⟩ ⟨R2,C2,l2⟩ r j k=some p→Hid (zqx ⟨R,C,l⟩ ⟨R2,C2,l2⟩ r j (k+1) p.1 p.2):=fun p hp=>Lib.hid (Or.inr ⟨k,rfl,hp⟩)
          have hIm:I64 sm:=HI.out
          clear HS HI HX2 hx' hy' hxv hyv t1 t2
          generalize x.mant=xm at *
          generalize x.exp=xe at *
          generalize y.mant=ym at *
          generalize y.exp=ye at *
          clear hxo hyo
          go_upto_region 27 with fail
          refine zz fun U hU=>?_
          have hxU:Ext wj U:=by rw [hU];exact (by simp [go_sem])
          have hwU:Ext w U:=hxw.trans hxU
          replace k0:=hxU.cell_some k0
          replace k1:=hxU.cell_some k1
          replace k2:=hxU.cell_some k2
          replace f0:=hxU.cell_some f0
          replace f1:=hxU.cell_some f1
          replace f2:=hxU.cell_some f2
          replace lka:=zg k0
          replace lkb:=zg f0
          have HU2:=Lib.hid hU
          clear hU
          refine zaB [(14,4),(0,0),(1,0),(2,0),(5,0),(6,0),(7,0),(3,1),(4,0),(8,1),(9,0),(10,1),(11,0),(12,0),(13,2),(14,3)] [15,16] [15,16] [13] (by kernel_rfl) (by kernel_rfl) (by kernel_rfl) (fun _ _ d _ _ h=>by cases d <;> exact h) (fun _ _ d _ _ h=>by cases d <;> exact h) ?_
          (refine zaD (t:=13) (.cells #[.int .i64 0,.int .i64 0] 35) zbK rfl rfl rfl (fun w1=>?_) ?_;(first | rfl | (simp [go_sem,zbK];done) | (go_simp;rfl)))
          iterate 6 (apply rdG rfl rfl;(intros;go_simp;first | done | rfl);try simp only [zq])
          (refine zag rfl ?_ (fun wf hXf hE K hK=>?_);rfl;obtain ⟨osf,df,rfl⟩:=hXf.more;go_simp;refine (hg1 _ ((HA.out.ext hwU).ext (by simp [go_sem]))).mono ?_;rintro e w' ⟨rfl,hb⟩;refine hK _ _ (fun _=>True) (by (try simp only [zb,za,Array.append_assoc]);exact hb) (fun _ _ _ _=>trivial) trivial ?_)
          try simp only [zq]
          (apply rdG rfl rfl;(intros;go_simp;first | done | rfl))
          try simp only [zq]
          (refine zag rfl ?_ (fun wf hXf hE K hK=>?_);rfl;obtain ⟨osf,df,rfl⟩:=hXf.more;go_simp;refine (hg2 _ ((HA2.out.ext hwU).ext (by simp [go_sem]))).mono ?_;rintro e w' ⟨rfl,hb⟩;refine hK _ _ (fun _=>True) (by (try simp only [zb,za,Array.append_assoc]);exact hb) (fun _ _ _ _=>trivial) trivial ?_)
          try simp only [zq]
          (apply rdG rfl rfl;(intros;go_simp;first | done | rfl))
          try simp only [zq]
          (refine zag rfl ?_ (fun wf hXf hE K hK=>?_);rfl;obtain ⟨osf,df,rfl⟩:=hXf.more;go_simp;refine (hmu _).mono ?_;rintro e w' ⟨rfl,hb⟩;refine hK _ _ (fun _=>True) (by (try simp only [zb,za,Array.append_assoc]);exact hb) (fun _ _ _ _=>trivial) trivial ?_)
          try simp only [zq]
          iterate 3 ((first | (apply rdG rfl rfl;(intros;go_simp;first | done | rfl)) | (refine zbf (v:=?_) rfl ?_ (fun w1=>?_) ?_;rotate_left 1;rfl;(go_simp;first | done | rfl)));try simp only [zq])
          refine zca fun osa da osb db hE=>?_
          try simp only [zq]
          (refine zX rfl ?_ (fun K hK=>?_);rfl;go_simp;refine hK _ _ ?_)
          try simp only [zq]
          (refine zX rfl ?_ (fun K hK=>?_);rfl;go_simp;refine hK _ _ ?_)
          try simp only [zq]
          refine zaZ ?_
          have hW2:more U osa da=more (wj.alloc (.cells #[.int .i64 sm,.int .i64 se] 35)) (os2++osa) da:=by rw [HU2.out];simp only [za,zb,zc]
          have hp2:U.heap.size+osa.size=wj.heap.size+1+(os2++osa).size:=by rw [HU2.out];simp;omega
          rw [hW2,hp2]
          clear hW2 hp2 HU2 k0 k1 k2 f0 f1 f2 lka lkb hxU hwU hg1 hg2 hmu hE
          generalize os2++osa=oss
          cases hs:mulS xm xe ym ye with
          | none =>
           rw [hs] at hdk
           simp only [rnV,rm,re,Option.getD_none,Option.isSome_none]
           obtain rfl:=hbad hdk
           clear hbad hdk hnext hs
           go_wp2_with ((go_at_call 44;with_reducible refine aR (zE 5 (by omega) _) fun D m cc os5 d5 hD=>?_;have hDr:=hD.rd);obtain rfl:=HJ.out;obtain ⟨osu,du,rfl⟩:=HU.out)
           exact bodyPost_ret (v:=AV (zf 5).R (zf 5).C (.slice D m cc)) (by simp [results,results56,go_sem]) rfl ⟨D,m,cc,rfl,⟨(by (try simp only [ze,za] at hDr);(try simp only [ze,za]);(try simp only [zc] at hDr);(try simp only [zb] at hDr);(try simp only [Array.append_assoc] at hDr);(try simp only [Array.append_assoc]);exact Rd.swap hDr (by first | (simp;done) | (simp;omega) | omega) (by first | (simp;done) | (simp;omega) | omega) (by first | (simp;done) | (simp;omega) | omega)),hD.len,hD.cap,hD.small,hD.ok⟩,by with_reducible repeat (first | exact Ext.refl _ | apply Ext.drew | apply Ext.alloc | apply Ext.more_)⟩
          | some q =>
           obtain ⟨qm,qe⟩:=q
           have hqr:=zgO hs
           rw [hs] at hdk
           simp only [Option.bind_some] at hdk
           simp only [rnV,rm,re,Option.getD_some,Option.isSome_some]
           by_cases hk0:k=0
           ·subst hk0
            rw [if_pos rfl] at hdk
            have HN2:=hnext _ hdk
            have HI2:Hid (I64 qm):=Lib.hid (zbu hqr)
            clear hbad hdk hnext hs hqr
            go_wp2_with fail
            exact ⟨⟨1,qm,qe,_,_,by omega,by go_num,zh6 _ _ _ _ _ _,HN2,HI2⟩,by simp [intOf];omega⟩
           ·have hk0':(0:Int) < (k:Int):=by omega
            rw [if_neg hk0] at hdk
            have had:=fun W=>zj0 sm se qm qe W hIm (zbu hqr)
            cases ha:addS sm se qm qe with
            | none =>
             rw [ha] at had hdk
             simp only [rnV,rm,re,Option.getD_none,Option.isSome_none] at had
             obtain rfl:=hbad hdk
             clear hbad hdk hnext hs hqr ha
             go_wp2_with (first | (go_at_call 100;with_reducible refine aM (had _) fun ost dt=>?_) | ((go_at_call 44;with_reducible refine aR (zE 5 (by omega) _) fun D m cc os5 d5 hD=>?_;have hDr:=hD.rd);obtain rfl:=HJ.out;obtain ⟨osu,du,rfl⟩:=HU.out))
             exact bodyPost_ret (v:=AV (zf 5).R (zf 5).C (.slice D m cc)) (by simp [results,results56,go_sem]) rfl ⟨D,m,cc,rfl,⟨(by (try simp only [ze,za] at hDr);(try simp only [ze,za]);(try simp only [zc] at hDr);(try simp only [zb] at hDr);(try simp only [Array.append_assoc] at hDr);(try simp only [Array.append_assoc]);exact Rd.swap hDr (by first | (simp;done) | (simp;omega) | omega) (by first | (simp;done) | (simp;omega) | omega) (by first | (simp;done) | (simp;omega) | omega)),hD.len,hD.cap,hD.small,hD.ok⟩,by with_reducible repeat (first | exact Ext.refl _ | apply Ext.drew | apply Ext.alloc | apply Ext.more_)⟩
            | some p =>
             obtain ⟨pm,pe⟩:=p
             have hpr:=zdq ha
             rw [ha] at had hdk
             simp only [rnV,rm,re,Option.getD_some,Option.isSome_some] at had
             have HN2:=hnext _ hdk
             have HI2:Hid (I64 pm):=Lib.hid (zbu hpr)
             clear hbad hdk hnext hs hqr hpr ha
             go_wp2_with (go_at_call 100;with_reducible refine aM (had _) fun ost dt=>?_)
             exact ⟨⟨k+1,pm,pe,_,_,by omega,by go_num,zh6 _ _ _ _ _ _,HN2,HI2⟩,by simp [intOf];omega⟩
         ·obtain rfl:C=k:=by omega
          have hd:zaH ⟨R,C,l⟩ ⟨R2,C2,l2⟩ r j (C - 1)=some (sm,se):=by
           rcases HS.out with ⟨h,_⟩ | ⟨k',h,hd⟩
           ·omega
           ·rw [show C - 1=k' by omega];exact hd
          have HL2:=Lib.hid (zji (a:=⟨R,C,l⟩) (b:=⟨R2,C2,l2⟩) hjC HL.out hd)
          clear HS HI hd HX2 HL k0 k1 k2 f0 f1 f2 lka lkb hxw hj1 hxj
          have hob:=zrT HOn.out
          have hrow0:=zd4 (wm.alloc (Obj.cells #[.int .i64 (R:Int),.int .i64 (C2:Int),.slice E (r * C2+j) c] 30)) (.cells #[.int .i64 sm,.int .i64 se] 35) os os2 d d2
          simp only [World.size_alloc,zf2] at hob hrow0
          obtain rfl:=HJ.out
          clear HJ
          go_upto_region 33 with fail
          refine zcj (S:=fun W=>Ext (wm.alloc (Obj.cells #[.int .i64 (R:Int),.int .i64 (C2:Int),.slice E (r * C2+j) c] 30)) W∧W.heap[wm.heap.size+1+os.size]? = some (.cells #[.int .i64 sm,.int .i64 se] 35)) [(0,0),(1,0),(2,0),(3,1),(4,1),(5,1),(6,0),(7,2)] [7] (by kernel_rfl) (by kernel_rfl) (by kernel_rfl) (fun _ _ d _ _ h=>by cases d <;> exact h) ⟨by simp [go_sem],zgP hrow0 (by simp [go_sem])⟩ ?_
          iterate 2 (refine zr (v:=?_) rfl ?_ (fun w1 h1=>?_) ?_;rotate_left 1;rfl;(obtain ⟨os1,d1,rfl⟩:=h1.1.more;go_simp;first | done | rfl);try simp only [zq])
          (refine zr (v:=?_) rfl ?_ (fun w1 h1=>?_) ?_;rotate_left 1;rfl;(have m0:=cell_of_row _ _ 0 _ _ _ h1.2;have m1:=cell_of_row _ _ 1 _ _ _ h1.2;have ln:=zg m0;clear h1;go_simp;first | done | rfl))
          try simp only [zq]
          (refine zh rfl ?_ (fun K hK=>?_);rfl;go_simp;refine aM (zeE _ _ _) fun osf df=>?_;refine hK _ _ ⟨by simp [go_sem],zgP hrow0 (by simp [go_sem])⟩ ?_)
          try simp only [zq]
          (refine zh rfl ?_ (fun K hK=>?_);rfl;go_simp;refine hK _ _ ⟨by simp [go_sem],zgP hrow0 (by simp [go_sem])⟩ ?_)
          try simp only [zq]
          (refine zh rfl ?_ (fun K hK=>?_);rfl)
          refine zbA _ _ _ _ rfl (wm.heap.size+1) 37 i0 (VV 0 0 0 ⟨#[]⟩ false 0) 6 56 Tryz.underlying28 hi0 hz0 hz1 hz2 rfl (by decide) (.slice E (r * C2+j) c) (r * C2+j) (zm L) rfl (zw HOn.out (by simp [go_sem])) _ 1 1 (Val.cells ⟨1,sm,se,⟨#[]⟩,false,0⟩) rfl rfl (z7 _ _ _ (by simp) rfl _) (zbe _) (by simp only [maxLen];omega) (by omega) (by simp;omega) ?_
          intro v4 w4 ho4 hg4
          have hx4:Ext (wm.alloc (Obj.cells #[.int .i64 (R:Int),.int .i64 (C2:Int),.slice E (r * C2+j) c] 30)) w4:=zba (n:=r * C2+j) (ty:=37) (size:=6) (xs:=zm L) (v:=.slice E (r * C2+j) c) (by simp [go_sem]) (by simpa using zw HOn.out (by simp [go_sem])) hg4
          have hp4:w4.heap[wm.heap.size+1+os.size]? = some (.cells #[.int .i64 sm,.int .i64 se] 35):=by
           rw [hg4.block _ (by simp;omega) (fun e=>by have:=hob _ e.symm;omega)]
           exact zgP hrow0 (by simp [go_sem])
          obtain ⟨os9,d9,rfl⟩:=hx4.more
          obtain ⟨G4,c4,rfl⟩:=za5 ho4
          have HO4:=Lib.hid ho4
          clear ho4 hg4 hx4
          refine hK _ _ ⟨zP _ _ _,hp4⟩ ?_
          try simp only [zq]
          (refine zr (v:=?_) rfl ?_ (fun w1 h1=>?_) ?_;rotate_left 1;rfl;(obtain ⟨os1,d1,rfl⟩:=h1.1.more;go_simp;first | done | rfl))
          try simp only [zq]
          (refine zaa rfl ?_ (fun K hK=>?_);rfl;go_simp;refine hK _ _ ?_)
          try simp only [zq]
          refine zj ?_
          go_wp2_with fail
          refine ⟨⟨j+1,G4,c4,os9,_,by omega,by go_num,rfl,?_⟩,by simp [intOf];omega⟩
          refine Lib.hid ⟨_,HL2.out,?_⟩
          rw [zar]
          refine zmm (Z:=wm) (o:=.cells #[.int .i64 (R:Int),.int .i64 (C2:Int),.slice E (r * C2+j) c] 30) (.cells #[.int .i64 (R:Int),.int .i64 (C2:Int),.slice G4 (r * C2+(j+1)) c4] 30) ?_ (by simp)
          simpa [zm,Nat.add_assoc] using HO4.out
       ·obtain rfl:j=C2:=by omega
        go_wp2_with fail
        refine ⟨⟨r+1,E,c,os,d,by omega,by go_num,?_,?_⟩,by simp [intOf];omega⟩
        ·rw [show (r+1) * j=r * j+j by rw [Nat.add_mul,Nat.one_mul]]
        ·rw [show (r+1) * j=r * j+j by rw [Nat.add_mul,Nat.one_mul]]
         exact HW
     ·obtain rfl:r=R:=by omega
      obtain ⟨L,hL,hO⟩:=HW.out
      rw [HN.out] at hL hO
      rw [HN.out]
      have hXe:(⟨r,C2,L⟩:NA)=X:=by
       have:=HX2.out
       rw [show (⟨r,C,l⟩:NA).R * (⟨R2,C2,l2⟩:NA).C=N from HN.out,hL] at this
       exact this
      have hLok:∀ x∈L,x.ok:=fun x hx=>(zfL (a:=⟨r,C,l⟩) (b:=⟨R2,C2,l2⟩) hL x hx).ok
      obtain ⟨D,cc,hv,hD⟩:=zcD (n:=N) (l:=L) (v:=.slice E N c) (w:=(wm.alloc (Obj.cells #[.int .i64 (r:Int),.int .i64 (C2:Int),.slice E N c] 30))) (X:=(wm.alloc (Obj.cells #[.int .i64 (r:Int),.int .i64 (C2:Int),.slice E N c] 30))) (by simpa using hO) (Nat.le_refl _) (by omega) hLok
      simp only [Value.slice.injEq,true_and] at hv
      obtain ⟨rfl,rfl⟩:=hv
      have hDr:=hD.rd
      clear HW hO HX2
      obtain ⟨osu,du,rfl⟩:=HU.out
      go_wp2_with fail
      subst hXe
      exact bodyPost_ret (v:=AV r C2 (.slice E N c)) (by simp [results,results56,go_sem]) rfl ⟨E,N,c,rfl,⟨(by (try simp only [ze,za] at hDr);(try simp only [ze,za]);(try simp only [zc] at hDr);(try simp only [zb] at hDr);(try simp only [Array.append_assoc] at hDr);(try simp only [Array.append_assoc]);exact Rd.swap hDr (by first | (simp;done) | (simp;omega) | omega) (by first | (simp;done) | (simp;omega) | omega) (by first | (simp;done) | (simp;omega) | omega)),hD.len,hD.cap,hD.small,hD.ok⟩,by with_reducible repeat (first | exact Ext.refl _ | apply Ext.drew | apply Ext.alloc | apply Ext.more_)⟩
theorem zoO (R C R2 C2:Nat) (l l2:List Val) (A1 A2:Option Addr) (n1 cap1 n2 cap2:Nat) (w:World) (h1:ArrIn w A1 n1 cap1 l) (h2:ArrIn w A2 n2 cap2 l2) (hxr:NA.right ⟨R,C,l⟩) (hxr2:NA.right ⟨R2,C2,l2⟩) :
  Calls prog 56 #[AV R C (.slice A1 n1 cap1),AV R2 C2 (.slice A2 n2 cap2)] w fun e w'=>zan w (zbE ⟨R,C,l⟩ ⟨R2,C2,l2⟩) e w':=by
 obtain ⟨r1,r2,r3,r4,r5⟩:=zi.1 hxr
 obtain ⟨s1,s2,s3,s4,s5⟩:=zi.1 hxr2
 simp only at r1 r2 r3 r4 r5 s1 s2 s3 s4 s5
 have hln1:=h1.len
 have hln2:=h2.len
 have hR4:R≤4096:=Nat.le_trans (Nat.le_mul_of_pos_right R r2) r3
 have hC4:C2≤4096:=Nat.le_trans (Nat.le_mul_of_pos_left C2 s1) s3
 obtain ⟨xa,b1,off1,_,_,hA1,_⟩:=h1.at (k:=0) (by have:=Nat.mul_pos r1 r2;omega)
 obtain ⟨xb,b2,off2,_,_,hA2,_⟩:=h2.at (k:=0) (by have:=Nat.mul_pos s1 s2;omega)
 subst hA1 hA2
 have hf1:=fun W (hW:ArrIn W (some ⟨b1,off1,none⟩) n1 cap1 l)=>zdf R C _ n1 cap1 l W hW _ rfl
 have hf2:=fun W (hW:ArrIn W (some ⟨b2,off2,none⟩) n2 cap2 l2)=>zdf R2 C2 _ n2 cap2 l2 W hW _ rfl
 have HA:=Lib.hid h1
 have HA2:=Lib.hid h2
 obtain ⟨X,hX⟩:∃ X,zbE ⟨R,C,l⟩ ⟨R2,C2,l2⟩=X:=⟨_,rfl⟩
 rw [hX]
 have HX:=Lib.hid hX
 clear h1 h2 hX
 by_cases h0:C=R2
 ·have h0':((C:Int) != (R2:Int))=false:=by simp;omega
  have H0:=Lib.hid h0
  clear h0
  cases q1:zaj l with
  | some f =>
   obtain rfl:zf f=X:=by rw [← HX.out];exact (zg9 (a:=⟨R,C,l⟩) (b:=⟨R2,C2,l2⟩) H0.out q1).symm
   have hbd:=zgv r5 q1
   have hz:(f == 0)=false:=by simp;omega
   have hz':(f != 0)=true:=by simp;omega
   rw [q1] at hf1
   simp only [Option.getD_some] at hf1
   have HB:=Lib.hid hbd
   clear q1 HX hf2 hbd
   go_enter func56,ntmps56
   go_wp2_with (first | (go_at_call 106;with_reducible refine aM (hf1 _ (HA.out.ext (by simp [go_sem]))) fun osf df=>?_) | (go_at_call 44;with_reducible refine aR (zE _ HB.out _) fun D m cc os5 d5 hD=>?_;have hDr:=hD.rd))
   exact rc1 (v:=AV (zf f).R (zf f).C (.slice D m cc)) rfl rfl (by simp [go_sem]) (by (try simp only [ze,za,zc,zb,Array.append_assoc] at hDr);(try simp only [ze,za,zc,zb,Array.append_assoc]);exact raS hDr hD (by simp <;> omega) (by simp [go_sem]))
  | none =>
   rw [q1] at hf1
   simp only [Option.getD_none] at hf1
   cases q2:zaj l2 with
   | some f =>
    obtain rfl:zf f=X:=by rw [← HX.out];exact (zha (a:=⟨R,C,l⟩) (b:=⟨R2,C2,l2⟩) H0.out q1 q2).symm
    have hbd:=zgv s5 q2
    have hz':(f != 0)=true:=by simp;omega
    rw [q2] at hf2
    simp only [Option.getD_some] at hf2
    have HB:=Lib.hid hbd
    clear q1 q2 HX hbd
    go_enter func56,ntmps56
    go_wp2_with (first | (have _t:=osf;clear _t;(go_at_call 106;with_reducible refine aM (hf2 _ (HA2.out.ext (by simp [go_sem]))) fun osf df=>?_)) | (go_at_call 106;with_reducible refine aM (hf1 _ (HA.out.ext (by simp [go_sem]))) fun osf df=>?_) | (go_at_call 44;with_reducible refine aR (zE _ HB.out _) fun D m cc os5 d5 hD=>?_;have hDr:=hD.rd))
    exact rc1 (v:=AV (zf f).R (zf f).C (.slice D m cc)) rfl rfl (by simp [go_sem]) (by (try simp only [ze,za,zc,zb,Array.append_assoc] at hDr);(try simp only [ze,za,zc,zb,Array.append_assoc]);exact raS hDr hD (by simp <;> omega) (by simp [go_sem]))
   | none =>
    obtain rfl:=HX.out
    exact zoN R C R2 C2 l l2 _ _ n1 cap1 n2 cap2 w HA.out HA2.out hxr hxr2 H0.out q1 q2
 ·obtain rfl:zf 2=X:=by rw [← HX.out];unfold zbE;rw [if_pos h0]
  have h0':((C:Int) != (R2:Int))=true:=by simp;omega
  clear h0
  go_enter func56,ntmps56
  go_wp2_with (go_at_call 44;with_reducible refine aR (zE 2 (by omega) _) fun D m cc os5 d5 hD=>?_;have hDr:=hD.rd)
  exact rc1 (v:=AV (zf 2).R (zf 2).C (.slice D m cc)) rfl rfl (by simp [go_sem]) (by (try simp only [ze,za,zc,zb,Array.append_assoc] at hDr);(try simp only [ze,za,zc,zb,Array.append_assoc]);exact raS hDr hD (by simp <;> omega) (by simp [go_sem]))
theorem zlx (A:Option Addr) (n cap:Nat) (xs:List Ar) (w:World) (h:ArgsIn w A n cap xs) (h1:2≤n) (h2:n≤2):Calls prog 15 #[.string ⟨#[77,77,85,76,84]⟩,.slice A n cap] w (za6 w (zcz xs)):=by
 have hsm:=h.small
 have hcap:=h.cap
 have q1:¬ n < 2:=by omega
 have q2:¬ 2 < n:=by omega
 obtain ⟨R0,C0,l0,b1,off1,n1,cap1,b,off,x0,ha,rfl,⟨v0,v1,v2⟩,_,_,_,_,_,hbl,_,_,_,harr,_⟩:=h.first (k:=0) (by omega)
 obtain ⟨R2,C2,l2,b2,off2,n2,cap2,b',off',x2,ha2,hbo,⟨u0,u1,u2⟩,_,_,_,_,_,_,_,_,_,harr2,_⟩:=h.first (k:=1) (by omega)
 obtain ⟨rfl,rfl⟩:=aI hbo
 have hxr:NA.right ⟨R0,C0,l0⟩:=(h.all _ (List.mem_of_getElem? ha)).right
 have hxr2:NA.right ⟨R2,C2,l2⟩:=(h.all _ (List.mem_of_getElem? ha2)).right
 simp only [Nat.zero_mul,Nat.add_zero,Nat.one_mul] at v0 v1 v2 u0 u1 u2
 have hX:zcz xs=zbE ⟨R0,C0,l0⟩ ⟨R2,C2,l2⟩:=by unfold zcz zF;rw [ha,ha2]
 have hst:=fun W (hW:Ext w W)=>zoO R0 C0 R2 C2 l0 l2 _ _ n1 cap1 n2 cap2 W (harr.ext hW) (harr2.ext hW) hxr hxr2
 rw [← hX] at hst
 clear hX ha ha2 hxr hxr2 harr harr2
 have q3:(1:Int) < (n:Int):=by omega
 have H:=Lib.hid h
 clear h
 generalize (zcz xs)=X at *
 go_enter func15,ntmps15
 go_wp2_with (go_at_call 43;with_reducible refine aM (zgm _) fun os1 d1=>?_)
 go_loopw [8] (fun i wr=>∃ k:Nat,k≤n∧i = .int .i64 k∧Ext (more (w.alloc (Obj.cells #[.int .i64 0,.int .i64 0,.slice none 0 0] 30)) os1 d1) wr) (fun i _=>n - (intOf i).toNat)
 case atStart=>exact ⟨0,Nat.zero_le _,rfl,Ext.refl _⟩
 case round =>
  obtain ⟨k,hk,rfl,hX⟩:=hrel
  obtain ⟨os,d,rfl⟩:=hX.more
  clear hX
  by_cases hlt:k < n
  ·obtain ⟨a,b',off',ha,hbo,⟨u0,u1,u2⟩,hok⟩:=H.out.at hlt
   obtain ⟨rfl,rfl⟩:=aI hbo
   have hra:=fun W (hW:ArrIn W a.A a.n a.cap a.x.l)=>zU a.x.R a.x.C a.A a.n a.cap a.x.l W hW
   rw [← zaA _ _ _ hok.arr.ok,show zo (a.x.R:Int) a.x.C a.x.l=true from hok.right] at hra
   have HOK:=Lib.hid hok.arr
   clear hok hst
   go_wp2_with (go_at_call 45;refine (hra _ (HOK.out.ext (by simp [go_sem]))).mono ?_;rintro e w' ⟨rfl,hb⟩;obtain ⟨os',d',rfl⟩:=hb.more;clear hb)
   exact ⟨⟨k+1,by omega,by go_num,by simp [go_sem]⟩,by simp [intOf];omega⟩
  ·go_upto_region 37 with fail
   refine plP [(0,0),(1,0),(2,0),(3,0),(4,1),(5,2),(6,2)] [5,6] (by kernel_rfl) (fun _ _ d _ _ h=>by cases d <;> exact h) ?_
   iterate 4 (apply rdP rfl rfl;(intros;go_simp;first | done | rfl);try simp only [zq])
   (refine zh rfl ?_ (fun K hK=>?_);rfl;go_simp;(go_at_call 56;(with_reducible refine (hst _ (by simp [go_sem])).mono ?_);rintro e w' ⟨D,m,cc,rfl,hD,hb⟩;have hNl:=hD.len;have hNc:=hD.cap;have hNs:=hD.small;have hNo:=hD.ok;have hDr:=hD.rd;clear hD;obtain ⟨os5,d5,rfl⟩:=hb.more;clear hb);refine hK _ _ ?_ ?_;(simp [go_sem]))
   try simp only [zq]
   (refine zaa rfl ?_ (fun K hK=>?_);rfl;go_simp;refine hK _ _ ?_)
   try simp only [Act.put]
   (refine zaa rfl ?_ (fun K hK=>?_);rfl;go_simp;refine hK _ _ ?_)
   try simp only [zq]
   refine zj ?_
   go_wp2_with fail
   exact rct rfl rfl (by simp [go_sem]) ⟨D,m,cc,rfl,ArrN.arr (base:=w.heap.size) ⟨(by (try simp only [ze,za] at hDr);(try simp only [ze,za]);(try simp only [zc] at hDr);(try simp only [zb] at hDr);(try simp only [za] at hDr);(try simp only [za]);(try simp only [Array.append_assoc] at hDr);(try simp only [Array.append_assoc]);exact hDr.sw (by simp <;> omega)),hNl,hNc,hNs,hNo⟩,by simp [go_sem]⟩
theorem zly (A:Option Addr) (n cap:Nat) (gs:List GA) (w:World) (htab:Tab w) (h:ArgsG w A n cap gs):Calls prog 9 #[.string ⟨#[77,77,85,76,84]⟩,.slice A n cap] w (zbM w (zI 2 2 gs (zcz (zae gs)))) :=
 zaO ⟨#[77,77,85,76,84]⟩ 2 2 30 (fun _ _=>#[]) (by decide) (fun _ _=>rfl) (fun args W=>by go_simp) (by decide) (by decide) A n cap gs w h _ (fun hr h1 h2 p1 p2 W hW _=>zoM A n cap _ W (htab.ext hW) ((zam h hr).ext hW) h1 h2)
theorem znk (A:Option Addr) (n cap:Nat) (gs:List GA) (w:World) (htab:Tab w) (h:ArgsG w A n cap gs):Tl prog 8 #[.string ⟨#[77,77,85,76,84]⟩,.slice A n cap] w (.bool true) :=
 zaw ⟨#[77,77,85,76,84]⟩ A n cap w (zI 2 2 gs (zcz (zae gs))) (fun W hW=>zly A n cap gs W (htab.ext hW) (h.ext hW)) (fun W hW=>zbx _ 2 2 (by decide) (by decide) (by decide) (fun W'=>zgm W') _ A n cap gs W (h.ext hW) (fun hi h1 h2=>zlx A n cap _ W hi h1 h2))
end Go.Proofs.YtkoidgbgoccgmaaGreatDoor
namespace Go.Proofs.YtkoidgbgoccgmaaGreatDoor
open Tryz
open Go.RowKit
def Lx (lt:Nat→Nat→Bool) (i j:Nat):Prop:=lt i j=true∨(lt j i=false∧i < j)
structure Swo (lt:Nat→Nat→Bool):Prop where
 asym:∀ i j,lt i j=true→lt j i=false
 trans:∀ i j k,lt j i=false→lt k j=false→lt k i=false
section
variable {lt:Nat→Nat→Bool} (h:Swo lt)
include h
theorem Lx.le {i j:Nat} (h1:Lx lt i j):lt j i=false:=by
 rcases h1 with h1 | h1
 ·exact h.asym _ _ h1
 ·exact h1.1
theorem Lx.tr {i j k:Nat} (h1:Lx lt i j) (h2:Lx lt j k):Lx lt i k:=by
 have l1:=Lx.le h h1
 have l2:=Lx.le h h2
 cases hk:lt i k with
 | true=>exact Or.inl hk
 | false =>
  refine Or.inr ⟨h.trans _ _ _ l1 l2,?_⟩
  have e1:lt i j=false:=h.trans _ _ _ l2 hk
  have e2:lt j k=false:=h.trans _ _ _ hk l1
  rcases h1 with h1 | h1
  ·rw [e1] at h1;cases h1
  ·rcases h2 with h2 | h2
   ·rw [e2] at h2;cases h2
   ·omega
theorem Lx.asymm {i j:Nat} (h1:Lx lt i j) (h2:Lx lt j i):i=j:=by
 have l1:=Lx.le h h1
 have l2:=Lx.le h h2
 rcases h1 with h1 | h1
 ·rw [l2] at h1;cases h1
 ·rcases h2 with h2 | h2
  ·rw [l1] at h2;cases h2
  ·omega
omit h in
theorem Lx.of_not {i j:Nat} (hij:j < i) (hn:lt i j=false):Lx lt j i:=by
 cases hk:lt j i with
 | true=>exact Or.inl hk
 | false=>exact Or.inr ⟨hn,hij⟩
theorem Lx.one {l l':List Nat} (h1:l.Pairwise (Lx lt)) (h2:l'.Pairwise (Lx lt)) (hp:l.Perm l'):l=l' :=
 List.Perm.eq_of_pairwise (fun a b _ _ k1 k2=>Lx.asymm h k1 k2) h1 h2 hp
end
end Go.Proofs.YtkoidgbgoccgmaaGreatDoor
namespace Go.Proofs.YtkoidgbgoccgmaaGreatDoor
open Tryz
open Go.RowKit NM
theorem zmn {a b:Val} (h1:a.kind≠0) (h2:b.kind≠0):zaR a b=zdo a b:=by
 unfold zaR za3;rw [if_pos h1,if_pos h2]
theorem zmo {a b:Val} (h:a.kind≠b.kind):zdo a b=if a.kind < b.kind then -1 else 1:=by
 unfold zdo;rw [if_pos h]
theorem zjl {a b:Val} (h1:a.kind≠0) (h2:b.kind≠0) (h:zaR a b≤0):a.kind≤b.kind:=by
 rw [zmn h1 h2] at h
 by_cases he:a.kind=b.kind
 ·omega
 ·rw [zmo he] at h
  split at h
  ·omega
  ·omega
theorem zdN {a b c:Val} (ha:a.right) (hb:b.right) (hc:c.right) (h1:a.kind≠0) (h2:b.kind≠0) (h3:c.kind≠0) (hab:zaR a b≤0) (hbc:zaR b c≤0):zaR a c≤0:=by
 have k1:=zjl h1 h2 hab
 have k2:=zjl h2 h3 hbc
 by_cases he:a.kind=c.kind
 ·exact zjz ha hb hc (by omega) (by omega) hab hbc
 ·rw [zmn h1 h3,zmo he,if_pos (by omega)];omega
def zaT (down:Bool) (x y:Val):Bool:=if x.kind=0∨y.kind=0 then decide (x.kind≠0∧y.kind=0) else decide ((if down then zaR y x else zaR x y) < 0)
theorem znl {down:Bool} {x y:Val} (h:zaT down x y=true):zaT down y x=false:=by
 unfold zaT at *
 by_cases q:x.kind=0∨y.kind=0
 ·rw [if_pos q] at h
  rw [if_pos (Or.comm.1 q)]
  have h':=of_decide_eq_true h
  exact decide_eq_false (fun k=>k.1 h'.2)
 ·rw [if_neg q] at h
  rw [if_neg (fun k=>q (Or.comm.1 k))]
  have h':=of_decide_eq_true h
  have f:=zc3 x y
  refine decide_eq_false (fun k=>?_)
  cases down
  ·simp only [Bool.false_eq_true,if_false] at h' k;omega
  ·simp only [if_true] at h' k;omega
theorem zlz {down:Bool} {x y z:Val} (hx:x.right) (hy:y.right) (hz:z.right) (h1:zaT down y x=false) (h2:zaT down z y=false):zaT down z x=false:=by
 unfold zaT at *
 by_cases z0:z.kind=0
 ·rw [if_pos (Or.inl z0)];exact decide_eq_false (fun k=>k.1 z0)
 ·by_cases y0:y.kind=0
  ·rw [if_pos (Or.inr y0)] at h2
   exact absurd (show z.kind≠0∧y.kind=0 from ⟨z0,y0⟩) (of_decide_eq_false h2)
  ·by_cases x0:x.kind=0
   ·rw [if_pos (Or.inr x0)] at h1
    exact absurd (show y.kind≠0∧x.kind=0 from ⟨y0,x0⟩) (of_decide_eq_false h1)
   ·rw [if_neg (by simp [x0,y0])] at h1
    rw [if_neg (by simp [y0,z0])] at h2
    rw [if_neg (by simp [x0,z0])]
    have e1:=of_decide_eq_false h1
    have e2:=of_decide_eq_false h2
    refine decide_eq_false (fun k=>?_)
    have f1:=zc3 x y
    have f2:=zc3 y z
    have f3:=zc3 x z
    cases down
    ·simp only [Bool.false_eq_true,if_false] at e1 e2 k
     have:=zdN hx hy hz x0 y0 z0 (by omega) (by omega)
     omega
    ·simp only [if_true] at e1 e2 k
     have:=zdN hz hy hx z0 y0 x0 (by omega) (by omega)
     omega
theorem zeI (a b:Val):zv b a = - zv a b:=by
 unfold zv
 by_cases h1:a.kind=0 <;> by_cases h2:b.kind=0 <;> simp [h1,h2,zc3 a b]
theorem zfM {a b c:Val} (ha:a.right) (hb:b.right) (hc:c.right) (h1:zv a b≤0) (h2:zv b c≤0):zv a c≤0:=by
 unfold zv at *
 by_cases a0:a.kind=0
 ·by_cases b0:b.kind=0
  ·by_cases c0:c.kind=0
   ·simp [a0,c0]
   ·simp [b0,c0] at h2
  ·simp [a0,b0] at h1
 ·by_cases c0:c.kind=0
  ·simp [a0,c0]
  ·by_cases b0:b.kind=0
   ·simp [b0,c0] at h2
   ·rw [if_neg (fun e=>a0 e.1),if_neg a0,if_neg b0] at h1
    rw [if_neg (fun e=>b0 e.1),if_neg b0,if_neg c0] at h2
    rw [if_neg (fun e=>a0 e.1),if_neg a0,if_neg c0]
    exact zdN ha hb hc a0 b0 c0 h1 h2
def zaJ:List Val→List Val→Int
 | x::l,y::l'=>if zv x y≠0 then zv x y else zaJ l l'
 | _,_=>0
theorem zcE:∀ (l l':List Val),zaJ l' l = - zaJ l l'
 | [],[]=>rfl
 | [],_::_=>rfl
 | _::_,[]=>rfl
 | x::l,y::l'=>by
  show (if zv y x≠0 then zv y x else zaJ l' l) = - (if zv x y≠0 then zv x y else zaJ l l')
  rw [zeI x y]
  by_cases h:zv x y=0
  ·rw [if_neg (by simp [h]),if_neg (by simp [h])];exact zcE l l'
  ·rw [if_pos (by omega),if_pos h]
theorem zh8:∀ {n:Nat} {a b c:List Val},a.length=n→b.length=n→c.length=n→(∀ x∈a,x.right)→(∀ x∈b,x.right)→(∀ x∈c,x.right)→zaJ a b≤0→zaJ b c≤0→zaJ a c≤0
 | 0,a,b,c,ha,hb,hc,_,_,_,_,_=>by
  rw [List.eq_nil_of_length_eq_zero ha];show (0:Int)≤0;omega
 | n+1,[],_,_,ha,_,_,_,_,_,_,_=>by cases ha
 | n+1,_::_,[],_,_,hb,_,_,_,_,_,_=>by cases hb
 | n+1,_::_,_::_,[],_,_,hc,_,_,_,_,_=>by cases hc
 | n+1,x::a,y::b,z::c,ha,hb,hc,ra,rb,rc,h1,h2=>by
  have h1':(if zv x y≠0 then zv x y else zaJ a b)≤0:=h1
  have h2':(if zv y z≠0 then zv y z else zaJ b c)≤0:=h2
  show (if zv x z≠0 then zv x z else zaJ a c)≤0
  have rx:=ra x (by simp)
  have ry:=rb y (by simp)
  have rz:=rc z (by simp)
  have p1:zv x y≤0:=by split at h1' <;> omega
  have p2:zv y z≤0:=by split at h2' <;> omega
  have p3:=zfM rx ry rz p1 p2
  split
  ·exact p3
  ·rename_i h3
   have h3:zv x z=0:=by simpa using h3
   -- then x and y, y and z are zfs
   have q1:zv z x≤0:=by rw [zeI x z];omega
   have e1:zv x y=0:=by
    have:=zfM ry rz rx p2 q1
    rw [zeI x y] at this;omega
   have e2:zv y z=0:=by
    have:=zfM rz rx ry q1 p1
    rw [zeI y z] at this;omega
   rw [if_neg (by simp [e1])] at h1'
   rw [if_neg (by simp [e2])] at h2'
   simp only [List.length_cons,Nat.add_right_cancel_iff] at ha hb hc
   exact zh8 ha hb hc (fun u hu=>ra u (List.mem_cons_of_mem _ hu)) (fun u hu=>rb u (List.mem_cons_of_mem _ hu)) (fun u hu=>rc u (List.mem_cons_of_mem _ hu)) h1' h2'
end Go.Proofs.YtkoidgbgoccgmaaGreatDoor
namespace Go.Proofs.YtkoidgbgoccgmaaGreatDoor
open Tryz
open Go.RowKit
def sw1 (D:List Nat) (i j:Nat):List Nat:=(D.set i (D.getD j 0)).set j (D.getD i 0)
theorem zfN (D:List Nat) (i j:Nat):(sw1 D i j).length=D.length:=by simp [sw1]
theorem zmp (p q r:List Nat) (x y:Nat) {i j:Nat} (hi:i=p.length) (hj:j=p.length+1+q.length):sw1 (p++x::(q++y::r)) i j=p++y::(q++x::r):=by
 subst hi hj
 have h1:(p++x::(q++y::r)).getD p.length 0=x:=by simp
 have h2:(p++x::(q++y::r)).getD (p.length+1+q.length) 0=y:=by
  have:p++x::(q++y::r)=(p++x::q)++y::r:=by simp
  rw [this]
  have hl:p.length+1+q.length=(p++x::q).length:=by simp;omega
  rw [hl];simp
 unfold sw1
 rw [h1,h2]
 rw [List.set_append_right _ _ (Nat.le_refl _),Nat.sub_self,List.set_cons_zero]
 have:p++y::(q++y::r)=(p++y::q)++y::r:=by simp
 rw [this,List.set_append_right _ _ (by simp;omega)]
 rw [show p.length+1+q.length - (p++y::q).length=0 by simp;omega,List.set_cons_zero]
 simp
def swp (D:List Nat) (a b:Nat):Nat→List Nat
 | 0=>D
 | i+1=>sw1 (swp D a b i) (a+i) (b+i)
theorem zh9 (D:List Nat) (a b:Nat):∀ n,(swp D a b n).length=D.length
 | 0=>rfl
 | n+1=>by rw [swp,zfN,zh9]
theorem zmq:∀ (n:Nat) (pre P M Q post:List Nat) {a b:Nat},P.length=n→Q.length=n→a=pre.length→b=pre.length+n+M.length →
  swp (pre++(P++(M++(Q++post)))) a b n=pre++(Q++(M++(P++post)))
 | 0,pre,P,M,Q,post,a,b,hP,hQ,ha,hb=>by
  rw [List.eq_nil_of_length_eq_zero hP,List.eq_nil_of_length_eq_zero hQ];rfl
 | n+1,pre,P,M,Q,post,a,b,hP,hQ,ha,hb=>by
  obtain ⟨P',p,rfl⟩:∃ P' p,P=P'++[p]:=⟨P.dropLast,P.getLast (by intro e;subst e;simp at hP),(List.dropLast_concat_getLast _).symm⟩
  obtain ⟨Q',q,rfl⟩:∃ Q' q,Q=Q'++[q]:=⟨Q.dropLast,Q.getLast (by intro e;subst e;simp at hQ),(List.dropLast_concat_getLast _).symm⟩
  simp only [List.length_append,List.length_singleton,Nat.add_right_cancel_iff] at hP hQ
  have h:=zmq n pre P' (p::M) Q' (q::post) (a:=a) (b:=b) hP hQ ha (by simp;omega)
  rw [swp]
  have e1:pre++(P'++[p]++(M++(Q'++[q]++post)))=pre++(P'++(p::M++(Q'++q::post))):=by simp
  rw [e1,h]
  have e2:pre++(Q'++(p::M++(P'++q::post)))=(pre++Q')++p::((M++P')++q::post):=by simp
  rw [e2,zmp (pre++Q') (M++P') post p q (by simp;omega) (by simp;omega)]
  simp
section
variable {lt:Nat→Nat→Bool} (h:Swo lt)
include h
theorem zia {X Y:List Nat} (hX:X.Pairwise (Lx lt)) (hY:Y.Pairwise (Lx lt)) (hb:∀ x,X.getLast? = some x→∀ y,Y.head? = some y→Lx lt x y):(X++Y).Pairwise (Lx lt):=by
 rw [List.pairwise_append]
 refine ⟨hX,hY,fun x hx y hy=>?_⟩
 obtain ⟨X',l,rfl⟩:∃ X' l,X=X'++[l]:=⟨X.dropLast,X.getLast (by intro e;subst e;cases hx),(List.dropLast_concat_getLast _).symm⟩
 obtain ⟨f,Y',rfl⟩:∃ f Y',Y=f::Y':=by
  cases Y with
  | nil=>cases hy
  | cons f Y'=>exact ⟨f,Y',rfl⟩
 have hlf:=hb l (by simp) f rfl
 have h1:x=l∨Lx lt x l:=by
  rcases List.mem_append.1 hx with hx | hx
  ·right;exact (List.pairwise_append.1 hX).2.2 x hx l (by simp)
  ·left;simpa using hx
 have h2:y=f∨Lx lt f y:=by
  rcases List.mem_cons.1 hy with hy | hy
  ·left;exact hy
  ·right;exact (List.pairwise_cons.1 hY).1 y hy
 have h3:Lx lt x f:=by
  rcases h1 with rfl | h1
  ·exact hlf
  ·exact Lx.tr h h1 hlf
 rcases h2 with rfl | h2
 ·exact h3
 ·exact Lx.tr h h3 h2
theorem zeJ {X Y:List Nat} {x:Nat} (hXY:(X++Y).Pairwise (Lx lt)) (h1:∀ l,X.getLast? = some l→Lx lt l x) (h2:∀ f,Y.head? = some f→Lx lt x f):(X++x::Y).Pairwise (Lx lt):=by
 obtain ⟨hX,hY,hc⟩:=List.pairwise_append.1 hXY
 have hxY:(x::Y).Pairwise (Lx lt):=by
  have:=zia h (X:=[x]) (Y:=Y) (List.pairwise_singleton _ _) hY (fun a ha y hy=>by
   obtain rfl:x=a:=by simpa using ha
   exact h2 y hy)
  simpa using this
 exact zia h hX hxY fun l hl y hy=>by
  obtain rfl:x=y:=by simpa using hy
  exact h1 l hl
theorem zlA {X1 X2 Y1 Y2:List Nat} (hX:(X1++X2).Pairwise (Lx lt)) (hY:(Y1++Y2).Pairwise (Lx lt))
  (b1:∀ x,X1.getLast? = some x→∀ y,Y2.head? = some y→Lx lt x y) (b2:∀ y,Y1.getLast? = some y→∀ x,X2.head? = some x→Lx lt y x) :
  ∀ u∈X1++Y1,∀ v∈X2++Y2,Lx lt u v:=by
 obtain ⟨x1,x2,xc⟩:=List.pairwise_append.1 hX
 obtain ⟨y1,y2,yc⟩:=List.pairwise_append.1 hY
 have p:=(List.pairwise_append.1 (zia h x1 y2 b1)).2.2
 have q:=(List.pairwise_append.1 (zia h y1 x2 b2)).2.2
 intro u hu v hv
 rcases List.mem_append.1 hu with hu | hu <;> rcases List.mem_append.1 hv with hv | hv
 ·exact xc u hu v hv
 ·exact p u hu v hv
 ·exact q u hu v hv
 ·exact yc u hu v hv
end
def seg (D:List Nat) (a b:Nat):List Nat:=(D.take b).drop a
theorem zbb {D:List Nat} {a b:Nat} (hb:b≤D.length):(seg D a b).length=b - a:=by simp [seg];omega
theorem zeK {D:List Nat} {a b:Nat} (hab:a≤b):D=D.take a++(seg D a b++D.drop b):=by
 unfold seg
 have h1:D.take a=(D.take b).take a:=by rw [List.take_take,Nat.min_eq_left hab]
 rw [h1,← List.append_assoc,List.take_append_drop,List.take_append_drop]
theorem zgw {pre Z post:List Nat} {a b:Nat} (ha:a=pre.length) (hb:b=pre.length+Z.length):seg (pre++(Z++post)) a b=Z:=by
 subst ha hb
 unfold seg
 rw [← List.append_assoc,List.take_append_of_le_length (by simp),show pre.length+Z.length=(pre++Z).length by simp,List.take_length,List.drop_left]
theorem zav {D:List Nat} {a m b:Nat} (h1:a≤m) (h2:m≤b):seg D a b=seg D a m++seg D m b:=by
 unfold seg
 have e1:D.take m=(D.take b).take m:=by rw [List.take_take,Nat.min_eq_left h2]
 rw [e1]
 generalize D.take b=E
 have:E.drop a=((E.take m).drop a)++E.drop m:=by
  conv=>lhs;rw [← List.take_append_drop m E]
  rw [List.drop_append]
  by_cases hm:m≤E.length
  ·rw [show a - (E.take m).length=0 by simp;omega];rfl
  ·rw [List.drop_eq_nil_of_le (show E.length≤m by omega)];simp
 exact this
def Srt (lt:Nat→Nat→Bool) (D:List Nat) (a b:Nat):Prop:=(seg D a b).Perm (List.range' a (b - a))∧(seg D a b).Pairwise (Lx lt)
def ziH (lt:Nat→Nat→Bool) (i:Nat):List Nat→List Nat
 | []=>[i]
 | x::l=>if lt i x then i::x::l else x::ziH lt i l
def zY (lt:Nat→Nat→Bool):Nat→List Nat
 | 0=>[]
 | n+1=>ziH lt n (zY lt n)
theorem zeL (lt:Nat→Nat→Bool) (i:Nat):∀ l,(ziH lt i l).Perm (i::l)
 | []=>List.Perm.refl _
 | x::l=>by
  unfold ziH
  split
  ·exact List.Perm.refl _
  ·exact (List.Perm.cons x (zeL lt i l)).trans (List.Perm.swap i x l)
section
variable {lt:Nat→Nat→Bool} (h:Swo lt)
include h
theorem zhb {i:Nat} : ∀ {l:List Nat},(∀ x∈l,x < i)→l.Pairwise (Lx lt)→(ziH lt i l).Pairwise (Lx lt)
 | [],_,_=>List.pairwise_singleton _ _
 | x::l,hl,hs=>by
  obtain ⟨h1,h2⟩:=List.pairwise_cons.1 hs
  unfold ziH
  split
  ·rename_i hi
   refine List.pairwise_cons.2 ⟨fun y hy=>?_,hs⟩
   rcases List.mem_cons.1 hy with rfl | hy
   ·exact Or.inl hi
   ·exact Lx.tr h (Or.inl hi) (h1 y hy)
  ·rename_i hi
   have hi:lt i x=false:=by simpa using hi
   refine List.pairwise_cons.2 ⟨fun y hy=>?_,zhb (fun y hy=>hl y (List.mem_cons_of_mem _ hy)) h2⟩
   rcases List.mem_cons.1 ((zeL lt i l).mem_iff.1 hy) with rfl | hy
   ·exact Lx.of_not (hl x (by simp)) hi
   ·exact h1 y hy
theorem zcg:∀ n,(zY lt n).Perm (List.range n)∧(zY lt n).Pairwise (Lx lt)
 | 0=>⟨List.Perm.refl _,List.Pairwise.nil⟩
 | n+1=>by
  obtain ⟨p,s⟩:=zcg n
  refine ⟨?_,zhb h (fun x hx=>by have:=p.mem_iff.1 hx;simpa using this) s⟩
  rw [List.range_succ]
  exact (zeL lt n _).trans ((List.Perm.cons n p).trans (List.perm_append_singleton n _).symm)
theorem zjm {n:Nat} {l:List Nat} (hp:l.Perm (List.range n)) (hs:l.Pairwise (Lx lt)):l=zY lt n :=
 Lx.one h hs (zcg h n).2 (hp.trans (zcg h n).1.symm)
end
theorem zbv (lt:Nat→Nat→Bool):∀ n,(zY lt n).length=n
 | 0=>rfl
 | n+1=>by
  have:=(zeL lt n (zY lt n)).length_eq
  rw [List.length_cons,zbv lt n] at this
  exact this
def zdk (lt:Nat→Nat→Bool) (i:Nat):Bool:=(List.range i).all fun j=>lt j i || lt i j
def zbF (lt:Nat→Nat→Bool) (n:Nat):List Nat:=(List.range n).filter (zdk lt)
def zb4 (ne:Nat→Nat→Bool) (l:List Nat):Nat→List Nat
 | 0=>l.take 1
 | k+1=>zb4 ne l k++if ne (l.getD k 0) (l.getD (k+1) 0) then [l.getD (k+1) 0] else []
theorem zhs (ne:Nat→Nat→Bool) {l:List Nat} : ∀ {k:Nat},k < l.length→(zb4 ne l k).Sublist (l.take (k+1))
 | 0,_=>List.Sublist.refl _
 | k+1,hk=>by
  rw [zb4,List.take_add_one (l:=l) (i:=k+1)]
  refine List.Sublist.append (zhs ne (by omega)) ?_
  have e:l[k+1]? = some (l.getD (k+1) 0):=by simp [List.getD,hk]
  rw [e]
  split
  ·exact List.Sublist.refl _
  ·exact List.nil_sublist _
theorem zlB (ne:Nat→Nat→Bool) {l:List Nat} {k:Nat} (hk:k < l.length):1≤(zb4 ne l k).length∧(zb4 ne l k).length≤k+1:=by
 constructor
 ·induction k with
  | zero=>rw [zb4,List.length_take];omega
  | succ k ih=>have:=ih (by omega);rw [zb4,List.length_append];omega
 ·have:=(zhs ne hk).length_le
  rw [List.length_take] at this;omega
theorem zkR (ne:Nat→Nat→Bool) {l:List Nat} {x:Nat} : ∀ {k:Nat},k < l.length→(x∈zb4 ne l k↔∃ i,i≤k∧l[i]? = some x∧(i=0∨∃ p,l[i - 1]? = some p∧ne p x=true))
 | 0,hk=>by
  rw [zb4]
  constructor
  ·intro h
   refine ⟨0,Nat.le_refl _,?_,Or.inl rfl⟩
   obtain ⟨i,hi⟩:=List.mem_iff_getElem?.1 h
   rw [List.getElem?_take] at hi
   split at hi
   ·rw [show i=0 by omega] at hi;exact hi
   ·cases hi
  ·rintro ⟨i,hi,hx,_⟩
   obtain rfl:i=0:=by omega
   refine List.mem_of_getElem? (i:=0) ?_
   rw [List.getElem?_take,if_pos (by omega)];exact hx
 | k+1,hk=>by
  have e0:l[k]? = some (l.getD k 0):=by simp [List.getD,show k < l.length by omega]
  have e1:l[k+1]? = some (l.getD (k+1) 0):=by simp [List.getD,hk]
  rw [zb4,List.mem_append,zkR ne (show k < l.length by omega)]
  constructor
  ·rintro (⟨i,hi,hx,hp⟩ | h)
   ·exact ⟨i,by omega,hx,hp⟩
   ·split at h
    ·rename_i hne
     obtain rfl:=List.mem_singleton.1 h
     exact ⟨k+1,Nat.le_refl _,e1,Or.inr ⟨_,e0,hne⟩⟩
    ·cases h
  ·rintro ⟨i,hi,hx,hp⟩
   by_cases hik:i=k+1
   ·subst hik
    right
    rw [e1] at hx
    have hx':l.getD (k+1) 0=x:=Option.some.inj hx
    rcases hp with hp | ⟨p,hp,hne⟩
    ·omega
    ·rw [show k+1 - 1=k by omega,e0] at hp
     have hp':l.getD k 0=p:=Option.some.inj hp
     rw [hx',hp',if_pos hne];exact List.mem_singleton.2 rfl
   ·exact Or.inl ⟨i,by omega,hx,hp⟩
theorem zhc (lt:Nat→Nat→Bool) (n:Nat):(zbF lt n).Pairwise (· < ·):=List.Pairwise.filter _ List.pairwise_lt_range
theorem zht {lt:Nat→Nat→Bool} {n x:Nat} : x∈zbF lt n↔x < n∧∀ j,j < x→lt j x=true∨lt x j=true:=by
 unfold zbF zdk
 rw [List.mem_filter,List.mem_range,List.all_eq_true]
 simp only [List.mem_range,Bool.or_eq_true]
section
variable {lt:Nat→Nat→Bool} (h:Swo lt)
include h
theorem zoP {ne:Nat→Nat→Bool} (hne:∀ i j,ne i j=(lt i j || lt j i)) {n:Nat} (hn:0 < n) (x:Nat):x∈zb4 ne (zY lt n) (n - 1)↔x∈zbF lt n:=by
 obtain ⟨hp,hs⟩:=zcg h n
 have hl:(zY lt n).length=n:=zbv lt n
 generalize zY lt n=l at *
 rw [zkR ne (by omega),zht]
 have hord:∀ {i j a b:Nat},i < j→l[i]? = some a→l[j]? = some b→Lx lt a b:=by
  intro i j a b hij ha hb
  obtain ⟨h1,rfl⟩:=List.getElem?_eq_some_iff.1 ha
  obtain ⟨h2,rfl⟩:=List.getElem?_eq_some_iff.1 hb
  exact List.pairwise_iff_getElem.1 hs i j h1 h2 hij
 constructor
 ·rintro ⟨i,hi,hx,hd⟩
  have hxl:=List.mem_of_getElem? hx
  have hxn:x < n:=by have:=hp.mem_iff.1 hxl;simpa using this
  refine ⟨hxn,fun j hj=>?_⟩
  have hjl:j∈l:=hp.mem_iff.2 (by simp;omega)
  obtain ⟨k,hk⟩:=List.mem_iff_getElem?.1 hjl
  rcases Nat.lt_trichotomy k i with hki | hki | hki
  ·rcases hd with hd | ⟨p,hpp,hd⟩
   ·omega
   ·rw [hne] at hd
    have hpx:Lx lt p x:=hord (show i - 1 < i by omega) hpp hx
    have l1:lt x p=false:=Lx.le h hpx
    rw [l1,Bool.or_false] at hd
    have hjp:lt p j=false:=by
     by_cases hk1:k=i - 1
     ·rw [hk1,hpp] at hk
      have hjq:p=j:=Option.some.inj hk
      subst hjq
      cases hc:lt p p with
      | false=>rfl
      | true=>have:=h.asym _ _ hc;rw [hc] at this;cases this
     ·exact Lx.le h (hord (show k < i - 1 by omega) hk hpp)
    left
    cases hc:lt j x with
    | true=>rfl
    | false =>
     -- x not above j, j not above p: p stands ahead of x
     exfalso
     have:=h.trans _ _ _ hc hjp
     rw [hd] at this;cases this
  ·rw [hki,hx] at hk
   have:=Option.some.inj hk;omega
  ·right
   rcases hord hki hx hk with h1 | h1
   ·exact h1
   ·omega
 ·rintro ⟨hxn,hall⟩
  have hxl:x∈l:=hp.mem_iff.2 (by simpa using hxn)
  obtain ⟨i,hi⟩:=List.mem_iff_getElem?.1 hxl
  have hil:=(List.getElem?_eq_some_iff.1 hi).1
  refine ⟨i,by omega,hi,?_⟩
  by_cases h0:i=0
  ·exact Or.inl h0
  ·right
   obtain ⟨p,hpp⟩:∃ p,l[i - 1]? = some p:=⟨_,List.getElem?_eq_getElem (by omega)⟩
   refine ⟨p,hpp,?_⟩
   rw [hne]
   rcases hord (show i - 1 < i by omega) hpp hi with h1 | ⟨h1,h2⟩
   ·rw [h1];rfl
   ·rcases hall p h2 with h3 | h3
    ·rw [h3];rfl
    ·rw [h1] at h3;cases h3
theorem zqe {ne:Nat→Nat→Bool} (hne:∀ i j,ne i j=(lt i j || lt j i)) {n:Nat} (hn:0 < n) {S:List Nat} (hS:S.Pairwise (· ≤ ·)) (hp:S.Perm (zb4 ne (zY lt n) (n - 1))):S=zbF lt n:=by
 have hnd:(zY lt n).Nodup:=(zcg h n).1.nodup_iff.2 List.nodup_range
 have h1:(zb4 ne (zY lt n) (n - 1)).Nodup:=by
  refine List.Nodup.sublist (zhs ne (by rw [zbv];omega)) ?_
  exact List.Nodup.sublist (List.take_sublist _ _) hnd
 have h2:(zbF lt n).Nodup:=(zhc lt n).imp (fun h=>Nat.ne_of_lt h)
 have h3:(zb4 ne (zY lt n) (n - 1)).Perm (zbF lt n):=(List.perm_ext_iff_of_nodup h1 h2).2 (zoP h hne hn)
 exact List.Perm.eq_of_pairwise (fun a b _ _ k1 k2=>Nat.le_antisymm k1 k2) hS ((zhc lt n).imp (fun h=>Nat.le_of_lt h)) (hp.trans h3)
end
end Go.Proofs.YtkoidgbgoccgmaaGreatDoor
namespace Go.Proofs.YtkoidgbgoccgmaaGreatDoor
open Tryz
open Go.RowKit NM
def ltS (a:NA) (c:Nat) (down:Bool) (i j:Nat):Bool:=zaT down (zk a.l (i * a.C+c)) (zk a.l (j * a.C+c))
def zG (a:NA) (i:Nat):List Val:=(List.range a.C).map fun k=>zk a.l (i * a.C+k)
def ltU (a:NA) (i j:Nat):Bool:=decide (zaJ (zG a i) (zG a j) < 0)
theorem zdY {l:List Val} (h:∀ x∈l,x.right) (k:Nat):(zk l k).right:=by
 rcases Nat.lt_or_ge k l.length with hk | hk
 ·exact h _ (zee hk)
 ·unfold zk;rw [List.getElem?_eq_none hk];rfl
theorem zfj {a:NA} (ha:∀ x∈a.l,x.right) (c:Nat) (down:Bool):Swo (ltS a c down) :=
 ⟨fun _ _ h=>znl h,fun _ _ _ h1 h2=>zlz (zdY ha _) (zdY ha _) (zdY ha _) h1 h2⟩
theorem zb5 (a:NA) (i:Nat):(zG a i).length=a.C:=by simp [zG]
theorem zfO {a:NA} (ha:∀ x∈a.l,x.right) (i:Nat):∀ x∈zG a i,x.right:=by
 intro x hx
 obtain ⟨k,_,rfl⟩:=List.mem_map.1 hx
 exact zdY ha _
theorem zfP (a:NA) (i:Nat) {k:Nat} (hk:k < a.C):zk (zG a i) k=zk a.l (i * a.C+k):=by
 unfold zk zG
 rw [List.getElem?_map,List.getElem?_range hk]
 rfl
theorem zrj {a:NA} (ha:∀ x∈a.l,x.right):Swo (ltU a):=by
 refine ⟨fun i j h=>?_,fun i j k h1 h2=>?_⟩
 ·unfold ltU at *
  have h':=of_decide_eq_true h
  have:=zcE (zG a i) (zG a j)
  exact decide_eq_false (by omega)
 ·unfold ltU at *
  have e1:=of_decide_eq_false h1
  have e2:=of_decide_eq_false h2
  have f1:=zcE (zG a i) (zG a j)
  have f2:=zcE (zG a j) (zG a k)
  have f3:=zcE (zG a i) (zG a k)
  have:=zh8 (zb5 a i) (zb5 a j) (zb5 a k) (zfO ha i) (zfO ha j) (zfO ha k) (by omega) (by omega)
  exact decide_eq_false (by omega)
theorem znm {v w:Val} {way:Int} (hw:way=1∨way = -1):decide ((if v.kind=0∨w.kind=0 then zv v w else zv v w * way) < 0)=zaT (decide (way = -1)) v w:=by
 unfold zaT zv
 by_cases q:v.kind=0∨w.kind=0
 ·rw [if_pos q,if_pos q]
  by_cases v0:v.kind=0
  ·by_cases w0:w.kind=0
   ·rw [if_pos ⟨v0,w0⟩];simp [v0]
   ·rw [if_neg (by simp [w0]),if_pos v0];simp [v0]
  ·have w0:=q.resolve_left v0
   rw [if_neg (by simp [v0]),if_neg v0,if_pos w0];simp [v0,w0]
 ·have v0:v.kind≠0:=fun e=>q (Or.inl e)
  have w0:w.kind≠0:=fun e=>q (Or.inr e)
  rw [if_neg q,if_neg q,if_neg (by simp [v0]),if_neg v0,if_neg w0]
  have f:=zc3 v w
  rcases hw with rfl | rfl
  ·simp
  ·simp only [decide_true,if_true]
   rw [decide_eq_decide];omega
theorem zmr:∀ {k:Nat} {l l':List Val},l.length=l'.length→k < l.length→(∀ t,t < k→zv (zk l t) (zk l' t)=0)→zv (zk l k) (zk l' k)≠0→zaJ l l'=zv (zk l k) (zk l' k)
 | _,[],_,_,hk,_,_=>by simp at hk
 | _,_::_,[],hl,_,_,_=>by simp at hl
 | 0,x::l,y::l',_,_,_,h=>by
  show (if zv x y≠0 then zv x y else zaJ l l')=zv x y
  rw [if_pos (show zv x y≠0 from h)]
 | k+1,x::l,y::l',hl,hk,ha,h=>by
  show (if zv x y≠0 then zv x y else zaJ l l')=_
  have h0:zv x y=0:=ha 0 (by omega)
  rw [if_neg (by simp [h0])]
  exact zmr (k:=k) (by simpa using hl) (by simpa using hk) (fun t ht=>ha (t+1) (by omega)) h
theorem zjn:∀ {l l':List Val},(∀ t,t < l.length→zv (zk l t) (zk l' t)=0)→zaJ l l'=0
 | [],_,_=>by unfold zaJ;rfl
 | _::_,[],_=>by unfold zaJ;rfl
 | x::l,y::l',h=>by
  show (if zv x y≠0 then zv x y else zaJ l l')=0
  have h0:zv x y=0:=h 0 (by simp)
  rw [if_neg (by simp [h0])]
  exact zjn fun t ht=>h (t+1) (by simpa using ht)
theorem zkS {lt:Nat→Nat→Bool} (h:Swo lt) {i k:Nat} (hk:k≤i) (hd:k=i∨∃ f,(zY lt i)[k]? = some f∧lt i f=true) (hu:k=0∨∃ l,(zY lt i)[k - 1]? = some l∧lt i l=false) :
  (zY lt i).take k++i::(zY lt i).drop k=zY lt (i+1):=by
 obtain ⟨hp,hs⟩:=zcg h i
 have hl:=zbv lt i
 refine zjm h ?_ (zeJ h ?_ (fun l hl'=>?_) fun f hf=>?_)
 ·have e:(List.range (i+1))=List.range i++[i]:=List.range_succ
  rw [e]
  refine (List.perm_middle.trans ?_).trans (List.perm_append_singleton i (List.range i)).symm
  rw [List.take_append_drop]
  exact hp.cons _
 ·rw [List.take_append_drop];exact hs
 ·rcases hu with rfl | ⟨l',h1,h2⟩
  ·simp at hl'
  ·have hk0:k≠0:=by rintro rfl;simp at hl'
   have:l=l':=by
    rw [List.getLast?_eq_getElem?,List.length_take,hl,Nat.min_eq_left hk,List.getElem?_take,if_pos (by omega),h1] at hl'
    exact (Option.some.inj hl').symm
   subst this
   have hm:l∈List.range i:=hp.mem_iff.1 (List.mem_of_getElem? h1)
   exact Or.inr ⟨h2,List.mem_range.1 hm⟩
 ·rw [List.head?_drop] at hf
  rcases hd with rfl | ⟨f',h1,h2⟩
  ·rw [List.getElem?_eq_none (by omega)] at hf;cases hf
  ·rw [h1] at hf
   obtain rfl:=Option.some.inj hf
   exact Or.inl h2
theorem zfQ {lt:Nat→Nat→Bool} (h:Swo lt) {n:Nat} : ∀ r∈zY lt n,r < n:=fun r hr=>List.mem_range.1 ((zcg h n).1.mem_iff.1 hr)
def zdl (a:NA) (b w:Int×Int):NA:=if b.2≠0 then zf b.2 else if w.2≠0 then zf w.2 else if b.1 < 1∨(a.C:Int) < b.1∨(w.1≠1∧w.1 ≠ -1) then zf 2 else zL a (zY (ltS a (b.1.toNat - 1) (decide (w.1 = -1))) a.R)
def zeM (xs:List Ar):NA:=zdl (zF xs 0) (zu xs 1 1) (zu xs 2 1)
def zd5 (a:NA):NA:=zL a (zbF (ltU a) a.R)
def zdv (xs:List Ar):NA:=zd5 (zF xs 0)
theorem zms {lt:Nat→Nat→Bool} {n:Nat} : ∀ r∈zbF lt n,r < n:=fun _ hr=>(zht.1 hr).1
theorem zkT {lt:Nat→Nat→Bool} {n:Nat} (hn:0 < n):1≤(zbF lt n).length:=List.length_pos_of_mem (zht.2 ⟨hn,fun j hj=>absurd hj (by omega)⟩:0∈zbF lt n)
theorem zrk (lt:Nat→Nat→Bool) (n:Nat):(zbF lt n).length≤n:=by
 have:=List.length_filter_le (zdk lt) (List.range n)
 rwa [List.length_range] at this
theorem znn (lt:Nat→Nat→Bool) (n:Nat):zbF lt (n+1)=zbF lt n++(if zdk lt n then [n] else []):=by
 unfold zbF
 rw [List.range_succ,List.filter_append]
 cases h:zdk lt n <;> simp [h]
theorem zib {lt:Nat→Nat→Bool} {i:Nat} : zdk lt i=false↔∃ j,j < i∧lt j i=false∧lt i j=false:=by
 unfold zdk
 rw [← Bool.not_eq_true,List.all_eq_true]
 constructor
 ·intro h
  apply Classical.byContradiction
  intro hn
  refine h fun j hj=>?_
  cases h1:lt j i
  ·cases h2:lt i j
   ·exact absurd ⟨j,List.mem_range.1 hj,h1,h2⟩ hn
   ·rfl
  ·rfl
 ·rintro ⟨j,hj,h1,h2⟩ h
  have:=h j (List.mem_range.2 hj)
  rw [h1,h2] at this
  cases this
theorem zqy (a:NA) (i j:Nat):(zaJ (zG a i) (zG a j)=0)↔(ltU a j i=false∧ltU a i j=false):=by
 unfold ltU
 rw [decide_eq_false_iff_not,decide_eq_false_iff_not,zcE (zG a i) (zG a j)]
 omega
theorem zkU:I64 0:=by unfold I64;omega
theorem zD (l m:Bool) (w:World) :
  Tl prog 185 #[.bool l,.bool m] w (.int .i64 (zbl l m)):=by
 cases l <;> cases m
 all_goals
  simp only [zbl,if_true,Bool.false_eq_true,if_false]
  go_enter func185,ntmps185
  go_wp2_with fail
  go_ret
  exact ⟨rfl,by simp [go_sem]⟩
theorem zrU   (w:World) :
  Tl prog 186 #[VV 0 0 0 ⟨#[]⟩ false 0,VV 0 0 0 ⟨#[]⟩ false 0] w (.int .i64 (0)):=by
 have hs:=fun W=>zD false false W
 rw [show zbl false false=0 from rfl] at hs
 go_enter func186,ntmps186
 go_wp2_with ((go_at_call 185;with_reducible refine aM (hs _) fun os d=>?_))
 go_ret
 exact ⟨rfl,by simp [go_sem]⟩
theorem zrV  (bm be:Int) (hbm:I64 bm) (w:World) :
  Tl prog 186 #[VV 0 0 0 ⟨#[]⟩ false 0,VV 1 bm be ⟨#[]⟩ false 0] w (.int .i64 (zbN 0 0 bm be)):=by
 have hc:=fun W=>zhk 0 0 bm be W zkU hbm
 generalize zbN 0 0 bm be=z at *
 go_enter func186,ntmps186
 go_wp2_with ((go_at_call 201;with_reducible refine aM (hc _) fun os d=>?_))
 go_ret
 exact ⟨rfl,by simp [go_sem]⟩
theorem zrW  (bt:ByteArray) (hbt:bt.size≤255) (w:World) :
  Tl prog 186 #[VV 0 0 0 ⟨#[]⟩ false 0,VV 2 0 0 bt false 0] w (.int .i64 (zeV (⟨#[]⟩) (bt))):=by
 have h1:=fun W=>zcw (⟨#[]⟩:ByteArray) W (Nat.zero_le _)
 have h2:=fun W=>zcw bt W (by omega)
 unfold zeV
 generalize zac (⟨#[]⟩:ByteArray)=X at *
 generalize zac bt=Y at *
 have hs:=fun W=>zD (Op.bytesLess X.toList Y.toList) (!Op.bytesLess X.toList Y.toList && !X.toList == Y.toList) W
 have he:zbl (Op.bytesLess X.toList Y.toList) (!Op.bytesLess X.toList Y.toList && !X.toList == Y.toList)=Lib.compareBytes (tl X) (tl Y):=by rw [ByteArray.toList_eq,ByteArray.toList_eq,← Bool.not_or];exact zit _ _
 rw [he] at hs
 clear he
 generalize Lib.compareBytes (tl X) (tl Y)=z at *
 go_enter func186,ntmps186
 go_upto_region 10 with fail
 refine plP [(0,0),(1,0),(3,0),(4,0),(2,1),(5,1),(6,0),(7,0)] [] (by kernel_rfl) (fun _ _ d _ _ h=>by cases d <;> exact h) ?_
 iterate 4 (apply rdP rfl rfl;(intros;go_simp;first | done | rfl);try simp only [zq])
 (refine zh rfl ?_ (fun K hK=>?_);rfl;go_simp;refine aM (h1 _) fun os1 d1=>?_;refine hK _ _ ?_ ?_;(simp [go_sem]))
 try simp only [zq]
 (refine zh rfl ?_ (fun K hK=>?_);rfl;go_simp;refine aM (h2 _) fun os2 d2=>?_;refine hK _ _ ?_ ?_;(simp [go_sem]))
 try simp only [zq]
 iterate 2 (apply rdP rfl rfl;(intros;go_simp;first | done | rfl);try simp only [zq])
 refine zj ?_
 go_wp2_with (go_at_call 185;refine aM (hs _) fun os d=>?_)
 go_ret
 exact ⟨rfl,by simp [go_sem]⟩
theorem zrX  (bb:Bool) (w:World) :
  Tl prog 186 #[VV 0 0 0 ⟨#[]⟩ false 0,VV 3 0 0 ⟨#[]⟩ bb 0] w (.int .i64 (sgB false bb)):=by
 have hs:=fun W=>zD (!false && bb) (false && !bb) W
 rw [zf9] at hs
 cases bb
 all_goals
  go_enter func186,ntmps186
  go_wp2_with ((go_at_call 185;refine aM (hs _) fun os d=>?_))
  go_ret
  exact ⟨rfl,by simp [go_sem]⟩
theorem zrY  (bf:Int) (w:World) :
  Tl prog 186 #[VV 0 0 0 ⟨#[]⟩ false 0,VV 4 0 0 ⟨#[]⟩ false bf] w (.int .i64 (-1)):=by
 have hs:=fun l W=>zD l true W
 simp only [zbl] at hs
 go_enter func186,ntmps186
 go_wp2_with ((go_at_call 185;with_reducible refine aM (hs _ _) fun os d=>?_))
 go_ret
 exact ⟨rfl,by simp [go_sem]⟩
theorem zrZ (am ae:Int) (ham:I64 am)  (w:World) :
  Tl prog 186 #[VV 1 am ae ⟨#[]⟩ false 0,VV 0 0 0 ⟨#[]⟩ false 0] w (.int .i64 (zbN am ae 0 0)):=by
 have hc:=fun W=>zhk am ae 0 0 W ham zkU
 generalize zbN am ae 0 0=z at *
 go_enter func186,ntmps186
 go_wp2_with ((go_at_call 201;with_reducible refine aM (hc _) fun os d=>?_))
 go_ret
 exact ⟨rfl,by simp [go_sem]⟩
theorem zr0 (am ae:Int) (ham:I64 am) (bm be:Int) (hbm:I64 bm) (w:World) :
  Tl prog 186 #[VV 1 am ae ⟨#[]⟩ false 0,VV 1 bm be ⟨#[]⟩ false 0] w (.int .i64 (zbN am ae bm be)):=by
 have hc:=fun W=>zhk am ae bm be W ham hbm
 generalize zbN am ae bm be=z at *
 go_enter func186,ntmps186
 go_wp2_with ((go_at_call 201;with_reducible refine aM (hc _) fun os d=>?_))
 go_ret
 exact ⟨rfl,by simp [go_sem]⟩
theorem zr1 (am ae:Int) (ham:I64 am) (bt:ByteArray) (hbt:bt.size≤255) (w:World) :
  Tl prog 186 #[VV 1 am ae ⟨#[]⟩ false 0,VV 2 0 0 bt false 0] w (.int .i64 (-1)):=by
 have hs:=fun l W=>zD l true W
 simp only [zbl] at hs
 go_enter func186,ntmps186
 go_wp2_with ((go_at_call 185;with_reducible refine aM (hs _ _) fun os d=>?_))
 go_ret
 exact ⟨rfl,by simp [go_sem]⟩
theorem zr2 (am ae:Int) (ham:I64 am) (bb:Bool) (w:World) :
  Tl prog 186 #[VV 1 am ae ⟨#[]⟩ false 0,VV 3 0 0 ⟨#[]⟩ bb 0] w (.int .i64 (-1)):=by
 have hs:=fun l W=>zD l true W
 simp only [zbl] at hs
 go_enter func186,ntmps186
 go_wp2_with ((go_at_call 185;with_reducible refine aM (hs _ _) fun os d=>?_))
 go_ret
 exact ⟨rfl,by simp [go_sem]⟩
theorem zr3 (am ae:Int) (ham:I64 am) (bf:Int) (w:World) :
  Tl prog 186 #[VV 1 am ae ⟨#[]⟩ false 0,VV 4 0 0 ⟨#[]⟩ false bf] w (.int .i64 (-1)):=by
 have hs:=fun l W=>zD l true W
 simp only [zbl] at hs
 go_enter func186,ntmps186
 go_wp2_with ((go_at_call 185;with_reducible refine aM (hs _ _) fun os d=>?_))
 go_ret
 exact ⟨rfl,by simp [go_sem]⟩
theorem zr4 (at_:ByteArray) (hat:at_.size≤255)  (w:World) :
  Tl prog 186 #[VV 2 0 0 at_ false 0,VV 0 0 0 ⟨#[]⟩ false 0] w (.int .i64 (zeV (at_) (⟨#[]⟩))):=by
 have h1:=fun W=>zcw at_ W (by omega)
 have h2:=fun W=>zcw (⟨#[]⟩:ByteArray) W (Nat.zero_le _)
 unfold zeV
 generalize zac at_=X at *
 generalize zac (⟨#[]⟩:ByteArray)=Y at *
 have hs:=fun W=>zD (Op.bytesLess X.toList Y.toList) (!Op.bytesLess X.toList Y.toList && !X.toList == Y.toList) W
 have he:zbl (Op.bytesLess X.toList Y.toList) (!Op.bytesLess X.toList Y.toList && !X.toList == Y.toList)=Lib.compareBytes (tl X) (tl Y):=by rw [ByteArray.toList_eq,ByteArray.toList_eq,← Bool.not_or];exact zit _ _
 rw [he] at hs
 clear he
 generalize Lib.compareBytes (tl X) (tl Y)=z at *
 go_enter func186,ntmps186
 go_upto_region 10 with fail
 refine plP [(0,0),(1,0),(3,0),(4,0),(2,1),(5,1),(6,0),(7,0)] [] (by kernel_rfl) (fun _ _ d _ _ h=>by cases d <;> exact h) ?_
 iterate 4 (apply rdP rfl rfl;(intros;go_simp;first | done | rfl);try simp only [zq])
 (refine zh rfl ?_ (fun K hK=>?_);rfl;go_simp;refine aM (h1 _) fun os1 d1=>?_;refine hK _ _ ?_ ?_;(simp [go_sem]))
 try simp only [zq]
 (refine zh rfl ?_ (fun K hK=>?_);rfl;go_simp;refine aM (h2 _) fun os2 d2=>?_;refine hK _ _ ?_ ?_;(simp [go_sem]))
 try simp only [zq]
 iterate 2 (apply rdP rfl rfl;(intros;go_simp;first | done | rfl);try simp only [zq])
 refine zj ?_
 go_wp2_with (go_at_call 185;refine aM (hs _) fun os d=>?_)
 go_ret
 exact ⟨rfl,by simp [go_sem]⟩
theorem zr5 (at_:ByteArray) (hat:at_.size≤255) (bm be:Int) (hbm:I64 bm) (w:World) :
  Tl prog 186 #[VV 2 0 0 at_ false 0,VV 1 bm be ⟨#[]⟩ false 0] w (.int .i64 (1)):=by
 have hs:=fun l W=>zD l true W
 simp only [zbl] at hs
 go_enter func186,ntmps186
 go_wp2_with ((go_at_call 185;with_reducible refine aM (hs _ _) fun os d=>?_))
 go_ret
 exact ⟨rfl,by simp [go_sem]⟩
theorem zr6 (at_:ByteArray) (hat:at_.size≤255) (bt:ByteArray) (hbt:bt.size≤255) (w:World) :
  Tl prog 186 #[VV 2 0 0 at_ false 0,VV 2 0 0 bt false 0] w (.int .i64 (zeV (at_) (bt))):=by
 have h1:=fun W=>zcw at_ W (by omega)
 have h2:=fun W=>zcw bt W (by omega)
 unfold zeV
 generalize zac at_=X at *
 generalize zac bt=Y at *
 have hs:=fun W=>zD (Op.bytesLess X.toList Y.toList) (!Op.bytesLess X.toList Y.toList && !X.toList == Y.toList) W
 have he:zbl (Op.bytesLess X.toList Y.toList) (!Op.bytesLess X.toList Y.toList && !X.toList == Y.toList)=Lib.compareBytes (tl X) (tl Y):=by rw [ByteArray.toList_eq,ByteArray.toList_eq,← Bool.not_or];exact zit _ _
 rw [he] at hs
 clear he
 generalize Lib.compareBytes (tl X) (tl Y)=z at *
 go_enter func186,ntmps186
 go_upto_region 10 with fail
 refine plP [(0,0),(1,0),(3,0),(4,0),(2,1),(5,1),(6,0),(7,0)] [] (by kernel_rfl) (fun _ _ d _ _ h=>by cases d <;> exact h) ?_
 iterate 4 (apply rdP rfl rfl;(intros;go_simp;first | done | rfl);try simp only [zq])
 (refine zh rfl ?_ (fun K hK=>?_);rfl;go_simp;refine aM (h1 _) fun os1 d1=>?_;refine hK _ _ ?_ ?_;(simp [go_sem]))
 try simp only [zq]
 (refine zh rfl ?_ (fun K hK=>?_);rfl;go_simp;refine aM (h2 _) fun os2 d2=>?_;refine hK _ _ ?_ ?_;(simp [go_sem]))
 try simp only [zq]
 iterate 2 (apply rdP rfl rfl;(intros;go_simp;first | done | rfl);try simp only [zq])
 refine zj ?_
 go_wp2_with (go_at_call 185;refine aM (hs _) fun os d=>?_)
 go_ret
 exact ⟨rfl,by simp [go_sem]⟩
theorem zr7 (at_:ByteArray) (hat:at_.size≤255) (bb:Bool) (w:World) :
  Tl prog 186 #[VV 2 0 0 at_ false 0,VV 3 0 0 ⟨#[]⟩ bb 0] w (.int .i64 (-1)):=by
 have hs:=fun l W=>zD l true W
 simp only [zbl] at hs
 go_enter func186,ntmps186
 go_wp2_with ((go_at_call 185;with_reducible refine aM (hs _ _) fun os d=>?_))
 go_ret
 exact ⟨rfl,by simp [go_sem]⟩
theorem zr8 (at_:ByteArray) (hat:at_.size≤255) (bf:Int) (w:World) :
  Tl prog 186 #[VV 2 0 0 at_ false 0,VV 4 0 0 ⟨#[]⟩ false bf] w (.int .i64 (-1)):=by
 have hs:=fun l W=>zD l true W
 simp only [zbl] at hs
 go_enter func186,ntmps186
 go_wp2_with ((go_at_call 185;with_reducible refine aM (hs _ _) fun os d=>?_))
 go_ret
 exact ⟨rfl,by simp [go_sem]⟩
theorem zr9 (ab:Bool)  (w:World) :
  Tl prog 186 #[VV 3 0 0 ⟨#[]⟩ ab 0,VV 0 0 0 ⟨#[]⟩ false 0] w (.int .i64 (sgB ab false)):=by
 have hs:=fun W=>zD (!ab && false) (ab && !false) W
 rw [zf9] at hs
 cases ab
 all_goals
  go_enter func186,ntmps186
  go_wp2_with ((go_at_call 185;refine aM (hs _) fun os d=>?_))
  go_ret
  exact ⟨rfl,by simp [go_sem]⟩
theorem zsa (ab:Bool) (bm be:Int) (hbm:I64 bm) (w:World) :
  Tl prog 186 #[VV 3 0 0 ⟨#[]⟩ ab 0,VV 1 bm be ⟨#[]⟩ false 0] w (.int .i64 (1)):=by
 have hs:=fun l W=>zD l true W
 simp only [zbl] at hs
 go_enter func186,ntmps186
 go_wp2_with ((go_at_call 185;with_reducible refine aM (hs _ _) fun os d=>?_))
 go_ret
 exact ⟨rfl,by simp [go_sem]⟩
theorem zsb (ab:Bool) (bt:ByteArray) (hbt:bt.size≤255) (w:World) :
  Tl prog 186 #[VV 3 0 0 ⟨#[]⟩ ab 0,VV 2 0 0 bt false 0] w (.int .i64 (1)):=by
 have hs:=fun l W=>zD l true W
 simp only [zbl] at hs
 go_enter func186,ntmps186
 go_wp2_with ((go_at_call 185;with_reducible refine aM (hs _ _) fun os d=>?_))
 go_ret
 exact ⟨rfl,by simp [go_sem]⟩
theorem zsc (ab:Bool) (bb:Bool) (w:World) :
  Tl prog 186 #[VV 3 0 0 ⟨#[]⟩ ab 0,VV 3 0 0 ⟨#[]⟩ bb 0] w (.int .i64 (sgB ab bb)):=by
 have hs:=fun W=>zD (!ab && bb) (ab && !bb) W
 rw [zf9] at hs
 cases ab <;> cases bb
 all_goals
  go_enter func186,ntmps186
  go_wp2_with ((go_at_call 185;refine aM (hs _) fun os d=>?_))
  go_ret
  exact ⟨rfl,by simp [go_sem]⟩
theorem zsd (ab:Bool) (bf:Int) (w:World) :
  Tl prog 186 #[VV 3 0 0 ⟨#[]⟩ ab 0,VV 4 0 0 ⟨#[]⟩ false bf] w (.int .i64 (-1)):=by
 have hs:=fun l W=>zD l true W
 simp only [zbl] at hs
 go_enter func186,ntmps186
 go_wp2_with ((go_at_call 185;with_reducible refine aM (hs _ _) fun os d=>?_))
 go_ret
 exact ⟨rfl,by simp [go_sem]⟩
theorem zse (af:Int)  (w:World) :
  Tl prog 186 #[VV 4 0 0 ⟨#[]⟩ false af,VV 0 0 0 ⟨#[]⟩ false 0] w (.int .i64 (1)):=by
 have hs:=fun l W=>zD l true W
 simp only [zbl] at hs
 go_enter func186,ntmps186
 go_wp2_with ((go_at_call 185;with_reducible refine aM (hs _ _) fun os d=>?_))
 go_ret
 exact ⟨rfl,by simp [go_sem]⟩
theorem zsf (af:Int) (bm be:Int) (hbm:I64 bm) (w:World) :
  Tl prog 186 #[VV 4 0 0 ⟨#[]⟩ false af,VV 1 bm be ⟨#[]⟩ false 0] w (.int .i64 (1)):=by
 have hs:=fun l W=>zD l true W
 simp only [zbl] at hs
 go_enter func186,ntmps186
 go_wp2_with ((go_at_call 185;with_reducible refine aM (hs _ _) fun os d=>?_))
 go_ret
 exact ⟨rfl,by simp [go_sem]⟩
theorem zsg (af:Int) (bt:ByteArray) (hbt:bt.size≤255) (w:World) :
  Tl prog 186 #[VV 4 0 0 ⟨#[]⟩ false af,VV 2 0 0 bt false 0] w (.int .i64 (1)):=by
 have hs:=fun l W=>zD l true W
 simp only [zbl] at hs
 go_enter func186,ntmps186
 go_wp2_with ((go_at_call 185;with_reducible refine aM (hs _ _) fun os d=>?_))
 go_ret
 exact ⟨rfl,by simp [go_sem]⟩
theorem zsh (af:Int) (bb:Bool) (w:World) :
  Tl prog 186 #[VV 4 0 0 ⟨#[]⟩ false af,VV 3 0 0 ⟨#[]⟩ bb 0] w (.int .i64 (1)):=by
 have hs:=fun l W=>zD l true W
 simp only [zbl] at hs
 go_enter func186,ntmps186
 go_wp2_with ((go_at_call 185;with_reducible refine aM (hs _ _) fun os d=>?_))
 go_ret
 exact ⟨rfl,by simp [go_sem]⟩
theorem zsi (af:Int) (bf:Int) (w:World) :
  Tl prog 186 #[VV 4 0 0 ⟨#[]⟩ false af,VV 4 0 0 ⟨#[]⟩ false bf] w (.int .i64 (sgI af bf)):=by
 have hs:=fun W=>zD (decide (af < bf)) (decide (bf < af)) W
 rw [zpD] at hs
 generalize sgI af bf=z at *
 go_enter func186,ntmps186
 go_wp2_with ((go_at_call 185;refine aM (hs _) fun os d=>?_))
 go_ret
 exact ⟨rfl,by simp [go_sem]⟩
theorem zkV (a b:Val) (w:World) (ha:a.right) (hb:b.right) :
  Tl prog 186 #[VV a.kind a.mant a.exp a.text a.truth a.fault,VV b.kind b.mant b.exp b.text b.truth b.fault] w (.int .i64 (zaR a b)):=by
 rcases ha.form with rfl | ⟨m,e,rfl,hr⟩ | ⟨t,rfl,ht⟩ | ⟨x,rfl⟩ | ⟨f,rfl,hf⟩
 ·rcases hb.form with rfl | ⟨m',e',rfl,hr'⟩ | ⟨t',rfl,ht'⟩ | ⟨x',rfl⟩ | ⟨f',rfl,hf'⟩
  ·exact zrU   w
  ·exact zrV  m' e' (zct hr').1 w
  ·exact zrW  t' ht' w
  ·exact zrX  x' w
  ·exact zrY  f' w
 ·rcases hb.form with rfl | ⟨m',e',rfl,hr'⟩ | ⟨t',rfl,ht'⟩ | ⟨x',rfl⟩ | ⟨f',rfl,hf'⟩
  ·exact zrZ m e (zct hr).1  w
  ·exact zr0 m e (zct hr).1 m' e' (zct hr').1 w
  ·exact zr1 m e (zct hr).1 t' ht' w
  ·exact zr2 m e (zct hr).1 x' w
  ·exact zr3 m e (zct hr).1 f' w
 ·rcases hb.form with rfl | ⟨m',e',rfl,hr'⟩ | ⟨t',rfl,ht'⟩ | ⟨x',rfl⟩ | ⟨f',rfl,hf'⟩
  ·exact zr4 t ht  w
  ·exact zr5 t ht m' e' (zct hr').1 w
  ·exact zr6 t ht t' ht' w
  ·exact zr7 t ht x' w
  ·exact zr8 t ht f' w
 ·rcases hb.form with rfl | ⟨m',e',rfl,hr'⟩ | ⟨t',rfl,ht'⟩ | ⟨x',rfl⟩ | ⟨f',rfl,hf'⟩
  ·exact zr9 x  w
  ·exact zsa x m' e' (zct hr').1 w
  ·exact zsb x t' ht' w
  ·exact zsc x x' w
  ·exact zsd x f' w
 ·rcases hb.form with rfl | ⟨m',e',rfl,hr'⟩ | ⟨t',rfl,ht'⟩ | ⟨x',rfl⟩ | ⟨f',rfl,hf'⟩
  ·exact zse f  w
  ·exact zsf f m' e' (zct hr').1 w
  ·exact zsg f t' ht' w
  ·exact zsh f x' w
  ·exact zsi f f' w
theorem zdZ (a b:Val) (w:World) (ha:a.right) (hb:b.right) :
  Tl prog 147 #[VV a.kind a.mant a.exp a.text a.truth a.fault,VV b.kind b.mant b.exp b.text b.truth b.fault] w (.int .i64 (zv a b)):=by
 have hc:=fun W=>zkV a b W ha hb
 by_cases h1:a.kind=0
 ·have q1:(a.kind == 0)=true:=by simpa using h1
  have q3:(a.kind != 0)=false:=by simp [h1]
  by_cases h2:b.kind=0
  ·have ho:zv a b=0:=by unfold zv;rw [if_pos ⟨h1,h2⟩]
   have q2:(b.kind == 0)=true:=by simpa using h2
   have q4:(b.kind != 0)=false:=by simp [h2]
   have hs:=fun W=>zD false false W
   simp only [zbl,Bool.false_eq_true,if_false] at hs
   rw [ho];clear ho h1 h2 ha hb;generalize a.kind=xk at *;generalize a.mant=xm at *;generalize a.exp=xe at *;generalize a.text=xt at *;generalize a.truth=xb at *;generalize a.fault=xf at *;generalize b.kind=yk at *;generalize b.mant=ym at *;generalize b.exp=ye at *;generalize b.text=yt at *;generalize b.truth=yb at *;generalize b.fault=yf at *;go_enter func147,ntmps147;go_wp2_with (first | (go_at_call 185;with_reducible refine aM (hs _) fun os d=>?_) | (go_at_call 186;(with_reducible refine (hc _).mono ?_);rintro e w' ⟨rfl,hb⟩;obtain ⟨os,d,rfl⟩:=hb.more;clear hb));go_ret;exact ⟨rfl,by simp [go_sem]⟩
  ·have ho:zv a b=1:=by unfold zv;rw [if_neg (fun h=>h2 h.2),if_pos h1]
   have q2:(b.kind == 0)=false:=by simpa using h2
   have q4:(b.kind != 0)=true:=by simpa using h2
   have hs:=fun W=>zD false true W
   simp only [zbl,Bool.false_eq_true,if_false,if_true] at hs
   rw [ho];clear ho h1 h2 ha hb;generalize a.kind=xk at *;generalize a.mant=xm at *;generalize a.exp=xe at *;generalize a.text=xt at *;generalize a.truth=xb at *;generalize a.fault=xf at *;generalize b.kind=yk at *;generalize b.mant=ym at *;generalize b.exp=ye at *;generalize b.text=yt at *;generalize b.truth=yb at *;generalize b.fault=yf at *;go_enter func147,ntmps147;go_wp2_with (first | (go_at_call 185;with_reducible refine aM (hs _) fun os d=>?_) | (go_at_call 186;(with_reducible refine (hc _).mono ?_);rintro e w' ⟨rfl,hb⟩;obtain ⟨os,d,rfl⟩:=hb.more;clear hb));go_ret;exact ⟨rfl,by simp [go_sem]⟩
 ·have q1:(a.kind == 0)=false:=by simpa using h1
  have q3:(a.kind != 0)=true:=by simpa using h1
  by_cases h2:b.kind=0
  ·have ho:zv a b = -1:=by unfold zv;rw [if_neg (fun h=>h1 h.1),if_neg h1,if_pos h2]
   have q2:(b.kind == 0)=true:=by simpa using h2
   have q4:(b.kind != 0)=false:=by simp [h2]
   have hs:=fun W=>zD true false W
   simp only [zbl,Bool.false_eq_true,if_false,if_true] at hs
   rw [ho];clear ho h1 h2 ha hb;generalize a.kind=xk at *;generalize a.mant=xm at *;generalize a.exp=xe at *;generalize a.text=xt at *;generalize a.truth=xb at *;generalize a.fault=xf at *;generalize b.kind=yk at *;generalize b.mant=ym at *;generalize b.exp=ye at *;generalize b.text=yt at *;generalize b.truth=yb at *;generalize b.fault=yf at *;go_enter func147,ntmps147;go_wp2_with (first | (go_at_call 185;with_reducible refine aM (hs _) fun os d=>?_) | (go_at_call 186;(with_reducible refine (hc _).mono ?_);rintro e w' ⟨rfl,hb⟩;obtain ⟨os,d,rfl⟩:=hb.more;clear hb));go_ret;exact ⟨rfl,by simp [go_sem]⟩
  ·have ho:zv a b=zaR a b:=by unfold zv;rw [if_neg (fun h=>h1 h.1),if_neg h1,if_neg h2]
   have q2:(b.kind == 0)=false:=by simpa using h2
   have q4:(b.kind != 0)=true:=by simpa using h2
   have hs:=fun W=>zD true false W
   generalize zaR a b=n at *
   rw [ho];clear ho h1 h2 ha hb;generalize a.kind=xk at *;generalize a.mant=xm at *;generalize a.exp=xe at *;generalize a.text=xt at *;generalize a.truth=xb at *;generalize a.fault=xf at *;generalize b.kind=yk at *;generalize b.mant=ym at *;generalize b.exp=ye at *;generalize b.text=yt at *;generalize b.truth=yb at *;generalize b.fault=yf at *;go_enter func147,ntmps147;go_wp2_with (first | (go_at_call 185;with_reducible refine aM (hs _) fun os d=>?_) | (go_at_call 186;with_reducible refine aM (hc _) fun os d=>?_));go_ret;exact ⟨rfl,by simp [go_sem]⟩
theorem zic (a b:Val) (w:World) (ha:a.right) (hb:b.right) :
  Tl prog 85 #[VV a.kind a.mant a.exp a.text a.truth a.fault,VV b.kind b.mant b.exp b.text b.truth b.fault] w (.int .i64 (zv a b)):=by
 have hc:=fun W=>zpR a b W ha.ok hb.ok
 by_cases h1:a.kind=0
 ·have q1:(a.kind == 0)=true:=by simpa using h1
  by_cases h2:b.kind=0
  ·have ho:zv a b=0:=by unfold zv;rw [if_pos ⟨h1,h2⟩]
   have q2:(b.kind == 0)=true:=by simpa using h2
   clear hc
   have hc:=fun W=>zD false true W
   rw [ho];clear ho h1 h2 ha hb;generalize a.kind=xk at *;generalize a.mant=xm at *;generalize a.exp=xe at *;generalize a.text=xt at *;generalize a.truth=xb at *;generalize a.fault=xf at *;generalize b.kind=yk at *;generalize b.mant=ym at *;generalize b.exp=ye at *;generalize b.text=yt at *;generalize b.truth=yb at *;generalize b.fault=yf at *;go_enter func85,ntmps85;go_wp2_with (first | (go_at_call 138;(with_reducible refine (hc _).mono ?_);rintro e w' ⟨rfl,hb⟩;obtain ⟨os,d,rfl⟩:=hb.more;clear hb));go_ret;exact ⟨rfl,by simp [go_sem]⟩
  ·have ho:zv a b=1:=by unfold zv;rw [if_neg (fun h=>h2 h.2),if_pos h1]
   have q2:(b.kind == 0)=false:=by simpa using h2
   clear hc
   have hc:=fun W=>zD false true W
   rw [ho];clear ho h1 h2 ha hb;generalize a.kind=xk at *;generalize a.mant=xm at *;generalize a.exp=xe at *;generalize a.text=xt at *;generalize a.truth=xb at *;generalize a.fault=xf at *;generalize b.kind=yk at *;generalize b.mant=ym at *;generalize b.exp=ye at *;generalize b.text=yt at *;generalize b.truth=yb at *;generalize b.fault=yf at *;go_enter func85,ntmps85;go_wp2_with (first | (go_at_call 138;(with_reducible refine (hc _).mono ?_);rintro e w' ⟨rfl,hb⟩;obtain ⟨os,d,rfl⟩:=hb.more;clear hb));go_ret;exact ⟨rfl,by simp [go_sem]⟩
 ·have q1:(a.kind == 0)=false:=by simpa using h1
  by_cases h2:b.kind=0
  ·have ho:zv a b = -1:=by unfold zv;rw [if_neg (fun h=>h1 h.1),if_neg h1,if_pos h2]
   have q2:(b.kind == 0)=true:=by simpa using h2
   clear hc
   have hc:=fun W=>zD false true W
   rw [ho];clear ho h1 h2 ha hb;generalize a.kind=xk at *;generalize a.mant=xm at *;generalize a.exp=xe at *;generalize a.text=xt at *;generalize a.truth=xb at *;generalize a.fault=xf at *;generalize b.kind=yk at *;generalize b.mant=ym at *;generalize b.exp=ye at *;generalize b.text=yt at *;generalize b.truth=yb at *;generalize b.fault=yf at *;go_enter func85,ntmps85;go_wp2_with (first | (go_at_call 138;(with_reducible refine (hc _).mono ?_);rintro e w' ⟨rfl,hb⟩;obtain ⟨os,d,rfl⟩:=hb.more;clear hb));go_ret;exact ⟨rfl,by simp [go_sem]⟩
  ·have ho:zv a b=zaR a b:=by unfold zv;rw [if_neg (fun h=>h1 h.1),if_neg h1,if_neg h2]
   have q2:(b.kind == 0)=false:=by simpa using h2
   generalize zaR a b=n at *
   rw [ho];clear ho h1 h2 ha hb;generalize a.kind=xk at *;generalize a.mant=xm at *;generalize a.exp=xe at *;generalize a.text=xt at *;generalize a.truth=xb at *;generalize a.fault=xf at *;generalize b.kind=yk at *;generalize b.mant=ym at *;generalize b.exp=ye at *;generalize b.text=yt at *;generalize b.truth=yb at *;generalize b.fault=yf at *;go_enter func85,ntmps85;go_wp2_with (first | (go_at_call 138;with_reducible refine aM (hc _) fun os d=>?_));go_ret;exact ⟨rfl,by simp [go_sem]⟩
theorem zno (a b:Val) (down:Bool) (w:World) (ha:a.right) (hb:b.right) :
  Tl prog 101 #[VV a.kind a.mant a.exp a.text a.truth a.fault,VV b.kind b.mant b.exp b.text b.truth b.fault,.bool down] w (.bool (zaT down a b)):=by
 obtain ⟨r,hr⟩:∃ r,zaT down a b=r:=⟨_,rfl⟩
 rw [hr]
 have hc0:=fun W=>zdZ a b W ha hb
 by_cases h1:a.kind=0
 ·have q1:(a.kind == 0)=true:=by simpa using h1
  have q3:(a.kind != 0)=false:=by simp [h1]
  have HO:Hid (r=false):=by show _=_;rw [← hr];unfold zaT;rw [if_pos (Or.inl h1)];simp [h1]
  have hc:=hc0
  have h2:=h1
  clear hr hc0
  generalize zv a b=z at *
  clear h1 h2 ha hb;generalize a.kind=xk at *;generalize a.mant=xm at *;generalize a.exp=xe at *;generalize a.text=xt at *;generalize a.truth=xb at *;generalize a.fault=xf at *;generalize b.kind=yk at *;generalize b.mant=ym at *;generalize b.exp=ye at *;generalize b.text=yt at *;generalize b.truth=yb at *;generalize b.fault=yf at *;go_enter func101,ntmps101;go_wp2_with (first | (go_at_call 147;(with_reducible refine (hc _).mono ?_);rintro e w' ⟨rfl,hb⟩;obtain ⟨os,d,rfl⟩:=hb.more;clear hb));go_ret;exact ⟨by first | rfl | (rw [HO.out];rfl) | rw [HO.out],by simp [go_sem]⟩
 ·have q1:(a.kind == 0)=false:=by simpa using h1
  have q3:(a.kind != 0)=true:=by simpa using h1
  by_cases h2:b.kind=0
  ·have q2:(b.kind == 0)=true:=by simpa using h2
   have HO:Hid (r=true):=by show _=_;rw [← hr];unfold zaT;rw [if_pos (Or.inr h2)];simp [h1,h2]
   have hc:=hc0
   clear hr hc0
   generalize zv a b=z at *
   clear h1 h2 ha hb;generalize a.kind=xk at *;generalize a.mant=xm at *;generalize a.exp=xe at *;generalize a.text=xt at *;generalize a.truth=xb at *;generalize a.fault=xf at *;generalize b.kind=yk at *;generalize b.mant=ym at *;generalize b.exp=ye at *;generalize b.text=yt at *;generalize b.truth=yb at *;generalize b.fault=yf at *;go_enter func101,ntmps101;go_wp2_with (first | (go_at_call 147;(with_reducible refine (hc _).mono ?_);rintro e w' ⟨rfl,hb⟩;obtain ⟨os,d,rfl⟩:=hb.more;clear hb));go_ret;exact ⟨by first | rfl | (rw [HO.out];rfl) | rw [HO.out],by simp [go_sem]⟩
  ·have q2:(b.kind == 0)=false:=by simpa using h2
   have ho:∀ x y:Val,x.kind≠0→y.kind≠0→zv x y=zaR x y:=fun x y h1 h2=>by unfold zv;rw [if_neg (fun h=>h1 h.1),if_neg h1,if_neg h2]
   have ha2:zaT down a b=decide ((if down then zaR b a else zaR a b) < 0):=by unfold zaT;rw [if_neg (by simp [h1,h2])]
   cases down with
   | true =>
    have hc:=fun W=>zdZ b a W hb ha
    rw [ho b a h2 h1] at hc
    simp only [if_true] at ha2
    have HO:Hid (r=decide (zaR b a < 0)):=by show _=_;rw [← hr,ha2]
    clear hr hc0 ha2 ho
    generalize zaR b a=z at *
    clear h1 h2 ha hb;generalize a.kind=xk at *;generalize a.mant=xm at *;generalize a.exp=xe at *;generalize a.text=xt at *;generalize a.truth=xb at *;generalize a.fault=xf at *;generalize b.kind=yk at *;generalize b.mant=ym at *;generalize b.exp=ye at *;generalize b.text=yt at *;generalize b.truth=yb at *;generalize b.fault=yf at *;go_enter func101,ntmps101;go_wp2_with (first | (go_at_call 147;(with_reducible refine (hc _).mono ?_);rintro e w' ⟨rfl,hb⟩;obtain ⟨os,d,rfl⟩:=hb.more;clear hb));go_ret;exact ⟨by first | rfl | (rw [HO.out];rfl) | rw [HO.out],by simp [go_sem]⟩
   | false =>
    have hc:=fun W=>zdZ a b W ha hb
    rw [ho a b h1 h2] at hc
    simp only [Bool.false_eq_true,if_false] at ha2
    have HO:Hid (r=decide (zaR a b < 0)):=by show _=_;rw [← hr,ha2]
    clear hr hc0 ha2 ho
    generalize zaR a b=z at *
    clear h1 h2 ha hb;generalize a.kind=xk at *;generalize a.mant=xm at *;generalize a.exp=xe at *;generalize a.text=xt at *;generalize a.truth=xb at *;generalize a.fault=xf at *;generalize b.kind=yk at *;generalize b.mant=ym at *;generalize b.exp=ye at *;generalize b.text=yt at *;generalize b.truth=yb at *;generalize b.fault=yf at *;go_enter func101,ntmps101;go_wp2_with (first | (go_at_call 147;with_reducible refine aM (hc _) fun os d=>?_));go_ret;exact ⟨by first | rfl | (rw [HO.out];rfl) | rw [HO.out],by simp [go_sem]⟩
theorem zqf (a b:Val) : -1≤zv a b∧zv a b≤1:=by
 unfold zv
 split
 ·omega
 ·split
  ·omega
  ·split
   ·omega
   ·rcases zp8 a b with h | h | h <;> omega
theorem zcN {a:NA} (ha:a.right) {D:Option Addr} {n cap:Nat} {w:World} (hA:ArrIn w D n cap a.l) {i c:Nat} (hi:i < a.R) (hc:c < a.C):i * a.C+c < n∧n≤4096∧i * a.C≤4096∧c≤4096∧i≤4096:=by
 obtain ⟨a1,a2,a3,a4,a5⟩:=zi.1 ha
 have hl:=hA.len
 have h1:=zc0 hi hc
 have hC4:a.C≤4096:=Nat.le_trans (Nat.le_mul_of_pos_left a.C a1) a3
 have hR4:a.R≤4096:=Nat.le_trans (Nat.le_mul_of_pos_right a.R a2) a3
 omega
abbrev zsj (x:Val):Obj:=.cells #[.int .i64 x.kind,.int .i64 x.mant,.int .i64 x.exp,.string x.text,.bool x.truth,.int .i64 x.fault] 37
abbrev znp (w:World) (b:Nat) (x:Val):World:=(((((w.setCell ⟨b,0,none⟩ (.int .i64 x.kind)).setCell ⟨b,1,none⟩ (.int .i64 x.mant)).setCell ⟨b,2,none⟩ (.int .i64 x.exp)).setCell ⟨b,3,none⟩ (.string x.text)).setCell ⟨b,4,none⟩ (.bool x.truth)).setCell ⟨b,5,none⟩ (.int .i64 x.fault)
theorem zjo {w:World} {b:Nat} {x:Val} {c0 c1 c2 c3 c4 c5:Value} (h:w.heap[b]? = some (.cells #[c0,c1,c2,c3,c4,c5] 37)):(znp w b x).heap[b]? = some (zsj x):=by
 have h0:=heap_setCell_same _ b 0 _ _ (.int .i64 x.kind) h
 have h1:=heap_setCell_same _ b 1 _ _ (.int .i64 x.mant) h0
 have h2:=heap_setCell_same _ b 2 _ _ (.int .i64 x.exp) h1
 have h3:=heap_setCell_same _ b 3 _ _ (.string x.text) h2
 have h4:=heap_setCell_same _ b 4 _ _ (.bool x.truth) h3
 have h5:=heap_setCell_same _ b 5 _ _ (.int .i64 x.fault) h4
 simpa using h5
theorem zid {w:World} {b q:Nat} {x:Val} (h:q≠b):(znp w b x).heap[q]? = w.heap[q]?:=by
 unfold znp
 rw [Below.heap_setCell _ _ _ _ h,Below.heap_setCell _ _ _ _ h,Below.heap_setCell _ _ _ _ h,Below.heap_setCell _ _ _ _ h,Below.heap_setCell _ _ _ _ h,Below.heap_setCell _ _ _ _ h]
theorem zkW {W0 w:World} {b:Nat} {x:Val} (h:Ext W0 w) (hb:W0.heap.size≤b):Ext W0 (znp w b x) :=
 (((((Below.setCell h hb _).setCell hb _).setCell hb _).setCell hb _).setCell hb _).setCell hb _
theorem zqg (a:NA) (D:Option Addr) (n cap pa pb pw bb i j:Nat) (way:Int) (w:World) (hA:ArrIn w D n cap a.l) (ha:a.right) (hi:i < a.R) (hj:j < a.R) (c1:w.cell? ⟨pa,1,none⟩=some (.int .i64 (a.C:Int))) (c2:w.cell? ⟨pa,2,none⟩=some (.slice D n cap)) (c3:w.cell? ⟨pb,0,none⟩=some (.int .i64 (bb:Int))) (c4:w.cell? ⟨pw,0,none⟩=some (.int .i64 way)) (hb1:1≤bb) (hb2:bb≤a.C) (hw:way=1∨way = -1) :
  Calls prog 84 #[.int .i64 (i:Int),.int .i64 (j:Int),.pointer (some ⟨pa,0,none⟩),.pointer (some ⟨pb,0,none⟩),.pointer (some ⟨pw,0,none⟩)] w fun e w'=>∃ c:Int,e = .returned (.int .i64 c)∧decide (c < 0)=ltS a (bb - 1) (decide (way = -1)) i j∧Ext w w':=by
 obtain ⟨c,hc⟩:∃ c,bb - 1=c:=⟨_,rfl⟩
 rw [hc]
 obtain ⟨r1,r2,r3,r4,r5⟩:=zcN ha hA hi (show c < a.C by omega)
 obtain ⟨s1,_,s3,_,s5⟩:=zcN ha hA hj (show c < a.C by omega)
 have hwf:=(zi.1 ha).2.2.2.2
 obtain ⟨C,hC⟩:∃ C,a.C=C:=⟨_,rfl⟩
 obtain ⟨u,hu⟩:∃ u,i * C=u:=⟨_,rfl⟩
 obtain ⟨v,hv⟩:∃ v,j * C=v:=⟨_,rfl⟩
 obtain ⟨p,hp⟩:∃ p,u+c=p:=⟨_,rfl⟩
 obtain ⟨q,hq⟩:∃ q,v+c=q:=⟨_,rfl⟩
 rw [hC,hu] at r1 r3
 rw [hC,hv] at s1 s3
 rw [hp] at r1
 rw [hq] at s1
 rw [hC] at c1
 have e1:IntKind.i64.wrap ((i:Int) * (C:Int))=(u:Int):=by rw [← Int.natCast_mul,hu,IntKind.wrap_i64];omega
 have e2:IntKind.i64.wrap ((j:Int) * (C:Int))=(v:Int):=by rw [← Int.natCast_mul,hv,IntKind.wrap_i64];omega
 have e3:IntKind.i64.wrap ((u:Int)+(bb:Int))=(p:Int)+1:=by rw [IntKind.wrap_i64];omega
 have e4:IntKind.i64.wrap ((v:Int)+(bb:Int))=(q:Int)+1:=by rw [IntKind.wrap_i64];omega
 have e5:IntKind.i64.wrap (p:Int)=(p:Int):=by rw [IntKind.wrap_i64];omega
 have e6:IntKind.i64.wrap (q:Int)=(q:Int):=by rw [IntKind.wrap_i64];omega
 obtain ⟨x,b,off,hx,hxo,rfl,hxat⟩:=hA.at r1
 obtain ⟨x0,x1,x2,x3,x4,x5⟩:=hxat
 obtain ⟨y,b',off',hy,hyo,e,hyat⟩:=hA.at s1
 obtain ⟨rfl,rfl⟩:=aI e
 obtain ⟨y0,y1,y2,y3,y4,y5⟩:=hyat
 have hbl:b < w.heap.size:=zg x0
 have la:=zg c1
 have lb:=zg c3
 have lw:=zg c4
 have gx:zk a.l (i * a.C+c)=x:=by rw [hC,hu,hp];unfold zk;rw [hx];rfl
 have gy:zk a.l (j * a.C+c)=y:=by rw [hC,hv,hq];unfold zk;rw [hy];rfl
 have hxr:x.right:=hwf x (List.mem_of_getElem? hx)
 have hyr:y.right:=hwf y (List.mem_of_getElem? hy)
 have hs:=znm (v:=x) (w:=y) hw
 have hlt:ltS a c (decide (way = -1)) i j=zaT (decide (way = -1)) x y:=by unfold ltS;rw [gx,gy]
 rw [hlt]
 obtain ⟨BB,hBB⟩:∃ BB,zaT (decide (way = -1)) x y=BB:=⟨_,rfl⟩
 rw [hBB] at hs
 rw [hBB]
 have hord:=fun W=>zic x y W hxr hyr
 obtain ⟨t1,t2⟩:=zqf x y
 generalize zv x y=z at *
 have hwz:IntKind.i64.wrap (z * way)=z * way:=by
  rcases hw with rfl | rfl <;> (rw [IntKind.wrap_i64];omega)
 have hcap:=hA.cap
 have HS:=Lib.hid hs
 clear hs hBB hlt gx gy hwf hx hy hxo hyo hu hv hC hc hA ha hi hj hp hq hxr hyr hb1 hb2 hw
 go_enter func84,ntmps84
 go_upto_region 1 with fail
 go_cut [8,9] (fun s8 s9 wx=>∃ px py:Nat,s8 = .pointer (some ⟨px,0,none⟩)∧s9 = .pointer (some ⟨py,0,none⟩)∧Ext w wx∧(wx.cell? ⟨px,0,none⟩=some (.int .i64 x.kind)∧wx.cell? ⟨px,1,none⟩=some (.int .i64 x.mant)∧wx.cell? ⟨px,2,none⟩=some (.int .i64 x.exp)∧wx.cell? ⟨px,3,none⟩=some (.string x.text)∧wx.cell? ⟨px,4,none⟩=some (.bool x.truth)∧wx.cell? ⟨px,5,none⟩=some (.int .i64 x.fault))∧wx.cell? ⟨py,0,none⟩=some (.int .i64 y.kind)∧wx.cell? ⟨py,1,none⟩=some (.int .i64 y.mant)∧wx.cell? ⟨py,2,none⟩=some (.int .i64 y.exp)∧wx.cell? ⟨py,3,none⟩=some (.string y.text)∧wx.cell? ⟨py,4,none⟩=some (.bool y.truth)∧wx.cell? ⟨py,5,none⟩=some (.int .i64 y.fault))
 case first =>
  refine zaB [(0,0),(1,0),(2,0),(3,0),(4,0),(5,0),(6,0),(7,0),(8,0),(9,0),(10,0),(11,0),(12,0),(13,0),(14,0),(15,0),(16,0),(17,0),(18,0),(19,0),(20,0),(21,0),(22,4),(23,4),(23,3),(22,3),(24,5)] [25] [25] [] (by kernel_rfl) (by kernel_rfl) (by kernel_rfl) (fun _ _ d _ _ h=>by cases d <;> exact h) (fun _ _ d _ _ h=>by cases d <;> exact h) ?_
  iterate 22 (apply rdG rfl rfl;(intros;go_simp;first | done | rfl);try simp only [zq])
  (refine zaD (t:=8) (Obj.cells #[.int .i64 0,.int .i64 0,.int .i64 0,.string ⟨#[]⟩,.bool false,.int .i64 0] 37) zbK rfl rfl rfl (fun w1=>?_) ?_;(first | rfl | (simp [go_sem,zbK];done) | (go_simp;rfl)))
  (refine zaD (t:=9) (Obj.cells #[.int .i64 0,.int .i64 0,.int .i64 0,.string ⟨#[]⟩,.bool false,.int .i64 0] 37) zbK rfl rfl rfl (fun w1=>?_) ?_;(first | rfl | (simp [go_sem,zbK];done) | (go_simp;rfl)))
  refine zeu fun q1 g1 _ _=>?_;refine ⟨fun W=>W.heap[q1]? = some (Obj.cells #[.int .i64 0,.int .i64 0,.int .i64 0,.string ⟨#[]⟩,.bool false,.int .i64 0] 37),fun w1 w2 hx h=>(hx.block (zbn h)).trans h,fun W _ hE h1=>h1,?_⟩
  try simp only [zq]
  refine zeu fun q2 g2 n2 _=>?_;refine ⟨fun W=>W.heap[q1]? = some (Obj.cells #[.int .i64 0,.int .i64 0,.int .i64 0,.string ⟨#[]⟩,.bool false,.int .i64 0] 37)∧W.heap[q2]? = some (Obj.cells #[.int .i64 0,.int .i64 0,.int .i64 0,.string ⟨#[]⟩,.bool false,.int .i64 0] 37),fun w1 w2 hx h=>⟨(hx.block (zbn h.1)).trans h.1,(hx.block (zbn h.2)).trans h.2⟩,fun W _ hE h1=>⟨hE,h1⟩,?_⟩
  try simp only [zq]
  (refine zfz rfl ?_ (fun wf hXf hE K hK=>?_);rfl;obtain ⟨e1,e2⟩:=hE;(have u0:=cell_of_row _ _ 0 _ _ _ e2);(have u1:=cell_of_row _ _ 1 _ _ _ e2);(have u2:=cell_of_row _ _ 2 _ _ _ e2);(have u3:=cell_of_row _ _ 3 _ _ _ e2);(have u4:=cell_of_row _ _ 4 _ _ _ e2);(have u5:=cell_of_row _ _ 5 _ _ _ e2);(have v0:=frozen_of_row _ _ 0 _ _ e2);(have v1:=frozen_of_row _ _ 1 _ _ e2);(have v2:=frozen_of_row _ _ 2 _ _ e2);(have v3:=frozen_of_row _ _ 3 _ _ e2);(have v4:=frozen_of_row _ _ 4 _ _ e2);(have v5:=frozen_of_row _ _ 5 _ _ e2);(simp only [zbK]);go_simp;refine hK _ _ (fun W=>W.heap[q1]? = some (Obj.cells #[.int .i64 0,.int .i64 0,.int .i64 0,.string ⟨#[]⟩,.bool false,.int .i64 0] 37)∧W.heap[q2]? = some (zsj x)) (zkW hXf g2) (by simp) (fun w1 w2 hx h=>⟨(hx.block (zbn h.1)).trans h.1,(hx.block (zbn h.2)).trans h.2⟩) ⟨(zid (fun e=>n2 (by simp [e]))).trans e1,zjo e2⟩ ?_)
  try simp only [zq]
  refine zcx fun wz hXz hE=>?_
  obtain ⟨e1,e2⟩:=hE;(have u0:=cell_of_row _ _ 0 _ _ _ e1);(have u1:=cell_of_row _ _ 1 _ _ _ e1);(have u2:=cell_of_row _ _ 2 _ _ _ e1);(have u3:=cell_of_row _ _ 3 _ _ _ e1);(have u4:=cell_of_row _ _ 4 _ _ _ e1);(have u5:=cell_of_row _ _ 5 _ _ _ e1);(have v0:=frozen_of_row _ _ 0 _ _ e1);(have v1:=frozen_of_row _ _ 1 _ _ e1);(have v2:=frozen_of_row _ _ 2 _ _ e1);(have v3:=frozen_of_row _ _ 3 _ _ e1);(have v4:=frozen_of_row _ _ 4 _ _ e1);(have v5:=frozen_of_row _ _ 5 _ _ e1);(have f1:=zjo (x:=y) e1);(have f2:=(zid (x:=y) (fun e=>n2 (by simp [e]):q2≠q1)).trans e2);(have f3:Ext w _:=Ext.trans (by simp [go_sem]:Ext w w.drew) (zkW (x:=y) hXz g1));(try simp only [zbK])
  (refine zX rfl ?_ (fun K hK=>?_);rfl;go_simp;refine hK _ _ ?_)
  try simp only [zq]
  refine zaZ ?_
  clear u0 u1 u2 u3 u4 u5 v0 v1 v2 v3 v4 v5 e1 e2
  go_wp2_with fail
  go_meet
  exact ⟨q2,q1,rfl,rfl,f3,⟨cell_of_row _ _ 0 _ _ _ f2,cell_of_row _ _ 1 _ _ _ f2,cell_of_row _ _ 2 _ _ _ f2,cell_of_row _ _ 3 _ _ _ f2,cell_of_row _ _ 4 _ _ _ f2,cell_of_row _ _ 5 _ _ _ f2⟩,cell_of_row _ _ 0 _ _ _ f1,cell_of_row _ _ 1 _ _ _ f1,cell_of_row _ _ 2 _ _ _ f1,cell_of_row _ _ 3 _ _ _ f1,cell_of_row _ _ 4 _ _ _ f1,cell_of_row _ _ 5 _ _ _ f1⟩
 case rest =>
 obtain ⟨px,py,rfl,rfl,hx,⟨k0,k1,k2,k3,k4,k5⟩,m0,m1,m2,m3,m4,m5⟩:=hcut
 have lx:=zg k0
 have ly:=zg m0
 replace c4:=hx.cell_some c4
 have lw:=zg c4
 clear x0 x1 x2 x3 x4 x5 y0 y1 y2 y3 y4 y5 c1 c2 c3 e1 e2 e3 e4 e5 e6
 by_cases q1:x.kind=0
 ·have q1':(x.kind == 0)=true:=by simpa using q1
  have HO:Hid (decide (z < 0)=BB):=by show _=_;rw [← HS.out,if_pos (Or.inl q1)]
  clear q1
  go_wp2_with (go_at_call 85;with_reducible refine aM (hord _) fun os1 d1=>?_)
  go_ret
  exact ⟨z,rfl,HO.out,hx.trans (by simp [go_sem])⟩
 ·have q1':(x.kind == 0)=false:=by simpa using q1
  by_cases q2:y.kind=0
  ·have q2':(y.kind == 0)=true:=by simpa using q2
   have HO:Hid (decide (z < 0)=BB):=by show _=_;rw [← HS.out,if_pos (Or.inr q2)]
   clear q1 q2
   go_wp2_with (go_at_call 85;with_reducible refine aM (hord _) fun os1 d1=>?_)
   go_ret
   exact ⟨z,rfl,HO.out,hx.trans (by simp [go_sem])⟩
  ·have q2':(y.kind == 0)=false:=by simpa using q2
   have HO:Hid (decide (z * way < 0)=BB):=by show _=_;rw [← HS.out,if_neg (fun h=>h.elim q1 q2)]
   clear q1 q2
   go_wp2_with (go_at_call 85;with_reducible refine aM (hord _) fun os1 d1=>?_)
   go_ret
   exact ⟨z * way,rfl,HO.out,hx.trans (by simp [go_sem])⟩
def zdm (a:NA) (i j k:Nat):Prop:=∀ t,t < k→zv (zk (zG a i) t) (zk (zG a j) t)=0
theorem zoQ {a:NA} {i j k:Nat} (hk:k < a.C) (h:zdm a i j k) (hz:zv (zk (zG a i) k) (zk (zG a j) k)≠0):zaJ (zG a i) (zG a j)=zv (zk (zG a i) k) (zk (zG a j) k) :=
 zmr (by rw [zb5,zb5]) (by rw [zb5];exact hk) h hz
theorem zkX {a:NA} {i j:Nat} (h:zdm a i j a.C):zaJ (zG a i) (zG a j)=0 :=
 zjn (fun t ht=>h t (by rwa [zb5] at ht))
theorem zdm.succ {a:NA} {i j k:Nat} (h:zdm a i j k) (hz:zv (zk (zG a i) k) (zk (zG a j) k)=0):zdm a i j (k+1):=fun t ht=>by
 by_cases e:t=k
 ·subst e;exact hz
 ·exact h t (by omega)
theorem zqh (a:NA) (D:Option Addr) (n cap pa i j:Nat) (w:World) (hA:ArrIn w D n cap a.l) (ha:a.right) (hi:i < a.R) (hj:j < a.R) (c1:w.cell? ⟨pa,1,none⟩=some (.int .i64 (a.C:Int))) (c2:w.cell? ⟨pa,2,none⟩=some (.slice D n cap)) :
  Tl prog 88 #[.int .i64 (i:Int),.int .i64 (j:Int),.pointer (some ⟨pa,0,none⟩)] w (.int .i64 (zaJ (zG a i) (zG a j))):=by
 obtain ⟨_,_,s3,_,s5⟩:=zcN ha hA hi (zi.1 ha).2.1
 obtain ⟨_,_,t3,_,t5⟩:=zcN ha hA hj (zi.1 ha).2.1
 have hC4:a.C≤4096:=Nat.le_trans (Nat.le_mul_of_pos_left a.C (zi.1 ha).1) (zi.1 ha).2.2.1
 obtain ⟨X,hX⟩:∃ X,zaJ (zG a i) (zG a j)=X:=⟨_,rfl⟩
 rw [hX]
 have HX:=Lib.hid hX
 obtain ⟨C,hC⟩:∃ C,a.C=C:=⟨_,rfl⟩
 obtain ⟨u,hu⟩:∃ u,i * C=u:=⟨_,rfl⟩
 obtain ⟨v,hv⟩:∃ v,j * C=v:=⟨_,rfl⟩
 have HA:=Lib.hid hA
 have HF:=Lib.hid (And.intro ha (And.intro hi (And.intro hj (And.intro hC (And.intro hu hv)))))
 rw [hC,hu] at s3
 rw [hC,hv] at t3
 rw [hC] at c1 hC4
 have e1:IntKind.i64.wrap ((i:Int) * (C:Int))=(u:Int):=by rw [← Int.natCast_mul,hu,IntKind.wrap_i64];omega
 have e2:IntKind.i64.wrap ((j:Int) * (C:Int))=(v:Int):=by rw [← Int.natCast_mul,hv,IntKind.wrap_i64];omega
 have la:=zg c1
 clear hA ha hi hj hC hu hv hX
 go_enter func88,ntmps88
 go_wp2_with fail
 go_loopw [10] (fun s wr=>∃ k:Nat,k≤C∧s = .int .i64 (k:Int)∧Ext w wr∧Hid (zdm a i j k)) (fun s _=>C - (intOf s).toNat)
 case atStart=>exact ⟨0,Nat.zero_le _,rfl,by simp [go_sem],fun t ht=>absurd ht (Nat.not_lt_zero _)⟩
 case round =>
  obtain ⟨k,hk,rfl,hX,HK⟩:=hrel
  obtain ⟨os,d,rfl⟩:=hX.more
  clear hX
  by_cases hlt:k < C
  ·have hlt':(k:Int) < (C:Int):=by omega
   obtain ⟨ha,hi,hj,hC,hu,hv⟩:=HF.out
   obtain ⟨p,hp⟩:∃ p,u+k=p:=⟨_,rfl⟩
   obtain ⟨q,hq⟩:∃ q,v+k=q:=⟨_,rfl⟩
   have e3:IntKind.i64.wrap ((u:Int)+(k:Int))=(p:Int):=by rw [IntKind.wrap_i64];omega
   have e4:IntKind.i64.wrap ((v:Int)+(k:Int))=(q:Int):=by rw [IntKind.wrap_i64];omega
   have hkC:k < a.C:=by omega
   obtain ⟨r1,r2,_⟩:=zcN ha HA.out hi hkC
   obtain ⟨r3,_⟩:=zcN ha HA.out hj hkC
   rw [hC,hu,hp] at r1
   rw [hC,hv,hq] at r3
   obtain ⟨x,b,off,hx,hxo,rfl,hxat⟩:=HA.out.at r1
   obtain ⟨x0,x1,x2,x3,x4,x5⟩:=hxat
   obtain ⟨y,b',off',hy,hyo,e,hyat⟩:=HA.out.at r3
   obtain ⟨rfl,rfl⟩:=aI e
   obtain ⟨y0,y1,y2,y3,y4,y5⟩:=hyat
   have hbl:b < w.heap.size:=zg x0
   have gx:zk (zG a i) k=x:=by rw [zfP a i hkC,hC,hu,hp];unfold zk;rw [hx];rfl
   have gy:zk (zG a j) k=y:=by rw [zfP a j hkC,hC,hv,hq];unfold zk;rw [hy];rfl
   have hwf:=(zi.1 ha).2.2.2.2
   have hord:=fun W=>zic x y W (hwf x (List.mem_of_getElem? hx)) (hwf y (List.mem_of_getElem? hy))
   have hcap:=HA.out.cap
   by_cases hz:zv x y=0
   ·have HK2:Hid (zdm a i j (k+1)):=HK.out.succ (by rw [gx,gy];exact hz)
    rw [hz] at hord
    clear hz gx gy hwf hx hy hxo hyo ha hi hj hC hu hv hp hq hkC HK
    go_upto_region 4 with fail
    refine plP [(0,0),(1,0),(2,0),(3,0),(4,0),(5,0),(6,0),(7,0),(8,0),(9,0),(10,0),(11,0),(12,0),(13,0),(14,0),(15,0),(16,0),(17,0),(18,0),(19,0),(20,1),(21,0)] [] (by kernel_rfl) (fun _ _ d _ _ h=>by cases d <;> exact h) ?_
    iterate 20 (apply rdP rfl rfl;(intros;go_simp;first | done | rfl);try simp only [zq])
    (refine zh rfl ?_ (fun K hK=>?_);rfl;go_simp;refine aM (hord _) fun os1 d1=>?_;refine hK _ _ ?_ ?_;(simp [go_sem]))
    try simp only [zq]
    (apply rdP rfl rfl;(intros;go_simp;first | done | rfl))
    try simp only [zq]
    refine zj ?_
    go_wp2_with fail
    exact ⟨⟨k+1,by omega,by go_num,by simp [go_sem],HK2⟩,by simp [intOf];omega⟩
   ·have HR:Hid (zv x y=X):=by show _=_;rw [← HX.out,zoQ hkC HK.out (by rw [gx,gy];exact hz),gx,gy]
    have hz':(zv x y != 0)=true:=by simpa using hz
    generalize zv x y=z at *
    clear hz gx gy hwf hx hy hxo hyo ha hi hj hC hu hv hp hq hkC HK
    go_upto_region 4 with fail
    refine plP [(0,0),(1,0),(2,0),(3,0),(4,0),(5,0),(6,0),(7,0),(8,0),(9,0),(10,0),(11,0),(12,0),(13,0),(14,0),(15,0),(16,0),(17,0),(18,0),(19,0),(20,1),(21,0)] [] (by kernel_rfl) (fun _ _ d _ _ h=>by cases d <;> exact h) ?_
    iterate 20 (apply rdP rfl rfl;(intros;go_simp;first | done | rfl);try simp only [zq])
    (refine zh rfl ?_ (fun K hK=>?_);rfl;go_simp;refine aM (hord _) fun os1 d1=>?_;refine hK _ _ ?_ ?_;(simp [go_sem]))
    try simp only [zq]
    (apply rdP rfl rfl;(intros;go_simp;first | done | rfl))
    try simp only [zq]
    refine zj ?_
    go_wp2_with fail
    go_ret
    exact ⟨by rw [HR.out];rfl,by simp [go_sem]⟩
  ·have hlt':¬ (k:Int) < (C:Int):=by omega
   have HR:Hid ((0:Int)=X):=by
    show _=_
    rw [← HX.out]
    obtain ⟨ha,hi,hj,hC,hu,hv⟩:=HF.out
    have:=HK.out
    rw [show k=a.C by omega] at this
    exact (zkX this).symm
   clear HK
   go_wp2_with fail
   go_ret
   exact ⟨by rw [← HR.out];rfl,by simp [go_sem]⟩
theorem zoR (a:NA) (b off n cap i j c1 c2:Nat) (w:World) (hA:ArrIn w (some ⟨b,off,none⟩) n cap a.l) (ha:a.right) (hi:i < a.R) (hj:j < a.R) (hc1:a.C≤c1) (hc2:a.C≤c2) :
  Tl prog 104 #[.slice (some ⟨b,off+i * a.C * 6,none⟩) a.C c1,.slice (some ⟨b,off+j * a.C * 6,none⟩) a.C c2] w (.bool (decide (zaJ (zG a i) (zG a j)=0))):=by
 obtain ⟨X,hX⟩:∃ X,decide (zaJ (zG a i) (zG a j)=0)=X:=⟨_,rfl⟩
 rw [hX]
 have HX:=Lib.hid hX
 have hC4:a.C≤4096:=Nat.le_trans (Nat.le_mul_of_pos_left a.C (zi.1 ha).1) (zi.1 ha).2.2.1
 obtain ⟨C,hC⟩:∃ C,a.C=C:=⟨_,rfl⟩
 obtain ⟨u,hu⟩:∃ u,off+i * C * 6=u:=⟨_,rfl⟩
 obtain ⟨v,hv⟩:∃ v,off+j * C * 6=v:=⟨_,rfl⟩
 have HA:=Lib.hid hA
 have HF:=Lib.hid (And.intro ha (And.intro hi (And.intro hj (And.intro hC (And.intro hu hv)))))
 rw [hC,hu,hv]
 rw [hC] at hC4 hc1 hc2
 clear hA ha hi hj hC hu hv hX
 go_enter func104,ntmps104
 go_wp2_with fail
 go_loopw [5] (fun s wr=>∃ k:Nat,k≤C∧s = .int .i64 (k:Int)∧Ext w wr∧Hid (zdm a i j k)) (fun s _=>C - (intOf s).toNat)
 case atStart=>exact ⟨0,Nat.zero_le _,rfl,by simp [go_sem],fun t ht=>absurd ht (Nat.not_lt_zero _)⟩
 case round =>
  obtain ⟨k,hk,rfl,hX,HK⟩:=hrel
  obtain ⟨os,d,rfl⟩:=hX.more
  clear hX
  by_cases hlt:k < C
  ·have hlt':(k:Int) < (C:Int):=by omega
   obtain ⟨ha,hi,hj,hC,hu,hv⟩:=HF.out
   have hkC:k < a.C:=by omega
   obtain ⟨r1,r2,_⟩:=zcN ha HA.out hi hkC
   obtain ⟨r3,_⟩:=zcN ha HA.out hj hkC
   rw [hC] at r1 r3
   obtain ⟨x,bx,ox,hx,hxo,e,hxat⟩:=HA.out.at r1
   obtain ⟨rfl,rfl⟩:=aI e
   obtain ⟨y,b',off',hy,hyo,e,hyat⟩:=HA.out.at r3
   obtain ⟨rfl,rfl⟩:=aI e
   have ex:off+(i * C+k) * 6=u+k * 6:=by rw [Nat.add_mul];omega
   have ey:off+(j * C+k) * 6=v+k * 6:=by rw [Nat.add_mul];omega
   rw [ex] at hxat
   rw [ey] at hyat
   obtain ⟨x0,x1,x2,x3,x4,x5⟩:=hxat
   obtain ⟨y0,y1,y2,y3,y4,y5⟩:=hyat
   have hbl:b < w.heap.size:=zg x0
   have gx:zk (zG a i) k=x:=by rw [zfP a i hkC,hC];unfold zk;rw [hx];rfl
   have gy:zk (zG a j) k=y:=by rw [zfP a j hkC,hC];unfold zk;rw [hy];rfl
   have hwf:=(zi.1 ha).2.2.2.2
   have hord:=fun W=>zdZ x y W (hwf x (List.mem_of_getElem? hx)) (hwf y (List.mem_of_getElem? hy))
   by_cases hz:zv x y=0
   ·have HK2:Hid (zdm a i j (k+1)):=HK.out.succ (by rw [gx,gy];exact hz)
    rw [hz] at hord
    clear hz gx gy hwf hx hy hxo hyo ha hi hj hC hu hv hkC HK ex ey r1 r2 r3
    go_upto_region 4 with fail
    refine plP [(0,0),(1,0),(2,0),(3,0),(4,0),(5,0),(6,0),(7,0),(8,1),(9,0)] [] (by kernel_rfl) (fun _ _ d _ _ h=>by cases d <;> exact h) ?_
    iterate 8 (apply rdP rfl rfl;(intros;go_simp;first | done | rfl);try simp only [zq])
    (refine zh rfl ?_ (fun K hK=>?_);rfl;go_simp;refine aM (hord _) fun os1 d1=>?_;refine hK _ _ ?_ ?_;(simp [go_sem]))
    try simp only [zq]
    (apply rdP rfl rfl;(intros;go_simp;first | done | rfl))
    try simp only [zq]
    refine zj ?_
    go_wp2_with fail
    exact ⟨⟨k+1,by omega,by go_num,by simp [go_sem],HK2⟩,by simp [intOf];omega⟩
   ·have HR:Hid (X=false):=by show _=_;rw [← HX.out,zoQ hkC HK.out (by rw [gx,gy];exact hz),gx,gy];exact decide_eq_false hz
    have hz':(zv x y != 0)=true:=by simpa using hz
    generalize zv x y=z at *
    clear hz gx gy hwf hx hy hxo hyo ha hi hj hC hu hv hkC HK ex ey r1 r2 r3
    go_upto_region 4 with fail
    refine plP [(0,0),(1,0),(2,0),(3,0),(4,0),(5,0),(6,0),(7,0),(8,1),(9,0)] [] (by kernel_rfl) (fun _ _ d _ _ h=>by cases d <;> exact h) ?_
    iterate 8 (apply rdP rfl rfl;(intros;go_simp;first | done | rfl);try simp only [zq])
    (refine zh rfl ?_ (fun K hK=>?_);rfl;go_simp;refine aM (hord _) fun os1 d1=>?_;refine hK _ _ ?_ ?_;(simp [go_sem]))
    try simp only [zq]
    (apply rdP rfl rfl;(intros;go_simp;first | done | rfl))
    try simp only [zq]
    refine zj ?_
    go_wp2_with fail
    go_ret
    exact ⟨zaK HR.out.symm,by simp [go_sem]⟩
  ·have hlt':¬ (k:Int) < (C:Int):=by omega
   have HR:Hid (X=true):=by
    show _=_
    rw [← HX.out]
    obtain ⟨ha,hi,hj,hC,hu,hv⟩:=HF.out
    have:=HK.out
    rw [show k=a.C by omega] at this
    exact decide_eq_true (zkX this)
   clear HK
   go_wp2_with fail
   go_ret
   exact ⟨zaK HR.out.symm,by simp [go_sem]⟩
end Go.Proofs.YtkoidgbgoccgmaaGreatDoor
namespace Go.Proofs.YtkoidgbgoccgmaaGreatDoor
open Tryz
open Go.RowKit
structure Part (a b:Nat) (D D':List Nat):Prop where
 len:D'.length=D.length
 lo:D'.take a=D.take a
 hi:D'.drop b=D.drop b
theorem Part.refl (a b:Nat) (D:List Nat):Part a b D D:=⟨rfl,rfl,rfl⟩
theorem Part.trans {a b:Nat} {D D' D2:List Nat} (h:Part a b D D') (k:Part a b D' D2):Part a b D D2:=⟨k.len.trans h.len,k.lo.trans h.lo,k.hi.trans h.hi⟩
theorem Part.mono {a b a' b':Nat} {D D':List Nat} (h:Part a b D D') (ha:a'≤a) (hb:b≤b'):Part a' b' D D':=by
 refine ⟨h.len,?_,?_⟩
 ·have:∀ E:List Nat,E.take a'=(E.take a).take a':=fun E=>by rw [List.take_take,Nat.min_eq_left ha]
  rw [this D',this D,h.lo]
 ·have:∀ E:List Nat,E.drop b'=(E.drop b).drop (b' - b):=fun E=>by rw [List.drop_drop];congr 1;omega
  rw [this D',this D,h.hi]
theorem Part.seg_lo {a b lo hi:Nat} {D D':List Nat} (h:Part a b D D') (hh:hi≤a):seg D' lo hi=seg D lo hi:=by
 unfold seg
 have:∀ E:List Nat,E.take hi=(E.take a).take hi:=fun E=>by rw [List.take_take,Nat.min_eq_left hh]
 rw [this D',this D,h.lo]
theorem Part.seg_hi {a b lo hi:Nat} {D D':List Nat} (h:Part a b D D') (hh:b≤lo):seg D' lo hi=seg D lo hi:=by
 unfold seg
 rw [List.drop_take,List.drop_take]
 have:∀ E:List Nat,E.drop lo=(E.drop b).drop (lo - b):=fun E=>by rw [List.drop_drop];congr 1;omega
 rw [this D',this D,h.hi]
theorem Part.of_mid {pre Z Z' post:List Nat} {a b:Nat} (ha:a=pre.length) (hl:Z'.length=Z.length) (hb:b=pre.length+Z.length):Part a b (pre++(Z++post)) (pre++(Z'++post)):=by
 subst ha hb
 refine ⟨by simp [hl],by simp,?_⟩
 have e1:(pre++(Z'++post)).drop (pre.length+Z.length)=post:=by
  rw [← List.append_assoc,← hl,← List.length_append,List.drop_left]
 have e2:(pre++(Z++post)).drop (pre.length+Z.length)=post:=by
  rw [← List.append_assoc,← List.length_append,List.drop_left]
 rw [e1,e2]
structure Mrg (lt:Nat→Nat→Bool) (a b:Nat) (D D':List Nat):Prop where
 part:Part a b D D'
 perm:(seg D' a b).Perm (seg D a b)
 sorted:(seg D' a b).Pairwise (Lx lt)
theorem zaQ {D:List Nat} {a b:Nat} (h:b≤a):seg D a b=[]:=by
 unfold seg;rw [List.drop_eq_nil_of_le (by rw [List.length_take];omega)]
theorem zfR {D:List Nat} {a s:Nat} (ha:a < s) (hs:s≤D.length):(seg D a s).getLast? = D[s - 1]?:=by
 rw [List.getLast?_eq_getElem?,zbb hs]
 unfold seg
 rw [List.getElem?_drop,List.getElem?_take,if_pos (by omega)]
 congr 1;omega
theorem zfS {D:List Nat} {e b:Nat} (h:e < b):(seg D e b).head? = D[e]?:=by
 rw [List.head?_eq_getElem?]
 unfold seg
 rw [List.getElem?_drop,List.getElem?_take,if_pos (by omega)];rfl
theorem zb9 {D:List Nat} {a b j x:Nat} (h:D[j]? = some x) (h1:a≤j) (h2:j < b):x∈seg D a b:=by
 refine List.mem_of_getElem? (i:=j - a) ?_
 unfold seg
 rw [List.getElem?_drop,List.getElem?_take,if_pos (by omega),← h]
 congr 1;omega
theorem zgx {D:List Nat} {a b a' b' x:Nat} (ha:a≤a') (hb:b'≤b) (h:x∈seg D a' b'):x∈seg D a b:=by
 obtain ⟨i,hi⟩:=List.mem_iff_getElem?.1 h
 unfold seg at hi
 rw [List.getElem?_drop,List.getElem?_take] at hi
 split at hi
 ·exact zb9 hi (by omega) (by omega)
 ·cases hi
section
variable {lt:Nat→Nat→Bool} (h:Swo lt)
include h
theorem zlC {D:List Nat} {a m b s e mid:Nat} (h1:a≤s) (h2:s≤m) (h3:m≤e) (h4:e≤b) (h5:b≤D.length) (hmid:mid=s+(e - m))
  (hX:(seg D a m).Pairwise (Lx lt)) (hY:(seg D m b).Pairwise (Lx lt)) (hxy:∀ x∈seg D a m,∀ y∈seg D m b,x < y)
  (b1:s=a∨e=b∨∃ u v,D[e]? = some u∧D[s - 1]? = some v∧lt u v=false)
  (b2:s=m∨e=m∨∃ u v,D[e - 1]? = some u∧D[s]? = some v∧lt u v=true)
  {D1:List Nat} (hD1:D1=D.take s++(seg D m e++(seg D s m++D.drop e))) :
  Part a b D D1∧seg D1 a s=seg D a s∧seg D1 s mid=seg D m e∧seg D1 mid e=seg D s m∧seg D1 e b=seg D e b∧∀ u∈seg D1 a mid,∀ v∈seg D1 mid b,Lx lt u v:=by
 have hse:D=D.take s++((seg D s m++seg D m e)++D.drop e):=by
  rw [← zav h2 h3];exact zeK (by omega)
 have l1:(D.take s).length=s:=by rw [List.length_take];omega
 have l2:(seg D m e).length=e - m:=zbb (by omega)
 have l3:(seg D s m).length=m - s:=zbb (by omega)
 have e1:seg D1 a s=seg D a s:=by
  unfold seg;rw [hD1,List.take_append_of_le_length (by omega),List.take_of_length_le (by omega)]
 have e2:seg D1 s mid=seg D m e:=by rw [hD1];exact zgw (by omega) (by omega)
 have e3:seg D1 mid e=seg D s m:=by
  rw [hD1,← List.append_assoc]
  exact zgw (by rw [List.length_append];omega) (by rw [List.length_append];omega)
 have hp:Part s e D D1:=by
  rw [hD1]
  have:=Part.of_mid (pre:=D.take s) (Z:=seg D s m++seg D m e) (Z':=seg D m e++seg D s m) (post:=D.drop e) (a:=s) (b:=e) (by omega) (by simp;omega) (by rw [List.length_append];omega)
  rw [← hse,List.append_assoc] at this
  exact this
 have e4:seg D1 e b=seg D e b:=hp.seg_hi (Nat.le_refl _)
 refine ⟨hp.mono h1 h4,e1,e2,e3,e4,?_⟩
 rw [zav h1 (show s≤mid by omega),zav (show mid≤e by omega) h4,e1,e2,e3,e4]
 rw [zav h1 h2] at hX
 rw [zav h3 h4] at hY
 refine zlA h hX hY ?_ ?_
 ·intro x hx y hy
  rcases b1 with b1 | b1 | ⟨u,v,hu,hv,hl⟩
  ·rw [zaQ (by omega)] at hx;cases hx
  ·rw [zaQ (by omega)] at hy;cases hy
  ·have ha:a < s:=by
    rcases Nat.lt_or_ge a s with ha | ha
    ·exact ha
    ·rw [zaQ ha] at hx;cases hx
   have hb:e < b:=by
    rcases Nat.lt_or_ge e b with hb | hb
    ·exact hb
    ·rw [zaQ hb] at hy;cases hy
   rw [zfR ha (by omega),hv] at hx
   rw [zfS hb,hu] at hy
   obtain rfl:v=x:=by simpa using hx
   obtain rfl:u=y:=by simpa using hy
   exact Lx.of_not (hxy _ (zb9 hv (by omega) (by omega)) _ (zb9 hu (by omega) (by omega))) hl
 ·intro y hy x hx
  rcases b2 with b2 | b2 | ⟨u,v,hu,hv,hl⟩
  ·rw [zaQ (by omega)] at hx;cases hx
  ·rw [zaQ (by omega)] at hy;cases hy
  ·have ha:m < e:=by
    rcases Nat.lt_or_ge m e with ha | ha
    ·exact ha
    ·rw [zaQ ha] at hy;cases hy
   have hb:s < m:=by
    rcases Nat.lt_or_ge s m with hb | hb
    ·exact hb
    ·rw [zaQ hb] at hx;cases hx
   rw [zfR ha (by omega),hu] at hy
   rw [zfS hb,hv] at hx
   obtain rfl:u=y:=by simpa using hy
   obtain rfl:v=x:=by simpa using hx
   exact Or.inl hl
omit h in
theorem znq {D D1 D2 D3:List Nat} {a mid b:Nat} (h1:a≤mid) (h2:mid≤b) (hp:Part a b D D1) (hq:(seg D1 a b).Perm (seg D a b))
  (hc:∀ u∈seg D1 a mid,∀ v∈seg D1 mid b,Lx lt u v) (m1:Mrg lt a mid D1 D2) (m2:Mrg lt mid b D2 D3):Mrg lt a b D D3:=by
 have s1:seg D3 a mid=seg D2 a mid:=m2.part.seg_lo (Nat.le_refl _)
 have s2:seg D2 mid b=seg D1 mid b:=m1.part.seg_hi (Nat.le_refl _)
 have p1:=m1.perm
 have p2:=m2.perm
 rw [s2] at p2
 refine ⟨hp.trans ((m1.part.mono (Nat.le_refl _) h2).trans (m2.part.mono h1 (Nat.le_refl _))),?_,?_⟩
 ·refine List.Perm.trans ?_ hq
  rw [zav h1 h2,zav (D:=D1) h1 h2,s1]
  exact p1.append p2
 ·rw [zav h1 h2,s1,List.pairwise_append]
  exact ⟨m1.sorted,m2.sorted,fun u hu v hv=>hc u (p1.mem_iff.1 hu) v (p2.mem_iff.1 hv)⟩
omit h in
theorem Mrg.of_sorted {D:List Nat} {a b:Nat} (hs:(seg D a b).Pairwise (Lx lt)):Mrg lt a b D D:=⟨Part.refl _ _ _,List.Perm.refl _,hs⟩
end
end Go.Proofs.YtkoidgbgoccgmaaGreatDoor
