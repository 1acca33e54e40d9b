/- What the rows' proofs lean on: the contracts of the functions that they reach, and plain facts (part C5). -/
import Derived.Test.YtinjdacijiohiaaGreatDoorC4
set_option linter.unusedSimpArgs false
set_option linter.unusedVariables false
set_option maxRecDepth 100000
set_option maxHeartbeats 4000000
namespace Go.Proofs.YtinjdacijiohiaaGreatDoor
open _root_.Go.Proofs.Tryz
open Go.RowKit NM
theorem zp4 (W) (a b c:Array Obj) (x y z d):more W (((a.push x++b).push y++c).push z) d=more W (a.push x++((b.push y++c).push z)) d:=by
 congr 1
 apply Array.ext'
 simp
theorem zp5:zl 1=(1,0):=by unfold zl;rw[zea (m:=1) (e:=0) zcP];rfl
theorem zkn {xs:List Ar} {k a} (ha:xs[k]? = some a):zs (xs.take (k+1))=zs (xs.take k)++a.x.l:=by
 rw[List.take_add_one,ha];simp[zs]
theorem zcg {w A n cap xs} (h:ArgsIn w A n cap xs):∀ x∈zs xs,x.right:=by
 intro x hx;obtain⟨a,ha,hx⟩:=List.mem_flatMap.1 hx;exact(zC.1 (h.all a ha).right).2.2.2.2 x hx
theorem zgz (A n cap xs w) (h:ArgsIn w A n cap xs) (hn:n<=100) :
  Calls prog 90 #[.slice A n cap] w λe w'=>∃ D m c,e = .returned (.slice D m c)∧ArrN w.heap.size w' D m c (zs xs)∧m<=409600∧Ext w w':=by
 obtain⟨i0,hi0,hz0,hz1,hz2⟩:=info_parts zcn;have H:=Lib.hid h;have HL:=Lib.hid h.len;have hR:=Lib.hid (zcg h);clear h;go_enter func90,ntmps90;go_wp2_with fail;go_loopw [3,8] (λv i wr=>∃ k:Nat,k<=n∧i = .int .i64 (k:Int)∧(zs (xs.take k)).length<=k*4096∧Hid (wr.ownsRow w.heap.size 38 6 v (zs (xs.take k)).length (zJ (zs (xs.take k))))∧Ext w wr) (λ_ i _=>n-(intOf i).toNat)
 case atStart=>exact⟨0,Nat.zero_le _,rfl,Nat.zero_le _,World.ownsRow_nil _ _ _ _,Ext.refl _⟩
 case round=>
  obtain⟨k,hk,rfl,hle,HW,hxr⟩:=hrel;have hsz:=hxr.size;by_cases hlt:k<n
  ·obtain⟨R,C,l,b1,off1,n1,cap1,b,off,x,ha,rfl,⟨v0,v1,v2⟩,hn1,hc1,_,_,_,hbl,_,_,_,harr,_⟩:=H.out.first hlt;obtain⟨r1,r2,r3,r4,_⟩:=zC.1 (H.out.all _ (List.mem_of_getElem? ha)).right;have hln:=harr.len;have hcap:=H.out.cap;simp only at v0 v1 v2 r3 r4;replace v0:=hxr.cell_some v0;replace v1:=hxr.cell_some v1;replace v2:=hxr.cell_some v2;replace hbl:=za v0;have hle1:n1<=4096:=by omega
   have hrd:=(harr.rd:Rd 0 w _ (zJ l)).ext hxr;have HS:=Lib.hid (zkn ha);have hlen:(zJ l).length=n1*6:=by rw[zdu,hln]
   have HLN:=Lib.hid hln;clear ha r3 r4 harr hln;generalize hO:zs (xs.take k)=O at *;go_wp2_with (at_builtin;refine wpList_append_own _ rfl _ _ _ rfl w.heap.size 38 i0 (VV 0 0 0 ⟨#[]⟩ false 0) 6 56 Tryz.underlying25 hi0 hz0 hz1 hz2 rfl (by decide) _ O.length (zJ O) rfl (zL HW.out (by simp[go_sem])) _ n1 _ (zJ l) rfl hlen (λj u hu=>(hrd.ext (by simp[go_sem])).add j u hu) zeH (by simp only[maxLen];omega) (by omega) (by simp;omega) ?_;intro v4 w4 ho4 hg4 _);have hx4:=za2 (hxr.trans (by simp[go_sem])) (zL HW.out (by simp[go_sem])) hg4;refine⟨⟨k+1,by omega,by go_num,?_,?_,hx4⟩,by simp[intOf];omega⟩
   ·rw[HS.out,List.length_append,HLN.out];omega
   ·show World.ownsRow _ _ _ _ _ _ _;rw[HS.out,zcM,List.length_append,HLN.out];exact ho4
  ·obtain rfl:k=n:=by omega
   have htk:xs.take k=xs:=by rw[<-HL.out];exact List.take_length
   rw[htk] at hle HW;obtain⟨D,c,rfl,hrd,hc⟩:=Rd.of_own HW.out;go_wp2_with fail;exact rt1 rfl rfl ⟨_,_,_,rfl,⟨hrd,rfl,hc,by omega,λy hy=>(hR.out y hy).ok⟩,by omega,hxr⟩
structure NmIn (w:World) (A:Option Addr) (n cap:Nat) (l:List Nm):Prop where
 rd:Rd 0 w A (zN l)
 len:l.length=n
 cap:n<=cap
 small:n<=9223372036854775807
 rt:NRt l
theorem NmIn.ext {w w' A n cap l} (h:NmIn w A n cap l) (hx:Ext w w'):NmIn w' A n cap l:=⟨h.rd.ext hx,h.len,h.cap,h.small,h.rt⟩
theorem NmIn.at {w A n cap l} (h:NmIn w A n cap l) {k} (hk:k<n) :
  ∃ p b off,l[k]? = some p∧Rt p.1 p.2∧A=some ⟨b,off,none⟩∧w.cell? ⟨b,off+k*2,none⟩=some (.int .i64 p.1)∧w.cell? ⟨b,off+k*2+1,none⟩=some (.int .i64 p.2):=by
 have hl:k<l.length:=by rw[h.len];exact hk
 have hk':l[k]? = some l[k]:=List.getElem?_eq_getElem hl;obtain⟨h0,h1⟩:=zfA l k _ hk';obtain⟨b,off,rfl,_,e0⟩:=h.rd _ _ h0;obtain⟨b',off',he,_,e1⟩:=h.rd _ _ h1;obtain⟨rfl,rfl⟩:=aI he;exact⟨_,b,off,hk',h.rt _ (List.mem_of_getElem? hk'),rfl,e0,e1⟩
theorem Nms.in {base w v l} (h:Nms base w v l) (hs:l.length<=9223372036854775807) (hr:NRt l):∃ A c,v = .slice A l.length c∧NmIn w A l.length c l:=by
 obtain⟨D,c,rfl,hrd,hc⟩:=Rd.of_own h;exact⟨D,c,rfl,hrd.mono (Nat.zero_le _),rfl,hc,hs,hr⟩
theorem zb4 {l} (h:∀ x∈l,x.right):NRt (zu l):=by
 induction l with
 | nil=>intro p hp;cases hp
 | cons v l ih=>
  intro p hp;unfold zu at hp;by_cases h1:v.kind=1
  ·rw[if_pos h1] at hp;rcases List.mem_cons.1 hp with rfl | hp
   ·exact(h v (by simp)).rt h1
   ·exact ih (λx hx=>h x (by simp[hx])) p hp
  ·rw[if_neg h1] at hp;exact ih (λx hx=>h x (by simp[hx])) p hp
theorem zjM {l t u} (ht:Rt t.1 t.2) (h:zbC t l=some u):Rt u.1 u.2:=by
 induction l generalizing t with
 | nil=>cases h;exact ht
 | cons n l ih=>
  unfold zbC at h;cases ha:addS t.1 t.2 n.1 n.2 with
  | none=>rw[ha] at h;cases h
  | some z=>rw[ha,Option.bind_some] at h;exact ih (zdS ha) h
theorem zfh {a b c d} {p:Int×Int} (h:mulS a b c d=some p):Rt p.1 p.2:=by
 unfold mulS at h;split at h
 ·exact rnd_right h
 ·cases h
theorem zjN {l t u} (ht:Rt t.1 t.2) (h:zbD t l=some u):Rt u.1 u.2:=by
 induction l generalizing t with
 | nil=>cases h;exact ht
 | cons n l ih=>
  unfold zbD at h;cases ha:mulS t.1 t.2 n.1 n.2 with
  | none=>rw[ha] at h;cases h
  | some z=>rw[ha,Option.bind_some] at h;exact ih (zfh ha) h
theorem zfi {l:List Nm} {k p} (h:l[k]? = some p):l.drop k=p::l.drop (k+1):=by
 obtain⟨hl,rfl⟩:=List.getElem?_eq_some_iff.1 h;exact List.drop_eq_getElem_cons hl
theorem zlQ (A n cap l w) (htab:Tab w) (h:NmIn w A n cap l) :
  Tl prog 92 #[.slice A n cap] w (.tuple #[NV (rm (zbC (0,0) l)) (re (zbC (0,0) l)),.bool (zbC (0,0) l).isSome]):=by
 have HT:=Lib.hid htab;have H:=Lib.hid h;have HL:=Lib.hid h.len;have hsm:=h.small;have hcap:=h.cap;clear htab h;generalize hR:zbC (0,0) l=r at *;have HR:=Lib.hid hR;clear hR;go_enter func92,ntmps92;go_wp2_with fail;go_loopw [12] (λi wr=>∃ (k:Nat) (m ex:Int) (os:Array Obj) (d:Nat),k<=n∧i = .int .i64 (k:Int)∧wr=more ((w.alloc (Obj.cells #[.int .i64 0,.int .i64 0] 36)).alloc (Obj.cells #[.int .i64 m,.int .i64 ex] 36)) os d∧Hid (zbC (m,ex) (l.drop k)=r)∧Hid (Rt m ex)) (λi _=>n-(intOf i).toNat)
 case atStart=>exact⟨0,_,_,#[],_,Nat.zero_le _,rfl,(zc6 _).symm,HR.out,zcY⟩
 case round=>
  obtain⟨k,m,ex,os,d,hk,rfl,rfl,HD,HI⟩:=hrel;by_cases hlt:k<n
  ·obtain⟨p,b,off,hp,hpr,rfl,c0,c1⟩:=H.out.at hlt;have hbl:=za c0;have hd:=HD.out;rw[zfi hp] at hd;unfold zbC at hd;simp only at hd;obtain⟨pm,pe⟩:=p;simp only at c0 c1 hd;have hop:=λW h=>zhC m ex pm pe W h (zF HI.out) (zF hpr);cases hs:addS m ex pm pe with
   | none=>
    rw[hs] at hop hd;simp only[rnV,rm,re,Option.getD_none,Option.isSome_none,Option.bind_none] at hop hd;subst hd;clear hs hp hpr HD HI HR;go_wp2_with (go_at_call 100;with_reducible refine aM (hop _ (HT.out.ext (by simp[go_sem]))) λos d=>?_);exact rct (v:=NV 0 0) rfl rfl (by simp[go_sem]) ⟨rfl,by simp[go_sem]⟩
   | some q=>
    obtain⟨qm,qe⟩:=q;have HQ:=Lib.hid (zdS hs);rw[hs] at hop hd;simp only[rnV,rm,re,Option.getD_some,Option.isSome_some,Option.bind_some] at hop hd;have HD2:=Lib.hid hd;clear hs hp hpr HD HI HR hd;go_wp2_with (go_at_call 100;with_reducible refine aM (hop _ (HT.out.ext (by simp[go_sem]))) λos d=>?_);exact⟨⟨k+1,qm,qe,_,_,by omega,by go_num,(by(try simp only[zcF,zc,zj,zh]);first | rfl | exact zp4 _ _ _ _ _ _ _ _),HD2,HQ⟩,by simp[intOf];omega⟩
  ·obtain rfl:k=n:=by omega
   have hd:=HD.out;rw[List.drop_eq_nil_of_le (by rw[HL.out];exact Nat.le_refl _)] at hd;unfold zbC at hd;subst hd;clear HD HI HR;go_wp2_with fail;exact rct (v:=NV m ex) rfl rfl (by simp[go_sem]) ⟨rfl,by simp[go_sem]⟩
theorem zgT (A n cap l w) (htab:Tab w) (h:NmIn w A n cap l) :
  Tl prog 94 #[.slice A n cap] w (.tuple #[NV (rm (zbD (1,0) l)) (re (zbD (1,0) l)),.bool (zbD (1,0) l).isSome]):=by
 have HT:=Lib.hid htab;have H:=Lib.hid h;have HL:=Lib.hid h.len;have hsm:=h.small;have hcap:=h.cap;have hw1:=λW h=>zeg 1 W h (by decide);rw[zp5] at hw1;clear htab h;generalize hR:zbD (1,0) l=r at *;have HR:=Lib.hid hR;clear hR;go_enter func94,ntmps94;go_wp2_with (go_at_call 96;with_reducible refine aM (hw1 _ (HT.out.ext (by simp[go_sem]))) λosw dw=>?_);go_loopw [12] (λi wr=>∃ (k:Nat) (m ex:Int) (os:Array Obj) (d:Nat),k<=n∧i = .int .i64 (k:Int)∧wr=more ((more (w.alloc (Obj.cells #[.int .i64 0,.int .i64 0] 36)) osw dw).alloc (Obj.cells #[.int .i64 m,.int .i64 ex] 36)) os d∧Hid (zbD (m,ex) (l.drop k)=r)∧Hid (Rt m ex)) (λi _=>n-(intOf i).toNat)
 case atStart=>exact⟨0,_,_,#[],_,Nat.zero_le _,rfl,(zc6 _).symm,HR.out,zcP⟩
 case round=>
  obtain⟨k,m,ex,os,d,hk,rfl,rfl,HD,HI⟩:=hrel;by_cases hlt:k<n
  ·obtain⟨p,b,off,hp,hpr,rfl,c0,c1⟩:=H.out.at hlt;have hbl:=za c0;have hd:=HD.out;rw[zfi hp] at hd;unfold zbD at hd;simp only at hd;obtain⟨pm,pe⟩:=p;simp only at c0 c1 hd;have hop:=λW h=>zhD m ex pm pe W h (zF HI.out) (zF hpr);cases hs:mulS m ex pm pe with
   | none=>
    rw[hs] at hop hd;simp only[rnV,rm,re,Option.getD_none,Option.isSome_none,Option.bind_none] at hop hd;subst hd;clear hs hp hpr HD HI HR;go_wp2_with (go_at_call 119;with_reducible refine aM (hop _ (HT.out.ext (by simp[go_sem]))) λos d=>?_);exact rct (v:=NV 0 0) rfl rfl (by simp[go_sem]) ⟨rfl,by simp[go_sem]⟩
   | some q=>
    obtain⟨qm,qe⟩:=q;have HQ:=Lib.hid (zfh hs);rw[hs] at hop hd;simp only[rnV,rm,re,Option.getD_some,Option.isSome_some,Option.bind_some] at hop hd;have HD2:=Lib.hid hd;clear hs hp hpr HD HI HR hd;go_wp2_with (go_at_call 119;with_reducible refine aM (hop _ (HT.out.ext (by simp[go_sem]))) λos d=>?_);exact⟨⟨k+1,qm,qe,_,_,by omega,by go_num,(by(try simp only[zcF,zc,zj,zh]);first | rfl | exact zp4 _ _ _ _ _ _ _ _),HD2,HQ⟩,by simp[intOf];omega⟩
  ·obtain rfl:k=n:=by omega
   have hd:=HD.out;rw[List.drop_eq_nil_of_le (by rw[HL.out];exact Nat.le_refl _)] at hd;unfold zbD at hd;subst hd;clear HD HI HR;go_wp2_with fail;exact rct (v:=NV m ex) rfl rfl (by simp[go_sem]) ⟨rfl,by simp[go_sem]⟩
theorem zgA (A n cap l w) (htab:Tab w) (h:NmIn w A n cap l) :
  Tl prog 31 #[.slice A n cap] w (VV (sumV l).kind (sumV l).mant (sumV l).exp (sumV l).text (sumV l).truth (sumV l).fault):=by
 have hs:=λW (hT:Tab W) (hN:NmIn W A n cap l)=>zlQ A n cap l W hT hN;have ht:=λW=>zeA (zbC (0,0) l) W;have HT:=Lib.hid htab;have H:=Lib.hid h;clear htab h;unfold sumV;generalize zbC (0,0) l=r at *;generalize zo r=y at *;go_enter func31,ntmps31;go_wp2_with (first | (go_at_call 92;with_reducible refine aM (hs _ (HT.out.ext (by simp[go_sem])) (H.out.ext (by simp[go_sem]))) λos1 d1=>?_) | (go_at_call 91;with_reducible refine aM (ht _) λos2 d2=>?_));exact rc1 rfl rfl (by simp[go_sem]) ⟨rfl,by simp[go_sem]⟩
theorem zlR (A n cap l w) (htab:Tab w) (h:NmIn w A n cap l) :
  Tl prog 32 #[.slice A n cap] w (VV (prodV l).kind (prodV l).mant (prodV l).exp (prodV l).text (prodV l).truth (prodV l).fault):=by
 have hs:=λW (hT:Tab W) (hN:NmIn W A n cap l)=>zgT A n cap l W hT hN;have ht:=λW=>zeA (zbD (1,0) l) W;have HT:=Lib.hid htab;have H:=Lib.hid h;have hsm:=h.small;have hl:=h.len;clear htab h;unfold prodV;rw[hl];clear hl;by_cases h0:n=0
 ·subst h0;rw[if_pos rfl];show Calls _ _ _ w λe w'=>e = .returned (VV 1 0 0 ⟨#[]⟩ false 0)∧Ext w w';go_enter func32,ntmps32;go_wp2_with (first | (go_at_call 93;with_reducible refine aM (zcQ _ _ _) λos d=>?_));exact rc1 rfl rfl (by simp[go_sem]) ⟨rfl,by simp[go_sem]⟩
 ·rw[if_neg h0];have h0':((n:Int)==0)=false:=by simpa using h0
  clear h0;generalize zbD (1,0) l=r at *;generalize zo r=y at *;go_enter func32,ntmps32;go_wp2_with (first | (go_at_call 94;with_reducible refine aM (hs _ (HT.out.ext (by simp[go_sem])) (H.out.ext (by simp[go_sem]))) λos1 d1=>?_) | (go_at_call 91;with_reducible refine aM (ht _) λos2 d2=>?_));exact rc1 rfl rfl (by simp[go_sem]) ⟨rfl,by simp[go_sem]⟩
def zhJ (w:World) (fid:FuncId) (capt:Array Value) (q:Val->Bool):Prop:=
 ∀ x W,Low w W->x.right->Calls prog fid (#[VV x.kind x.mant x.exp x.text x.truth x.fault]++capt) W λe W'=>e = .returned (.bool (q x))∧Ext W W'
theorem zmE {l:List Val} {k x} (q:Val->Bool) (hx:l[k]? = some x):((l.take (k+1)).filter q).length=((l.take k).filter q).length+if q x then 1 else 0:=by
 rw[List.take_add_one,hx,List.filter_append,List.length_append];congr 1
 cases h:q x <;> simp[h]
theorem zgB {w W} (h:Ext w W):Low w W:=λb hb=>h.block hb
theorem zfj (A n cap xs fid capt) (q:Val->Bool) (p w) (htab:Tab w) (h:ArgsIn w A n cap xs) (hn:n<=100) (hp:w.cell? ⟨p,0,none⟩=some (.func (.func fid) #[] capt)) (hq:zhJ w fid capt q) (hent:∀ (args:Array Value) (W:World),(callFunc fid args).run prog W = .ok (.enter fid args) W) :
  Calls prog 95 #[.slice A n cap,.pointer (some ⟨p,0,none⟩)] w λe w'=>zbB w (zdh q (zs xs)) e w':=by
 have hR:=Lib.hid (zcg h);have HT:=Lib.hid htab;have H:=Lib.hid h;have HQ:=Lib.hid hq;have hpl:=za hp;have hall:=λW (hW:ArgsIn W A n cap xs)=>zgz A n cap xs W hW hn;obtain⟨X,hX⟩:∃ X,zdh q (zs xs)=X:=⟨_,rfl⟩;rw[hX];have HX:=Lib.hid hX;clear htab h hq hX;go_enter func95,ntmps95;go_upto_region 3 with(go_at_call 90;(with_reducible refine(hall _ (H.out.ext (by simp[go_sem]))).mono ?_);rintro e w' ⟨D,m,c,rfl,hN,hm,hb⟩;have harr:=hN.arr;obtain⟨os1,d1,rfl⟩:=hb.more;clear hb hN);clear hall;have hlen:=Lib.hid harr.len;have hle:∀ k,((((zs xs).take k).filter q).length:Int)<=m:=λk=>by
  have h1:=List.length_filter_le q ((zs xs).take k);have h2:=hlen.out;rw[List.length_take] at h1;omega
 have hcapm:=harr.cap;have HA:=Lib.hid harr;clear harr;go_loopw [4,10] (λc i wr=>∃ k:Nat,k<=m∧i = .int .i64 (k:Int)∧c = .int .i64 ((((zs xs).take k).filter q).length:Int)∧Ext (more (w.alloc (Obj.cells #[.int .i64 0,.int .i64 0,.slice none 0 0] 27)) os1 d1) wr) (λ_ i _=>m-(intOf i).toNat)
 case atStart=>exact⟨0,Nat.zero_le _,rfl,rfl,Ext.refl _⟩
 case round=>
  obtain⟨k,hk,rfl,rfl,hxr⟩:=hrel;by_cases hlt:k<m
  ·obtain⟨x,b,off,hx,hxo,rfl,hat⟩:=HA.out.at hlt;obtain⟨v0,v1,v2,v3,v4,v5⟩:=hat.ext hxr;have hbl:=za v0;have hxR:=hR.out x (List.mem_of_getElem? hx);have HS:=Lib.hid (zmE q hx);have hle1:=hle (k+1);rw[HS.out] at hle1;have hpc:wr.cell? ⟨p,0,none⟩=some (.func (.func fid) #[] capt):=hxr.cell_some ((show Ext w _ from by simp[go_sem]).cell_some hp);have hpl2:=za hpc;have hx0:Ext w wr:=(show Ext w _ from by simp[go_sem]).trans hxr;have hcall:=λW (hW:Ext w W)=>HQ.out x W (zgB hW) hxR;clear hx hxR hat hp hpl;generalize ((zs xs).take k).filter q=F at *;cases hqx:q x with
   | true=>
    rw[hqx] at hcall hle1 HS;rw[if_pos rfl] at hle1;go_wp2_with (refine aM (hcall _ (hx0.trans (by simp[go_sem]))) λos2 d2=>?_);refine⟨⟨k+1,by omega,by go_num,?_,hxr.trans (by simp[go_sem])⟩,by simp[intOf];omega⟩;rw[HS.out];simp
   | false=>
    rw[hqx] at hcall hle1 HS;go_wp2_with (refine aM (hcall _ (hx0.trans (by simp[go_sem]))) λos2 d2=>?_);refine⟨⟨k+1,by omega,by go_num,?_,hxr.trans (by simp[go_sem])⟩,by simp[intOf];omega⟩;rw[HS.out];simp
  ·obtain rfl:k=m:=by omega
   have htk:(zs xs).take k=zs xs:=by rw[<-hlen.out];exact List.take_length
   have hlk:=hle k;rw[htk] at hlk⊢;have hXo:=HX.out;unfold zdh at hXo;have hz0:(0:Int)<=(((zs xs).filter q).length:Int):=by omega
   generalize (((zs xs).filter q).length:Int)=z at *;have hz:z.natAbs<T 15:=by have:T 15=1000000000000000:=(by decide);omega
   have hwh:=λW h=>zeg z W h hz;have hone:∀ W,Calls prog 56 #[VV 1 (zl z).1 (zl z).2 ⟨#[]⟩ false 0] W (zbB W X):=λW=>by rw[<-hXo];exact zdT (zdJ z) W (zua hz) (zfT hz)
   obtain⟨os,d,rfl⟩:=hxr.more;clear hxr hXo HX hlk hle hz hz0;generalize (zl z).1=m1 at *;generalize (zl z).2=e1 at *;go_wp2_with (first | (go_at_call 96;with_reducible refine aM (hwh _ (HT.out.ext (by simp[go_sem]))) λos2 d2=>?_) | (go_at_call 93;with_reducible refine aM (zcQ _ _ _) λos3 d3=>?_) | (go_at_call 56;with_reducible refine aR (hone _) λD2 m2 cc2 os5 d5 hD=>?_;have hDr:=hD.rd));exact rc1 (v:=AV X.R X.C (.slice D2 m2 cc2)) rfl rfl (by simp[go_sem]) (by(try simp only[zc,zj,zh,Array.append_assoc] at hDr);exact raS hDr hD (by simp <;> omega) (by simp[go_sem]))
theorem zgC (f) (hf:1<=f∧f<=9) (w):Calls prog 19 #[.int .i64 f] w λe w'=>zbB w (zT f) e w':=by
 refine(zd7 f w).mono ?_;rintro e w' ⟨h1,h2⟩;have hb:zx f=zz f:=by unfold zx zE;rw[if_neg (by omega)]
 refine zdH.res (x:=zT f) ?_ (by simp[zT,zaj]) (λy hy=>by rw[show y=zx f by simpa[zT,zaj] using hy];exact zpC f) h2;show zdH w.heap.size w' e 1 1 [zx f];rw[hb];exact h1
abbrev zc5 (w:World) (X:NA):Ending->World->Prop:=λe w'=>∃ D m cc,e = .returned (.tuple #[AV X.R X.C (.slice D m cc),.bool true])∧ArrIn w' D m cc X.l∧Ext w w'
def GA.toAr (g:GA):Ar:=⟨⟨g.r.toNat,g.c.toNat,g.l⟩,g.A,g.n,g.cap⟩
def zK (gs:List GA):List Ar:=gs.map GA.toAr
theorem zlS {g} (h:g.right=true):(GA.toAr g).toG=g∧(GA.toAr g).x.right:=by
 have h':zA g.r g.c g.l=true:=h;obtain⟨R,C,e1,e2⟩:=zlK h';obtain⟨r,c,A,n,cap,l⟩:=g;simp only at e1 e2 h';subst e1 e2;exact⟨rfl,h'⟩
theorem zX {w A n cap gs} (h:ArgsG w A n cap gs) (hr:∀ g∈gs,g.right=true):ArgsIn w A n cap (zK gs):=by
 have e:(zK gs).map Ar.toG=gs:=by
  unfold zK;rw[List.map_map];conv=>rhs;rw[<-List.map_id gs]
  exact List.map_congr_left λg hg=>(zlS (hr g hg)).1
 refine ArgsG.toIn (xs:=zK gs) (by rw[e];exact h) λa ha=>?_;obtain⟨g,hg,rfl⟩:=List.mem_map.1 ha;exact(zlS (hr g hg)).2
theorem zhK {w A cap n xs} (h:ArgsIn w A n cap xs) (h1:1<=n) (h2:n<=1):∃ a,xs=[a]∧n=1∧zI xs 0=a.x:=by
 have hl:=h.len;obtain rfl:n=1:=by omega
 obtain⟨a,rfl⟩:=List.length_eq_one_iff.1 hl;exact⟨a,rfl,rfl,rfl⟩
theorem zp6 {xs} : zK (xs.map Ar.toG)=xs:=by
 unfold zK;rw[List.map_map];conv=>rhs;rw[<-List.map_id xs]
 refine List.map_congr_left λa _=>?_;obtain⟨⟨R,C,l⟩,A,n,cap⟩:=a;rfl
theorem zrR {lo hi} {xs:List Ar} (F) (h1:lo<=xs.length) (h2:xs.length<=hi) (hr:∀ a∈xs,a.x.right):zS lo hi (xs.map Ar.toG) F=F:=by
 unfold zS;rw[if_neg (by rw[List.length_map];omega),if_pos];rw[List.all_eq_true];intro g hg;obtain⟨a,ha,rfl⟩:=List.mem_map.1 hg;exact hr a ha
theorem zfk {w W} (h:Low w W) {p v} (hp:w.cell? p=some v):W.cell? p=some v:=by
 rw[<-hp];exact World.cell?_of_block (h _ (za hp))
theorem zeh {x} (hx:x.right):(zaf x).2.right:=by
 unfold zaf;split
 ·split
  ·exact zon _
  ·exact hx
 ·exact hx
theorem zgD {w p1 p2} {c:CS} {s} (h:CritAt w p1 p2 c s) (hs:s.right):zhJ w 169 #[.pointer (some ⟨p1,0,none⟩),.pointer (some ⟨p2,0,none⟩)] (zbQ c s):=by
 intro x W hl hx;have hf:=λV=>zpW c x s V hx hs;obtain⟨h1,h2,h3,h4,h5,h6,h7⟩:=h;replace h1:=zfk hl h1;replace h2:=zfk hl h2;replace h3:=zfk hl h3;replace h4:=zfk hl h4;replace h5:=zfk hl h5;replace h6:=zfk hl h6;replace h7:=zfk hl h7;have l1:=za h1;have l2:=za h2;generalize zbQ c s x=r at *;generalize c.str=cs at *;clear hl hx hs;show Calls prog 169 #[VV x.kind x.mant x.exp x.text x.truth x.fault,.pointer (some ⟨p1,0,none⟩),.pointer (some ⟨p2,0,none⟩)] W _;go_enter func169,ntmps169;go_wp2_with (first | (go_at_call 170;with_reducible refine aM (hf _) λos d=>?_));exact rt1 rfl rfl ⟨rfl,by simp[go_sem]⟩
def zdi (xs:List Ar):NA:=if(zaR xs 1).kind=4 then zT (zaR xs 1).fault else zdh (zbQ (zaf (zaR xs 1)).1 (zaf (zaR xs 1)).2) (zI xs 0).l
theorem ArgsIn.one {w A n cap a xs} (h:ArgsIn w A n cap (a::xs)):ArgsIn w A 1 cap [a]:=by
 refine⟨λj u hu=>h.rd j u ?_,rfl,by have:=h.len;have:=h.cap;simp at *;omega,by omega,λb hb=>h.all b (by rw[List.mem_singleton.1 hb];simp)⟩;have e:zcR (a::xs)=zcR [a]++zcR xs:=by simp[zcR]
 rw[e,List.getElem?_append_left (List.getElem?_eq_some_iff.1 hu).1];exact hu
theorem zrS (a):zs [a]=a.x.l:=by simp[zs]
theorem zlT (A n cap xs w) (htab:Tab w) (hft:zbT w) (h:ArgsIn w A n cap xs) (hn:n=2) :
  Calls prog 46 #[.slice A n cap] w λe w'=>zbB w (zdi xs) e w':=by
 subst hn;obtain⟨R,C,l,b1,off1,n1,cap1,b,off,x,ha,rfl,⟨v0,v1,v2⟩,hn1,hc1,⟨y0,y1,y2,y3,y4,y5⟩,hgv,hxr,hbl,hb1,hav,_,_,_⟩:=h.first (k:=1) (by omega);have hcap:=h.cap;simp only[Nat.one_mul] at v0 v1 v2;obtain⟨a,xs',rfl⟩:∃ a xs',xs=a::xs':=by
  cases xs with
  | nil=>have:=h.len;simp at this
  | cons a xs'=>exact⟨a,xs',rfl⟩
 have hone:=h.one;have h0:zI (a::xs') 0=a.x:=rfl;obtain⟨X,hX⟩:∃ X,zdi (a::xs')=X:=⟨_,rfl⟩;rw[hX];unfold zdi at hX;rw[hav,h0] at hX;have HT:=Lib.hid htab;have HF:=Lib.hid hft;have H1:=Lib.hid hone;clear h hone htab hft ha hgv hav h0;by_cases h4:x.kind=4
 ·rw[if_pos h4] at hX;have hcb:=λW=>zgS x W h4;have hfa:=λW=>zaT x.fault W;rw[hX] at hfa;have hne:(x.fault != 0)=true:=by have:=(zbG hxr).2.2.2 h4;simp;omega
  clear hX h4 hxr;go_enter func46,ntmps46;go_wp2_with (first | (go_at_call 107;with_reducible refine aM (hcb _) λos1 d1=>?_) | (go_at_call 16;with_reducible refine aR (hfa _) λD2 m2 cc2 os5 d5 hD=>?_;have hDr:=hD.rd));exact rc1 (v:=AV X.R X.C (.slice D2 m2 cc2)) rfl rfl (by simp[go_sem]) (by(try simp only[zc,zj,zh,Array.append_assoc] at hDr);exact raS hDr hD (by simp <;> omega) (by simp[go_sem]))
 ·rw[if_neg h4] at hX;have hcr:=λW hW=>zdy x W hxr h4 hW;have hcnt:=λW hT hA p q hp hq=>zfj (some ⟨b,off,none⟩) 1 cap [a] 169 q (zbQ (zaf x).1 (zaf x).2) p W hT hA (by decide) hp hq (λargs W=>by go_simp);rw[zrS,hX] at hcnt;have hsr:=zeh hxr;have hcapI:(1:Int)<=(cap:Int):=by omega
  clear hX h4 hxr;go_enter func46,ntmps46;go_upto_region 4 with(first | (go_at_call 107;(with_reducible refine(hcr _ (HF.out.ext (by simp[go_sem]))).mono ?_);rintro e w' ⟨p1,p2,rfl,hc,hp1,hp2,hb⟩;obtain⟨os1,d1,rfl⟩:=hb.more;clear hb));refine plP [(0,0),(2,0),(3,0),(1,1),(4,1),(5,2)] [5] (by kernel_rfl) (λ_ _ d _ _ h=>by cases d <;> exact h) ?_;iterate 3(apply rdP rfl rfl;(intros;go_simp;first | done | rfl);try simp only[zq])
  (refine zg rfl ?_ (λK hK=>?_);rfl;go_simp;refine(zhY _ _ _).mono ?_;rintro e w' ⟨rfl,rfl⟩;refine hK _ _ ?_ ?_;(simp[go_sem]))
  try simp only[zq]
  (refine zg rfl ?_ (λK hK=>?_);rfl;go_simp;refine(hcnt _ ?_ ?_ _ #[.pointer (some ⟨p1,0,none⟩),.pointer (some ⟨p2,0,none⟩)] ?_ ?_).mono ?_;exact HT.out.ext (by simp[go_sem]);exact H1.out.ext (by simp[go_sem]);go_simp;exact zgD (hc.ext (by simp[go_sem])) hsr;rintro e w' ⟨D2,m2,cc2,rfl,hD,hb⟩;obtain⟨os5,d5,rfl⟩:=hb.more;clear hb;have hDr:=hD.rd;refine hK _ _ ?_ ?_;(simp[go_sem]))
  try simp only[zq]
  (refine zU rfl ?_ (λK hK=>?_);rfl;go_simp;refine hK _ _ ?_)
  try simp only[Act.put]
  refine zi ?_;go_wp2_with fail;exact rc1 (v:=AV X.R X.C (.slice D2 m2 cc2)) rfl rfl (by simp[go_sem]) (by(try simp only[zc,zj,zh,Array.append_assoc] at hDr);exact raS hDr hD (by simp <;> omega) (by simp[go_sem]))
def nbV (x y:Val):Value:=
 if tnF x≠0 then .tuple #[NV 0 0,NV 0 0,.int .i64 (tnF x)] else if tnF y≠0 then .tuple #[NV 0 0,NV 0 0,.int .i64 (tnF y)] else .tuple #[NV (tnP x).1 (tnP x).2,NV (tnP y).1 (tnP y).2,.int .i64 0]
theorem zds (x y w) (hx:x.right) (hy:y.right) :
  Tl prog 237 #[VV x.kind x.mant x.exp x.text x.truth x.fault,VV y.kind y.mant y.exp y.text y.truth y.fault] w (nbV x y):=by
 have h1:=λW=>zdg x W hx;have h2:=λW=>zdg y W hy;unfold nbV;simp only[tnV] at h1 h2;generalize tnP x=p at *;generalize tnP y=q at *;generalize tnF x=f at *;generalize tnF y=g at *;obtain⟨p1,p2⟩:=p;obtain⟨q1,q2⟩:=q;simp only at h1 h2⊢;generalize x.kind=k at *;generalize x.mant=m at *;generalize x.exp=ex at *;generalize x.text=t at *;generalize x.truth=b at *;generalize x.fault=fl at *;generalize y.kind=k' at *;generalize y.mant=m' at *;generalize y.exp=ex' at *;generalize y.text=t' at *;generalize y.truth=b' at *;generalize y.fault=fl' at *;clear hx hy;by_cases hf:f=0
 ·subst hf;rw[if_neg (show ¬ ((0:Int)≠0) from λh=>h rfl)];by_cases hg:g=0
  ·subst hg;rw[if_neg (show ¬ ((0:Int)≠0) from λh=>h rfl)];go_enter func237,ntmps237;go_upto_region 7 with(go_at_call 111;first | (with_reducible refine aM (h1 _) λos1 d1=>?_) | (with_reducible refine aM (h2 _) λos2 d2=>?_));go_region
   all_goals
    go_wp2_with fail;exact bodyPost_ret (v:=.tuple #[NV p1 p2,NV q1 q2,.int .i64 0]) (by simp[results,results237,go_sem]) rfl ⟨rfl,by simp[go_sem]⟩
  ·rw[if_pos hg];have q0:(g != 0)=true:=by simpa using hg
   go_enter func237,ntmps237;go_wp2_with (go_at_call 111;first | (with_reducible refine aM (h1 _) λos1 d1=>?_) | (with_reducible refine aM (h2 _) λos2 d2=>?_));exact bodyPost_ret (v:=.tuple #[NV 0 0,NV 0 0,.int .i64 g]) (by simp[results,results237,go_sem]) rfl ⟨rfl,by simp[go_sem]⟩
 ·rw[if_pos hf];have q0:(f != 0)=true:=by simpa using hf
  go_enter func237,ntmps237;go_wp2_with (go_at_call 111;(with_reducible refine aM (h1 _) λos1 d1=>?_));exact bodyPost_ret (v:=.tuple #[NV 0 0,NV 0 0,.int .i64 f]) (by simp[results,results237,go_sem]) rfl ⟨rfl,by simp[go_sem]⟩
theorem zti (m e w) :
  Calls prog 238 #[NV m e,.bool false] w λr w'=>r = .returned (VV 4 0 0 ⟨#[]⟩ false 5)∧Ext w w':=by
 have hbad:=λW=>zV 5 W;rw[show zE 5=5 by decide] at hbad;go_enter func238,ntmps238;go_wp2_with (go_at_call 57;with_reducible refine aM (hbad _) λos d=>?_);exact rc1 rfl rfl (by simp[go_sem]) ⟨rfl,by simp[go_sem]⟩
theorem zrT (m e w) :
  Calls prog 238 #[NV m e,.bool true] w λr w'=>r = .returned (VV 1 m e ⟨#[]⟩ false 0)∧Ext w w':=by
 have hof:=λW=>zcQ m e W;go_enter func238,ntmps238;go_wp2_with (go_at_call 93;with_reducible refine aM (hof _) λos d=>?_);exact rc1 rfl rfl (by simp[go_sem]) ⟨rfl,by simp[go_sem]⟩
theorem zcU (r:Option (Int×Int)) (w) :
  Tl prog 238 #[NV (rm r) (re r),.bool r.isSome] w (VV (zo r).kind (zo r).mant (zo r).exp (zo r).text (zo r).truth (zo r).fault):=by
 cases r with
 | none=>exact zti _ _ w
 | some p=>exact zrT _ _ w
def zkR (fid:FuncId) (F:Int->Int->Int->Int->Option (Int×Int)):Prop:=
 ∀ a b c d W,Tab W->I64 a->I64 c->Calls prog fid #[NV a b,NV c d] W λe W'=>e = .returned (rnV (F a b c d))∧Ext W W'
theorem zuc:zkR 100 addS:=λa b c d W h h1 h2=>zhC a b c d W h h1 h2
theorem zud:zkR 120 subS:=λa b c d W h h1 h2=>znf a b c d W h h1 h2
theorem zue:zkR 119 mulS:=λa b c d W h h1 h2=>zhD a b c d W h h1 h2
theorem zuf:zkR 97 divS:=λa b c d W h h1 h2=>zf3 a b c d W h h1 h2
theorem zgE (F:Int->Int->Int->Int->Option (Int×Int)) (x y):(tnF x≠0∧nbV x y = .tuple #[NV 0 0,NV 0 0,.int .i64 (tnF x)]∧zad F x y=zx (tnF x))∨(tnF x=0∧tnF y≠0∧nbV x y = .tuple #[NV 0 0,NV 0 0,.int .i64 (tnF y)]∧zad F x y=zx (tnF y))∨(tnF x=0∧tnF y=0∧nbV x y = .tuple #[NV (tnP x).1 (tnP x).2,NV (tnP y).1 (tnP y).2,.int .i64 0]∧zad F x y=zo (F (tnP x).1 (tnP x).2 (tnP y).1 (tnP y).2)):=by
 unfold nbV zad;by_cases h1:tnF x=0
 ·by_cases h2:tnF y=0
  ·exact Or.inr (Or.inr ⟨h1,h2,by simp[h1,h2],by simp[h1,h2]⟩)
  ·exact Or.inr (Or.inl ⟨h1,h2,by simp[h1,h2],by simp[h1,h2]⟩)
 ·exact Or.inl ⟨h1,by simp[h1],by simp[h1]⟩
theorem zlU (x y w) (htab:Tab w) (hx:x.right) (hy:y.right) :
  Tl prog 236 #[VV x.kind x.mant x.exp x.text x.truth x.fault,VV y.kind y.mant y.exp y.text y.truth y.fault,.func (.func 100) #[] #[]] w (VV (zad addS x y).kind (zad addS x y).mant (zad addS x y).exp (zad addS x y).text (zad addS x y).truth (zad addS x y).fault):=by
 have hnb:=λW=>zds x y W hx hy;have HT:=Lib.hid htab;clear htab;rcases zgE addS x y with⟨h1,h2,h3⟩ | ⟨h0,h1,h2,h3⟩ | ⟨h0,h1,h2,h3⟩
 ·rw[h3];rw[h2] at hnb;have hbad:=λW=>zV (tnF x) W;have q0:(tnF x != 0)=true:=by simpa using h1
  generalize tnF x=f at *;simp only[zx,zz];clear h1 h2 h3 hx hy;generalize x.kind=xk at *;generalize x.mant=xm at *;generalize x.exp=xe at *;generalize x.text=xt at *;generalize x.truth=xb at *;generalize x.fault=xf at *;generalize y.kind=yk at *;generalize y.mant=ym at *;generalize y.exp=ye at *;generalize y.text=yt at *;generalize y.truth=yb at *;generalize y.fault=yf at *;go_enter func236,ntmps236;go_wp2_with (first | (go_at_call 237;with_reducible refine aM (hnb _) λos d=>?_) | (go_at_call 57;with_reducible refine aM (hbad _) λos d=>?_));exact rc1 rfl rfl (by simp[go_sem]) ⟨rfl,by simp[go_sem]⟩
 ·rw[h3];rw[h2] at hnb;have hbad:=λW=>zV (tnF y) W;have q0:(tnF y != 0)=true:=by simpa using h1
  generalize tnF y=f at *;simp only[zx,zz];clear h0 h1 h2 h3 hx hy;generalize x.kind=xk at *;generalize x.mant=xm at *;generalize x.exp=xe at *;generalize x.text=xt at *;generalize x.truth=xb at *;generalize x.fault=xf at *;generalize y.kind=yk at *;generalize y.mant=ym at *;generalize y.exp=ye at *;generalize y.text=yt at *;generalize y.truth=yb at *;generalize y.fault=yf at *;go_enter func236,ntmps236;go_wp2_with (first | (go_at_call 237;with_reducible refine aM (hnb _) λos d=>?_) | (go_at_call 57;with_reducible refine aM (hbad _) λos d=>?_));exact rc1 rfl rfl (by simp[go_sem]) ⟨rfl,by simp[go_sem]⟩
 ·rw[h3];rw[h2] at hnb;have hfn:=λW hW=>zuc (tnP x).1 (tnP x).2 (tnP y).1 (tnP y).2 W hW (zR (zay hx)).1 (zR (zay hy)).1;have htd:=λW=>zcU (addS (tnP x).1 (tnP x).2 (tnP y).1 (tnP y).2) W;generalize addS (tnP x).1 (tnP x).2 (tnP y).1 (tnP y).2=R at *;generalize (tnP x).1=a at *;generalize (tnP x).2=b at *;generalize (tnP y).1=c at *;generalize (tnP y).2=d at *;generalize zo R=z at *;simp only[rnV] at hfn;clear h0 h1 h2 h3 hx hy;generalize x.kind=xk at *;generalize x.mant=xm at *;generalize x.exp=xe at *;generalize x.text=xt at *;generalize x.truth=xb at *;generalize x.fault=xf at *;generalize y.kind=yk at *;generalize y.mant=ym at *;generalize y.exp=ye at *;generalize y.text=yt at *;generalize y.truth=yb at *;generalize y.fault=yf at *;generalize z.kind=zk at *;generalize z.mant=zm at *;generalize z.exp=ze at *;generalize z.text=zt at *;generalize z.truth=zb at *;generalize z.fault=zf at *;go_enter func236,ntmps236;go_wp2_with (first | (go_at_call 237;with_reducible refine aM (hnb _) λos d=>?_) | (go_at_call 100;with_reducible refine aM (hfn _ (HT.out.ext (by simp[go_sem]))) λos d=>?_) | (go_at_call 238;with_reducible refine aM (htd _) λos d=>?_));exact rc1 rfl rfl (by simp[go_sem]) ⟨rfl,by simp[go_sem]⟩
theorem zlV (x y w) (htab:Tab w) (hx:x.right) (hy:y.right) :
  Tl prog 236 #[VV x.kind x.mant x.exp x.text x.truth x.fault,VV y.kind y.mant y.exp y.text y.truth y.fault,.func (.func 120) #[] #[]] w (VV (zad subS x y).kind (zad subS x y).mant (zad subS x y).exp (zad subS x y).text (zad subS x y).truth (zad subS x y).fault):=by
 have hnb:=λW=>zds x y W hx hy;have HT:=Lib.hid htab;clear htab;rcases zgE subS x y with⟨h1,h2,h3⟩ | ⟨h0,h1,h2,h3⟩ | ⟨h0,h1,h2,h3⟩
 ·rw[h3];rw[h2] at hnb;have hbad:=λW=>zV (tnF x) W;have q0:(tnF x != 0)=true:=by simpa using h1
  generalize tnF x=f at *;simp only[zx,zz];clear h1 h2 h3 hx hy;generalize x.kind=xk at *;generalize x.mant=xm at *;generalize x.exp=xe at *;generalize x.text=xt at *;generalize x.truth=xb at *;generalize x.fault=xf at *;generalize y.kind=yk at *;generalize y.mant=ym at *;generalize y.exp=ye at *;generalize y.text=yt at *;generalize y.truth=yb at *;generalize y.fault=yf at *;go_enter func236,ntmps236;go_wp2_with (first | (go_at_call 237;with_reducible refine aM (hnb _) λos d=>?_) | (go_at_call 57;with_reducible refine aM (hbad _) λos d=>?_));exact rc1 rfl rfl (by simp[go_sem]) ⟨rfl,by simp[go_sem]⟩
 ·rw[h3];rw[h2] at hnb;have hbad:=λW=>zV (tnF y) W;have q0:(tnF y != 0)=true:=by simpa using h1
  generalize tnF y=f at *;simp only[zx,zz];clear h0 h1 h2 h3 hx hy;generalize x.kind=xk at *;generalize x.mant=xm at *;generalize x.exp=xe at *;generalize x.text=xt at *;generalize x.truth=xb at *;generalize x.fault=xf at *;generalize y.kind=yk at *;generalize y.mant=ym at *;generalize y.exp=ye at *;generalize y.text=yt at *;generalize y.truth=yb at *;generalize y.fault=yf at *;go_enter func236,ntmps236;go_wp2_with (first | (go_at_call 237;with_reducible refine aM (hnb _) λos d=>?_) | (go_at_call 57;with_reducible refine aM (hbad _) λos d=>?_));exact rc1 rfl rfl (by simp[go_sem]) ⟨rfl,by simp[go_sem]⟩
 ·rw[h3];rw[h2] at hnb;have hfn:=λW hW=>zud (tnP x).1 (tnP x).2 (tnP y).1 (tnP y).2 W hW (zR (zay hx)).1 (zR (zay hy)).1;have htd:=λW=>zcU (subS (tnP x).1 (tnP x).2 (tnP y).1 (tnP y).2) W;generalize subS (tnP x).1 (tnP x).2 (tnP y).1 (tnP y).2=R at *;generalize (tnP x).1=a at *;generalize (tnP x).2=b at *;generalize (tnP y).1=c at *;generalize (tnP y).2=d at *;generalize zo R=z at *;simp only[rnV] at hfn;clear h0 h1 h2 h3 hx hy;generalize x.kind=xk at *;generalize x.mant=xm at *;generalize x.exp=xe at *;generalize x.text=xt at *;generalize x.truth=xb at *;generalize x.fault=xf at *;generalize y.kind=yk at *;generalize y.mant=ym at *;generalize y.exp=ye at *;generalize y.text=yt at *;generalize y.truth=yb at *;generalize y.fault=yf at *;generalize z.kind=zk at *;generalize z.mant=zm at *;generalize z.exp=ze at *;generalize z.text=zt at *;generalize z.truth=zb at *;generalize z.fault=zf at *;go_enter func236,ntmps236;go_wp2_with (first | (go_at_call 237;with_reducible refine aM (hnb _) λos d=>?_) | (go_at_call 120;with_reducible refine aM (hfn _ (HT.out.ext (by simp[go_sem]))) λos d=>?_) | (go_at_call 238;with_reducible refine aM (htd _) λos d=>?_));exact rc1 rfl rfl (by simp[go_sem]) ⟨rfl,by simp[go_sem]⟩
theorem zlW (x y w) (htab:Tab w) (hx:x.right) (hy:y.right) :
  Tl prog 236 #[VV x.kind x.mant x.exp x.text x.truth x.fault,VV y.kind y.mant y.exp y.text y.truth y.fault,.func (.func 119) #[] #[]] w (VV (zad mulS x y).kind (zad mulS x y).mant (zad mulS x y).exp (zad mulS x y).text (zad mulS x y).truth (zad mulS x y).fault):=by
 have hnb:=λW=>zds x y W hx hy;have HT:=Lib.hid htab;clear htab;rcases zgE mulS x y with⟨h1,h2,h3⟩ | ⟨h0,h1,h2,h3⟩ | ⟨h0,h1,h2,h3⟩
 ·rw[h3];rw[h2] at hnb;have hbad:=λW=>zV (tnF x) W;have q0:(tnF x != 0)=true:=by simpa using h1
  generalize tnF x=f at *;simp only[zx,zz];clear h1 h2 h3 hx hy;generalize x.kind=xk at *;generalize x.mant=xm at *;generalize x.exp=xe at *;generalize x.text=xt at *;generalize x.truth=xb at *;generalize x.fault=xf at *;generalize y.kind=yk at *;generalize y.mant=ym at *;generalize y.exp=ye at *;generalize y.text=yt at *;generalize y.truth=yb at *;generalize y.fault=yf at *;go_enter func236,ntmps236;go_wp2_with (first | (go_at_call 237;with_reducible refine aM (hnb _) λos d=>?_) | (go_at_call 57;with_reducible refine aM (hbad _) λos d=>?_));exact rc1 rfl rfl (by simp[go_sem]) ⟨rfl,by simp[go_sem]⟩
 ·rw[h3];rw[h2] at hnb;have hbad:=λW=>zV (tnF y) W;have q0:(tnF y != 0)=true:=by simpa using h1
  generalize tnF y=f at *;simp only[zx,zz];clear h0 h1 h2 h3 hx hy;generalize x.kind=xk at *;generalize x.mant=xm at *;generalize x.exp=xe at *;generalize x.text=xt at *;generalize x.truth=xb at *;generalize x.fault=xf at *;generalize y.kind=yk at *;generalize y.mant=ym at *;generalize y.exp=ye at *;generalize y.text=yt at *;generalize y.truth=yb at *;generalize y.fault=yf at *;go_enter func236,ntmps236;go_wp2_with (first | (go_at_call 237;with_reducible refine aM (hnb _) λos d=>?_) | (go_at_call 57;with_reducible refine aM (hbad _) λos d=>?_));exact rc1 rfl rfl (by simp[go_sem]) ⟨rfl,by simp[go_sem]⟩
 ·rw[h3];rw[h2] at hnb;have hfn:=λW hW=>zue (tnP x).1 (tnP x).2 (tnP y).1 (tnP y).2 W hW (zR (zay hx)).1 (zR (zay hy)).1;have htd:=λW=>zcU (mulS (tnP x).1 (tnP x).2 (tnP y).1 (tnP y).2) W;generalize mulS (tnP x).1 (tnP x).2 (tnP y).1 (tnP y).2=R at *;generalize (tnP x).1=a at *;generalize (tnP x).2=b at *;generalize (tnP y).1=c at *;generalize (tnP y).2=d at *;generalize zo R=z at *;simp only[rnV] at hfn;clear h0 h1 h2 h3 hx hy;generalize x.kind=xk at *;generalize x.mant=xm at *;generalize x.exp=xe at *;generalize x.text=xt at *;generalize x.truth=xb at *;generalize x.fault=xf at *;generalize y.kind=yk at *;generalize y.mant=ym at *;generalize y.exp=ye at *;generalize y.text=yt at *;generalize y.truth=yb at *;generalize y.fault=yf at *;generalize z.kind=zk at *;generalize z.mant=zm at *;generalize z.exp=ze at *;generalize z.text=zt at *;generalize z.truth=zb at *;generalize z.fault=zf at *;go_enter func236,ntmps236;go_wp2_with (first | (go_at_call 237;with_reducible refine aM (hnb _) λos d=>?_) | (go_at_call 119;with_reducible refine aM (hfn _ (HT.out.ext (by simp[go_sem]))) λos d=>?_) | (go_at_call 238;with_reducible refine aM (htd _) λos d=>?_));exact rc1 rfl rfl (by simp[go_sem]) ⟨rfl,by simp[go_sem]⟩
theorem zp7 {m e} (h : Rt m e) : (zct m e).length ≤ 100 := by
  obtain ⟨b1, b2, b3⟩ := zac h
  have hn : (Lib.decDigits m.natAbs).length ≤ 15 := by
    have := zj3 m.natAbs
    have h1 : (zg3 m.natAbs).size = (Lib.decDigits m.natAbs).length := rfl
    have hnd : nd m.natAbs ≤ 15 := (nd_le_iff _ _).2 (by have : T 15 = 1000000000000000 := (by decide); omega)
    omega
  unfold zct
  rw [List.length_append]
  have h1 : (if m < 0 then [(45 : UInt8)] else []).length ≤ 1 := by split <;> simp
  generalize (if m < 0 then [(45 : UInt8)] else []) = sg at *
  split
  · simp; omega
  · split
    · simp; omega
    · simp; omega
theorem zor {m e} (h:Rt m e):(zd4 m e).size<=100:=by
 unfold zd4;rw[if_pos h];exact zp7 h
theorem zlX (x y w) (htab:Tab w) (hx:x.right) (hy:y.right) (z) (hz:zdp x y=z) :
  Tl prog 213 #[VV x.kind x.mant x.exp x.text x.truth x.fault,VV y.kind y.mant y.exp y.text y.truth y.fault] w (VV z.kind z.mant z.exp z.text z.truth z.fault):=by
 have hnb:=λW=>zds x y W hx hy;have HT:=Lib.hid htab;clear htab;by_cases h1:tnF x=0
 ·by_cases h2:tnF y=0
  ·have hnv:nbV x y = .tuple #[NV (tnP x).1 (tnP x).2,NV (tnP y).1 (tnP y).2,.int .i64 0]:=by unfold nbV;simp[h1,h2]
   rw[hnv] at hnb;have rx:=zay hx;have ry:=zay hy;by_cases h0:(tnP y).1=0
   ·obtain rfl:z=zz 1:=by rw[<-hz];unfold zdp;simp[h1,h2,h0]
    have hbad:=λW=>zV 1 W;rw[show zE 1=1 by decide] at hbad;have q1:((tnP y).1==0)=true:=by simp[h0]
    simp only[zz];clear h1 h2 hnv hz hx hy rx ry h0;generalize (tnP x).1=a at *;generalize (tnP x).2=b at *;generalize (tnP y).1=c at *;generalize (tnP y).2=d at *;generalize x.kind=xk at *;generalize x.mant=xm at *;generalize x.exp=xe at *;generalize x.text=xt at *;generalize x.truth=xb at *;generalize x.fault=xf at *;generalize y.kind=yk at *;generalize y.mant=ym at *;generalize y.exp=ye at *;generalize y.text=yt at *;generalize y.truth=yb at *;generalize y.fault=yf at *;go_enter func213,ntmps213;go_wp2_with (first | (go_at_call 237;with_reducible refine aM (hnb _) λos d=>?_) | (go_at_call 57;with_reducible refine aM (hbad _) λos d=>?_));exact rc1 rfl rfl (by simp[go_sem]) ⟨rfl,by simp[go_sem]⟩
   ·have hzz:z=zo (divS (tnP x).1 (tnP x).2 (tnP y).1 (tnP y).2):=by rw[<-hz];unfold zdp;simp[h1,h2,h0]
    have hfn:=λW hW=>zuf (tnP x).1 (tnP x).2 (tnP y).1 (tnP y).2 W hW (zR rx).1 (zR ry).1;have htd:=λW=>zcU (divS (tnP x).1 (tnP x).2 (tnP y).1 (tnP y).2) W;rw[<-hzz] at htd;have q1:((tnP y).1==0)=false:=by simp[h0]
    clear h1 h2 hnv hz hx hy rx ry h0 hzz;generalize divS (tnP x).1 (tnP x).2 (tnP y).1 (tnP y).2=R at *;generalize (tnP x).1=a at *;generalize (tnP x).2=b at *;generalize (tnP y).1=c at *;generalize (tnP y).2=d at *;simp only[rnV] at hfn;generalize x.kind=xk at *;generalize x.mant=xm at *;generalize x.exp=xe at *;generalize x.text=xt at *;generalize x.truth=xb at *;generalize x.fault=xf at *;generalize y.kind=yk at *;generalize y.mant=ym at *;generalize y.exp=ye at *;generalize y.text=yt at *;generalize y.truth=yb at *;generalize y.fault=yf at *;generalize z.kind=zk at *;generalize z.mant=zm at *;generalize z.exp=ze at *;generalize z.text=zt at *;generalize z.truth=zb at *;generalize z.fault=zf at *;go_enter func213,ntmps213;go_wp2_with (first | (go_at_call 237;with_reducible refine aM (hnb _) λos d=>?_) | (go_at_call 97;with_reducible refine aM (hfn _ (HT.out.ext (by simp[go_sem]))) λos d=>?_) | (go_at_call 238;with_reducible refine aM (htd _) λos d=>?_));exact rc1 rfl rfl (by simp[go_sem]) ⟨rfl,by simp[go_sem]⟩
  ·have hnv:nbV x y = .tuple #[NV 0 0,NV 0 0,.int .i64 (tnF y)]:=by unfold nbV;simp[h1,h2]
   rw[hnv] at hnb;obtain rfl:z=zx (tnF y):=by rw[<-hz];unfold zdp;simp[h1,h2]
   have h1':=h1;clear h1;have h1:tnF y≠0:=h2;have hbad:=λW=>zV (tnF y) W;have q0:(tnF y != 0)=true:=by simpa using h1
   generalize tnF y=f at *;simp only[zx,zz];clear h1 h1' h2 hnv hz hx hy;generalize x.kind=xk at *;generalize x.mant=xm at *;generalize x.exp=xe at *;generalize x.text=xt at *;generalize x.truth=xb at *;generalize x.fault=xf at *;generalize y.kind=yk at *;generalize y.mant=ym at *;generalize y.exp=ye at *;generalize y.text=yt at *;generalize y.truth=yb at *;generalize y.fault=yf at *;go_enter func213,ntmps213;go_wp2_with (first | (go_at_call 237;with_reducible refine aM (hnb _) λos d=>?_) | (go_at_call 57;with_reducible refine aM (hbad _) λos d=>?_));exact rc1 rfl rfl (by simp[go_sem]) ⟨rfl,by simp[go_sem]⟩
 ·have hnv:nbV x y = .tuple #[NV 0 0,NV 0 0,.int .i64 (tnF x)]:=by unfold nbV;simp[h1]
  rw[hnv] at hnb;obtain rfl:z=zx (tnF x):=by rw[<-hz];unfold zdp;simp[h1]
  have hbad:=λW=>zV (tnF x) W;have q0:(tnF x != 0)=true:=by simpa using h1
  generalize tnF x=f at *;simp only[zx,zz];clear h1 hnv hz hx hy;generalize x.kind=xk at *;generalize x.mant=xm at *;generalize x.exp=xe at *;generalize x.text=xt at *;generalize x.truth=xb at *;generalize x.fault=xf at *;generalize y.kind=yk at *;generalize y.mant=ym at *;generalize y.exp=ye at *;generalize y.text=yt at *;generalize y.truth=yb at *;generalize y.fault=yf at *;go_enter func213,ntmps213;go_wp2_with (first | (go_at_call 237;with_reducible refine aM (hnb _) λos d=>?_) | (go_at_call 57;with_reducible refine aM (hbad _) λos d=>?_));exact rc1 rfl rfl (by simp[go_sem]) ⟨rfl,by simp[go_sem]⟩
theorem zko:∀ (k:Nat) (n m:Int),I64 n->zdv n k=some m->I64 m
 | 0,n,m,h,e=>by cases e;exact h
 | k+1,n,m,h,e=>by
  unfold zdv at e;split at e
  ·cases e
  ·exact zko k (n*10) m (by unfold I64;omega) e
theorem zgF {m e n} (h:zbo m e=some n):I64 n:=by
 unfold zbo at h;split at h
 ·cases h
 ·rename_i h1;refine zko _ m n ?_ h;have:Rt m e:=Decidable.byContradiction λh2=>h1 (Or.inl h2);exact(zR this).1
theorem zlY (x y w) (htab:Tab w) (hx:x.right) (hy:y.right) (z) (hz:zcG x y=z) :
  Tl prog 214 #[VV x.kind x.mant x.exp x.text x.truth x.fault,VV y.kind y.mant y.exp y.text y.truth y.fault] w (VV z.kind z.mant z.exp z.text z.truth z.fault):=by
 have hnb:=λW=>zds x y W hx hy;have HT:=Lib.hid htab;clear htab;by_cases h1:tnF x=0
 ·by_cases h2:tnF y=0
  ·have hnv:nbV x y = .tuple #[NV (tnP x).1 (tnP x).2,NV (tnP y).1 (tnP y).2,.int .i64 0]:=by unfold nbV;simp[h1,h2]
   rw[hnv] at hnb;have rx:=zay hx;have ry:=zay hy;have hfl:=λW=>zfw (tnP y).1 (tnP y).2 W (zR ry).1;have hbad5:=λW=>zV 5 W;rw[show zE 5=5 by decide] at hbad5;by_cases h0:zB (tnP y).1 (tnP y).2=tnP y
   ·rw[h0] at hfl;by_cases h3:(tnP x).1=0∧(tnP y).1<0
    ·obtain rfl:z=zz 1:=by rw[<-hz];unfold zcG;simp[h1,h2,h0,h3]
     have hbad:=λW=>zV 1 W;rw[show zE 1=1 by decide] at hbad;simp only[zz];obtain⟨h3,h4⟩:=h3;have q1:((tnP x).1==0)=true:=by simp[h3]
     clear h1 h2 hnv hz hx hy rx ry h0 h3;generalize (tnP x).1=a at *;generalize (tnP x).2=b at *;generalize (tnP y).1=c at *;generalize (tnP y).2=d at *;generalize x.kind=xk at *;generalize x.mant=xm at *;generalize x.exp=xe at *;generalize x.text=xt at *;generalize x.truth=xb at *;generalize x.fault=xf at *;generalize y.kind=yk at *;generalize y.mant=ym at *;generalize y.exp=ye at *;generalize y.text=yt at *;generalize y.truth=yb at *;generalize y.fault=yf at *;go_enter func214,ntmps214;go_upto_region 4 with(go_at_call 237;with_reducible refine aM (hnb _) λos d=>?_);refine plP [(0,0),(2,0),(1,1),(3,0),(4,0)] [] (by kernel_rfl) (λ_ _ d _ _ h=>by cases d <;> exact h) ?_;iterate 2(apply rdP rfl rfl;(intros;go_simp;first | done | rfl);try simp only[zq])
     (refine zg rfl ?_ (λK hK=>?_);rfl;go_simp;refine aM (hfl _) λos4 d4=>?_;refine hK _ _ ?_ ?_;(simp[go_sem]))
     try simp only[zq]
     iterate 2(apply rdP rfl rfl;(intros;go_simp;first | done | rfl);try simp only[zq])
     refine zi ?_;go_wp2_with (go_at_call 57;with_reducible refine aM (hbad _) λos d=>?_);exact rc1 rfl rfl (by simp[go_sem]) ⟨rfl,by simp[go_sem]⟩
    ·have hin:=λW=>znr (tnP y).1 (tnP y).2 W (zR ry).1;have q2:((tnP x).1==0)=false∨((tnP x).1==0)=true∧¬ (tnP y).1<0:=by
      by_cases h4:(tnP x).1=0
      ·exact Or.inr ⟨by simp[h4],λh=>h3 ⟨h4,h⟩⟩
      ·exact Or.inl (by simp[h4])
     cases hI:zbo (tnP y).1 (tnP y).2 with
     | none=>
      obtain rfl:z=zz 5:=by rw[<-hz];unfold zcG;simp[h1,h2,h0,h3,hI]
      rw[hI] at hin;simp only[inV,Option.getD_none,Option.isSome_none] at hin;simp only[zz];clear h1 h2 hnv hz hx hy rx ry h0 h3 hI;generalize (tnP x).1=a at *;generalize (tnP x).2=b at *;generalize (tnP y).1=c at *;generalize (tnP y).2=d at *;generalize x.kind=xk at *;generalize x.mant=xm at *;generalize x.exp=xe at *;generalize x.text=xt at *;generalize x.truth=xb at *;generalize x.fault=xf at *;generalize y.kind=yk at *;generalize y.mant=ym at *;generalize y.exp=ye at *;generalize y.text=yt at *;generalize y.truth=yb at *;generalize y.fault=yf at *;rcases q2 with q2 | ⟨q2,q3⟩
      ·go_enter func214,ntmps214;go_upto_region 4 with(go_at_call 237;with_reducible refine aM (hnb _) λos d=>?_);refine plP [(0,0),(2,0),(1,1),(3,0),(4,0)] [] (by kernel_rfl) (λ_ _ d _ _ h=>by cases d <;> exact h) ?_;iterate 2(apply rdP rfl rfl;(intros;go_simp;first | done | rfl);try simp only[zq])
       (refine zg rfl ?_ (λK hK=>?_);rfl;go_simp;refine aM (hfl _) λos4 d4=>?_;refine hK _ _ ?_ ?_;(simp[go_sem]))
       try simp only[zq]
       iterate 2(apply rdP rfl rfl;(intros;go_simp;first | done | rfl);try simp only[zq])
       refine zi ?_;go_wp2_with (first | (go_at_call 57;with_reducible refine aM (hbad5 _) λos d=>?_) | (go_at_call 165;with_reducible refine aM (hin _) λos d=>?_));exact rc1 rfl rfl (by simp[go_sem]) ⟨rfl,by simp[go_sem]⟩
      ·go_enter func214,ntmps214;go_upto_region 4 with(go_at_call 237;with_reducible refine aM (hnb _) λos d=>?_);refine plP [(0,0),(2,0),(1,1),(3,0),(4,0)] [] (by kernel_rfl) (λ_ _ d _ _ h=>by cases d <;> exact h) ?_;iterate 2(apply rdP rfl rfl;(intros;go_simp;first | done | rfl);try simp only[zq])
       (refine zg rfl ?_ (λK hK=>?_);rfl;go_simp;refine aM (hfl _) λos4 d4=>?_;refine hK _ _ ?_ ?_;(simp[go_sem]))
       try simp only[zq]
       iterate 2(apply rdP rfl rfl;(intros;go_simp;first | done | rfl);try simp only[zq])
       refine zi ?_;go_wp2_with (first | (go_at_call 57;with_reducible refine aM (hbad5 _) λos d=>?_) | (go_at_call 165;with_reducible refine aM (hin _) λos d=>?_));exact rc1 rfl rfl (by simp[go_sem]) ⟨rfl,by simp[go_sem]⟩
     | some n=>
      have hzz:z=zo (zbd (tnP x).1 (tnP x).2 n):=by rw[<-hz];unfold zcG;simp[h1,h2,h0,h3,hI]
      rw[hI] at hin;simp only[inV,Option.getD_some,Option.isSome_some] at hin;have hn:I64 n:=zgF hI;have hfn:=λW hW=>zsX (tnP x).1 (tnP x).2 n W hW (zR rx).1 hn;have htd:=λW=>zcU (zbd (tnP x).1 (tnP x).2 n) W;rw[<-hzz] at htd;clear h1 h2 hnv hz hx hy rx ry h0 h3 hI hzz hn;generalize zbd (tnP x).1 (tnP x).2 n=R at *;simp only[rnV] at hfn;generalize (tnP x).1=a at *;generalize (tnP x).2=b at *;generalize (tnP y).1=c at *;generalize (tnP y).2=d at *;generalize x.kind=xk at *;generalize x.mant=xm at *;generalize x.exp=xe at *;generalize x.text=xt at *;generalize x.truth=xb at *;generalize x.fault=xf at *;generalize y.kind=yk at *;generalize y.mant=ym at *;generalize y.exp=ye at *;generalize y.text=yt at *;generalize y.truth=yb at *;generalize y.fault=yf at *;generalize z.kind=zk at *;generalize z.mant=zm at *;generalize z.exp=ze at *;generalize z.text=zt at *;generalize z.truth=zb at *;generalize z.fault=zf at *;rcases q2 with q2 | ⟨q2,q3⟩
      ·go_enter func214,ntmps214;go_upto_region 4 with(go_at_call 237;with_reducible refine aM (hnb _) λos d=>?_);refine plP [(0,0),(2,0),(1,1),(3,0),(4,0)] [] (by kernel_rfl) (λ_ _ d _ _ h=>by cases d <;> exact h) ?_;iterate 2(apply rdP rfl rfl;(intros;go_simp;first | done | rfl);try simp only[zq])
       (refine zg rfl ?_ (λK hK=>?_);rfl;go_simp;refine aM (hfl _) λos4 d4=>?_;refine hK _ _ ?_ ?_;(simp[go_sem]))
       try simp only[zq]
       iterate 2(apply rdP rfl rfl;(intros;go_simp;first | done | rfl);try simp only[zq])
       refine zi ?_;go_wp2_with (first | (go_at_call 165;with_reducible refine aM (hin _) λos d=>?_) | (go_at_call 239;with_reducible refine aM (hfn _ (HT.out.ext (by simp[go_sem]))) λos d=>?_) | (go_at_call 238;with_reducible refine aM (htd _) λos d=>?_));exact rc1 rfl rfl (by simp[go_sem]) ⟨rfl,by simp[go_sem]⟩
      ·go_enter func214,ntmps214;go_upto_region 4 with(go_at_call 237;with_reducible refine aM (hnb _) λos d=>?_);refine plP [(0,0),(2,0),(1,1),(3,0),(4,0)] [] (by kernel_rfl) (λ_ _ d _ _ h=>by cases d <;> exact h) ?_;iterate 2(apply rdP rfl rfl;(intros;go_simp;first | done | rfl);try simp only[zq])
       (refine zg rfl ?_ (λK hK=>?_);rfl;go_simp;refine aM (hfl _) λos4 d4=>?_;refine hK _ _ ?_ ?_;(simp[go_sem]))
       try simp only[zq]
       iterate 2(apply rdP rfl rfl;(intros;go_simp;first | done | rfl);try simp only[zq])
       refine zi ?_;go_wp2_with (first | (go_at_call 165;with_reducible refine aM (hin _) λos d=>?_) | (go_at_call 239;with_reducible refine aM (hfn _ (HT.out.ext (by simp[go_sem]))) λos d=>?_) | (go_at_call 238;with_reducible refine aM (htd _) λos d=>?_));exact rc1 rfl rfl (by simp[go_sem]) ⟨rfl,by simp[go_sem]⟩
   ·obtain rfl:z=zz 5:=by rw[<-hz];unfold zcG;simp[h1,h2,h0]
    simp only[zz];have hne:¬ ((zB (tnP y).1 (tnP y).2).1=(tnP y).1∧(zB (tnP y).1 (tnP y).2).2=(tnP y).2):=λh=>h0 (Prod.ext h.1 h.2);generalize (zB (tnP y).1 (tnP y).2).1=u at *;generalize (zB (tnP y).1 (tnP y).2).2=v at *;clear h1 h2 hnv hz hx hy rx ry h0;generalize (tnP x).1=a at *;generalize (tnP x).2=b at *;generalize (tnP y).1=c at *;generalize (tnP y).2=d at *;generalize x.kind=xk at *;generalize x.mant=xm at *;generalize x.exp=xe at *;generalize x.text=xt at *;generalize x.truth=xb at *;generalize x.fault=xf at *;generalize y.kind=yk at *;generalize y.mant=ym at *;generalize y.exp=ye at *;generalize y.text=yt at *;generalize y.truth=yb at *;generalize y.fault=yf at *;by_cases hu:u=c
    ·have hv:¬ v=d:=λh=>hne ⟨hu,h⟩;subst hu;clear hne;go_enter func214,ntmps214;go_upto_region 4 with(go_at_call 237;with_reducible refine aM (hnb _) λos d=>?_);refine plP [(0,0),(2,0),(1,1),(3,0),(4,0)] [] (by kernel_rfl) (λ_ _ d _ _ h=>by cases d <;> exact h) ?_;iterate 2(apply rdP rfl rfl;(intros;go_simp;first | done | rfl);try simp only[zq])
     (refine zg rfl ?_ (λK hK=>?_);rfl;go_simp;refine aM (hfl _) λos4 d4=>?_;refine hK _ _ ?_ ?_;(simp[go_sem]))
     try simp only[zq]
     iterate 2(apply rdP rfl rfl;(intros;go_simp;first | done | rfl);try simp only[zq])
     refine zi ?_;go_wp2_with (go_at_call 57;with_reducible refine aM (hbad5 _) λos d=>?_);exact rc1 rfl rfl (by simp[go_sem]) ⟨rfl,by simp[go_sem]⟩
    ·clear hne;go_enter func214,ntmps214;go_upto_region 4 with(go_at_call 237;with_reducible refine aM (hnb _) λos d=>?_);refine plP [(0,0),(2,0),(1,1),(3,0),(4,0)] [] (by kernel_rfl) (λ_ _ d _ _ h=>by cases d <;> exact h) ?_;iterate 2(apply rdP rfl rfl;(intros;go_simp;first | done | rfl);try simp only[zq])
     (refine zg rfl ?_ (λK hK=>?_);rfl;go_simp;refine aM (hfl _) λos4 d4=>?_;refine hK _ _ ?_ ?_;(simp[go_sem]))
     try simp only[zq]
     iterate 2(apply rdP rfl rfl;(intros;go_simp;first | done | rfl);try simp only[zq])
     refine zi ?_;go_wp2_with (go_at_call 57;with_reducible refine aM (hbad5 _) λos d=>?_);exact rc1 rfl rfl (by simp[go_sem]) ⟨rfl,by simp[go_sem]⟩
   
  ·have hnv:nbV x y = .tuple #[NV 0 0,NV 0 0,.int .i64 (tnF y)]:=by unfold nbV;simp[h1,h2]
   rw[hnv] at hnb;obtain rfl:z=zx (tnF y):=by rw[<-hz];unfold zcG;simp[h1,h2]
   have h1':=h1;clear h1;have h1:tnF y≠0:=h2;have hbad:=λW=>zV (tnF y) W;have q0:(tnF y != 0)=true:=by simpa using h1
   generalize tnF y=f at *;simp only[zx,zz];clear h1 h1' h2 hnv hz hx hy;generalize x.kind=xk at *;generalize x.mant=xm at *;generalize x.exp=xe at *;generalize x.text=xt at *;generalize x.truth=xb at *;generalize x.fault=xf at *;generalize y.kind=yk at *;generalize y.mant=ym at *;generalize y.exp=ye at *;generalize y.text=yt at *;generalize y.truth=yb at *;generalize y.fault=yf at *;go_enter func214,ntmps214;go_wp2_with (first | (go_at_call 237;with_reducible refine aM (hnb _) λos d=>?_) | (go_at_call 57;with_reducible refine aM (hbad _) λos d=>?_));exact rc1 rfl rfl (by simp[go_sem]) ⟨rfl,by simp[go_sem]⟩
 ·have hnv:nbV x y = .tuple #[NV 0 0,NV 0 0,.int .i64 (tnF x)]:=by unfold nbV;simp[h1]
  rw[hnv] at hnb;obtain rfl:z=zx (tnF x):=by rw[<-hz];unfold zcG;simp[h1]
  have hbad:=λW=>zV (tnF x) W;have q0:(tnF x != 0)=true:=by simpa using h1
  generalize tnF x=f at *;simp only[zx,zz];clear h1 hnv hz hx hy;generalize x.kind=xk at *;generalize x.mant=xm at *;generalize x.exp=xe at *;generalize x.text=xt at *;generalize x.truth=xb at *;generalize x.fault=xf at *;generalize y.kind=yk at *;generalize y.mant=ym at *;generalize y.exp=ye at *;generalize y.text=yt at *;generalize y.truth=yb at *;generalize y.fault=yf at *;go_enter func214,ntmps214;go_wp2_with (first | (go_at_call 237;with_reducible refine aM (hnb _) λos d=>?_) | (go_at_call 57;with_reducible refine aM (hbad _) λos d=>?_));exact rc1 rfl rfl (by simp[go_sem]) ⟨rfl,by simp[go_sem]⟩
theorem zhL {x} (h:x.right):(ttS x).size<=255:=by
 rcases h.form with rfl | ⟨m,e,rfl,hr⟩ | ⟨t,rfl,ht⟩ | ⟨b,rfl⟩ | ⟨f,rfl,hf⟩
 ·exact Nat.zero_le _
 ·show(zd4 m e).size<=255;have:=zor hr;omega
 ·exact ht
 ·cases b <;> decide
 ·exact Nat.zero_le _
theorem zos (x y w) (htab:Tab w) (hx:x.right) (hy:y.right) (z) (hz:zd8 x y=z) :
  Tl prog 215 #[VV x.kind x.mant x.exp x.text x.truth x.fault,VV y.kind y.mant y.exp y.text y.truth y.fault] w (VV z.kind z.mant z.exp z.text z.truth z.fault):=by
 have ht1:=λW hW=>ziZ x W hW hx;have ht2:=λW hW=>ziZ y W hW hy;simp only[ttV] at ht1 ht2;have s1:=zhL hx;have s2:=zhL hy;have HT:=Lib.hid htab;clear htab;by_cases h1:ttF x=0
 ·by_cases h2:ttF y=0
  ·have hzz:z=zQ (ttS x++ttS y):=by rw[<-hz];unfold zd8;simp[h1,h2]
   rw[h1] at ht1;rw[h2] at ht2;have htx:=λW=>zij (ttS x++ttS y) W (by rw[ByteArray.size_append];omega);have e1:(zQ (ttS x++ttS y)).mant=0∧(zQ (ttS x++ttS y)).exp=0∧(zQ (ttS x++ttS y)).truth=false:=by
    unfold zQ;split <;> exact⟨rfl,rfl,rfl⟩
   rw[<-hzz] at htx e1;obtain⟨e1,e2,e3⟩:=e1;rw[e1,e2,e3];generalize ttS x=tx at *;generalize ttS y=ty at *;clear h1 h2 hzz hz hx hy e1 e2 e3;generalize z.kind=zk at *;generalize z.text=zt at *;generalize z.fault=zf at *;generalize x.kind=xk at *;generalize x.mant=xm at *;generalize x.exp=xe at *;generalize x.text=xt at *;generalize x.truth=xb at *;generalize x.fault=xf at *;generalize y.kind=yk at *;generalize y.mant=ym at *;generalize y.exp=ye at *;generalize y.text=yt at *;generalize y.truth=yb at *;generalize y.fault=yf at *;go_enter func215,ntmps215;go_wp2_with (first | (go_at_call 240;first | (with_reducible refine aM (ht1 _ (HT.out.ext (by simp[go_sem]))) λos1 d1=>?_) | (with_reducible refine aM (ht2 _ (HT.out.ext (by simp[go_sem]))) λos2 d2=>?_)) | (go_at_call 123;with_reducible refine aM (htx _) λos d=>?_));exact rc1 rfl rfl (by simp[go_sem]) ⟨rfl,by simp[go_sem]⟩
  ·obtain rfl:z=zx (ttF y):=by rw[<-hz];unfold zd8;simp[h1,h2]
   rw[h1] at ht1;clear h1;have h1:ttF y≠0:=h2;have hbad:=λW=>zV (ttF y) W;have q0:(ttF y != 0)=true:=by simpa using h1
   generalize ttF y=f at *;generalize ttS x=tx at *;generalize ttS y=ty at *;simp only[zx,zz];clear h1 h2 hz hx hy;generalize x.kind=xk at *;generalize x.mant=xm at *;generalize x.exp=xe at *;generalize x.text=xt at *;generalize x.truth=xb at *;generalize x.fault=xf at *;generalize y.kind=yk at *;generalize y.mant=ym at *;generalize y.exp=ye at *;generalize y.text=yt at *;generalize y.truth=yb at *;generalize y.fault=yf at *;go_enter func215,ntmps215;go_wp2_with (first | (go_at_call 240;first | (with_reducible refine aM (ht1 _ (HT.out.ext (by simp[go_sem]))) λos1 d1=>?_) | (with_reducible refine aM (ht2 _ (HT.out.ext (by simp[go_sem]))) λos2 d2=>?_)) | (go_at_call 57;with_reducible refine aM (hbad _) λos d=>?_));exact rc1 rfl rfl (by simp[go_sem]) ⟨rfl,by simp[go_sem]⟩
 ·obtain rfl:z=zx (ttF x):=by rw[<-hz];unfold zd8;simp[h1]
  have hbad:=λW=>zV (ttF x) W;have q0:(ttF x != 0)=true:=by simpa using h1
  generalize ttF x=f at *;generalize ttS x=tx at *;generalize ttS y=ty at *;simp only[zx,zz];clear h1 hz hx hy;generalize x.kind=xk at *;generalize x.mant=xm at *;generalize x.exp=xe at *;generalize x.text=xt at *;generalize x.truth=xb at *;generalize x.fault=xf at *;generalize y.kind=yk at *;generalize y.mant=ym at *;generalize y.exp=ye at *;generalize y.text=yt at *;generalize y.truth=yb at *;generalize y.fault=yf at *;go_enter func215,ntmps215;go_wp2_with (first | (go_at_call 240;first | (with_reducible refine aM (ht1 _ (HT.out.ext (by simp[go_sem]))) λos1 d1=>?_) | (with_reducible refine aM (ht2 _ (HT.out.ext (by simp[go_sem]))) λos2 d2=>?_)) | (go_at_call 57;with_reducible refine aM (hbad _) λos d=>?_));exact rc1 rfl rfl (by simp[go_sem]) ⟨rfl,by simp[go_sem]⟩
end Go.Proofs.YtinjdacijiohiaaGreatDoor
namespace Go.Proofs.YtinjdacijiohiaaGreatDoor
open _root_.Go.Proofs.Tryz
open Go.RowKit
def zak (R C R' C':Nat):Option (Nat×Nat):=if max R R'*max C C'<=4096 then some (max R R',max C C') else none
theorem zp8 {R C R' C' x y k} (M N) (hM:M=max R R') (hN:N=max C C') (h1:1<=M) (h2:1<=N) (hx:((zak R C R' C').getD (0,0))=(x,y)) (hk:(zak R C R' C').isSome=k) {fb} (hfb:zbs M N=fb):x=(if fb then M else 0)∧y=(if fb then N else 0)∧k=fb:=by
 subst hM hN;unfold zak at hx hk;by_cases h:max R R'*max C C'<=4096
 ·rw[if_pos h] at hx hk;have:fb=true:=by rw[<-hfb];exact zil.2 ⟨h1,h2,h⟩
  subst this;simp only[Option.getD_some,Prod.mk.injEq,Option.isSome_some] at hx hk;exact⟨hx.1.symm,hx.2.symm,hk.symm⟩
 ·rw[if_neg h] at hx hk;have:fb=false:=by rw[<-hfb];exact ztb h1 h2 h
  subst this;simp only[Option.getD_none,Prod.mk.injEq,Option.isSome_none] at hx hk;exact⟨hx.1.symm,hx.2.symm,hk.symm⟩
theorem zlZ (R C R' C':Nat) (A B n cap n' cap' l l' w) (h:ArrIn w A n cap l) (h':ArrIn w B n' cap' l') (hr:zA R C l=true) (hr':zA R' C' l'=true) (x y k) (hx:((zak R C R' C').getD (0,0))=(x,y)) (hk:(zak R C R' C').isSome=k) :
  Tl prog 175 #[AV R C (.slice A n cap),AV R' C' (.slice B n' cap')] w (.tuple #[.int .i64 x,.int .i64 y,.bool k]):=by
 obtain⟨r1,r2,r3,r4,r5,r6⟩:=za5 hr;obtain⟨s1,s2,s3,s4,s5,s6⟩:=za5 hr';clear r4 s4;have HX:=Lib.hid hx;have HK:=Lib.hid hk;clear hx hk;go_enter func175,ntmps175;go_wp2_with fail;refine aM (zbl _ _ _ _ _ _ _ (h.ext (by simp[go_sem, *]))) λos1 d1=>?_;go_wp2_with fail;refine aM (zbl _ _ _ _ _ _ _ (h'.ext (by simp[go_sem, *]))) λos2 d2=>?_;go_wp2_with fail;refine plP [(0,0),(1,0),(2,0),(3,0),(4,0),(5,0),(6,0),(7,0),(8,0),(9,0),(10,0),(11,0)] [] (by kernel_rfl) (λ_ _ d _ _ h=>by cases d <;> exact h) ?_;iterate 12(apply rdP rfl rfl;(intros;go_simp;first | done | rfl);try simp only[zq])
 refine zi ?_;go_wp2_with fail;all_goals
  (try simp only[show(max (R:Int) R')=((max R R':Nat):Int) by omega,show(max (C:Int) C')=((max C C':Nat):Int) by omega])
  refine(zgq _ _ _).mono ?_;rintro e w' ⟨rfl,rfl⟩;generalize hfb:zbs _ _=fb;obtain⟨e1,e2,e3⟩:=zp8 _ _ (by omega) (by omega) (by omega) (by omega) HX.out HK.out hfb;subst e1 e2 e3;clear HX HK hfb;cases k
  ·go_wp2;go_ret3
   exact⟨rfl,by simp[go_sem, *]⟩
  ·go_wp2;go_ret3
   exact⟨rfl,by simp[go_sem, *]⟩
theorem zot {R C R' C' x y k} (M N) (hM:M=max R R') (hN:N=max C C') (hx:((zak R C R' C').getD (0,0))=(x,y)) (hk:(zak R C R' C').isSome=k):(M*N<=4096∧x=M∧y=N∧k=true)∨(¬ M*N<=4096∧x=0∧y=0∧k=false):=by
 subst hM hN;unfold zak at hx hk;by_cases h:max R R'*max C C'<=4096
 ·rw[if_pos h] at hx hk;simp only[Option.getD_some,Prod.mk.injEq,Option.isSome_some] at hx hk;exact .inl ⟨h,hx.1.symm,hx.2.symm,hk.symm⟩
 ·rw[if_neg h] at hx hk;simp only[Option.getD_none,Prod.mk.injEq,Option.isSome_none] at hx hk;exact .inr ⟨h,hx.1.symm,hx.2.symm,hk.symm⟩
theorem zew (R C R' C' A B n cap n' cap' w) (h1:1<=R∧R<=4096) (h2:1<=C∧C<=4096) (h3:1<=R'∧R'<=4096) (h4:1<=C'∧C'<=4096) (x y k) (hx:((zak R C R' C').getD (0,0))=(x,y)) (hk:(zak R C R' C').isSome=k) :
  Tl prog 25 #[AV R C (.slice A n cap),AV R' C' (.slice B n' cap')] w (.tuple #[.int .i64 x,.int .i64 y,.bool k]):=by
 have hw:∀ M N:Nat,M<=4096->N<=4096->IntKind.i64.wrap ((M:Int)*(N:Int))=((M*N:Nat):Int):=λM N hM hN=>by
  have:M*N<=4096*4096:=Nat.mul_le_mul hM hN;rw[<-Int.natCast_mul,IntKind.wrap_i64];omega
 have HX:=Lib.hid hx;have HK:=Lib.hid hk;have HW:=Lib.hid hw;clear hx hk hw;have main:∀ M N:Nat,((R<R'∧M=R')∨(¬ R<R'∧M=R))->((C<C'∧N=C')∨(¬ C<C'∧N=C)) ->
   Tl prog 25 #[AV R C (.slice A n cap),AV R' C' (.slice B n' cap')] w (.tuple #[.int .i64 x,.int .i64 y,.bool k]):=by
  intro M N hM hN;have hw:=HW.out M N (by omega) (by omega);have hcm:=zot M N (by omega) (by omega) HX.out HK.out;clear HX HK HW;rcases hcm with⟨hf,rfl,rfl,rfl⟩ | ⟨hf,rfl,rfl,rfl⟩
  ·have hf1:¬ 4096<x*y:=by omega
   have hf2:¬ (4096:Int)<(x:Int)*(y:Int):=by rw[<-Int.natCast_mul];omega
   clear hf;rcases hM with⟨hM,rfl⟩ | ⟨hM,rfl⟩ <;> rcases hN with⟨hN,rfl⟩ | ⟨hN,rfl⟩
   all_goals
    go_enter func25,ntmps25;go_wp2;go_ret3
    exact⟨rfl,by simp[go_sem, *]⟩
  ·have hf1:4096<M*N:=by omega
   have hf2:(4096:Int)<(M:Int)*(N:Int):=by rw[<-Int.natCast_mul];omega
   clear hf;rcases hM with⟨hM,rfl⟩ | ⟨hM,rfl⟩ <;> rcases hN with⟨hN,rfl⟩ | ⟨hN,rfl⟩
   all_goals
    go_enter func25,ntmps25;go_wp2;go_ret3
    exact⟨rfl,by simp[go_sem, *]⟩
 by_cases hM:R<R' <;> by_cases hN:C<C'
 ·exact main R' C' (.inl ⟨hM,rfl⟩) (.inl ⟨hN,rfl⟩)
 ·exact main R' C (.inl ⟨hM,rfl⟩) (.inr ⟨hN,rfl⟩)
 ·exact main R C' (.inr ⟨hM,rfl⟩) (.inl ⟨hN,rfl⟩)
 ·exact main R C (.inr ⟨hM,rfl⟩) (.inr ⟨hN,rfl⟩)
def spI (R i:Nat):Nat:=if R=1 then 0 else i
def zr (R C:Nat) (l:List Val) (i j:Nat):Option Val:=if spI R i<R∧spI C j<C then some (zaI l (spI R i*C+spI C j)) else none
def zbU (o:Option Val):Val:=o.getD Val.zero
def atO (R C:Nat) (l:List Val) (si sj:Nat):Option Val:=if si<R∧sj<C then some (zaI l (si*C+sj)) else none
theorem zp9 (R C i j si sj A n cap l w) (h:ArrIn w A n cap l) (hn:n=R*C) (hN:n<=4096) (hi:((R:Int)==1)=true∧si=0∨((R:Int)==1)=false∧si=i) (hj:((C:Int)==1)=true∧sj=0∨((C:Int)==1)=false∧sj=j) (x k) (hx0:zbU (atO R C l si sj)=x) (hk0:(atO R C l si sj).isSome=k) :
  Tl prog 178 #[AV R C (.slice A n cap),.int .i64 i,.int .i64 j] w (.tuple #[VV x.kind x.mant x.exp x.text x.truth x.fault,.bool k]):=by
 by_cases hh:si<R∧sj<C
 ·have hx:zaI l (si*C+sj)=x:=by rw[<-hx0];simp[atO,hh,zbU]
  have hk1:k=true:=by rw[<-hk0];simp[atO,hh]
  subst hk1;clear hx0 hk0;obtain⟨hk,hk2⟩:=zcA R hh.1 hh.2 (by omega);have hB:zeC R C si sj=true:=zin.2 (by omega);subst hn;obtain⟨b,off,rfl,hv,ho⟩:=h.get hk;rw[hx] at hv;clear hx ho hh;have w1:IntKind.i64.wrap ((si:Int)*(C:Int))=((si*C:Nat):Int):=by rw[IntKind.wrap_i64,Int.natCast_mul];omega
  have hbl:b<w.heap.size:=hv.lt;rcases hi with⟨hi,rfl⟩ | ⟨hi,rfl⟩ <;> rcases hj with⟨hj,rfl⟩ | ⟨hj,rfl⟩
  all_goals
   (try simp only[Int.natCast_zero] at hB w1)
   (try simp only[Nat.zero_mul,Nat.zero_add,Nat.add_zero] at hv hk w1)
   obtain⟨v0,v1,v2,v3,v4,v5⟩:=hv;generalize hrc:R*C=rc at *;clear hrc
   (try(generalize hjc:si*C=jc at *;clear hjc))
   go_enter func178,ntmps178;go_wp2_with (go_at_call 210;refine aM (znv _ _ _ _ _ _ rfl) λos1 d1=>?_);exact rct rfl rfl (by simp[go_sem]) ⟨rfl,by simp[go_sem, *]⟩
 ·have hB:zeC R C si sj=false:=znx (by omega);have hx:x=Val.zero:=by rw[<-hx0];simp[atO,hh,zbU]
  have hk1:k=false:=by rw[<-hk0];simp[atO,hh]
  subst hk1 hx;clear hx0 hk0 hh hn;rcases hi with⟨hi,rfl⟩ | ⟨hi,rfl⟩ <;> rcases hj with⟨hj,rfl⟩ | ⟨hj,rfl⟩
  all_goals
   (try simp only[Int.natCast_zero] at hB)
   go_enter func178,ntmps178;go_wp2_with (go_at_call 210;refine aM (znv _ _ _ _ _ _ rfl) λos1 d1=>?_);exact rct (v:=VV 0 0 0 ⟨#[]⟩ false 0) rfl rfl (by simp[go_sem]) ⟨rfl,by simp[go_sem, *]⟩
theorem zrU (R C i j si sj A n cap l w) (h:ArrIn w A n cap l) (hn:n=R*C) (hN:n<=4096) (hi:((R:Int)==1)=true∧si=0∨((R:Int)==1)=false∧si=i) (hj:((C:Int)==1)=true∧sj=0∨((C:Int)==1)=false∧sj=j) (x k) (hx0:zbU (atO R C l si sj)=x) (hk0:(atO R C l si sj).isSome=k) :
  Tl prog 26 #[AV R C (.slice A n cap),.int .i64 i,.int .i64 j] w (.tuple #[VV x.kind x.mant x.exp x.text x.truth x.fault,.bool k]):=by
 by_cases hh:si<R∧sj<C
 ·have hx:zaI l (si*C+sj)=x:=by rw[<-hx0];simp[atO,hh,zbU]
  have hk1:k=true:=by rw[<-hk0];simp[atO,hh]
  subst hk1;clear hx0 hk0;obtain⟨hk,hk2⟩:=zcA R hh.1 hh.2 (by omega);have hB:zeC R C si sj=true:=zin.2 (by omega);have HN:=Lib.hid hn;have HX:=Lib.hid hx;clear hx hk hk2 hn;rcases hi with⟨hi,rfl⟩ | ⟨hi,rfl⟩ <;> rcases hj with⟨hj,rfl⟩ | ⟨hj,rfl⟩
  all_goals
   (try simp only[Int.natCast_zero] at hB)
   go_enter func26,ntmps26;go_wp2_with fail;refine aM (zi1 _ _ _ _ _ _ rfl) λos1 d1=>?_;go_wp2_with fail;refine(zp0 R C _ _ A n cap l _ (h.ext (by simp[go_sem, *])) HN.out hN hh.1 hh.2 x HX.out _ _ (by simp) (by simp)).mono ?_;rintro e w' ⟨rfl,hb⟩;obtain⟨os2,d2,rfl⟩:=hb.more;clear hb;go_wp2;exact rct rfl rfl (by simp[go_sem]) ⟨rfl,by simp[go_sem, *]⟩
 ·have hB:zeC R C si sj=false:=znx (by omega);have hx:x=Val.zero:=by rw[<-hx0];simp[atO,hh,zbU]
  have hk1:k=false:=by rw[<-hk0];simp[atO,hh]
  subst hk1 hx;clear hx0 hk0 hh hn;rcases hi with⟨hi,rfl⟩ | ⟨hi,rfl⟩ <;> rcases hj with⟨hj,rfl⟩ | ⟨hj,rfl⟩
  all_goals
   (try simp only[Int.natCast_zero] at hB)
   go_enter func26,ntmps26;go_wp2_with (go_at_call 81;refine aM (zi1 _ _ _ _ _ _ rfl) λos1 d1=>?_);exact rct (v:=VV 0 0 0 ⟨#[]⟩ false 0) rfl rfl (by simp[go_sem]) ⟨rfl,by simp[go_sem, *]⟩
theorem zkS (R i:Nat):((R:Int)==1)=true∧spI R i=0∨((R:Int)==1)=false∧spI R i=i:=by
 unfold spI;by_cases h:R=1
 ·left;simp[h]
 ·right;simp[h];omega
theorem zep (R C i j A n cap l w) (h:ArrIn w A n cap l) (hn:n=R*C) (hN:n<=4096) (x k) (hx:zbU (zr R C l i j)=x) (hk:(zr R C l i j).isSome=k) :
  Tl prog 178 #[AV R C (.slice A n cap),.int .i64 i,.int .i64 j] w (.tuple #[VV x.kind x.mant x.exp x.text x.truth x.fault,.bool k]):=
 zp9 R C i j _ _ A n cap l w h hn hN (zkS R i) (zkS C j) x k hx hk
theorem zdW (R C i j A n cap l w) (h:ArrIn w A n cap l) (hn:n=R*C) (hN:n<=4096) (x k) (hx:zbU (zr R C l i j)=x) (hk:(zr R C l i j).isSome=k) :
  Tl prog 26 #[AV R C (.slice A n cap),.int .i64 i,.int .i64 j] w (.tuple #[VV x.kind x.mant x.exp x.text x.truth x.fault,.bool k]):=
 zrU R C i j _ _ A n cap l w h hn hN (zkS R i) (zkS C j) x k hx hk
theorem zbY {P:Val->Prop} {R C i j l x} (hl:l.length=R*C) (ho:∀ y∈l,P y) (h:zr R C l i j=some x):P x:=by
 unfold zr at h;split at h
 ·rename_i hh;obtain rfl:=Option.some.inj h;refine zrK ho ?_;rw[hl];calc spI R i*C+spI C j<spI R i*C+C:=by omega
   _=(spI R i+1)*C:=by rw[Nat.succ_mul]
   _<=R*C:=Nat.mul_le_mul_right _ hh.1
 ·cases h
theorem zfB {R C i j l x} (hl:l.length=R*C) (ho:∀ y∈l,y.ok) (h:zr R C l i j=some x):x.ok:=zbY hl ho h
structure FSpec2 (fid:FuncId) (capt:Array Value) (t:Val->Val->Val) (base lo pa:Nat) (J:Nat->World->Prop):Prop where
 ext:∀ k W W',Ext W W'->J k W->J k W'
 keep:∀ k W W',Keep (lo-3) W W'->J k W->J k W'
 call:∀ k x y W0 W,J k W0->Ext W0 W->lo<=W0.heap.size->x.ok->y.ok->valRight x=true->valRight y=true->k<4096 ->
  Calls prog fid (#[VV x.kind x.mant x.exp x.text x.truth x.fault,VV y.kind y.mant y.exp y.text y.truth y.fault]++capt) W λe W'=>e = .returned (VV (t x y).kind (t x y).mant (t x y).exp (t x y).text (t x y).truth (t x y).fault)∧(∀ W'',Aside W0.heap.size W.heap.size W' W''->J (k+1) W'')∧Still lo pa W0 W W'
 ok:∀ x y,x.ok->y.ok->valRight x=true->valRight y=true->(t x y).ok
 far:∀ k W (p:Addr) v,base<=p.block->p.block<lo->J k W->J k (W.setCell p v)
def zcK (t:Val->Val->Val) (oa ob:Option Val):Val:=match oa,ob with
 | some x,some y=>zaQ (t x y)
 | _,_=>zz 6
def zi3 (oa ob:Option Val):Nat:=if oa.isSome&&ob.isSome then 1 else 0
theorem zqa (fid capt W):(binOp .eql 71 (.func (.func fid) #[] capt) .nilFunc).run prog W = .ok (.bool false) W:=by
 first
 | kernel_rfl
 | rfl
theorem zou (R C R' C' i j n cap n' cap' pA pB pf:Nat) (A B l l' W) (hA:zha pA R C A n cap W) (hB:zha pB R' C' B n' cap' W) (h:ArrIn W A n cap l) (h':ArrIn W B n' cap' l') (hn:n=R*C) (hn':n'=R'*C') (hN:n<=4096) (hN':n'<=4096) (hno:(zr R C l i j=none∨zr R' C' l' i j=none)) :
  Calls prog 177 #[.int .i64 i,.int .i64 j,.pointer (some ⟨pA,0,none⟩),.pointer (some ⟨pB,0,none⟩),.pointer (some ⟨pf,0,none⟩)] W λe W'=>e = .returned (VV 4 0 0 ⟨#[]⟩ false 6)∧Ext W W':=by
 obtain⟨p0,p1,p2,p3⟩:=hA;obtain⟨q0,q1,q2,q3⟩:=hB;have hb6:zE 6=6:=by decide
 have HN:=Lib.hid hn;have HN':=Lib.hid hn';clear hn hn';generalize hx:zbU (zr R C l i j)=x;generalize hy:zbU (zr R' C' l' i j)=y;cases hka:(zr R C l i j).isSome
 ·go_enter func177,ntmps177;have HX:=Lib.hid (And.intro hx hka);have HY:=Lib.hid hy;clear hx hy hka;generalize hkb:(zr R' C' l' i j).isSome=kb;have HK:=Lib.hid hkb;clear hkb hno;go_wp2_with fail;refine aM (zep R C i j A n cap l _ (h.ext (by simp[go_sem, *])) HN.out hN x false HX.out.1 HX.out.2) λos1 d1=>?_;go_wp2_with fail;refine aM (zep R' C' i j B n' cap' l' _ (h'.ext (by simp[go_sem, *])) HN'.out hN' y kb HY.out HK.out) λos2 d2=>?_;go_wp2_with (go_at_call 57;refine aM (zV _ _) λos3 d3=>?_);exact rc1 rfl rfl (by simp[go_sem]) ⟨rfl,by simp[go_sem, *]⟩
 ·have hkb:(zr R' C' l' i j).isSome=false:=by
   rcases hno with e | e
   ·rw[e] at hka;cases hka
   ·rw[e];rfl
  go_enter func177,ntmps177;have HX:=Lib.hid (And.intro hx hka);have HY:=Lib.hid (And.intro hy hkb);clear hx hy hka hkb hno;go_wp2_with fail;refine aM (zep R C i j A n cap l _ (h.ext (by simp[go_sem, *])) HN.out hN x true HX.out.1 HX.out.2) λos1 d1=>?_;go_wp2_with fail;refine aM (zep R' C' i j B n' cap' l' _ (h'.ext (by simp[go_sem, *])) HN'.out hN' y false HY.out.1 HY.out.2) λos2 d2=>?_;go_wp2_with (go_at_call 57;refine aM (zV _ _) λos3 d3=>?_);exact rc1 rfl rfl (by simp[go_sem]) ⟨rfl,by simp[go_sem, *]⟩
theorem zov (fid capt) (t:Val->Val->Val) (base s0 pa) (J:Nat->World->Prop) (spec:FSpec2 fid capt t base (s0+3) pa J) (hent:∀ (args:Array Value) (W:World),(callFunc fid args).run prog W = .ok (.enter fid args) W) (R C R' C' i j n cap n' cap' pA pB pf k:Nat) (A B l l' x y W) (hA:zha pA R C A n cap W) (hB:zha pB R' C' B n' cap' W) (hf:W.cell? ⟨pf,0,none⟩=some (.func (.func fid) #[] capt)) (h:ArrIn W A n cap l) (h':ArrIn W B n' cap' l') (hn:n=R*C) (hn':n'=R'*C') (hN:n<=4096) (hN':n'<=4096) (hJ:J k W) (hs:s0+3<=W.heap.size) (hk:k<4096) (ha:zr R C l i j=some x) (hb:zr R' C' l' i j=some y) (hxo:x.ok) (hyo:y.ok) (hxr:valRight x=true) (hyr:valRight y=true) :
  Calls prog 177 #[.int .i64 i,.int .i64 j,.pointer (some ⟨pA,0,none⟩),.pointer (some ⟨pB,0,none⟩),.pointer (some ⟨pf,0,none⟩)] W λe W'=>e = .returned (VV (zaQ (t x y)).kind (zaQ (t x y)).mant (zaQ (t x y)).exp (zaQ (t x y)).text (zaQ (t x y)).truth (zaQ (t x y)).fault)∧J (k+1) W'∧Still (s0+3) pa W W W':=by
 obtain⟨p0,p1,p2,p3⟩:=hA;obtain⟨q0,q1,q2,q3⟩:=hB;have z0:=za hf;have hnn:=zqa fid capt;have HN:=Lib.hid hn;have HN':=Lib.hid hn';have HX:Hid (zbU (zr R C l i j)=x∧(zr R C l i j).isSome=true):=by rw[ha];exact⟨rfl,rfl⟩
 have HY:Hid (zbU (zr R' C' l' i j)=y∧(zr R' C' l' i j).isSome=true):=by rw[hb];exact⟨rfl,rfl⟩
 clear hn hn' ha hb;have HC:=Lib.hid (spec.call k x y W);have hok:=spec.ok x y hxo hyo hxr hyr;generalize hz:zaQ (t x y)=z;have HZ:=Lib.hid hz;clear hz;go_enter func177,ntmps177;go_wp2_with fail;refine aM (zep R C i j A n cap l _ (h.ext (by simp[go_sem, *])) HN.out hN x true HX.out.1 HX.out.2) λos1 d1=>?_;go_wp2_with fail;refine aM (zep R' C' i j B n' cap' l' _ (h'.ext (by simp[go_sem, *])) HN'.out hN' y true HY.out.1 HY.out.2) λos2 d2=>?_;go_wp2_with fail;refine zfO λW5 hW5=>?_;have hX:Ext W W5:=by rw[hW5];exact by simp[go_sem, *]
 have hr5:W5.heap[W.heap.size]? = some (.cells #[.int .i64 0,.int .i64 0,.int .i64 0,.string ⟨#[]⟩,.bool false,.int .i64 0] 38):=by
  rw[hW5];exact((by simp[go_sem, *]:Ext (W.alloc (.cells #[.int .i64 0,.int .i64 0,.int .i64 0,.string ⟨#[]⟩,.bool false,.int .i64 0] 38)) _).block (by simp)).trans (heap_alloc_new _ _)
 clear hW5;have hz5:=zG hr5;refine(HC.out W5 hJ hX hs hxo hyo hxr hyr hk).mono ?_;rintro e w1' ⟨rfl,hJ1,hst⟩;have hr:w1'.heap[W.heap.size]? = some (.cells #[.int .i64 0,.int .i64 0,.int .i64 0,.string ⟨#[]⟩,.bool false,.int .i64 0] 38):=(hst.block W.heap.size hz5 (.inr (Nat.le_refl _))).trans hr5;have hz:W.heap.size<w1'.heap.size:=zG hr;have u0:=cell_of_row _ _ 0 _ _ _ hr;have u1:=cell_of_row _ _ 1 _ _ _ hr;have u2:=cell_of_row _ _ 2 _ _ _ hr;have u3:=cell_of_row _ _ 3 _ _ _ hr;have u4:=cell_of_row _ _ 4 _ _ _ hr;have u5:=cell_of_row _ _ 5 _ _ _ hr;have f0:=frozen_of_row _ _ 0 _ _ hr;have f1:=frozen_of_row _ _ 1 _ _ hr;have f2:=frozen_of_row _ _ 2 _ _ hr;have f3:=frozen_of_row _ _ 3 _ _ hr;have f4:=frozen_of_row _ _ 4 _ _ hr;have f5:=frozen_of_row _ _ 5 _ _ hr;clear hr hr5;go_wp2_with fail;refine(zke _ _ _ _ _ _ _ hok.2.1 hok.2.2.2.1 z HZ.out).mono ?_;rintro e w' ⟨rfl,hb⟩;obtain⟨os5,d5,rfl⟩:=hb.more;clear hb;go_wp2;refine bodyPost_ret (v:=VV z.kind z.mant z.exp z.text z.truth z.fault) (by simp[results,results177,go_sem,u0,u1,u2,u3,u4,u5,hz]) rfl ⟨rfl,?_,?_⟩
 ·have h1:W.heap.size<=W.heap.size:=Nat.le_refl _;exact hJ1 _ (((((((Aside.set _ _ h1 hz5).trans (Aside.set _ _ h1 hz5)).trans (Aside.set _ _ h1 hz5)).trans (Aside.set _ _ h1 hz5)).trans (Aside.set _ _ h1 hz5)).trans (Aside.set _ _ h1 hz5)).trans (Aside.of_ext (by repeat(first | (with_reducible (first | exact Ext.refl _ | exact hX | exact zcD _ _ _ _ | exact za9 _ _ _ _ _)) | ((with_reducible refine zaF ⟨_,?_⟩);(try simp only[Array.append_assoc]);rfl) | (with_reducible (first | apply Ext.drew | apply Ext.alloc | apply Ext.more_))))))
 ·have hq:W.heap.size<=W.heap.size:=Nat.le_refl _;exact(((((((Still.trans (Still.of_ext hX) hst).set _ hq).set _ hq).set _ hq).set _ hq).set _ hq).set _ hq).trans (Still.of_ext (by repeat(first | (with_reducible (first | exact Ext.refl _ | exact hX | exact zcD _ _ _ _ | exact za9 _ _ _ _ _)) | ((with_reducible refine zaF ⟨_,?_⟩);(try simp only[Array.append_assoc]);rfl) | (with_reducible (first | apply Ext.drew | apply Ext.alloc | apply Ext.more_)))))
def zeE (g:Nat->Nat->Nat) (C k:Nat):Nat:=((List.range k).map λt=>g (t/C) (t%C)).sum
theorem zqb (g:Nat->Nat->Nat) (C i j) (hj:j<C):zeE g C (i*C+j+1)=zeE g C (i*C+j)+g i j:=by
 unfold zeE;rw[List.range_succ,List.map_append,List.sum_append];have h1:(i*C+j)/C=i:=by rw[Nat.add_comm,Nat.add_mul_div_right _ _ (by omega),Nat.div_eq_of_lt hj];omega
 have h2:(i*C+j)%C=j:=by rw[Nat.add_comm,Nat.add_mul_mod_self_right,Nat.mod_eq_of_lt hj]
 simp[h1,h2]
theorem znI {g:Nat->Nat->Nat} (hg:∀ i j,g i j<=1) (C:Nat):∀ k,zeE g C k<=k
 | 0=>by simp[zeE]
 | k+1=>by
  have ih:=znI hg C k;unfold zeE at *;rw[List.range_succ,List.map_append,List.sum_append];have:=hg (k/C) (k%C);simp
  omega
theorem zrV (a b:Option Val):zi3 a b<=1:=by unfold zi3;split <;> omega
theorem zha.of_block {pb r c A n cap W} (h:W.heap[pb]? = some (.cells #[.int .i64 r,.int .i64 c,.slice A n cap] 27)):zha pb r c A n cap W:=
 ⟨zG h,cell_of_row _ _ 0 _ _ _ h,cell_of_row _ _ 1 _ _ _ h,cell_of_row _ _ 2 _ _ _ h⟩
def zdz (R C:Nat) (l:List Val) (R' C':Nat) (l':List Val) (i j:Nat):Nat:=zi3 (zr R C l i j) (zr R' C' l' i j)
def zdA (t:Val->Val->Val) (R C:Nat) (l:List Val) (R' C':Nat) (l':List Val):List Val:=zbX (λi j=>zcK t (zr R C l i j) (zr R' C' l' i j)) (max C C') (max R R'*max C C')
theorem zrW (R C R' C' n cap n' cap' pa:Nat) (A B l l' fid capt) (t:Val->Val->Val) (Js:Nat->Nat->World->Prop) (w) (h:ArrIn w A n cap l) (h':ArrIn w B n' cap' l') (hr:zA R C l=true) (hr':zA R' C' l'=true) (hf:max R R'*max C C'<=4096) (hpa:pa<w.heap.size) (hA:∀ b off,A=some ⟨b,off,none⟩->b≠pa) (hB:∀ b off,B=some ⟨b,off,none⟩->b≠pa) (hent:∀ (args:Array Value) (W:World),(callFunc fid args).run prog W = .ok (.enter fid args) W) (spec:∀ s0,w.heap.size<=s0->FSpec2 fid capt t w.heap.size (s0+3) pa (Js s0)) (hJ0:∀ s0,w.heap.size<=s0->Js s0 0 w) :
  Calls prog 117 #[AV R C (.slice A n cap),AV R' C' (.slice B n' cap'),.func (.func fid) #[] capt] w λe w'=>∃ D c s0,e = .returned (AV (max R R':Nat) (max C C':Nat) (.slice D (max R R'*max C C') c))∧SlV w.heap.size w' D (zdA t R C l R' C' l')∧max R R'*max C C'<=c∧w.heap.size<=s0∧Js s0 (zeE (zdz R C l R' C' l') (max C C') (max R R'*max C C')) w'∧ExtBut pa w w':=by
 obtain⟨r1,r2,r3,r4,r5,r6⟩:=za5 hr;obtain⟨s1,s2,s3,s4,s5,s6⟩:=za5 hr';have HRR:=Lib.hid (And.intro (zC.1 hr).2.2.2.2 (zC.1 hr').2.2.2.2);have hln:=h.len;have hln':=h'.len;have HN:=Lib.hid (And.intro (show n=R*C by omega) (show n'=R'*C' by omega));have hN:n<=4096:=by omega
 have hN':n'<=4096:=by omega
 have HL:=Lib.hid (And.intro r4 s4);have HCM:Hid ((zak R C R' C').getD (0,0)=(max R R',max C C')∧(zak R C R' C').isSome=true):=by show _∧_;simp[zak,hf]
 unfold zdA;have hm1:1<=max R R':=by omega
 have hm2:1<=max C C':=by omega
 have hm3:max R R'<=4096:=by omega
 have hm4:max C C'<=4096:=by omega
 generalize max R R'=M at *;generalize max C C'=N at *;clear r3 r4 s3 s4 hln hln';have HS:=Lib.hid spec;have HJ:=Lib.hid hJ0;have HA:=Lib.hid (And.intro hA hB);clear spec hJ0 hA hB;go_enter func117,ntmps117;go_wp2_with fail;refine aM (zbl _ _ _ _ _ _ _ (h.ext (by simp[go_sem, *]))) λos1 d1=>?_;go_wp2_with fail;refine aM (zbl _ _ _ _ _ _ _ (h'.ext (by simp[go_sem, *]))) λos2 d2=>?_;go_wp2_with fail;refine(zlZ R C R' C' _ _ _ _ _ _ l l' _ (h.ext (by simp[go_sem, *])) (h'.ext (by simp[go_sem, *])) hr hr' M N true HCM.out.1 HCM.out.2).mono ?_;rintro e w' ⟨rfl,hb⟩;obtain⟨os3,d3,rfl⟩:=hb.more;clear hb;go_wp2_with fail;refine zfO λW hW=>?_;have hX:Ext w W:=by rw[hW];exact by simp[go_sem, *]
 have hbx:W.heap[w.heap.size]? = some (.cells #[.int .i64 R,.int .i64 C,.slice A n cap] 27):=by
  rw[hW,(zao _ _ _).block (by(try simp) <;> omega),Below.heap_alloc _ _ _ (by(try simp) <;> omega),Below.heap_alloc _ _ _ (by(try simp) <;> omega),Below.heap_alloc _ _ _ (by(try simp) <;> omega)];exact heap_alloc_new _ _
 have hby:W.heap[w.heap.size+1]? = some (.cells #[.int .i64 R',.int .i64 C',.slice B n' cap'] 27):=by
  rw[hW,(zao _ _ _).block (by(try simp) <;> omega),Below.heap_alloc _ _ _ (by(try simp) <;> omega),Below.heap_alloc _ _ _ (by(try simp) <;> omega)];have:=heap_alloc_new (w.alloc (.cells #[.int .i64 R,.int .i64 C,.slice A n cap] 27)) (.cells #[.int .i64 R',.int .i64 C',.slice B n' cap'] 27);simpa using this
 have hfx:W.heap[w.heap.size+1+1]? = some (.cells #[.func (.func fid) #[] capt] 71):=by
  rw[hW,(zao _ _ _).block (by(try simp) <;> omega),Below.heap_alloc _ _ _ (by(try simp) <;> omega)];have:=heap_alloc_new ((w.alloc (.cells #[.int .i64 R,.int .i64 C,.slice A n cap] 27)).alloc (.cells #[.int .i64 R',.int .i64 C',.slice B n' cap'] 27)) (.cells #[.func (.func fid) #[] capt] 71);simpa using this
 have hrx:W.heap[w.heap.size+1+1+1]? = some (.cells #[.int .i64 0,.int .i64 0,.slice none 0 0] 27):=by
  rw[hW,(zao _ _ _).block (by(try simp) <;> omega)];have:=heap_alloc_new (((w.alloc (.cells #[.int .i64 R,.int .i64 C,.slice A n cap] 27)).alloc (.cells #[.int .i64 R',.int .i64 C',.slice B n' cap'] 27)).alloc (.cells #[.func (.func fid) #[] capt] 71)) (.cells #[.int .i64 0,.int .i64 0,.slice none 0 0] 27);simpa using this
 clear hW;have hws:=hX.size;have sp:=HS.out W.heap.size hws;have z0:=zG hrx;refine(zkg M N 177 #[.pointer (some ⟨w.heap.size,0,none⟩),.pointer (some ⟨w.heap.size+1,0,none⟩),.pointer (some ⟨w.heap.size+1+1,0,none⟩)] (λi j=>zcK t (zr R C l i j) (zr R' C' l' i j)) W (λk V=>Js W.heap.size (zeE (zdz R C l R' C' l') N k) V∧ExtBut pa W V) hm1 hm2 hf hm3 hm4 (λ_ _=>by kernel_rfl) ⟨?_,?_⟩ ?_ ?_).mono ?_
 ·exact sp.ext _ _ _ hX (HJ.out _ hws)
 ·exact ExtBut.of_ext (Ext.refl _)
 ·rintro k V V' hk ⟨g1,g2⟩;refine⟨sp.keep _ _ _ (by simpa using hk) g1,hk.os.trans g2.os,hk.tape.trans g2.tape,hk.output.trans g2.output,Nat.le_trans g2.size hk.size,λb hb hne=>?_⟩;exact(hk.block b (Nat.lt_of_lt_of_le hb g2.size) (by omega) (by omega) (by omega)).trans (g2.block b hb hne)
 ·rintro i j V hi hj ⟨g1,g2⟩ hsz;have hkk:=zcA M hi hj hf;have hcl:=znI (g:=zdz R C l R' C' l') (λ_ _=>zrV _ _) N (i*N+j);have cA:=zha.of_block ((g2.block w.heap.size (by omega) (by omega)).trans hbx);have cB:=zha.of_block ((g2.block (w.heap.size+1) (by omega) (by omega)).trans hby);have cF:=cell_of_row _ _ 0 _ _ _ ((g2.block (w.heap.size+1+1) (by omega) (by omega)).trans hfx);have aA:=(h.ext hX).but g2 HA.out.1;have aB:=(h'.ext hX).but g2 HA.out.2;have fin:∀ V',Js W.heap.size (zeE (zdz R C l R' C' l') N (i*N+j)+zdz R C l R' C' l' i j) V'->Still (W.heap.size+3) pa V V V'->(Js W.heap.size (zeE (zdz R C l R' C' l') N (i*N+j+1)) V'∧ExtBut pa W V')∧Leaves W.heap.size V V':=by
   intro V' hJ1 hst;refine⟨⟨by rw[zqb _ _ _ _ hj];exact hJ1,⟨hst.os.trans g2.os,hst.tape.trans g2.tape,hst.output.trans g2.output,Nat.le_trans g2.size hst.size,λb' hb' hne=>(hst.block b' (Nat.lt_of_lt_of_le hb' g2.size) (.inl ⟨by omega,hne⟩)).trans (g2.block b' hb' hne)⟩⟩,?_⟩;exact⟨hst.size,hst.block _ (by omega) (.inl ⟨by omega,by omega⟩),hst.block _ (by omega) (.inl ⟨by omega,by omega⟩),hst.block _ (by omega) (.inl ⟨by omega,by omega⟩)⟩
  have non:(zr R C l i j=none∨zr R' C' l' i j=none)->zcK t (zr R C l i j) (zr R' C' l' i j)=zz 6∧zdz R C l R' C' l' i j=0:=by
   intro hno;unfold zdz zi3 zcK;rcases hno with e | e
   ·rw[e];simp
   ·rw[e];cases zr R C l i j <;> simp
  have nonc:(zr R C l i j=none∨zr R' C' l' i j=none)->Calls prog 177 (#[.int .i64 i,.int .i64 j]++#[.pointer (some ⟨w.heap.size,0,none⟩),.pointer (some ⟨w.heap.size+1,0,none⟩),.pointer (some ⟨w.heap.size+1+1,0,none⟩)]) V λe W'=>e = .returned (VV (zcK t (zr R C l i j) (zr R' C' l' i j)).kind (zcK t (zr R C l i j) (zr R' C' l' i j)).mant (zcK t (zr R C l i j) (zr R' C' l' i j)).exp (zcK t (zr R C l i j) (zr R' C' l' i j)).text (zcK t (zr R C l i j) (zr R' C' l' i j)).truth (zcK t (zr R C l i j) (zr R' C' l' i j)).fault)∧(Js W.heap.size (zeE (zdz R C l R' C' l') N (i*N+j+1)) W'∧ExtBut pa W W')∧Leaves W.heap.size V W':=by
   intro hno;obtain⟨e1,e2⟩:=non hno;refine(zou R C R' C' i j n cap n' cap' w.heap.size (w.heap.size+1) (w.heap.size+1+1) A B l l' V cA cB aA aB HN.out.1 HN.out.2 hN hN' hno).mono ?_;rintro e V' ⟨rfl,hxx⟩;rw[e1];exact⟨rfl,fin V' (by rw[e2];exact sp.ext _ _ _ hxx g1) (Still.of_ext hxx)⟩
  cases ha:zr R C l i j with
  | none=>rw[<-ha];exact nonc (.inl ha)
  | some x=>
   cases hb:zr R' C' l' i j with
   | none=>rw[<-ha,<-hb];exact nonc (.inr hb)
   | some y=>
    refine(zov fid capt t w.heap.size W.heap.size pa (Js W.heap.size) sp hent R C R' C' i j n cap n' cap' w.heap.size (w.heap.size+1) (w.heap.size+1+1) (zeE (zdz R C l R' C' l') N (i*N+j)) A B l l' x y V cA cB cF aA aB HN.out.1 HN.out.2 hN hN' g1 hsz (by omega) ha hb (zfB HL.out.1 h.ok ha) (zfB HL.out.2 h'.ok hb) (zbY HL.out.1 HRR.out.1 ha) (zbY HL.out.2 HRR.out.2 hb)).mono ?_;rintro e V' ⟨he,hJ1,hst⟩;have e2:zdz R C l R' C' l' i j=1:=by unfold zdz zi3;rw[ha,hb];rfl
    exact⟨he,fin V' (by rw[e2];exact hJ1) hst⟩
 rintro e w' ⟨D,c,rfl,hs,hc,g1,g2⟩;have hr1:w'.heap[w.heap.size+1+1+1]? = some (.cells #[.int .i64 0,.int .i64 0,.slice none 0 0] 27):=(g2.block _ (by omega) (by omega)).trans hrx;have q0:=cell_of_row _ _ 0 _ _ _ hr1;have q1:=cell_of_row _ _ 1 _ _ _ hr1;have q2:=cell_of_row _ _ 2 _ _ _ hr1;have f0:=frozen_of_row _ _ 0 _ _ hr1;have f1:=frozen_of_row _ _ 1 _ _ hr1;have f2:=frozen_of_row _ _ 2 _ _ hr1;have hg2:=Lib.hid g2;clear g2 hbx hby hfx hrx;go_wp2;refine bodyPost_ret (v:=AV M N (.slice D (M*N) c)) (by simp[results,results117,go_sem,q0,q1,q2]) rfl ⟨D,c,W.heap.size,rfl,?_,hc,hws,?_,?_⟩
 ·exact Rd.mono (((hs.set_far _ (by simp;omega)).set_far _ (by simp;omega)).set_far _ (by simp;omega)) (by omega)
 ·exact sp.far _ _ _ _ (by simp only;omega) (by simp only;omega) (sp.far _ _ _ _ (by simp only;omega) (by simp only;omega) (sp.far _ _ _ _ (by simp only;omega) (by simp only;omega) g1))
 ·exact((((ExtBut.of_ext hX).trans hg2.out).set _ (by simp only;omega)).set _ (by simp only;omega)).set _ (by simp only;omega)
theorem ztj (fid capt r c r' c' A B n cap n' cap' l l' w) (h:ArrIn w A n cap l) (h':ArrIn w B n' cap' l') (hr:(zA r c l&&zA r' c' l')=false):Calls prog 117 #[AV r c (.slice A n cap),AV r' c' (.slice B n' cap'),.func (.func fid) #[] capt] w λe w'=>zdH w.heap.size w' e 1 1 [bad9]∧Ext w w':=by(by_cases h1:zA r c l=true);(focus(have h2:zA r' c' l'=false:=(by simpa[h1] using hr));clear hr;go_enter func117,ntmps117;go_wp2_with fail;refine aM (zbl _ _ _ _ _ _ _ (h.ext (by simp[go_sem, *]))) λos1 d1=>?_;go_wp2_with fail;refine aM (zbl _ _ _ _ _ _ _ (h'.ext (by simp[go_sem, *]))) λos2 d2=>?_;go_wp2_with fail;refine(zeN _).mono ?_;rintro e w' ⟨⟨D,cc,rfl,hs,hc⟩,hb⟩;obtain⟨os9,d9,rfl⟩:=hb.more;clear hb;go_wp2;exact rc1 (v:=AV 1 1 (.slice D 1 cc)) rfl rfl (by simp[go_sem]) ⟨⟨_,_,rfl,(by(try simp only[zc,zj,zh,Array.append_assoc] at hs);exact hs.sw (by simp <;> omega)),hc⟩,by simp[go_sem, *]⟩);(have h1':zA r c l=false:=(by simpa using h1));clear hr h1;go_enter func117,ntmps117;go_wp2_with fail;refine aM (zbl _ _ _ _ _ _ _ (h.ext (by simp[go_sem, *]))) λos1 d1=>?_;go_wp2_with fail;refine(zeN _).mono ?_;rintro e w' ⟨⟨D,cc,rfl,hs,hc⟩,hb⟩;obtain⟨os9,d9,rfl⟩:=hb.more;clear hb;go_wp2;exact rc1 (v:=AV 1 1 (.slice D 1 cc)) rfl rfl (by simp[go_sem]) ⟨⟨_,_,rfl,(by(try simp only[zc,zj,zh,Array.append_assoc] at hs);exact hs.sw (by simp <;> omega)),hc⟩,by simp[go_sem, *]⟩
theorem zow (fid capt) (R C R' C':Nat) (A B n cap n' cap' l l' w) (h:ArrIn w A n cap l) (h':ArrIn w B n' cap' l') (hr:zA R C l=true) (hr':zA R' C' l'=true) (hf:¬ max R R'*max C C'<=4096):Calls prog 117 #[AV R C (.slice A n cap),AV R' C' (.slice B n' cap'),.func (.func fid) #[] capt] w λe w'=>zdH w.heap.size w' e 1 1 [zz 5]∧Ext w w':=by(have HCM:Hid ((zak R C R' C').getD (0,0)=(0,0)∧(zak R C R' C').isSome=false):=(by show _∧_;simp[zak,hf]));clear hf;go_enter func117,ntmps117;go_wp2_with fail;refine aM (zbl _ _ _ _ _ _ _ (h.ext (by simp[go_sem, *]))) λos1 d1=>?_;go_wp2_with fail;refine aM (zbl _ _ _ _ _ _ _ (h'.ext (by simp[go_sem, *]))) λos2 d2=>?_;go_wp2_with fail;refine aM (zlZ R C R' C' _ _ _ _ _ _ l l' _ (h.ext (by simp[go_sem, *])) (h'.ext (by simp[go_sem, *])) hr hr' 0 0 false HCM.out.1 HCM.out.2) λos3 d3=>?_;go_wp2_with fail;refine(zly _).mono ?_;rintro e w' ⟨⟨D,cc,rfl,hs,hc⟩,hb⟩;obtain⟨os9,d9,rfl⟩:=hb.more;clear hb;go_wp2;exact rc1 (v:=AV 1 1 (.slice D 1 cc)) rfl rfl (by simp[go_sem]) ⟨⟨_,_,rfl,(by(try simp only[zc,zj,zh,Array.append_assoc] at hs);exact hs.sw (by simp <;> omega)),hc⟩,by simp[go_sem, *]⟩
def zaC (t:Val->Val->Val) (r c:Int) (l:List Val) (r' c':Int) (l':List Val):NA:=
 if zA r c l&&zA r' c' l' then
  if max r.toNat r'.toNat*max c.toNat c'.toNat<=4096 then⟨max r.toNat r'.toNat,max c.toNat c'.toNat,zdA t r.toNat c.toNat l r'.toNat c'.toNat l'⟩ else⟨1,1,[zz 5]⟩
 else⟨1,1,[bad9]⟩
theorem zir {t:Val->Val->Val} (ht:∀ x y,x.ok->y.ok->valRight x=true->valRight y=true->(t x y).ok) {R C R' C' l l'} (hl:l.length=R*C) (hl':l'.length=R'*C') (h:∀ x∈l,x.ok) (h':∀ x∈l',x.ok) (g:∀ x∈l,valRight x=true) (g':∀ x∈l',valRight x=true):∀ x∈zdA t R C l R' C' l',x.ok:=by
 intro x hx;obtain⟨i,j,rfl⟩:=zrG hx;unfold zcK;split
 ·rename_i x y e1 e2;exact znw (ht _ _ (zfB hl h e1) (zfB hl' h' e2) (zbY hl g e1) (zbY hl' g' e2)) _ (by simp)
 ·exact zhG 6 zu0
theorem zfl (t:Val->Val->Val) (R C l R' C' l'):(zdA t R C l R' C' l').length=max R R'*max C C':=zhU _ _ _
end Go.Proofs.YtinjdacijiohiaaGreatDoor
namespace Go.Proofs.YtinjdacijiohiaaGreatDoor
open _root_.Go.Proofs.Tryz
open Go.RowKit NM
theorem zu2 (n w) :
  Tl prog 217 #[.int .i64 n] w (.bool (Sg.pred .eq n)):=by
 show Calls _ _ _ _ λe w'=>e = .returned (.bool (n==0))∧Ext w w';go_enter func217,ntmps217;go_wp2_with fail;go_ret;exact⟨rfl,Ext.refl _⟩
theorem ztk (x y pb w) (hx:x.ok) (hy:y.ok) (hc:w.cell? ⟨pb,0,none⟩=some (.func (.func 217) #[] #[])) (z) (hz:zM (Sg.pred .eq) x y=z) :
  Tl prog 241 #[VV x.kind x.mant x.exp x.text x.truth x.fault,VV y.kind y.mant y.exp y.text y.truth y.fault,.pointer (some ⟨pb,0,none⟩)] w (VV z.kind z.mant z.exp z.text z.truth z.fault):=by
 have hpb:=za hc;have hcm:=λW=>zdI x y W hx hy;have htr:=λb W=>zcb b W;have his:=λW=>zu2 (zaB x y) W;by_cases h1:x.kind=4
 ·obtain rfl:z=x:=by rw[<-hz];unfold zM;simp[h1]
  have q1:(z.kind==4)=true:=by simp[h1]
  clear h1 hz hx hy his hcm htr;generalize z.kind=xk at *;generalize z.mant=xm at *;generalize z.exp=xe at *;generalize z.text=xt at *;generalize z.truth=xb at *;generalize z.fault=xf at *;generalize y.kind=yk at *;generalize y.mant=ym at *;generalize y.exp=ye at *;generalize y.text=yt at *;generalize y.truth=yb at *;generalize y.fault=yf at *;go_enter func241,ntmps241;go_wp2_with fail;exact rc1 rfl rfl (by simp[go_sem]) ⟨rfl,by simp[go_sem]⟩
 ·have q1:(x.kind==4)=false:=by simp[h1]
  by_cases h2:y.kind=4
  ·obtain rfl:z=y:=by rw[<-hz];unfold zM;simp[h1,h2]
   have q2:(z.kind==4)=true:=by simp[h2]
   clear h1 h2 hz hx hy his hcm htr;generalize x.kind=xk at *;generalize x.mant=xm at *;generalize x.exp=xe at *;generalize x.text=xt at *;generalize x.truth=xb at *;generalize x.fault=xf at *;generalize z.kind=yk at *;generalize z.mant=ym at *;generalize z.exp=ye at *;generalize z.text=yt at *;generalize z.truth=yb at *;generalize z.fault=yf at *;go_enter func241,ntmps241;go_wp2_with fail;exact rc1 rfl rfl (by simp[go_sem]) ⟨rfl,by simp[go_sem]⟩
  ·obtain rfl:z=zW (Sg.pred .eq (zaB x y)):=by rw[<-hz];unfold zM;simp[h1,h2]
   have q2:(y.kind==4)=false:=by simp[h2]
   clear h1 h2 hz hx hy;simp only[zW];generalize zaB x y=n at *;generalize Sg.pred .eq n=r at *;generalize x.kind=xk at *;generalize x.mant=xm at *;generalize x.exp=xe at *;generalize x.text=xt at *;generalize x.truth=xb at *;generalize x.fault=xf at *;generalize y.kind=yk at *;generalize y.mant=ym at *;generalize y.exp=ye at *;generalize y.text=yt at *;generalize y.truth=yb at *;generalize y.fault=yf at *;go_enter func241,ntmps241;go_upto_region 5 with fail;refine plP [(0,0),(1,0),(2,0),(3,1),(4,1),(5,1),(6,2)] [6] (by kernel_rfl) (λ_ _ d _ _ h=>by cases d <;> exact h) ?_;iterate 3(apply rdP rfl rfl;(intros;go_simp;first | done | rfl);try simp only[zq])
   (refine zg rfl ?_ (λK hK=>?_);rfl;go_simp;refine aM (hcm _) λos1 d1=>?_;refine hK _ _ ?_ ?_;(simp[go_sem]))
   try simp only[zq]
   (refine zg rfl ?_ (λK hK=>?_);rfl;go_simp;refine aM (his _) λos2 d2=>?_;refine hK _ _ ?_ ?_;(simp[go_sem]))
   try simp only[zq]
   (refine zg rfl ?_ (λK hK=>?_);rfl;go_simp;refine aM (htr _ _) λos3 d3=>?_;refine hK _ _ ?_ ?_;(simp[go_sem]))
   try simp only[zq]
   (refine zU rfl ?_ (λK hK=>?_);rfl;go_simp;refine hK _ _ ?_)
   try simp only[Act.put]
   refine zi ?_;go_wp2_with fail;exact rc1 rfl rfl (by simp[go_sem]) ⟨rfl,by simp[go_sem]⟩
theorem zu3 (n w) :
  Tl prog 218 #[.int .i64 n] w (.bool (Sg.pred .ne n)):=by
 show Calls _ _ _ _ λe w'=>e = .returned (.bool (n != 0))∧Ext w w';go_enter func218,ntmps218;go_wp2_with fail;go_ret;exact⟨rfl,Ext.refl _⟩
theorem ztl (x y pb w) (hx:x.ok) (hy:y.ok) (hc:w.cell? ⟨pb,0,none⟩=some (.func (.func 218) #[] #[])) (z) (hz:zM (Sg.pred .ne) x y=z) :
  Tl prog 241 #[VV x.kind x.mant x.exp x.text x.truth x.fault,VV y.kind y.mant y.exp y.text y.truth y.fault,.pointer (some ⟨pb,0,none⟩)] w (VV z.kind z.mant z.exp z.text z.truth z.fault):=by
 have hpb:=za hc;have hcm:=λW=>zdI x y W hx hy;have htr:=λb W=>zcb b W;have his:=λW=>zu3 (zaB x y) W;by_cases h1:x.kind=4
 ·obtain rfl:z=x:=by rw[<-hz];unfold zM;simp[h1]
  have q1:(z.kind==4)=true:=by simp[h1]
  clear h1 hz hx hy his hcm htr;generalize z.kind=xk at *;generalize z.mant=xm at *;generalize z.exp=xe at *;generalize z.text=xt at *;generalize z.truth=xb at *;generalize z.fault=xf at *;generalize y.kind=yk at *;generalize y.mant=ym at *;generalize y.exp=ye at *;generalize y.text=yt at *;generalize y.truth=yb at *;generalize y.fault=yf at *;go_enter func241,ntmps241;go_wp2_with fail;exact rc1 rfl rfl (by simp[go_sem]) ⟨rfl,by simp[go_sem]⟩
 ·have q1:(x.kind==4)=false:=by simp[h1]
  by_cases h2:y.kind=4
  ·obtain rfl:z=y:=by rw[<-hz];unfold zM;simp[h1,h2]
   have q2:(z.kind==4)=true:=by simp[h2]
   clear h1 h2 hz hx hy his hcm htr;generalize x.kind=xk at *;generalize x.mant=xm at *;generalize x.exp=xe at *;generalize x.text=xt at *;generalize x.truth=xb at *;generalize x.fault=xf at *;generalize z.kind=yk at *;generalize z.mant=ym at *;generalize z.exp=ye at *;generalize z.text=yt at *;generalize z.truth=yb at *;generalize z.fault=yf at *;go_enter func241,ntmps241;go_wp2_with fail;exact rc1 rfl rfl (by simp[go_sem]) ⟨rfl,by simp[go_sem]⟩
  ·obtain rfl:z=zW (Sg.pred .ne (zaB x y)):=by rw[<-hz];unfold zM;simp[h1,h2]
   have q2:(y.kind==4)=false:=by simp[h2]
   clear h1 h2 hz hx hy;simp only[zW];generalize zaB x y=n at *;generalize Sg.pred .ne n=r at *;generalize x.kind=xk at *;generalize x.mant=xm at *;generalize x.exp=xe at *;generalize x.text=xt at *;generalize x.truth=xb at *;generalize x.fault=xf at *;generalize y.kind=yk at *;generalize y.mant=ym at *;generalize y.exp=ye at *;generalize y.text=yt at *;generalize y.truth=yb at *;generalize y.fault=yf at *;go_enter func241,ntmps241;go_upto_region 5 with fail;refine plP [(0,0),(1,0),(2,0),(3,1),(4,1),(5,1),(6,2)] [6] (by kernel_rfl) (λ_ _ d _ _ h=>by cases d <;> exact h) ?_;iterate 3(apply rdP rfl rfl;(intros;go_simp;first | done | rfl);try simp only[zq])
   (refine zg rfl ?_ (λK hK=>?_);rfl;go_simp;refine aM (hcm _) λos1 d1=>?_;refine hK _ _ ?_ ?_;(simp[go_sem]))
   try simp only[zq]
   (refine zg rfl ?_ (λK hK=>?_);rfl;go_simp;refine aM (his _) λos2 d2=>?_;refine hK _ _ ?_ ?_;(simp[go_sem]))
   try simp only[zq]
   (refine zg rfl ?_ (λK hK=>?_);rfl;go_simp;refine aM (htr _ _) λos3 d3=>?_;refine hK _ _ ?_ ?_;(simp[go_sem]))
   try simp only[zq]
   (refine zU rfl ?_ (λK hK=>?_);rfl;go_simp;refine hK _ _ ?_)
   try simp only[Act.put]
   refine zi ?_;go_wp2_with fail;exact rc1 rfl rfl (by simp[go_sem]) ⟨rfl,by simp[go_sem]⟩
theorem zu4 (n w) :
  Tl prog 219 #[.int .i64 n] w (.bool (Sg.pred .lt n)):=by
 show Calls _ _ _ _ λe w'=>e = .returned (.bool (decide (n<0)))∧Ext w w';go_enter func219,ntmps219;go_wp2_with fail;go_ret;exact⟨rfl,Ext.refl _⟩
theorem ztm (x y pb w) (hx:x.ok) (hy:y.ok) (hc:w.cell? ⟨pb,0,none⟩=some (.func (.func 219) #[] #[])) (z) (hz:zM (Sg.pred .lt) x y=z) :
  Tl prog 241 #[VV x.kind x.mant x.exp x.text x.truth x.fault,VV y.kind y.mant y.exp y.text y.truth y.fault,.pointer (some ⟨pb,0,none⟩)] w (VV z.kind z.mant z.exp z.text z.truth z.fault):=by
 have hpb:=za hc;have hcm:=λW=>zdI x y W hx hy;have htr:=λb W=>zcb b W;have his:=λW=>zu4 (zaB x y) W;by_cases h1:x.kind=4
 ·obtain rfl:z=x:=by rw[<-hz];unfold zM;simp[h1]
  have q1:(z.kind==4)=true:=by simp[h1]
  clear h1 hz hx hy his hcm htr;generalize z.kind=xk at *;generalize z.mant=xm at *;generalize z.exp=xe at *;generalize z.text=xt at *;generalize z.truth=xb at *;generalize z.fault=xf at *;generalize y.kind=yk at *;generalize y.mant=ym at *;generalize y.exp=ye at *;generalize y.text=yt at *;generalize y.truth=yb at *;generalize y.fault=yf at *;go_enter func241,ntmps241;go_wp2_with fail;exact rc1 rfl rfl (by simp[go_sem]) ⟨rfl,by simp[go_sem]⟩
 ·have q1:(x.kind==4)=false:=by simp[h1]
  by_cases h2:y.kind=4
  ·obtain rfl:z=y:=by rw[<-hz];unfold zM;simp[h1,h2]
   have q2:(z.kind==4)=true:=by simp[h2]
   clear h1 h2 hz hx hy his hcm htr;generalize x.kind=xk at *;generalize x.mant=xm at *;generalize x.exp=xe at *;generalize x.text=xt at *;generalize x.truth=xb at *;generalize x.fault=xf at *;generalize z.kind=yk at *;generalize z.mant=ym at *;generalize z.exp=ye at *;generalize z.text=yt at *;generalize z.truth=yb at *;generalize z.fault=yf at *;go_enter func241,ntmps241;go_wp2_with fail;exact rc1 rfl rfl (by simp[go_sem]) ⟨rfl,by simp[go_sem]⟩
  ·obtain rfl:z=zW (Sg.pred .lt (zaB x y)):=by rw[<-hz];unfold zM;simp[h1,h2]
   have q2:(y.kind==4)=false:=by simp[h2]
   clear h1 h2 hz hx hy;simp only[zW];generalize zaB x y=n at *;generalize Sg.pred .lt n=r at *;generalize x.kind=xk at *;generalize x.mant=xm at *;generalize x.exp=xe at *;generalize x.text=xt at *;generalize x.truth=xb at *;generalize x.fault=xf at *;generalize y.kind=yk at *;generalize y.mant=ym at *;generalize y.exp=ye at *;generalize y.text=yt at *;generalize y.truth=yb at *;generalize y.fault=yf at *;go_enter func241,ntmps241;go_upto_region 5 with fail;refine plP [(0,0),(1,0),(2,0),(3,1),(4,1),(5,1),(6,2)] [6] (by kernel_rfl) (λ_ _ d _ _ h=>by cases d <;> exact h) ?_;iterate 3(apply rdP rfl rfl;(intros;go_simp;first | done | rfl);try simp only[zq])
   (refine zg rfl ?_ (λK hK=>?_);rfl;go_simp;refine aM (hcm _) λos1 d1=>?_;refine hK _ _ ?_ ?_;(simp[go_sem]))
   try simp only[zq]
   (refine zg rfl ?_ (λK hK=>?_);rfl;go_simp;refine aM (his _) λos2 d2=>?_;refine hK _ _ ?_ ?_;(simp[go_sem]))
   try simp only[zq]
   (refine zg rfl ?_ (λK hK=>?_);rfl;go_simp;refine aM (htr _ _) λos3 d3=>?_;refine hK _ _ ?_ ?_;(simp[go_sem]))
   try simp only[zq]
   (refine zU rfl ?_ (λK hK=>?_);rfl;go_simp;refine hK _ _ ?_)
   try simp only[Act.put]
   refine zi ?_;go_wp2_with fail;exact rc1 rfl rfl (by simp[go_sem]) ⟨rfl,by simp[go_sem]⟩
theorem zu5 (n w) :
  Tl prog 220 #[.int .i64 n] w (.bool (Sg.pred .le n)):=by
 show Calls _ _ _ _ λe w'=>e = .returned (.bool (decide (n<=0)))∧Ext w w';go_enter func220,ntmps220;go_wp2_with fail;go_ret;exact⟨rfl,Ext.refl _⟩
theorem ztn (x y pb w) (hx:x.ok) (hy:y.ok) (hc:w.cell? ⟨pb,0,none⟩=some (.func (.func 220) #[] #[])) (z) (hz:zM (Sg.pred .le) x y=z) :
  Tl prog 241 #[VV x.kind x.mant x.exp x.text x.truth x.fault,VV y.kind y.mant y.exp y.text y.truth y.fault,.pointer (some ⟨pb,0,none⟩)] w (VV z.kind z.mant z.exp z.text z.truth z.fault):=by
 have hpb:=za hc;have hcm:=λW=>zdI x y W hx hy;have htr:=λb W=>zcb b W;have his:=λW=>zu5 (zaB x y) W;by_cases h1:x.kind=4
 ·obtain rfl:z=x:=by rw[<-hz];unfold zM;simp[h1]
  have q1:(z.kind==4)=true:=by simp[h1]
  clear h1 hz hx hy his hcm htr;generalize z.kind=xk at *;generalize z.mant=xm at *;generalize z.exp=xe at *;generalize z.text=xt at *;generalize z.truth=xb at *;generalize z.fault=xf at *;generalize y.kind=yk at *;generalize y.mant=ym at *;generalize y.exp=ye at *;generalize y.text=yt at *;generalize y.truth=yb at *;generalize y.fault=yf at *;go_enter func241,ntmps241;go_wp2_with fail;exact rc1 rfl rfl (by simp[go_sem]) ⟨rfl,by simp[go_sem]⟩
 ·have q1:(x.kind==4)=false:=by simp[h1]
  by_cases h2:y.kind=4
  ·obtain rfl:z=y:=by rw[<-hz];unfold zM;simp[h1,h2]
   have q2:(z.kind==4)=true:=by simp[h2]
   clear h1 h2 hz hx hy his hcm htr;generalize x.kind=xk at *;generalize x.mant=xm at *;generalize x.exp=xe at *;generalize x.text=xt at *;generalize x.truth=xb at *;generalize x.fault=xf at *;generalize z.kind=yk at *;generalize z.mant=ym at *;generalize z.exp=ye at *;generalize z.text=yt at *;generalize z.truth=yb at *;generalize z.fault=yf at *;go_enter func241,ntmps241;go_wp2_with fail;exact rc1 rfl rfl (by simp[go_sem]) ⟨rfl,by simp[go_sem]⟩
  ·obtain rfl:z=zW (Sg.pred .le (zaB x y)):=by rw[<-hz];unfold zM;simp[h1,h2]
   have q2:(y.kind==4)=false:=by simp[h2]
   clear h1 h2 hz hx hy;simp only[zW];generalize zaB x y=n at *;generalize Sg.pred .le n=r at *;generalize x.kind=xk at *;generalize x.mant=xm at *;generalize x.exp=xe at *;generalize x.text=xt at *;generalize x.truth=xb at *;generalize x.fault=xf at *;generalize y.kind=yk at *;generalize y.mant=ym at *;generalize y.exp=ye at *;generalize y.text=yt at *;generalize y.truth=yb at *;generalize y.fault=yf at *;go_enter func241,ntmps241;go_upto_region 5 with fail;refine plP [(0,0),(1,0),(2,0),(3,1),(4,1),(5,1),(6,2)] [6] (by kernel_rfl) (λ_ _ d _ _ h=>by cases d <;> exact h) ?_;iterate 3(apply rdP rfl rfl;(intros;go_simp;first | done | rfl);try simp only[zq])
   (refine zg rfl ?_ (λK hK=>?_);rfl;go_simp;refine aM (hcm _) λos1 d1=>?_;refine hK _ _ ?_ ?_;(simp[go_sem]))
   try simp only[zq]
   (refine zg rfl ?_ (λK hK=>?_);rfl;go_simp;refine aM (his _) λos2 d2=>?_;refine hK _ _ ?_ ?_;(simp[go_sem]))
   try simp only[zq]
   (refine zg rfl ?_ (λK hK=>?_);rfl;go_simp;refine aM (htr _ _) λos3 d3=>?_;refine hK _ _ ?_ ?_;(simp[go_sem]))
   try simp only[zq]
   (refine zU rfl ?_ (λK hK=>?_);rfl;go_simp;refine hK _ _ ?_)
   try simp only[Act.put]
   refine zi ?_;go_wp2_with fail;exact rc1 rfl rfl (by simp[go_sem]) ⟨rfl,by simp[go_sem]⟩
theorem zu6 (n w) :
  Tl prog 221 #[.int .i64 n] w (.bool (Sg.pred .gt n)):=by
 show Calls _ _ _ _ λe w'=>e = .returned (.bool (decide (0<n)))∧Ext w w';go_enter func221,ntmps221;go_wp2_with fail;go_ret;exact⟨rfl,Ext.refl _⟩
theorem zto (x y pb w) (hx:x.ok) (hy:y.ok) (hc:w.cell? ⟨pb,0,none⟩=some (.func (.func 221) #[] #[])) (z) (hz:zM (Sg.pred .gt) x y=z) :
  Tl prog 241 #[VV x.kind x.mant x.exp x.text x.truth x.fault,VV y.kind y.mant y.exp y.text y.truth y.fault,.pointer (some ⟨pb,0,none⟩)] w (VV z.kind z.mant z.exp z.text z.truth z.fault):=by
 have hpb:=za hc;have hcm:=λW=>zdI x y W hx hy;have htr:=λb W=>zcb b W;have his:=λW=>zu6 (zaB x y) W;by_cases h1:x.kind=4
 ·obtain rfl:z=x:=by rw[<-hz];unfold zM;simp[h1]
  have q1:(z.kind==4)=true:=by simp[h1]
  clear h1 hz hx hy his hcm htr;generalize z.kind=xk at *;generalize z.mant=xm at *;generalize z.exp=xe at *;generalize z.text=xt at *;generalize z.truth=xb at *;generalize z.fault=xf at *;generalize y.kind=yk at *;generalize y.mant=ym at *;generalize y.exp=ye at *;generalize y.text=yt at *;generalize y.truth=yb at *;generalize y.fault=yf at *;go_enter func241,ntmps241;go_wp2_with fail;exact rc1 rfl rfl (by simp[go_sem]) ⟨rfl,by simp[go_sem]⟩
 ·have q1:(x.kind==4)=false:=by simp[h1]
  by_cases h2:y.kind=4
  ·obtain rfl:z=y:=by rw[<-hz];unfold zM;simp[h1,h2]
   have q2:(z.kind==4)=true:=by simp[h2]
   clear h1 h2 hz hx hy his hcm htr;generalize x.kind=xk at *;generalize x.mant=xm at *;generalize x.exp=xe at *;generalize x.text=xt at *;generalize x.truth=xb at *;generalize x.fault=xf at *;generalize z.kind=yk at *;generalize z.mant=ym at *;generalize z.exp=ye at *;generalize z.text=yt at *;generalize z.truth=yb at *;generalize z.fault=yf at *;go_enter func241,ntmps241;go_wp2_with fail;exact rc1 rfl rfl (by simp[go_sem]) ⟨rfl,by simp[go_sem]⟩
  ·obtain rfl:z=zW (Sg.pred .gt (zaB x y)):=by rw[<-hz];unfold zM;simp[h1,h2]
   have q2:(y.kind==4)=false:=by simp[h2]
   clear h1 h2 hz hx hy;simp only[zW];generalize zaB x y=n at *;generalize Sg.pred .gt n=r at *;generalize x.kind=xk at *;generalize x.mant=xm at *;generalize x.exp=xe at *;generalize x.text=xt at *;generalize x.truth=xb at *;generalize x.fault=xf at *;generalize y.kind=yk at *;generalize y.mant=ym at *;generalize y.exp=ye at *;generalize y.text=yt at *;generalize y.truth=yb at *;generalize y.fault=yf at *;go_enter func241,ntmps241;go_upto_region 5 with fail;refine plP [(0,0),(1,0),(2,0),(3,1),(4,1),(5,1),(6,2)] [6] (by kernel_rfl) (λ_ _ d _ _ h=>by cases d <;> exact h) ?_;iterate 3(apply rdP rfl rfl;(intros;go_simp;first | done | rfl);try simp only[zq])
   (refine zg rfl ?_ (λK hK=>?_);rfl;go_simp;refine aM (hcm _) λos1 d1=>?_;refine hK _ _ ?_ ?_;(simp[go_sem]))
   try simp only[zq]
   (refine zg rfl ?_ (λK hK=>?_);rfl;go_simp;refine aM (his _) λos2 d2=>?_;refine hK _ _ ?_ ?_;(simp[go_sem]))
   try simp only[zq]
   (refine zg rfl ?_ (λK hK=>?_);rfl;go_simp;refine aM (htr _ _) λos3 d3=>?_;refine hK _ _ ?_ ?_;(simp[go_sem]))
   try simp only[zq]
   (refine zU rfl ?_ (λK hK=>?_);rfl;go_simp;refine hK _ _ ?_)
   try simp only[Act.put]
   refine zi ?_;go_wp2_with fail;exact rc1 rfl rfl (by simp[go_sem]) ⟨rfl,by simp[go_sem]⟩
theorem zu7 (n w) :
  Tl prog 222 #[.int .i64 n] w (.bool (Sg.pred .ge n)):=by
 show Calls _ _ _ _ λe w'=>e = .returned (.bool (decide (0<=n)))∧Ext w w';go_enter func222,ntmps222;go_wp2_with fail;go_ret;exact⟨rfl,Ext.refl _⟩
theorem ztp (x y pb w) (hx:x.ok) (hy:y.ok) (hc:w.cell? ⟨pb,0,none⟩=some (.func (.func 222) #[] #[])) (z) (hz:zM (Sg.pred .ge) x y=z) :
  Tl prog 241 #[VV x.kind x.mant x.exp x.text x.truth x.fault,VV y.kind y.mant y.exp y.text y.truth y.fault,.pointer (some ⟨pb,0,none⟩)] w (VV z.kind z.mant z.exp z.text z.truth z.fault):=by
 have hpb:=za hc;have hcm:=λW=>zdI x y W hx hy;have htr:=λb W=>zcb b W;have his:=λW=>zu7 (zaB x y) W;by_cases h1:x.kind=4
 ·obtain rfl:z=x:=by rw[<-hz];unfold zM;simp[h1]
  have q1:(z.kind==4)=true:=by simp[h1]
  clear h1 hz hx hy his hcm htr;generalize z.kind=xk at *;generalize z.mant=xm at *;generalize z.exp=xe at *;generalize z.text=xt at *;generalize z.truth=xb at *;generalize z.fault=xf at *;generalize y.kind=yk at *;generalize y.mant=ym at *;generalize y.exp=ye at *;generalize y.text=yt at *;generalize y.truth=yb at *;generalize y.fault=yf at *;go_enter func241,ntmps241;go_wp2_with fail;exact rc1 rfl rfl (by simp[go_sem]) ⟨rfl,by simp[go_sem]⟩
 ·have q1:(x.kind==4)=false:=by simp[h1]
  by_cases h2:y.kind=4
  ·obtain rfl:z=y:=by rw[<-hz];unfold zM;simp[h1,h2]
   have q2:(z.kind==4)=true:=by simp[h2]
   clear h1 h2 hz hx hy his hcm htr;generalize x.kind=xk at *;generalize x.mant=xm at *;generalize x.exp=xe at *;generalize x.text=xt at *;generalize x.truth=xb at *;generalize x.fault=xf at *;generalize z.kind=yk at *;generalize z.mant=ym at *;generalize z.exp=ye at *;generalize z.text=yt at *;generalize z.truth=yb at *;generalize z.fault=yf at *;go_enter func241,ntmps241;go_wp2_with fail;exact rc1 rfl rfl (by simp[go_sem]) ⟨rfl,by simp[go_sem]⟩
  ·obtain rfl:z=zW (Sg.pred .ge (zaB x y)):=by rw[<-hz];unfold zM;simp[h1,h2]
   have q2:(y.kind==4)=false:=by simp[h2]
   clear h1 h2 hz hx hy;simp only[zW];generalize zaB x y=n at *;generalize Sg.pred .ge n=r at *;generalize x.kind=xk at *;generalize x.mant=xm at *;generalize x.exp=xe at *;generalize x.text=xt at *;generalize x.truth=xb at *;generalize x.fault=xf at *;generalize y.kind=yk at *;generalize y.mant=ym at *;generalize y.exp=ye at *;generalize y.text=yt at *;generalize y.truth=yb at *;generalize y.fault=yf at *;go_enter func241,ntmps241;go_upto_region 5 with fail;refine plP [(0,0),(1,0),(2,0),(3,1),(4,1),(5,1),(6,2)] [6] (by kernel_rfl) (λ_ _ d _ _ h=>by cases d <;> exact h) ?_;iterate 3(apply rdP rfl rfl;(intros;go_simp;first | done | rfl);try simp only[zq])
   (refine zg rfl ?_ (λK hK=>?_);rfl;go_simp;refine aM (hcm _) λos1 d1=>?_;refine hK _ _ ?_ ?_;(simp[go_sem]))
   try simp only[zq]
   (refine zg rfl ?_ (λK hK=>?_);rfl;go_simp;refine aM (his _) λos2 d2=>?_;refine hK _ _ ?_ ?_;(simp[go_sem]))
   try simp only[zq]
   (refine zg rfl ?_ (λK hK=>?_);rfl;go_simp;refine aM (htr _ _) λos3 d3=>?_;refine hK _ _ ?_ ?_;(simp[go_sem]))
   try simp only[zq]
   (refine zU rfl ?_ (λK hK=>?_);rfl;go_simp;refine hK _ _ ?_)
   try simp only[Act.put]
   refine zi ?_;go_wp2_with fail;exact rc1 rfl rfl (by simp[go_sem]) ⟨rfl,by simp[go_sem]⟩
theorem zrX (x y pb w) (htab:Tab w) (hx:x.right) (hy:y.right) (hc:w.cell? ⟨pb,0,none⟩=some (.func (.func 100) #[] #[])) (z) (hz:zad addS x y=z) :
  Tl prog 235 #[VV x.kind x.mant x.exp x.text x.truth x.fault,VV y.kind y.mant y.exp y.text y.truth y.fault,.pointer (some ⟨pb,0,none⟩)] w (VV z.kind z.mant z.exp z.text z.truth z.fault):=by
 have hpb:=za hc;have hrk:=λW hW=>zlU x y W hW hx hy;rw[hz] at hrk;have HT:=Lib.hid htab;clear htab hz hx hy;generalize x.kind=xk at *;generalize x.mant=xm at *;generalize x.exp=xe at *;generalize x.text=xt at *;generalize x.truth=xb at *;generalize x.fault=xf at *;generalize y.kind=yk at *;generalize y.mant=ym at *;generalize y.exp=ye at *;generalize y.text=yt at *;generalize y.truth=yb at *;generalize y.fault=yf at *;generalize z.kind=zk at *;generalize z.mant=zm at *;generalize z.exp=ze at *;generalize z.text=zt at *;generalize z.truth=zb at *;generalize z.fault=zf at *;go_enter func235,ntmps235;go_wp2_with (go_at_call 236;with_reducible refine aM (hrk _ (HT.out.ext (by simp[go_sem]))) λos d=>?_);exact rc1 rfl rfl (by simp[go_sem]) ⟨rfl,by simp[go_sem]⟩
theorem zrY (x y pb w) (htab:Tab w) (hx:x.right) (hy:y.right) (hc:w.cell? ⟨pb,0,none⟩=some (.func (.func 120) #[] #[])) (z) (hz:zad subS x y=z) :
  Tl prog 235 #[VV x.kind x.mant x.exp x.text x.truth x.fault,VV y.kind y.mant y.exp y.text y.truth y.fault,.pointer (some ⟨pb,0,none⟩)] w (VV z.kind z.mant z.exp z.text z.truth z.fault):=by
 have hpb:=za hc;have hrk:=λW hW=>zlV x y W hW hx hy;rw[hz] at hrk;have HT:=Lib.hid htab;clear htab hz hx hy;generalize x.kind=xk at *;generalize x.mant=xm at *;generalize x.exp=xe at *;generalize x.text=xt at *;generalize x.truth=xb at *;generalize x.fault=xf at *;generalize y.kind=yk at *;generalize y.mant=ym at *;generalize y.exp=ye at *;generalize y.text=yt at *;generalize y.truth=yb at *;generalize y.fault=yf at *;generalize z.kind=zk at *;generalize z.mant=zm at *;generalize z.exp=ze at *;generalize z.text=zt at *;generalize z.truth=zb at *;generalize z.fault=zf at *;go_enter func235,ntmps235;go_wp2_with (go_at_call 236;with_reducible refine aM (hrk _ (HT.out.ext (by simp[go_sem]))) λos d=>?_);exact rc1 rfl rfl (by simp[go_sem]) ⟨rfl,by simp[go_sem]⟩
theorem zrZ (x y pb w) (htab:Tab w) (hx:x.right) (hy:y.right) (hc:w.cell? ⟨pb,0,none⟩=some (.func (.func 119) #[] #[])) (z) (hz:zad mulS x y=z) :
  Tl prog 235 #[VV x.kind x.mant x.exp x.text x.truth x.fault,VV y.kind y.mant y.exp y.text y.truth y.fault,.pointer (some ⟨pb,0,none⟩)] w (VV z.kind z.mant z.exp z.text z.truth z.fault):=by
 have hpb:=za hc;have hrk:=λW hW=>zlW x y W hW hx hy;rw[hz] at hrk;have HT:=Lib.hid htab;clear htab hz hx hy;generalize x.kind=xk at *;generalize x.mant=xm at *;generalize x.exp=xe at *;generalize x.text=xt at *;generalize x.truth=xb at *;generalize x.fault=xf at *;generalize y.kind=yk at *;generalize y.mant=ym at *;generalize y.exp=ye at *;generalize y.text=yt at *;generalize y.truth=yb at *;generalize y.fault=yf at *;generalize z.kind=zk at *;generalize z.mant=zm at *;generalize z.exp=ze at *;generalize z.text=zt at *;generalize z.truth=zb at *;generalize z.fault=zf at *;go_enter func235,ntmps235;go_wp2_with (go_at_call 236;with_reducible refine aM (hrk _ (HT.out.ext (by simp[go_sem]))) λos d=>?_);exact rc1 rfl rfl (by simp[go_sem]) ⟨rfl,by simp[go_sem]⟩
theorem zl0 (fid w) :
  Calls prog 212 #[.func (.func fid) #[] #[]] w λe w'=>e = .returned (.func (.func 235) #[] #[.pointer (some ⟨w.heap.size,0,none⟩)])∧w'=w.alloc (.cells #[.func (.func fid) #[] #[]] 97):=by
 go_enter func212,ntmps212;go_wp2_with fail;go_ret;exact⟨rfl,rfl⟩
theorem zox (fid w) :
  Calls prog 216 #[.func (.func fid) #[] #[]] w λe w'=>e = .returned (.func (.func 241) #[] #[.pointer (some ⟨w.heap.size,0,none⟩)])∧w'=w.alloc (.cells #[.func (.func fid) #[] #[]] 192):=by
 go_enter func216,ntmps216;go_wp2_with fail;go_ret;exact⟨rfl,rfl⟩
abbrev sgE (v:Value):Value:=.agg #[v]
def zkT (p1 p2 p3 p4 p5 p6 p7 p8 p9 : Nat) : Tab1 :=
  [([43], sgE (fn1 235 p1)), ([45], sgE (fn1 235 p2)), ([42], sgE (fn1 235 p3)), ([47], sgE (fn0 213)), ([94], sgE (fn0 214)), ([38], sgE (fn0 215)),
   ([61], sgE (fn1 241 p4)), ([60, 62], sgE (fn1 241 p5)), ([60], sgE (fn1 241 p6)), ([60, 61], sgE (fn1 241 p7)), ([62], sgE (fn1 241 p8)), ([62, 61], sgE (fn1 241 p9))]
abbrev bxN (fid:FuncId):Obj:=.cells #[fn0 fid] 97
abbrev bxI (fid:FuncId):Obj:=.cells #[fn0 fid] 192
def zei (p1 p2 p3 p4 p5 p6 p7 p8 p9:Nat):List (Nat×Obj):=
 [(p1,bxN 100),(p2,bxN 120),(p3,bxN 119),(p4,bxI 217),(p5,bxI 218),(p6,bxI 219),(p7,bxI 220),(p8,bxI 221),(p9,bxI 222)]
theorem zkp (w:World) (o):(w.alloc o).heap[w.heap.size]? = some o:=Array.getElem?_push_size
theorem zmF (w) :
  Calls prog 181 #[] w λe w'=>∃ b,e = .returned (.map (some b))∧∃ p1 p2 p3 p4 p5 p6 p7 p8 p9,TabS prog 9 w b (zkT p1 p2 p3 p4 p5 p6 p7 p8 p9) (zei p1 p2 p3 p4 p5 p6 p7 p8 p9) w':=by
 have hmm:=@run_makeMap prog;have hT:=TabS.start w prog 9;go_enter func181,ntmps181;go_wp2_with (first | (go_at_call 212;(with_reducible refine(zl0 _ _).mono ?_);rintro e w' ⟨rfl,hw⟩;have hT:=hT.new (W':=w') (by rw[hw];exact(Ext.refl _).alloc _) (by rw[hw];exact zkp _ _);clear hw;(try(rw[show(w.alloc (Obj.map #[] 0)).heap.size=w.heap.size+1 by simp] at hT))) | (go_at_call 216;(with_reducible refine(zox _ _).mono ?_);rintro e w' ⟨rfl,hw⟩;have hT:=hT.new (W':=w') (by rw[hw];exact(Ext.refl _).alloc _) (by rw[hw];exact zkp _ _);clear hw) | (refine ziR rfl _ _ _ _ rfl 9 158 Tryz.underlying9 Tryz.underlying160 _ _ rfl hT.tab (by simp only[List.length_append,List.length_nil,List.length_cons,maxLen];omega) _ rfl (by simp only[maxLen,ByteArray.size,List.size_toArray,List.length_cons,List.length_nil];omega) _ rfl ?_;intro w1 ht1 hg1;have hT:=hT.put ht1 hg1;clear ht1 hg1));go_ret;exact⟨w.heap.size,rfl,w.heap.size+1,_,_,_,_,_,_,_,_,hT⟩
theorem Low.tab {w W} (h:Low w W) (ht:Tab w):Tab W:=by
 unfold Tab Lib.TabIs World.var? at *; cases hg : Tryz.prog.globalNamed "internal/strconv.uint64pow10" with
 | none=>simp[hg] at ht
 | some g=>
  simp only[hg,Option.bind_some] at ht⊢;have hlt:g<w.heap.size:=by
   rcases Nat.lt_or_ge g w.heap.size with h' | h'
   ·exact h'
   ·rw[Array.getElem?_eq_none h'] at ht;cases ht
  rw[h g hlt];exact ht
theorem zr0 {fid capt} {t:Val->Val->Val} {w} (hsp:∀ x y W,Low w W->x.ok->y.ok->valRight x=true->valRight y=true->Calls prog fid (#[VV x.kind x.mant x.exp x.text x.truth x.fault,VV y.kind y.mant y.exp y.text y.truth y.fault]++capt) W λe W'=>e = .returned (VV (t x y).kind (t x y).mant (t x y).exp (t x y).text (t x y).truth (t x y).fault)∧Ext W W') (hok:∀ x y,valRight x=true->valRight y=true->(t x y).ok) (s0 pa) (hs:w.heap.size<=s0) :
  FSpec2 fid capt t w.heap.size (s0+3) pa (λ_ W=>Low w W):=by
 refine⟨λ_ W W' hx h=>h.ext hx,λ_ W W' hk h b hb=>?_,λk x y W0 W h hx hlo hxo hyo hxr hyr hk=>?_,λx y _ _ h1 h2=>hok x y h1 h2,λ_ W p v h1 _ h b hb=>?_⟩
 ·rw[Nat.add_sub_cancel] at hk;rw[hk.block b (h.lt hb) (by omega) (by omega) (by omega)];exact h b hb
 ·have h1:=h.ext hx;refine(hsp x y W h1 hxo hyo hxr hyr).mono ?_;rintro e W' ⟨he,hX⟩;refine⟨he,λW'' hk' b hb=>?_,Still.of_ext hX⟩;have h2:=h1.ext hX;rw[hk'.block b (h2.lt hb) (by have:=h.lt hb;omega)];exact h2 b hb
 ·rw[Below.heap_setCell _ _ _ _ (by omega)];exact h b hb
theorem zl1 {fid capt} {t:Val->Val->Val} (w pa) (hpa:pa<w.heap.size) (hsp:∀ x y W,Low w W->x.ok->y.ok->valRight x=true->valRight y=true->Calls prog fid (#[VV x.kind x.mant x.exp x.text x.truth x.fault,VV y.kind y.mant y.exp y.text y.truth y.fault]++capt) W λe W'=>e = .returned (VV (t x y).kind (t x y).mant (t x y).exp (t x y).text (t x y).truth (t x y).fault)∧Ext W W') (hok:∀ x y,valRight x=true->valRight y=true->(t x y).ok) (hent:∀ (args:Array Value) (W:World),(callFunc fid args).run prog W = .ok (.enter fid args) W) (r c r' c' A B n cap n' cap' l l') (h:ArrIn w A n cap l) (h':ArrIn w B n' cap' l') (hA:0<n->∀ b off,A=some ⟨b,off,none⟩->b≠pa) (hB:0<n'->∀ b off,B=some ⟨b,off,none⟩->b≠pa) (x) (hx:zaC t r c l r' c' l'=x) :
  Calls prog 117 #[AV r c (.slice A n cap),AV r' c' (.slice B n' cap'),.func (.func fid) #[] capt] w λe w'=>∃ D m cc,e = .returned (AV x.R x.C (.slice D m cc))∧ArrN w.heap.size w' D m cc x.l∧Ext w w':=by
 cases hr:(zA r c l&&zA r' c' l') with
 | false=>
  obtain rfl:x=⟨1,1,[bad9]⟩:=by rw[<-hx];simp[zaC,hr]
  refine(ztj fid _ r c r' c' A B n cap n' cap' l l' w h h' hr).mono ?_;rintro e w' ⟨⟨D,cc,rfl,hs,hc⟩,hX⟩;exact⟨D,1,cc,rfl,⟨hs,rfl,hc,by omega,by simpa using zf6⟩,hX⟩
 | true=>
  have hr2:=hr;simp only[Bool.and_eq_true] at hr2;obtain⟨h1,h2⟩:=hr2;obtain⟨R,C,rfl,rfl,_⟩:=zcZ h1;obtain⟨R',C',rfl,rfl,_⟩:=zcZ h2;by_cases hf:max R R'*max C C'<=4096
  ·obtain rfl:x=⟨max R R',max C C',zdA t R C l R' C' l'⟩:=by rw[<-hx];simp[zaC,h1,h2,hf]
   have e1:0<n:=by
    obtain⟨q1,q2,_,q4,_,_⟩:=za5 h1;have:=Nat.mul_le_mul q1 q2;have:=h.len;omega
   have e2:0<n':=by
    obtain⟨q1,q2,_,q4,_,_⟩:=za5 h2;have:=Nat.mul_le_mul q1 q2;have:=h'.len;omega
   refine(zrW R C R' C' n cap n' cap' pa A B l l' fid capt t (λ_ _ W=>Low w W) w h h' h1 h2 hf hpa (hA e1) (hB e2) hent (λs0 hs=>zr0 hsp hok s0 pa hs) (λ_ _=>Low.refl w)).mono ?_;rintro e w' ⟨D,cc,s0,rfl,hs,hc,hs0,hJ,hbut⟩;obtain⟨_,_,_,q4,_,_⟩:=za5 h1;obtain⟨_,_,_,u4,_,_⟩:=za5 h2;exact⟨D,_,cc,rfl,⟨hs,zfl _ _ _ _ _ _ _,hc,by omega,zir (λx y _ _ a b=>hok x y a b) q4 u4 h.ok h'.ok (zC.1 h1).2.2.2.2 (zC.1 h2).2.2.2.2⟩,⟨hbut.os,hbut.tape,hbut.output,hbut.size,λb hb=>hJ b hb⟩⟩
  ·obtain rfl:x=⟨1,1,[zz 5]⟩:=by rw[<-hx];simp[zaC,h1,h2,hf]
   refine(zow fid _ R C R' C' A B n cap n' cap' l l' w h h' h1 h2 hf).mono ?_;rintro e w' ⟨⟨D,cc,rfl,hs,hc⟩,hX⟩;exact⟨D,1,cc,rfl,⟨hs,rfl,hc,by omega,by simpa using zhG 5 ⟨by omega,by omega⟩⟩,hX⟩
structure SignAt (w:World) (g:Sg) (fid:FuncId) (capt:Array Value):Prop where
 call:∀ x y W,Low w W->x.ok->y.ok->valRight x=true->valRight y=true->Calls prog fid (#[VV x.kind x.mant x.exp x.text x.truth x.fault,VV y.kind y.mant y.exp y.text y.truth y.fault]++capt) W λe W'=>e = .returned (VV (opV g x y).kind (opV g x y).mant (opV g x y).exp (opV g x y).text (opV g x y).truth (opV g x y).fault)∧Ext W W'
 ent:∀ (args:Array Value) (W:World),(callFunc fid args).run prog W = .ok (.enter fid args) W
theorem zcL {w W} (h:Low w W) {p v t} (hp:w.heap[p]? = some (.cells #[v] t)):W.cell? ⟨p,0,none⟩=some v:=by
 have h1:=h p (zG hp);rw[hp] at h1;exact cell_of_row _ _ 0 _ _ _ h1
theorem zdt {w A n cap l} (h:ArrIn w A n cap l) {pb} (hp:w.heap.size<=pb):0<n->∀ b off,A=some ⟨b,off,none⟩->b≠pb:=by
 intro hn b off e;obtain⟨b',off',e',hv,_⟩:=h.get (k:=0) hn;rw[e] at e';simp only[Option.some.injEq,Addr.mk.injEq,and_true] at e';have:=hv.lt;omega
theorem zr1 {p1 p2 p3 p4 p5 p6 p7 p8 p9 W} (htab:Tab W) (hb:∀ p∈zei p1 p2 p3 p4 p5 p6 p7 p8 p9,W.heap[p.1]? = some p.2) (g:Sg) :
  ∃ fid capt,zbP (zkT p1 p2 p3 p4 p5 p6 p7 p8 p9) g.key=some (sgE (.func (.func fid) #[] capt))∧SignAt W g fid capt:=by
 cases g
 ·exact⟨235,_,rfl,⟨λx y V hl _ _ hx hy=>zrX x y p1 V (hl.tab htab) hx hy (zcL hl (hb (p1,bxN 100) (by simp[zei]))) _ rfl,λargs W=>by go_simp⟩⟩
 ·exact⟨235,_,rfl,⟨λx y V hl _ _ hx hy=>zrY x y p2 V (hl.tab htab) hx hy (zcL hl (hb (p2,bxN 120) (by simp[zei]))) _ rfl,λargs W=>by go_simp⟩⟩
 ·exact⟨235,_,rfl,⟨λx y V hl _ _ hx hy=>zrZ x y p3 V (hl.tab htab) hx hy (zcL hl (hb (p3,bxN 119) (by simp[zei]))) _ rfl,λargs W=>by go_simp⟩⟩
 ·exact⟨213,_,rfl,⟨λx y V hl _ _ hx hy=>zlX x y V (hl.tab htab) hx hy _ rfl,λargs W=>by go_simp⟩⟩
 ·exact⟨214,_,rfl,⟨λx y V hl _ _ hx hy=>zlY x y V (hl.tab htab) hx hy _ rfl,λargs W=>by go_simp⟩⟩
 ·exact⟨215,_,rfl,⟨λx y V hl _ _ hx hy=>zos x y V (hl.tab htab) hx hy _ rfl,λargs W=>by go_simp⟩⟩
 ·exact⟨241,_,rfl,⟨λx y V hl hx hy _ _=>ztk x y p4 V hx hy (zcL hl (hb (p4,bxI 217) (by simp[zei]))) _ rfl,λargs W=>by go_simp⟩⟩
 ·exact⟨241,_,rfl,⟨λx y V hl hx hy _ _=>ztl x y p5 V hx hy (zcL hl (hb (p5,bxI 218) (by simp[zei]))) _ rfl,λargs W=>by go_simp⟩⟩
 ·exact⟨241,_,rfl,⟨λx y V hl hx hy _ _=>ztm x y p6 V hx hy (zcL hl (hb (p6,bxI 219) (by simp[zei]))) _ rfl,λargs W=>by go_simp⟩⟩
 ·exact⟨241,_,rfl,⟨λx y V hl hx hy _ _=>ztn x y p7 V hx hy (zcL hl (hb (p7,bxI 220) (by simp[zei]))) _ rfl,λargs W=>by go_simp⟩⟩
 ·exact⟨241,_,rfl,⟨λx y V hl hx hy _ _=>zto x y p8 V hx hy (zcL hl (hb (p8,bxI 221) (by simp[zei]))) _ rfl,λargs W=>by go_simp⟩⟩
 ·exact⟨241,_,rfl,⟨λx y V hl hx hy _ _=>ztp x y p9 V hx hy (zcL hl (hb (p9,bxI 222) (by simp[zei]))) _ rfl,λargs W=>by go_simp⟩⟩
theorem zoy (p1 p2 p3 p4 p5 p6 p7 p8 p9):(zkT p1 p2 p3 p4 p5 p6 p7 p8 p9).Pairwise (λp q=>p.1≠q.1):=by
 simp[zkT]
theorem zqc (w):(zeroValue 158).run prog w = .ok (sgE .nilFunc) w:=by kernel_rfl
theorem Low.pre {w W V} (hx:Ext w W) (h:Low W V):Low w V:=λb hb=>(h b (Nat.lt_of_lt_of_le hb hx.size)).trans (hx.block hb)
theorem SignAt.ext {w W} {g:Sg} {fid capt} (h:SignAt w g fid capt) (hx:Ext w W):SignAt W g fid capt:=⟨λx y V hl=>h.call x y V (Low.pre hx hl),h.ent⟩
theorem zsx (g:Sg) (x y) (h1:valRight x=true) (h2:valRight y=true):(opV g x y).ok:=(zlz g h1 h2).ok
theorem znJ {s:ByteArray} {g:Sg} (h:zob s.data.toList=some g) {L:Tab1} {v} (ht:zbP L g.key=some v):zbP L s.data.toList=some v:=by
 rw[zpz h];exact ht
theorem zoz (g:Sg) (s r c r' c' A B n cap n' cap' l l' w) (htab:Tab w) (hs:s.size<=maxLen) (hg:zob s.data.toList=some g) (h:ArrIn w A n cap l) (h':ArrIn w B n' cap' l') (x) (hx:zaC (opV g) r c l r' c' l'=x) :
  Calls prog 121 #[.string s,AV r c (.slice A n cap),AV r' c' (.slice B n' cap')] w λe w'=>∃ D m cc,e = .returned (.tuple #[AV x.R x.C (.slice D m cc),.bool true])∧ArrN w.heap.size w' D m cc x.l∧Ext w w':=by
 have HG:=Lib.hid hg;have HT:=Lib.hid htab;have HX:=Lib.hid hx;clear hg htab hx;go_enter func121,ntmps121;go_wp2_with (first | (go_at_call 181;(with_reducible refine(zmF _).mono ?_);rintro e w' ⟨bm,rfl,p1,p2,p3,p4,p5,p6,p7,p8,p9,hT⟩;have hbm:=hT.hb;have hxT:=hT.ext;obtain⟨fid,capt,hta,hsg⟩:=zr1 ((HT.out.ext (by simp[go_sem])).ext hT.ext) (λp hp=>(hT.box p hp).2.2) g;obtain⟨os1,d1,rfl⟩:=hxT.more) | (refine zff rfl _ _ _ rfl 9 158 Tryz.underlying9 Tryz.underlying160 _ _ rfl (hT.tab.ext (by simp[go_sem])) (zoy _ _ _ _ _ _ _ _ _) _ (zqc _) _ rfl hs (sgE (.func (.func fid) #[] capt)) true (by rw[znJ HG.out hta];rfl) (by rw[znJ HG.out hta];rfl) ?_) | (go_at_call 117;(with_reducible refine(zl1 _ bm (by have:=hT.lt;simp at this⊢;omega) (hsg.ext (by simp[go_sem])).call (zsx g) hsg.ent r c r' c' A B n cap n' cap' l l' (h.ext (by simp[go_sem])) (h'.ext (by simp[go_sem])) (zdt h (by simp at hbm;omega)) (zdt h' (by simp at hbm;omega)) x HX.out).mono ?_);rintro e w' ⟨D,m,cc,rfl,hD,hb⟩;obtain⟨os2,d2,rfl⟩:=hb.more;clear hb;have hDr:=hD.rd));exact bodyPost_ret (v:=.tuple #[AV x.R x.C (.slice D m cc),.bool true]) (by simp[results,results121,go_sem]) rfl ⟨D,m,cc,rfl,⟨(by(try simp only[zc] at hDr);(try simp only[zj] at hDr);(try simp only[zh] at hDr);(try simp only[Array.append_assoc] at hDr);exact Rd.swap hDr (by first | (simp;done) | (simp;omega) | omega) (by first | (simp;done) | (simp;omega) | omega) (by first | (simp;done) | (simp;omega) | omega)),hD.len,hD.cap,hD.small,hD.ok⟩,by with_reducible repeat(first | exact Ext.refl _ | apply Ext.drew | apply Ext.alloc | apply Ext.more_)⟩
theorem zfC (x w) (hr:x.right) (y:Int×Int) (hy:zal x=y) :
  Tl prog 103 #[VV x.kind x.mant x.exp x.text x.truth x.fault] w (.tuple #[.int .i64 y.1,.int .i64 y.2]):=by
 have ht:=λW=>zdg x W hr;have hi1:I64 (tnP x).1:=zF (zay hr);subst hy;unfold zal;generalize htp:tnP x=p at *;generalize htf:tnF x=f at *;by_cases hf:f=0
 ·subst hf;rw[if_pos rfl];have hfl:=λW=>zfw p.1 p.2 W hi1;have hi2:I64 (zB p.1 p.2).1:=zF (by exact(zcI (by rw[<-htp];exact zay hr)).1);generalize hq:zB p.1 p.2=q at *;have hin:=λW=>znr q.1 q.2 W hi2;cases hI:zbo q.1 q.2 with
  | none=>
   rw[hI] at hin;simp only[inV,Option.getD_none,Option.isSome_none] at hin⊢;simp only[tnV,htp,htf] at ht;clear hI hq htp htf hr hi1 hi2;go_enter func103,ntmps103;go_wp2_with (first | (go_at_call 111;with_reducible refine aM (ht _) λos d=>?_) | (go_at_call 51;with_reducible refine aM (hfl _) λos d=>?_) | (go_at_call 165;with_reducible refine aM (hin _) λos d=>?_));exact rt2 rfl rfl ⟨rfl,by simp[go_sem]⟩
  | some i=>
   rw[hI] at hin;simp only[inV,Option.getD_some,Option.isSome_some] at hin⊢;simp only[tnV,htp,htf] at ht;clear hI hq htp htf hr hi1 hi2;go_enter func103,ntmps103;go_wp2_with (first | (go_at_call 111;with_reducible refine aM (ht _) λos d=>?_) | (go_at_call 51;with_reducible refine aM (hfl _) λos d=>?_) | (go_at_call 165;with_reducible refine aM (hin _) λos d=>?_));exact rt2 rfl rfl ⟨rfl,by simp[go_sem]⟩
 ·rw[if_neg hf];have hf':(f != 0)=true:=by simpa using hf
  simp only[tnV,htp,htf] at ht;clear htp htf hr hi1;go_enter func103,ntmps103;go_wp2_with (first | (go_at_call 111;with_reducible refine aM (ht _) λos d=>?_));exact rt2 rfl rfl ⟨rfl,by simp[go_sem]⟩
def zl2 (fid:FuncId) (f:Nm->Nm) (w:World):Prop:=∀ p W,Low w W->Rt p.1 p.2->Calls prog fid #[NV p.1 p.2] W λe W'=>e = .returned (NV (f p).1 (f p).2)∧Ext W W'
theorem zug (w):zl2 49 zed w:=by
 intro p W _ hp;obtain⟨m,ex⟩:=p;have hi:=zF hp;have hng:=λW=>znc m ex W hi;unfold zed;simp only;by_cases h:m<0
 ·rw[if_pos h];rw[(zcX hp).1,(zcX hp).2] at hng;simp only;go_enter func49,ntmps49;go_wp2_with (first | (go_at_call 112;with_reducible refine aM (hng _) λos d=>?_));exact rc1 rfl rfl (by simp[go_sem]) ⟨rfl,by simp[go_sem]⟩
 ·rw[if_neg h];simp only;go_enter func49,ntmps49;go_wp2_with fail;exact rc1 rfl rfl (by simp[go_sem]) ⟨rfl,by simp[go_sem]⟩
theorem zgG (a b c d):(zat a b c d).natAbs<T 15:=by
 have:=zlL a b c d;have hT:T 15=1000000000000000:=by decide
 rcases this with h | h | h <;> rw[h,hT] <;> decide
theorem ztq (w) (htab:Tab w):zl2 50 zeO w:=by
 intro p W hl hp;obtain⟨m,ex⟩:=p;have hT:=Lib.hid (hl.tab htab);have hc:=λW=>ze0 m ex 0 0 W (zF hp) (by unfold I64;omega);have hwh:=λW h=>zeg (zat m ex 0 0) W h (zgG _ _ _ _);show Calls _ _ _ _ λe W'=>e = .returned (NV (zl (zat m ex 0 0)).1 (zl (zat m ex 0 0)).2)∧Ext W W';generalize zat m ex 0 0=c at *;generalize (zl c).1=m1 at *;generalize (zl c).2=e1 at *;clear htab hp hl;go_enter func50,ntmps50;go_wp2_with (first | (go_at_call 44;with_reducible refine aM (hc _) λos d=>?_) | (go_at_call 96;with_reducible refine aM (hwh _ (hT.out.ext (by simp[go_sem]))) λos d=>?_));exact rc1 rfl rfl (by simp[go_sem]) ⟨rfl,by simp[go_sem]⟩
theorem zuh (w):zl2 51 zjL w:=by
 intro p W _ hp;exact zfw p.1 p.2 W (zF hp)
theorem zoA {fid} {f:Nm->Nm} {w} (hf:zl2 fid f w) (hrt:∀ p,Rt p.1 p.2->Rt (f p).1 (f p).2) (hent:∀ (args:Array Value) (W:World),(callFunc fid args).run prog W = .ok (.enter fid args) W) (p) (hp:w.cell? ⟨p,0,none⟩=some (fn0 fid)) (x W) (hl:Low w W) (hx:x.right) (y) (hy:zcJ f x=y) :
  Calls prog 110 (#[VV x.kind x.mant x.exp x.text x.truth x.fault]++#[.pointer (some ⟨p,0,none⟩)]) W λe W'=>e = .returned (VV y.kind y.mant y.exp y.text y.truth y.fault)∧Ext W W':=by
 have ht:=λW=>zdg x W hx;have hpr:=zay hx;have hpW:W.cell? ⟨p,0,none⟩=some (fn0 fid):=by rw[<-hp];exact World.cell?_of_block (hl p (za hp))
 have hpl:=za hpW;subst hy;unfold zcJ;generalize htp:tnP x=z at *;generalize htf:tnF x=g at *;simp only[tnV,htp,htf] at ht;by_cases h0:g=0
 ·subst h0;rw[if_pos rfl];have hc:=λV (hV:Ext W V)=>hf z V (hl.ext hV) hpr;generalize hfz:f z=u at *;show Calls _ _ _ _ λe W'=>e = .returned (VV 1 u.1 u.2 ⟨#[]⟩ false 0)∧Ext W W';clear hp hl hx htp htf hpr hrt hfz;go_enter func110,ntmps110;go_wp2_with (first | (go_at_call 111;with_reducible refine aM (ht _) λos1 d1=>?_) | (go_at_call 93;with_reducible refine aM (zcQ _ _ _) λos3 d3=>?_) | (refine(hc _ (by simp[go_sem])).mono ?_;rintro e w' ⟨rfl,hb⟩;obtain⟨os2,d2,rfl⟩:=hb.more;clear hb));exact rc1 rfl rfl (by simp[go_sem]) ⟨rfl,by simp[go_sem]⟩
 ·rw[if_neg h0];have h0':(g != 0)=true:=by simpa using h0
  have hb:=λW=>zV g W;unfold zx zz;clear hp hl hx htp htf hpr hrt h0;go_enter func110,ntmps110;go_wp2_with (first | (go_at_call 111;(with_reducible refine(ht _).mono ?_);rintro e w' ⟨rfl,hb⟩;obtain⟨os1,d1,rfl⟩:=hb.more;clear hb) | (go_at_call 57;with_reducible refine aM (hb _) λos2 d2=>?_));exact rc1 rfl rfl (by simp[go_sem]) ⟨rfl,by simp[go_sem]⟩
theorem zfU {f:Nm->Nm} (hrt:∀ p,Rt p.1 p.2->Rt (f p).1 (f p).2) {x} (hx:x.right):(zcJ f x).right:=by
 unfold zcJ;split
 ·exact zaN (hrt _ (zay hx))
 ·exact zag _
theorem zsy {x} (h:x.right):zaQ x=x:=by unfold zaQ;rw[if_pos (show valRight x=true from h)]
theorem ztr {f:Nm->Nm} (hrt:∀ p,Rt p.1 p.2->Rt (f p).1 (f p).2) {x} (hx:x.right):zgc (zcJ f) x.R x.C x.l=zhI f x:=by
 unfold zgc zhI;rw[if_pos (show zA (x.R:Int) x.C x.l=true from hx)];have h5:=(zC.1 hx).2.2.2.2;congr 1
 exact List.map_congr_left λv hv=>zsy (zfU hrt (h5 v hv))
theorem zfV (A cap a fid) (f:Nm->Nm) (p w) (h:ArgsIn w A 1 cap [a]) (hf:zl2 fid f w) (hrt:∀ p,Rt p.1 p.2->Rt (f p).1 (f p).2) (hent:∀ (args:Array Value) (W:World),(callFunc fid args).run prog W = .ok (.enter fid args) W) (hp:w.cell? ⟨p,0,none⟩=some (fn0 fid)) :
  Calls prog 108 #[.slice A 1 cap,.pointer (some ⟨p,0,none⟩)] w λe w'=>zbB w (zhI f a.x) e w':=by
 obtain⟨b,off,rfl,⟨v0,v1,v2⟩,hok⟩:=h.get (k:=0) (a:=a) rfl;have hbl:=za v0;have hcap:=h.cap;simp only[Nat.zero_mul,Nat.add_zero] at v0 v1 v2;have hX:=ztr hrt hok.right;have hpl:=za hp;have HF:=Lib.hid hf;have HP:=Lib.hid hp;have HOK:=Lib.hid hok.arr;clear h hok hf;generalize zhI f a.x=x at *;have HX:=Lib.hid hX;clear hX;go_enter func108,ntmps108;go_wp2_with fail;go_at_call 109
 refine(zrQ _ w.heap.size (by simp) (fid:=110) (capt:=#[.pointer (some ⟨p,0,none⟩)]) (t:=zcJ f) (λy V hl _ hr=>zoA (w:=w) HF.out hrt hent p HP.out y V (Low.pre (by simp[go_sem]) hl) hr _ rfl) (λy _ hr=>Val.right.ok (zfU hrt hr)) (λargs W=>by go_simp) _ _ _ _ _ _ (HOK.out.ext (by simp[go_sem])) (zdt HOK.out (Nat.le_refl _)) x HX.out).mono ?_;rintro e w' ⟨D,m,cc,rfl,hD,hb⟩;obtain⟨os2,d2,rfl⟩:=hb.more;clear hb;have hDr:=hD.rd;go_wp2_with fail;exact rc1 (v:=AV x.R x.C (.slice D m cc)) rfl rfl (by simp[go_sem]) (by(try simp only[zc,zj,zh,Array.append_assoc] at hDr);exact raS hDr hD (by simp <;> omega) (by simp[go_sem]))
theorem zfW {v} (h:v.right):I64 (zal v).1:=by
 unfold zal;split
 ·simp only;have hr:=(zcI (zay h)).1;generalize zB (tnP v).1 (tnP v).2=q at *;cases hI:zbo q.1 q.2 with
  | none=>show I64 0;unfold I64;omega
  | some i=>exact zgF hI
 ·show I64 0;unfold I64;omega
theorem zhj {x y} (hx:x.right):(zee x y).right:=by
 unfold zee;split
 ·exact zag _
 ·split
  ·exact zag _
  ·exact zaN (zrI (zay hx))
theorem zoB {a b} : (zhf a b).right:=by
 unfold zhf;split
 ·exact za1 ⟨by omega,by omega⟩
 ·split
  ·exact za1 ⟨by omega,by omega⟩
  ·split
   ·exact za1 ⟨by omega,by omega⟩
   ·exact zcc λp hp=>znt hp
theorem zgH {x y} : (modV x y).right:=by
 unfold modV;split
 ·exact zag _
 ·split
  ·exact zag _
  ·exact zoB
theorem zmG (x y w) (hx:x.right) (hy:y.right) (z) (hz:zee x y=z) :
  Tl prog 53 #[VV x.kind x.mant x.exp x.text x.truth x.fault,VV y.kind y.mant y.exp y.text y.truth y.fault] w (VV z.kind z.mant z.exp z.text z.truth z.fault):=by
 have ht:=λW=>zdg x W hx;have hw:=λW u hu=>zfC y W hy u hu;have hpr:=zay hx;have hwi:=zfW hy;subst hz;unfold zee;generalize htp:tnP x=p at *;generalize htf:tnF x=f at *;simp only[tnV,htp,htf] at ht;have hw2:=λW=>hw W _ rfl;generalize zal y=u at *;clear hw;by_cases hf:f=0
 ·subst hf;rw[if_neg (by simp)];by_cases hu:u.2=0
  ·rw[if_neg (by simp[hu])];rw[hu] at hw2;have hrd:=λW=>zph p.1 p.2 u.1 W (zF hpr) hwi;generalize hq:z8 p.1 p.2 u.1=q at *;show Calls _ _ _ _ λe W'=>e = .returned (VV 1 q.1 q.2 ⟨#[]⟩ false 0)∧Ext w W';clear htp htf hx hy hpr hwi hq hu;go_enter func53,ntmps53;go_wp2_with (first | (go_at_call 111;with_reducible refine aM (ht _) λos1 d1=>?_) | (go_at_call 103;with_reducible refine aM (hw2 _) λos2 d2=>?_) | (go_at_call 118;with_reducible refine aM (hrd _) λos3 d3=>?_) | (go_at_call 93;(with_reducible refine(zcQ _ _ _).mono ?_);rintro e w' ⟨rfl,hb⟩;obtain⟨os4,d4,rfl⟩:=hb.more;clear hb));exact rc1 rfl rfl (by simp[go_sem]) ⟨rfl,by simp[go_sem]⟩
  ·rw[if_pos hu];have hb:=λW=>zV u.2 W;have hu':(u.2 != 0)=true:=by simpa using hu
   show Calls _ _ _ _ λe W'=>e = .returned (VV 4 0 0 ⟨#[]⟩ false (zE u.2))∧Ext w W';clear htp htf hx hy hpr hwi hu;go_enter func53,ntmps53;go_wp2_with (first | (go_at_call 111;with_reducible refine aM (ht _) λos1 d1=>?_) | (go_at_call 103;(with_reducible refine(hw2 _).mono ?_);rintro e w' ⟨rfl,hb⟩;obtain⟨os2,d2,rfl⟩:=hb.more;clear hb) | (go_at_call 57;(with_reducible refine(hb _).mono ?_);rintro e w' ⟨rfl,hb⟩;obtain⟨os3,d3,rfl⟩:=hb.more;clear hb));exact rc1 rfl rfl (by simp[go_sem]) ⟨rfl,by simp[go_sem]⟩
 ·rw[if_pos hf];have hf':(f != 0)=true:=by simpa using hf
  have hb:=λW=>zV f W;show Calls _ _ _ _ λe W'=>e = .returned (VV 4 0 0 ⟨#[]⟩ false (zE f))∧Ext w W';clear htp htf hx hy hpr hwi hf;go_enter func53,ntmps53;go_wp2_with (first | (go_at_call 111;(with_reducible refine(ht _).mono ?_);rintro e w' ⟨rfl,hb⟩;obtain⟨os1,d1,rfl⟩:=hb.more;clear hb) | (go_at_call 57;with_reducible refine aM (hb _) λos3 d3=>?_));exact rc1 rfl rfl (by simp[go_sem]) ⟨rfl,by simp[go_sem]⟩
theorem zoC (x y w) (htab:Tab w) (hx:x.right) (hy:y.right) (z) (hz:modV x y=z) :
  Tl prog 54 #[VV x.kind x.mant x.exp x.text x.truth x.fault,VV y.kind y.mant y.exp y.text y.truth y.fault] w (VV z.kind z.mant z.exp z.text z.truth z.fault):=by
 have ht:=λW=>zdg x W hx;have ht':=λW=>zdg y W hy;have hpr:=zay hx;have hpr':=zay hy;have HT:=Lib.hid htab;subst hz;unfold modV;generalize htp:tnP x=p at *;generalize htf:tnF x=f at *;simp only[tnV,htp,htf] at ht;generalize htp':tnP y=p' at *;generalize htf':tnF y=f' at *;simp only[tnV,htp',htf'] at ht';clear htp htf htp' htf' hx hy htab;by_cases hf:f=0
 ·subst hf;rw[if_neg (by simp)];by_cases hf':f'=0
  ·subst hf';rw[if_neg (by simp)];obtain⟨ma,ea⟩:=p;obtain⟨mb,eb⟩:=p';simp only at ht ht' hpr hpr';unfold zhf;simp only;by_cases h0:mb=0
   ·subst h0;rw[if_pos rfl];have hb:=λW=>zV 1 W;simp only[show zE 1=1 by decide] at hb;show Calls _ _ _ _ λe W'=>e = .returned (VV 4 0 0 ⟨#[]⟩ false 1)∧Ext w W';clear hpr hpr';go_enter func54,ntmps54;go_wp2_with (first | (go_at_call 111;with_reducible refine aM (ht _) λos1 d1=>?_) | (go_at_call 111;(with_reducible refine(ht' _).mono ?_);rintro e w' ⟨rfl,hb⟩;obtain⟨os2,d2,rfl⟩:=hb.more;clear hb) | (go_at_call 57;with_reducible refine aM (hb _) λos3 d3=>?_));exact rc1 rfl rfl (by simp[go_sem]) ⟨rfl,by simp[go_sem]⟩
   ·rw[if_neg h0];have h0':(mb==0)=false:=by simpa using h0
    have hdv:=λW h=>zf3 ma ea mb eb W h (zF hpr) (zF hpr');have hb5:=λW=>zV 5 W;simp only[show zE 5=5 by decide] at hb5;cases hs:divS ma ea mb eb with
    | none=>
     rw[hs] at hdv;simp only[rnV,rm,re,Option.getD_none,Option.isSome_none] at hdv;show Calls _ _ _ _ λe W'=>e = .returned (VV 4 0 0 ⟨#[]⟩ false 5)∧Ext w W';clear hpr hpr' h0 hs;go_enter func54,ntmps54;go_wp2_with (first | (go_at_call 111;with_reducible refine aM (ht _) λos1 d1=>?_) | (go_at_call 111;with_reducible refine aM (ht' _) λos2 d2=>?_) | (go_at_call 97;with_reducible refine aM (hdv _ (HT.out.ext (by simp[go_sem]))) λos4 d4=>?_) | (go_at_call 57;with_reducible refine aM (hb5 _) λos3 d3=>?_));exact rc1 rfl rfl (by simp[go_sem]) ⟨rfl,by simp[go_sem]⟩
    | some q=>
     obtain⟨mq,eq⟩:=q;have hqr:=ze2 hs;rw[hs] at hdv;simp only[rnV,rm,re,Option.getD_some,Option.isSome_some] at hdv;simp only;have hfl:=λW=>zfw mq eq W (zF hqr);have hflr:=(zcI hqr).1;generalize zB mq eq=g at *;obtain⟨mg,eg⟩:=g;simp only at hfl hflr;have hmu:=λW h=>zhD mb eb mg eg W h (zF hpr') (zF hflr);cases hs2:mulS mb eb mg eg with
     | none=>
      rw[hs2] at hmu;simp only[rnV,rm,re,Option.getD_none,Option.isSome_none] at hmu;show Calls _ _ _ _ λe W'=>e = .returned (VV 4 0 0 ⟨#[]⟩ false 5)∧Ext w W';clear hpr hpr' h0 hs hs2 hqr hflr;go_enter func54,ntmps54;go_upto_region 12 with(first | (go_at_call 111;with_reducible refine aM (ht _) λos1 d1=>?_) | (go_at_call 111;with_reducible refine aM (ht' _) λos2 d2=>?_) | (go_at_call 97;with_reducible refine aM (hdv _ (HT.out.ext (by simp[go_sem]))) λos4 d4=>?_));refine zby [(7,4),(0,0),(1,0),(2,1),(3,1),(4,0),(5,0),(6,2),(7,3)] [8,9] [8,9] [6] (by kernel_rfl) (by kernel_rfl) (by kernel_rfl) (λ_ _ d _ _ h=>by cases d <;> exact h) (λ_ _ d _ _ h=>by cases d <;> exact h) ?_
      (refine zbH (t:=10) (.cells #[.int .i64 0,.int .i64 0] 36) zcH rfl rfl rfl (λw1=>?_) ?_;(first | rfl | (simp[go_sem,zcH];done) | (go_simp;rfl)))
      iterate 2(apply rdG rfl rfl;(intros;go_simp;first | done | rfl);try simp only[zq])
      (refine zaX rfl ?_ (λwf hXf hE K hK=>?_);rfl;obtain⟨osf,df,rfl⟩:=hXf.more;go_simp;refine(hfl _).mono ?_;rintro e w' ⟨rfl,hb⟩;refine hK _ _ (λ_=>True) (by(try simp only[zh,zc,Array.append_assoc]);exact hb) (λ_ _ _ _=>trivial) trivial ?_)
      try simp only[zq]
      (refine zaX rfl ?_ (λwf hXf hE K hK=>?_);rfl;obtain⟨osf,df,rfl⟩:=hXf.more;go_simp;refine(hmu _ (HT.out.ext (by simp[go_sem]))).mono ?_;rintro e w' ⟨rfl,hb⟩;refine hK _ _ (λ_=>True) (by(try simp only[zh,zc,Array.append_assoc]);exact hb) (λ_ _ _ _=>trivial) trivial ?_)
      try simp only[zq]
      iterate 3((first | (apply rdG rfl rfl;(intros;go_simp;first | done | rfl)) | (refine zbK (v:=?_) rfl ?_ (λw1=>?_) ?_;rotate_left 1;rfl;(go_simp;first | done | rfl)));try simp only[zq])
      refine zce λosa da osb db hE=>?_;try simp only[zq]
      (refine zaz rfl ?_ (λK hK=>?_);rfl;go_simp;refine hK _ _ ?_)
      try simp only[zq]
      (refine zaz rfl ?_ (λK hK=>?_);rfl;go_simp;refine hK _ _ ?_)
      try simp only[zq]
      refine zbS ?_;clear hE hfl hmu hdv;go_wp2_with (first | (go_at_call 57;with_reducible refine aM (hb5 _) λos3 d3=>?_));exact rc1 rfl rfl (by simp[go_sem]) ⟨rfl,by simp[go_sem]⟩
     | some r=>
      obtain⟨mr,er⟩:=r;have hrr:=zfh hs2;rw[hs2] at hmu;simp only[rnV,rm,re,Option.getD_some,Option.isSome_some] at hmu;simp only;have hsu:=λW h=>znf ma ea mr er W h (zF hpr) (zF hrr);have hto:=λW=>zeA (subS ma ea mr er) W;generalize subS ma ea mr er=t at *;generalize zo t=z at *;clear hpr hpr' h0 hs hs2 hqr hflr hrr;go_enter func54,ntmps54;go_upto_region 12 with(first | (go_at_call 111;with_reducible refine aM (ht _) λos1 d1=>?_) | (go_at_call 111;with_reducible refine aM (ht' _) λos2 d2=>?_) | (go_at_call 97;with_reducible refine aM (hdv _ (HT.out.ext (by simp[go_sem]))) λos4 d4=>?_));refine zby [(7,4),(0,0),(1,0),(2,1),(3,1),(4,0),(5,0),(6,2),(7,3)] [8,9] [8,9] [6] (by kernel_rfl) (by kernel_rfl) (by kernel_rfl) (λ_ _ d _ _ h=>by cases d <;> exact h) (λ_ _ d _ _ h=>by cases d <;> exact h) ?_
      (refine zbH (t:=10) (.cells #[.int .i64 0,.int .i64 0] 36) zcH rfl rfl rfl (λw1=>?_) ?_;(first | rfl | (simp[go_sem,zcH];done) | (go_simp;rfl)))
      iterate 2(apply rdG rfl rfl;(intros;go_simp;first | done | rfl);try simp only[zq])
      (refine zaX rfl ?_ (λwf hXf hE K hK=>?_);rfl;obtain⟨osf,df,rfl⟩:=hXf.more;go_simp;refine(hfl _).mono ?_;rintro e w' ⟨rfl,hb⟩;refine hK _ _ (λ_=>True) (by(try simp only[zh,zc,Array.append_assoc]);exact hb) (λ_ _ _ _=>trivial) trivial ?_)
      try simp only[zq]
      (refine zaX rfl ?_ (λwf hXf hE K hK=>?_);rfl;obtain⟨osf,df,rfl⟩:=hXf.more;go_simp;refine(hmu _ (HT.out.ext (by simp[go_sem]))).mono ?_;rintro e w' ⟨rfl,hb⟩;refine hK _ _ (λ_=>True) (by(try simp only[zh,zc,Array.append_assoc]);exact hb) (λ_ _ _ _=>trivial) trivial ?_)
      try simp only[zq]
      iterate 3((first | (apply rdG rfl rfl;(intros;go_simp;first | done | rfl)) | (refine zbK (v:=?_) rfl ?_ (λw1=>?_) ?_;rotate_left 1;rfl;(go_simp;first | done | rfl)));try simp only[zq])
      refine zce λosa da osb db hE=>?_;try simp only[zq]
      (refine zaz rfl ?_ (λK hK=>?_);rfl;go_simp;refine hK _ _ ?_)
      try simp only[zq]
      (refine zaz rfl ?_ (λK hK=>?_);rfl;go_simp;refine hK _ _ ?_)
      try simp only[zq]
      refine zbS ?_;clear hE hfl hmu hdv;go_wp2_with (first | (go_at_call 120;with_reducible refine aM (hsu _ (HT.out.ext (by simp[go_sem]))) λos5 d5=>?_) | (go_at_call 91;(with_reducible refine(hto _).mono ?_);rintro e w' ⟨rfl,hb⟩;obtain⟨os6,d6,rfl⟩:=hb.more;clear hb));exact rc1 rfl rfl (by simp[go_sem]) ⟨rfl,by simp[go_sem]⟩
  ·rw[if_pos hf'];have hf2:(f' != 0)=true:=by simpa using hf'
   have hb:=λW=>zV f' W;show Calls _ _ _ _ λe W'=>e = .returned (VV 4 0 0 ⟨#[]⟩ false (zE f'))∧Ext w W';clear hf' hpr hpr';go_enter func54,ntmps54;go_wp2_with (first | (go_at_call 111;with_reducible refine aM (ht _) λos1 d1=>?_) | (go_at_call 111;(with_reducible refine(ht' _).mono ?_);rintro e w' ⟨rfl,hb⟩;obtain⟨os2,d2,rfl⟩:=hb.more;clear hb) | (go_at_call 57;(with_reducible refine(hb _).mono ?_);rintro e w' ⟨rfl,hb⟩;obtain⟨os3,d3,rfl⟩:=hb.more;clear hb));exact rc1 rfl rfl (by simp[go_sem]) ⟨rfl,by simp[go_sem]⟩
 ·rw[if_pos hf];have hf2:(f != 0)=true:=by simpa using hf
  have hb:=λW=>zV f W;show Calls _ _ _ _ λe W'=>e = .returned (VV 4 0 0 ⟨#[]⟩ false (zE f))∧Ext w W';clear hf hpr hpr';go_enter func54,ntmps54;go_wp2_with (first | (go_at_call 111;(with_reducible refine(ht _).mono ?_);rintro e w' ⟨rfl,hb⟩;obtain⟨os1,d1,rfl⟩:=hb.more;clear hb) | (go_at_call 57;with_reducible refine aM (hb _) λos3 d3=>?_));exact rc1 rfl rfl (by simp[go_sem]) ⟨rfl,by simp[go_sem]⟩
theorem zhZ (A cap a b fid) (t:Val->Val->Val) (p w) (h:ArgsIn w A 2 cap [a,b]) (hsp:∀ x y W,Low w W->x.ok->y.ok->valRight x=true->valRight y=true->Calls prog fid (#[VV x.kind x.mant x.exp x.text x.truth x.fault,VV y.kind y.mant y.exp y.text y.truth y.fault]++#[]) W λe W'=>e = .returned (VV (t x y).kind (t x y).mant (t x y).exp (t x y).text (t x y).truth (t x y).fault)∧Ext W W') (hok:∀ x y,valRight x=true->valRight y=true->(t x y).ok) (hent:∀ (args:Array Value) (W:World),(callFunc fid args).run prog W = .ok (.enter fid args) W) (hp:w.cell? ⟨p,0,none⟩=some (fn0 fid)) :
  Calls prog 116 #[.slice A 2 cap,.pointer (some ⟨p,0,none⟩)] w λe w'=>zbB w (zaC t a.x.R a.x.C a.x.l b.x.R b.x.C b.x.l) e w':=by
 obtain⟨bl,off,rfl,⟨v0,v1,v2⟩,hoka⟩:=h.get (k:=0) (a:=a) rfl;obtain⟨bl',off',he,⟨u0,u1,u2⟩,hokb⟩:=h.get (k:=1) (a:=b) rfl;obtain⟨rfl,rfl⟩:=aI he;have hbl:=za v0;have hcap:=h.cap;have hc2:0<cap:=by omega
 have hc3:1<cap:=by omega
 simp only[Nat.zero_mul,Nat.add_zero] at v0 v1 v2;simp only[Nat.one_mul] at u0 u1 u2;have hpl:=za hp;have HS:=Lib.hid hsp;have HA:=Lib.hid hoka.arr;have HB:=Lib.hid hokb.arr;obtain⟨x,hX⟩:∃ x,zaC t a.x.R a.x.C a.x.l b.x.R b.x.C b.x.l=x:=⟨_,rfl⟩;rw[hX];have HX:=Lib.hid hX;clear h hoka hokb hsp hX;go_enter func116,ntmps116;go_upto_region 1 with fail;refine plP [(0,0),(1,0),(2,0),(3,0),(4,0),(5,0),(6,0),(7,1),(8,2)] [8] (by kernel_rfl) (λ_ _ d _ _ h=>by cases d <;> exact h) ?_;iterate 7(apply rdP rfl rfl;(intros;go_simp;first | done | rfl);try simp only[zq])
 (refine zg rfl ?_ (λK hK=>?_);rfl;go_simp;refine(zl1 _ w.heap.size (by simp) (fid:=fid) (capt:=#[]) (t:=t) (λy z V hl h1 h2 h3 h4=>HS.out y z V (Low.pre (by simp[go_sem]) hl) h1 h2 h3 h4) hok hent _ _ _ _ _ _ _ _ _ _ _ _ (HA.out.ext (by simp[go_sem])) (HB.out.ext (by simp[go_sem])) (zdt HA.out (Nat.le_refl _)) (zdt HB.out (Nat.le_refl _)) x HX.out).mono ?_;rintro e w' ⟨D,m,cc,rfl,hD,hb⟩;obtain⟨os2,d2,rfl⟩:=hb.more;clear hb;have hDr:=hD.rd;refine hK _ _ ?_ ?_;(simp[go_sem]))
 try simp only[zq]
 (refine zU rfl ?_ (λK hK=>?_);rfl;go_simp;refine hK _ _ ?_)
 try simp only[Act.put]
 refine zi ?_;go_wp2_with fail;exact rc1 (v:=AV x.R x.C (.slice D m cc)) rfl rfl (by simp[go_sem]) (by(try simp only[zc,zj,zh,Array.append_assoc] at hDr);exact raS hDr hD (by simp <;> omega) (by simp[go_sem]))
theorem zaw (s) (lo hi:Nat) (fid) (ct:(Nat->Nat)->Array Value) (hs:s.size<=maxLen) (hl:∀ p:Nat->Nat,zbP (zfg p) s.data.toList=some (zb3 lo hi (.func (.func fid) #[] (ct p)))) (hent:∀ (args:Array Value) (W:World),(callFunc fid args).run prog W = .ok (.enter fid args) W) (hlo9:lo<=100) (hhi9:hi<=100) (A n cap gs w) (h:ArgsG w A n cap gs) (F) (hf:(∀ g∈gs,g.right=true)->lo<=n->n<=hi->∀ (p:Nat->Nat) W,Ext w W->(∀ q∈zbv p,W.heap[q.1]? = some q.2)->Calls prog fid (#[.slice A n cap]++ct p) W λe W'=>zbB W F e W') :
  Calls prog 7 #[.string s,.slice A n cap] w (zbh w (zS lo hi gs F)):=by
 have hsm:=h.small;have hlen:=h.len;by_cases q1:n<lo
 ·have hX:zS lo hi gs F=zT 2:=by unfold zS;rw[if_pos (by omega)]
  rw[hX];clear hf hlen hX;go_enter func7,ntmps7;go_wp2_with (first | (go_at_call 15;(with_reducible refine(zdx _).mono ?_);rintro e w' ⟨bm,rfl,p,hT⟩;have hbm:=hT.hb;have hxT:=hT.ext;have hbx:=λq hq=>(hT.box q hq).2.2;have ht:=hl p;generalize ct p=c0 at ht;have HT:=Lib.hid ht;clear ht;obtain⟨os1,d1,rfl⟩:=hxT.more) | (refine zff rfl _ _ _ rfl 9 43 Tryz.underlying9 Tryz.underlying45 _ _ rfl (hT.tab.ext (by simp[go_sem])) (zeP _) _ (zgy _) _ rfl hs (zb3 lo hi (.func (.func fid) #[] c0)) true (by rw[HT.out];rfl) (by rw[HT.out];rfl) ?_) | (go_at_call 16;with_reducible refine aR (zaT _ _) λD m cc os5 d5 hD=>?_;have hDr:=hD.rd));all_goals exact bodyPost_ret (v:=.tuple #[AV (zT 2).R (zT 2).C (.slice D m cc),.bool true]) (by simp[results,results7,go_sem]) rfl ⟨D,m,cc,rfl,⟨(by(try simp only[zc] at hDr);(try simp only[zj] at hDr);(try simp only[zh] at hDr);(try simp only[Array.append_assoc] at hDr);exact Rd.swap hDr (by first | (simp;done) | (simp;omega) | omega) (by first | (simp;done) | (simp;omega) | omega) (by first | (simp;done) | (simp;omega) | omega)),hD.len,hD.cap,hD.small,hD.ok⟩,by with_reducible repeat(first | exact Ext.refl _ | apply Ext.drew | apply Ext.alloc | apply Ext.more_)⟩
 ·by_cases q2:hi<n
  ·have hX:zS lo hi gs F=zT 2:=by unfold zS;rw[if_pos (by omega)]
   rw[hX];clear hf hlen hX;go_enter func7,ntmps7;go_wp2_with (first | (go_at_call 15;(with_reducible refine(zdx _).mono ?_);rintro e w' ⟨bm,rfl,p,hT⟩;have hbm:=hT.hb;have hxT:=hT.ext;have hbx:=λq hq=>(hT.box q hq).2.2;have ht:=hl p;generalize ct p=c0 at ht;have HT:=Lib.hid ht;clear ht;obtain⟨os1,d1,rfl⟩:=hxT.more) | (refine zff rfl _ _ _ rfl 9 43 Tryz.underlying9 Tryz.underlying45 _ _ rfl (hT.tab.ext (by simp[go_sem])) (zeP _) _ (zgy _) _ rfl hs (zb3 lo hi (.func (.func fid) #[] c0)) true (by rw[HT.out];rfl) (by rw[HT.out];rfl) ?_) | (go_at_call 16;with_reducible refine aR (zaT _ _) λD m cc os5 d5 hD=>?_;have hDr:=hD.rd));all_goals exact bodyPost_ret (v:=.tuple #[AV (zT 2).R (zT 2).C (.slice D m cc),.bool true]) (by simp[results,results7,go_sem]) rfl ⟨D,m,cc,rfl,⟨(by(try simp only[zc] at hDr);(try simp only[zj] at hDr);(try simp only[zh] at hDr);(try simp only[Array.append_assoc] at hDr);exact Rd.swap hDr (by first | (simp;done) | (simp;omega) | omega) (by first | (simp;done) | (simp;omega) | omega) (by first | (simp;done) | (simp;omega) | omega)),hD.len,hD.cap,hD.small,hD.ok⟩,by with_reducible repeat(first | exact Ext.refl _ | apply Ext.drew | apply Ext.alloc | apply Ext.more_)⟩
  ·have HF:=Lib.hid hf;obtain⟨X,hX⟩:∃ X,zS lo hi gs F=X:=⟨_,rfl⟩;rw[hX];have HX:=Lib.hid hX;clear hf hX;go_enter func7,ntmps7;go_wp2_with (first | (go_at_call 15;(with_reducible refine(zdx _).mono ?_);rintro e w' ⟨bm,rfl,p,hT⟩;have hbm:=hT.hb;have hxT:=hT.ext;have hbx:=λq hq=>(hT.box q hq).2.2;have ht:=hl p;have hfc:=HF.out;have hfd:=λa b c=>hfc a b c p;clear hfc;generalize ct p=c0 at ht hfd;have HT:=Lib.hid ht;clear ht;obtain⟨os1,d1,rfl⟩:=hxT.more) | (refine zff rfl _ _ _ rfl 9 43 Tryz.underlying9 Tryz.underlying45 _ _ rfl (hT.tab.ext (by simp[go_sem])) (zeP _) _ (zgy _) _ rfl hs (zb3 lo hi (.func (.func fid) #[] c0)) true (by rw[HT.out];rfl) (by rw[HT.out];rfl) ?_));go_loopw [34] (λi wr=>∃ k:Nat,k<=n∧i = .int .i64 k∧Ext ((more (w.alloc (Obj.cells #[.int .i64 0,.int .i64 0,.slice none 0 0] 27)) os1 d1).alloc (Obj.cells #[.int .i64 lo,.int .i64 hi,.func (.func fid) #[] c0] 43)) wr∧Hid (∀ j g,j<k->gs[j]? = some g->g.right=true)) (λi _=>n-(intOf i).toNat)
   case atStart=>exact⟨0,Nat.zero_le _,rfl,Ext.refl _,λj g hj=>absurd hj (Nat.not_lt_zero _)⟩
   case round=>
    obtain⟨k,hk,rfl,hX,HR⟩:=hrel;have hX0:=hX;obtain⟨os,d,rfl⟩:=hX.more;clear hX;by_cases hlt:k<n
    ·obtain⟨g,b,off,hg,rfl,hat,harr⟩:=h.at hlt;obtain⟨v0,v1,v2⟩:=hat;have hbl:b<w.heap.size:=za v0;have hcap:=h.cap;cases hr:zA g.r g.c g.l with
     | true=>
      have hra:=λW=>(hr ▸ zbl g.r g.c g.A g.n g.cap g.l W:ArrIn W g.A g.n g.cap g.l->_);clear hT hxT hX0 hbx hfd hlen;go_wp2_with (go_at_call 17;refine(hra _ (harr.ext (by simp[go_sem]))).mono ?_;rintro e w' ⟨rfl,hb⟩;obtain⟨os',d',rfl⟩:=hb.more;clear hb);refine⟨⟨k+1,by omega,by go_num,by simp[go_sem],?_⟩,by simp[intOf];omega⟩;intro j g' hj hg';by_cases hjk:j=k
      ·subst hjk;obtain rfl:g=g':=by rw[hg] at hg';simpa using hg'
       exact hr
      ·exact HR.out j g' (by omega) hg'
     | false=>
      have hra:=λW=>(hr ▸ zbl g.r g.c g.A g.n g.cap g.l W:ArrIn W g.A g.n g.cap g.l->_);obtain rfl:zT 9=X:=by
       rw[<-HX.out];unfold zS;rw[if_neg (by omega),if_neg];intro ha;have:=List.all_eq_true.1 ha g (List.mem_of_getElem? hg);unfold GA.right at this;rw[hr] at this;cases this
      clear hT hxT hX0 hbx hfd hlen HX;go_wp2_with (first | (go_at_call 17;refine(hra _ (harr.ext (by simp[go_sem]))).mono ?_;rintro e w' ⟨rfl,hb⟩;obtain⟨os',d',rfl⟩:=hb.more;clear hb) | (go_at_call 16;with_reducible refine aR (zaT _ _) λD m cc os5 d5 hD=>?_;have hDr:=hD.rd));exact bodyPost_ret (v:=.tuple #[AV (zT 9).R (zT 9).C (.slice D m cc),.bool true]) (by simp[results,results7,go_sem]) rfl ⟨D,m,cc,rfl,⟨(by(try simp only[zc] at hDr);(try simp only[zj] at hDr);(try simp only[zh] at hDr);(try simp only[Array.append_assoc] at hDr);exact Rd.swap hDr (by first | (simp;done) | (simp;omega) | omega) (by first | (simp;done) | (simp;omega) | omega) (by first | (simp;done) | (simp;omega) | omega)),hD.len,hD.cap,hD.small,hD.ok⟩,by with_reducible repeat(first | exact Ext.refl _ | apply Ext.drew | apply Ext.alloc | apply Ext.more_)⟩
    ·obtain rfl:k=n:=by omega
     have hall:∀ g∈gs,g.right=true:=zt9 λj g hj hg=>HR.out j g (by omega) hg;obtain rfl:F=X:=by
      rw[<-HX.out];unfold zS;rw[if_neg (by omega),if_pos (List.all_eq_true.2 hall)]
     have hfe:=hfd hall (by omega) (by omega);have HB:=Lib.hid hbx;clear hT hxT hbx hfd hlen hall HR HX;go_wp2_with fail;refine(hfe _ (by simp[go_sem]) (λq hq=>?_)).mono ?_
     ·have hb0:=HB.out q hq;have hl0:=z7 hb0;exact(hX0.block (Nat.lt_of_lt_of_le hl0 (by simp))).trans ((((Ext.refl _).alloc _).block hl0).trans hb0)
     ·rintro e w' ⟨D,m,cc,rfl,hD,hb⟩;obtain⟨os2,d2,rfl⟩:=hb.more;clear hb;have hDr:=hD.rd;go_wp2_with fail;exact bodyPost_ret (v:=.tuple #[AV F.R F.C (.slice D m cc),.bool true]) (by simp[results,results7,go_sem]) rfl ⟨D,m,cc,rfl,⟨(by(try simp only[zc] at hDr);(try simp only[zj] at hDr);(try simp only[zh] at hDr);(try simp only[Array.append_assoc] at hDr);exact Rd.swap hDr (by first | (simp;done) | (simp;omega) | omega) (by first | (simp;done) | (simp;omega) | omega) (by first | (simp;done) | (simp;omega) | omega)),hD.len,hD.cap,hD.small,hD.ok⟩,by with_reducible repeat(first | exact Ext.refl _ | apply Ext.drew | apply Ext.alloc | apply Ext.more_)⟩
theorem zr2 (s) (hs:s.size<=maxLen) (hl:∀ p:Nat->Nat,zbP (zfg p) s.data.toList=none) (A n cap w) :
  Tl prog 7 #[.string s,.slice A n cap] w (.tuple #[AV 0 0 (.slice none 0 0),.bool false]):=by
 go_enter func7,ntmps7;go_wp2_with (first | (go_at_call 15;(with_reducible refine(zdx _).mono ?_);rintro e w' ⟨bm,rfl,p,hT⟩;have hxT:=hT.ext;have ht:=hl p;have HT:=Lib.hid ht;clear ht;obtain⟨os1,d1,rfl⟩:=hxT.more) | (refine zff rfl _ _ _ rfl 9 43 Tryz.underlying9 Tryz.underlying45 _ _ rfl (hT.tab.ext (by simp[go_sem])) (zeP _) _ (zgy _) _ rfl hs (.agg #[.int .i64 0,.int .i64 0,.nilFunc]) false (by rw[HT.out];rfl) (by rw[HT.out];rfl) ?_));exact rct rfl rfl (by simp[go_sem]) ⟨rfl,by simp[go_sem]⟩
theorem zc0 (n w):Tl prog 13 #[.int .i64 n] w (VV 1 n 0 ⟨#[]⟩ false 0):=by
 go_enter func13,ntmps13;go_wp2_with fail;exact rc1 rfl rfl (by simp[go_sem]) ⟨rfl,by simp[go_sem]⟩
theorem zr3 (A n cap w) (hn:n<=9223372036854775807):Tl prog 12 #[.slice A n cap] w (AV 1 n (.slice A n cap)):=by
 go_enter func12,ntmps12;go_wp2_with fail;exact rc1 rfl rfl (by simp[go_sem]) ⟨rfl,by simp[go_sem]⟩
theorem zfm {w A cap n xs} (h:ArgsIn w A n cap xs) (h1:2<=n) (h2:n<=2):∃ a b,xs=[a,b]∧n=2∧zI xs 0=a.x∧zI xs 1=b.x:=by
 have hl:=h.len;obtain rfl:n=2:=by omega
 match xs,hl with
 | [a,b],_=>exact⟨a,b,rfl,rfl,rfl,rfl⟩
theorem zbi {p:Nat->Nat} {W:World} (hB:∀ q∈zbv p,W.heap[q.1]? = some q.2) {i t fid} (hi:(p i,kbx t fid)∈zbv p):W.cell? ⟨p i,0,none⟩=some (fn0 fid):=
 cell_of_row _ _ 0 _ _ _ (hB _ hi)
def zej (t:Val->Val->Val) (xs:List Ar):NA:=zaC t (zI xs 0).R (zI xs 0).C (zI xs 0).l (zI xs 1).R (zI xs 1).C (zI xs 1).l
def zdX (f:Nm->Nm) (xs:List Ar):NA:=zhI f (zI xs 0)
theorem zkq (A n cap gs w) (htab:Tab w) (h:ArgsG w A n cap gs):Calls prog 7 #[.string ⟨#[77,79,68]⟩,.slice A n cap] w (zbh w (zS 2 2 gs (zej modV (zK gs)))):=
 zaw ⟨#[77,79,68]⟩ 2 2 116 (λp=>#[.pointer (some ⟨p 14,0,none⟩)]) (by decide) (λ_=>rfl) (λargs W=>by go_simp) (by decide) (by decide) A n cap gs w h _ (λhr h1 h2 p W hW hB=>by
  obtain⟨a,b,hx,hn,ha,hb⟩:=zfm (zX h hr) h1 h2
  have hi:=(zX h hr).ext hW
  have hT:=htab.ext hW
  unfold zej
  rw[ha,hb]
  rw[hx] at hi
  subst hn
  exact zhZ A cap a b 54 modV (p 14) W hi (λx y V hl _ _ hx hy=>zoC x y V (hl.tab hT) hx hy _ rfl) (λx y hx _=>zgH.ok) (λargs W=>by go_simp) (zbi (t:=71) hB (by simp[zbv])))
theorem zmH (A n cap gs w) (htab:Tab w) (h:ArgsG w A n cap gs):Calls prog 7 #[.string ⟨#[82,79,85,78,68]⟩,.slice A n cap] w (zbh w (zS 2 2 gs (zej zee (zK gs)))):=
 zaw ⟨#[82,79,85,78,68]⟩ 2 2 116 (λp=>#[.pointer (some ⟨p 13,0,none⟩)]) (by decide) (λ_=>rfl) (λargs W=>by go_simp) (by decide) (by decide) A n cap gs w h _ (λhr h1 h2 p W hW hB=>by
  obtain⟨a,b,hx,hn,ha,hb⟩:=zfm (zX h hr) h1 h2
  have hi:=(zX h hr).ext hW
  have hT:=htab.ext hW
  unfold zej
  rw[ha,hb]
  rw[hx] at hi
  subst hn
  exact zhZ A cap a b 53 zee (p 13) W hi (λx y V hl _ _ hx hy=>zmG x y V hx hy _ rfl) (λx y hx _=>(zhj hx).ok) (λargs W=>by go_simp) (zbi (t:=71) hB (by simp[zbv])))
theorem zqd:∀ p:Nm,Rt p.1 p.2->Rt (zed p).1 (zed p).2:=λp h=>by unfold zed;split;exact ziK h;exact h
theorem znK:∀ p:Nm,Rt p.1 p.2->Rt (zeO p).1 (zeO p).2:=λp _=>(zbu (zgG _ _ _ _)).2.1
theorem zqe:∀ p:Nm,Rt p.1 p.2->Rt (zjL p).1 (zjL p).2:=λp h=>(zcI h).1
theorem zqf (A n cap gs w) (htab:Tab w) (h:ArgsG w A n cap gs):Calls prog 7 #[.string ⟨#[65,66,83]⟩,.slice A n cap] w (zbh w (zS 1 1 gs (zdX zed (zK gs)))):=
 zaw ⟨#[65,66,83]⟩ 1 1 108 (λp=>#[.pointer (some ⟨p 10,0,none⟩)]) (by decide) (λ_=>rfl) (λargs W=>by go_simp) (by decide) (by decide) A n cap gs w h _ (λhr h1 h2 p W hW hB=>by
  obtain⟨a,hx,hn,ha⟩:=zhK (zX h hr) h1 h2
  have hi:=(zX h hr).ext hW
  have hT:=htab.ext hW
  unfold zdX
  rw[ha]
  rw[hx] at hi
  subst hn
  exact zfV A cap a 49 zed (p 10) W hi (zug W) zqd (λargs W=>by go_simp) (zbi (t:=69) hB (by simp[zbv])))
theorem zoD (A n cap gs w) (htab:Tab w) (h:ArgsG w A n cap gs):Calls prog 7 #[.string ⟨#[83,73,71,78]⟩,.slice A n cap] w (zbh w (zS 1 1 gs (zdX zeO (zK gs)))):=
 zaw ⟨#[83,73,71,78]⟩ 1 1 108 (λp=>#[.pointer (some ⟨p 11,0,none⟩)]) (by decide) (λ_=>rfl) (λargs W=>by go_simp) (by decide) (by decide) A n cap gs w h _ (λhr h1 h2 p W hW hB=>by
  obtain⟨a,hx,hn,ha⟩:=zhK (zX h hr) h1 h2
  have hi:=(zX h hr).ext hW
  have hT:=htab.ext hW
  unfold zdX
  rw[ha]
  rw[hx] at hi
  subst hn
  exact zfV A cap a 50 zeO (p 11) W hi (ztq W hT) znK (λargs W=>by go_simp) (zbi (t:=69) hB (by simp[zbv])))
theorem zqg (A n cap gs w) (htab:Tab w) (h:ArgsG w A n cap gs):Calls prog 7 #[.string ⟨#[73,78,84]⟩,.slice A n cap] w (zbh w (zS 1 1 gs (zdX zjL (zK gs)))):=
 zaw ⟨#[73,78,84]⟩ 1 1 108 (λp=>#[.pointer (some ⟨p 12,0,none⟩)]) (by decide) (λ_=>rfl) (λargs W=>by go_simp) (by decide) (by decide) A n cap gs w h _ (λhr h1 h2 p W hW hB=>by
  obtain⟨a,hx,hn,ha⟩:=zhK (zX h hr) h1 h2
  have hi:=(zX h hr).ext hW
  have hT:=htab.ext hW
  unfold zdX
  rw[ha]
  rw[hx] at hi
  subst hn
  exact zfV A cap a 51 zjL (p 12) W hi (zuh W) zqe (λargs W=>by go_simp) (zbi (t:=69) hB (by simp[zbv])))
theorem zgU (A n cap gs w) (htab:Tab w) (hft:zbT w) (h:ArgsG w A n cap gs):Calls prog 7 #[.string ⟨#[67,79,85,78,84,73,70]⟩,.slice A n cap] w (zbh w (zS 2 2 gs (zdi (zK gs)))):=
 zaw ⟨#[67,79,85,78,84,73,70]⟩ 2 2 46 (λ_=>#[]) (by decide) (λ_=>rfl) (λargs W=>by go_simp) (by decide) (by decide) A n cap gs w h _ (λhr h1 h2 p W hW _=>zlT A n cap _ W (htab.ext hW) (hft.ext hW) ((zX h hr).ext hW) (by omega))
def zgd (w:World) (fid:FuncId) (capt:Array Value) (F:List Nm->Val):Prop:=
 ∀ (A:Option Addr) (n cap:Nat) (l:List Nm) W,Low w W->Tab W->NmIn W A n cap l->n<=409600->Calls prog fid (#[.slice A n cap]++capt) W λe W'=>e = .returned (VV (F l).kind (F l).mant (F l).exp (F l).text (F l).truth (F l).fault)∧Ext W W'
theorem zcx (A n cap xs fid capt) (F:List Nm->Val) (p w) (htab:Tab w) (h:ArgsIn w A n cap xs) (hn:n<=100) (hp:w.cell? ⟨p,0,none⟩=some (.func (.func fid) #[] capt)) (hq:zgd w fid capt F) (hF:∀ l,NRt l->(F l).right) (hent:∀ (args:Array Value) (W:World),(callFunc fid args).run prog W = .ok (.enter fid args) W) :
  Calls prog 88 #[.slice A n cap,.pointer (some ⟨p,0,none⟩)] w λe w'=>zbB w (zbx F xs) e w':=by
 have hR:=Lib.hid (zcg h);have HT:=Lib.hid htab;have H:=Lib.hid h;have HQ:=Lib.hid hq;have hpl:=za hp;have hall:=λW (hW:ArgsIn W A n cap xs)=>zgz A n cap xs W hW hn;have hfa:=λW=>zaT (ffL (zs xs)) W;obtain⟨X,hX⟩:∃ X,zbx F xs=X:=⟨_,rfl⟩;rw[hX];have HX:=Lib.hid hX;clear htab h hq hX;by_cases h0:ffL (zs xs)=0
 ·have hno:=zhi hR.out h0;have hXo:=HX.out;unfold zbx at hXo;rw[if_pos h0] at hXo;have hnr:=zb4 hR.out;have hlen9:=zbf (zs xs);have hone:∀ W,Calls prog 56 #[VV (F (zu (zs xs))).kind (F (zu (zs xs))).mant (F (zu (zs xs))).exp (F (zu (zs xs))).text (F (zu (zs xs))).truth (F (zu (zs xs))).fault] W (zbB W X):=λW=>by rw[<-hXo];exact zdT _ W (hF _ hnr).ok (hF _ hnr)
  have HNR:=Lib.hid (And.intro hnr hlen9);clear hXo HX hfa hnr hlen9;go_enter func88,ntmps88;go_upto_region 2 with(first | (go_at_call 90;(with_reducible refine(hall _ (H.out.ext (by simp[go_sem]))).mono ?_);rintro e w' ⟨D,m,c,rfl,hN,hm,hb⟩;have harr:=hN.arr;obtain⟨os1,d1,rfl⟩:=hb.more;clear hb hN) | (go_at_call 89;(with_reducible refine(zav _ _ _ (zs xs) _ harr (by omega)).mono ?_);rw[h0];rintro e w' ⟨v,rfl,hnm,hb⟩;obtain⟨A2,c2,rfl,hin⟩:=(hnm hno).in (by have:=HNR.out.2;have:=harr.len;omega) HNR.out.1;obtain⟨os2,d2,rfl⟩:=hb.more;clear hb hnm));have hlm:=harr.len;have hle:=HNR.out.2;clear harr hall hno HNR;generalize zu (zs xs)=L at *;have hcall:=λW (hL:Low w W) (hT:Tab W) (hN:NmIn W A2 L.length c2 L)=>HQ.out A2 L.length c2 L W hL hT hN (by omega);generalize L.length=n2 at *;generalize F L=y at *
  (try simp only[zc] at hin)
  have HIN:=Lib.hid hin;clear hin;go_wp2_with (first | (go_at_call 56;with_reducible refine aR (hone _) λD2 m2 cc2 os5 d5 hD=>?_;have hDr:=hD.rd) | (refine(hcall _ ?_ ?_ ?_).mono ?_;(focus(exact zgB (by simp[go_sem])));(focus(exact HT.out.ext (by simp[go_sem])));(focus(exact HIN.out.ext (by simp[go_sem])));rintro e w' ⟨rfl,hb⟩;obtain⟨os3,d3,rfl⟩:=hb.more;clear hb));exact rc1 (v:=AV X.R X.C (.slice D2 m2 cc2)) rfl rfl (by simp[go_sem]) (by(try simp only[zc,zj,zh,Array.append_assoc] at hDr);exact raS hDr hD (by simp <;> omega) (by simp[go_sem]))
 ·have hXo:=HX.out;unfold zbx at hXo;rw[if_neg h0] at hXo;rw[hXo] at hfa;clear hXo HX;generalize hff:ffL (zs xs)=f at *;have h0':(f==0)=false:=by simpa using h0
  go_enter func88,ntmps88;go_upto_region 2 with(first | (go_at_call 90;(with_reducible refine(hall _ (H.out.ext (by simp[go_sem]))).mono ?_);rintro e w' ⟨D,m,c,rfl,hN,hm,hb⟩;have harr:=hN.arr;obtain⟨os1,d1,rfl⟩:=hb.more;clear hb hN) | (go_at_call 89;(with_reducible refine(zav _ _ _ (zs xs) _ harr (by omega)).mono ?_);rw[hff];rintro e w' ⟨v,rfl,hnm,hb⟩;obtain⟨os2,d2,rfl⟩:=hb.more;clear hb hnm));clear harr hall hff;go_wp2_with (go_at_call 16;with_reducible refine aR (hfa _) λD2 m2 cc2 os5 d5 hD=>?_;have hDr:=hD.rd);exact rc1 (v:=AV X.R X.C (.slice D2 m2 cc2)) rfl rfl (by simp[go_sem]) (by(try simp only[zc,zj,zh,Array.append_assoc] at hDr);exact raS hDr hD (by simp <;> omega) (by simp[go_sem]))
theorem zbZ {l} (h:NRt l):(sumV l).right:=zcc λp hp=>zjM (Or.inl ⟨rfl,rfl⟩) hp
theorem zqh (w):zgd w 31 #[] sumV:=λA n cap l W _ hT hN _=>zgA A n cap l W hT hN
def isNum (v:Val):Bool:=v.kind==1
theorem zqi (w):zhJ w 37 #[] isNum:=by
 intro x W _ _;obtain⟨k,m,e,t,b,f⟩:=x;show Calls _ _ #[VV k m e t b f] W _;unfold isNum;generalize hg:(k==1)=g;go_enter func37,ntmps37;go_wp2_with fail;go_ret;exact⟨rfl,by simp[go_sem]⟩
theorem zqj (A n cap gs w) (htab:Tab w) (h:ArgsG w A n cap gs):Calls prog 7 #[.string ⟨#[83,85,77]⟩,.slice A n cap] w (zbh w (zS 1 32 gs (zbx sumV (zK gs)))):=
 zaw ⟨#[83,85,77]⟩ 1 32 88 (λp=>#[.pointer (some ⟨p 0,0,none⟩)]) (by decide) (λ_=>rfl) (λargs W=>by go_simp) (by decide) (by decide) A n cap gs w h _ (λhr h1 h2 p W hW hB=>
  zcx A n cap (zK gs) 31 #[] sumV (p 0) W (htab.ext hW) ((zX h hr).ext hW) (by omega) (zbi (t:=61) hB (by simp[zbv])) (zqh W) (λ_ hl=>zbZ hl) (λargs W=>by go_simp))
theorem zmI (A n cap gs w) (htab:Tab w) (h:ArgsG w A n cap gs):Calls prog 7 #[.string ⟨#[67,79,85,78,84]⟩,.slice A n cap] w (zbh w (zS 1 32 gs (zdh isNum (zs (zK gs))))):=
 zaw ⟨#[67,79,85,78,84]⟩ 1 32 95 (λp=>#[.pointer (some ⟨p 4,0,none⟩)]) (by decide) (λ_=>rfl) (λargs W=>by go_simp) (by decide) (by decide) A n cap gs w h _ (λhr h1 h2 p W hW hB=>
  zfj A n cap (zK gs) 37 #[] isNum (p 4) W (htab.ext hW) ((zX h hr).ext hW) (by omega) (zbi (t:=65) hB (by simp[zbv])) (zqi W) (λargs W=>by go_simp))
theorem zh0 {l} (h:NRt l):(prodV l).right:=by
 unfold prodV;split
 ·exact zaN (Or.inl ⟨rfl,rfl⟩)
 ·exact zcc λp hp=>zjN zcP hp
theorem zoE (w):zgd w 32 #[] prodV:=λA n cap l W _ hT hN _=>zlR A n cap l W hT hN
theorem zh1 {l} (h:NRt l):(averV l).right:=by
 unfold averV zec;split
 ·exact za1 ⟨by decide,by decide⟩
 ·split
  ·exact za1 ⟨by decide,by decide⟩
  ·exact zcc λp hp=>ze2 hp
theorem zoF (w):zgd w 39 #[] averV:=by
 intro A n cap l W _ hT hN hn;have hln:=hN.len;have hcap:=hN.cap;have hbad:=λf W=>zV f W;have ha:=λW hT hN=>zlQ A n cap l W hT hN;have hrt:=λp hp=>zjM (l:=l) (t:=(0,0)) (u:=p) (Or.inl ⟨rfl,rfl⟩) hp;have HT:=Lib.hid hT;have HN:=Lib.hid hN;unfold averV zec;rw[hln];clear hT hN;by_cases h0:n=0
 ·subst h0;rw[if_pos rfl];show Calls _ _ _ W λe w'=>e = .returned (VV 4 0 0 ⟨#[]⟩ false 1)∧Ext W w';rw[show(1:Int)=zE 1 by decide];clear hln ha hrt;go_enter func39,ntmps39;go_wp2_with (first | (go_at_call 57;with_reducible refine aM (hbad _ _) λos1 d1=>?_));exact rc1 rfl rfl (by simp[go_sem]) ⟨rfl,by simp[go_sem]⟩
 ·rw[if_neg h0];have h0':((n:Int)==0)=false:=by rw[beq_eq_false_iff_ne];omega
  have h15:(n:Int).natAbs<T 15:=by have:T 15=1000000000000000:=(by decide);omega
  have hw:=λW hT=>zeg n W hT h15;have hwr:Rt (zl n).1 (zl n).2:=(zbu h15).2.1;generalize zbC (0,0) l=r at *;generalize zl (n:Int)=q at *;clear hln h0 h15;cases r with
  | none=>
   show Calls _ _ _ W λe w'=>e = .returned (VV 4 0 0 ⟨#[]⟩ false 5)∧Ext W w';rw[show(5:Int)=zE 5 by decide];simp only[rm,re,Option.getD_none,Option.isSome_none] at ha;clear hw hwr hrt;go_enter func39,ntmps39;go_wp2_with (first | (go_at_call 92;with_reducible refine aM (ha _ (HT.out.ext (by simp[go_sem])) (HN.out.ext (by simp[go_sem]))) λos1 d1=>?_) | (go_at_call 57;with_reducible refine aM (hbad _ _) λos2 d2=>?_));exact rc1 rfl rfl (by simp[go_sem]) ⟨rfl,by simp[go_sem]⟩
  | some t=>
   have htr:=hrt _ rfl;have hdv:=λW hT=>zf3 t.1 t.2 q.1 q.2 W hT (zF htr) (zF hwr);have hmd:=λW=>zeA (divS t.1 t.2 q.1 q.2) W;simp only[rm,re,Option.getD_some,Option.isSome_some] at ha;show Calls _ _ _ W λe w'=>e = .returned (VV (zo (divS t.1 t.2 q.1 q.2)).kind (zo (divS t.1 t.2 q.1 q.2)).mant (zo (divS t.1 t.2 q.1 q.2)).exp (zo (divS t.1 t.2 q.1 q.2)).text (zo (divS t.1 t.2 q.1 q.2)).truth (zo (divS t.1 t.2 q.1 q.2)).fault)∧Ext W w';generalize divS t.1 t.2 q.1 q.2=d at *;generalize zo d=z at *;simp only[rnV] at hdv;clear hrt htr hwr;go_enter func39,ntmps39;go_upto_region 6 with(first | (go_at_call 92;with_reducible refine aM (ha _ (HT.out.ext (by simp[go_sem])) (HN.out.ext (by simp[go_sem]))) λos1 d1=>?_));refine plP [(0,0),(1,0),(2,0),(3,1),(4,1),(5,0),(6,0),(7,1),(8,2)] [8] (by kernel_rfl) (λ_ _ d _ _ h=>by cases d <;> exact h) ?_;iterate 3(apply rdP rfl rfl;(intros;go_simp;first | done | rfl);try simp only[zq])
   (refine zg rfl ?_ (λK hK=>?_);rfl;go_simp;(refine aM (hw _ (HT.out.ext (by simp[go_sem]))) λos2 d2=>?_);refine hK _ _ ?_ ?_;(simp[go_sem]))
   try simp only[zq]
   (refine zg rfl ?_ (λK hK=>?_);rfl;go_simp;(refine aM (hdv _ (HT.out.ext (by simp[go_sem]))) λos3 d3=>?_);refine hK _ _ ?_ ?_;(simp[go_sem]))
   try simp only[zq]
   iterate 2(apply rdP rfl rfl;(intros;go_simp;first | done | rfl);try simp only[zq])
   (refine zg rfl ?_ (λK hK=>?_);rfl;go_simp;(refine aM (hmd _) λos4 d4=>?_);refine hK _ _ ?_ ?_;(simp[go_sem]))
   try simp only[zq]
   (refine zU rfl ?_ (λK hK=>?_);rfl;go_simp;refine hK _ _ ?_)
   try simp only[Act.put]
   refine zi ?_;go_wp2_with fail;exact rc1 rfl rfl (by simp[go_sem]) ⟨rfl,by simp[go_sem]⟩
def notBlank (v:Val):Bool:=v.kind != 0
theorem zr4 (w):zhJ w 38 #[] notBlank:=by
 intro x W _ _;obtain⟨k,m,e,t,b,f⟩:=x;show Calls _ _ #[VV k m e t b f] W _;unfold notBlank;generalize hg:(k != 0)=g;go_enter func38,ntmps38;go_wp2_with fail;go_ret;exact⟨rfl,by simp[go_sem]⟩
theorem zkI (A n cap gs w) (htab:Tab w) (h:ArgsG w A n cap gs):Calls prog 7 #[.string ⟨#[80,82,79,68,85,67,84]⟩,.slice A n cap] w (zbh w (zS 1 32 gs (zbx prodV (zK gs)))):=
 zaw ⟨#[80,82,79,68,85,67,84]⟩ 1 32 88 (λp=>#[.pointer (some ⟨p 1,0,none⟩)]) (by decide) (λ_=>rfl) (λargs W=>by go_simp) (by decide) (by decide) A n cap gs w h _ (λhr h1 h2 p W hW hB=>
  zcx A n cap (zK gs) 32 #[] prodV (p 1) W (htab.ext hW) ((zX h hr).ext hW) (by omega) (zbi (t:=61) hB (by simp[zbv])) (zoE W) (λ_ hl=>zh0 hl) (λargs W=>by go_simp))
theorem zkJ (A n cap gs w) (htab:Tab w) (h:ArgsG w A n cap gs):Calls prog 7 #[.string ⟨#[65,86,69,82,65,71,69]⟩,.slice A n cap] w (zbh w (zS 1 32 gs (zbx averV (zK gs)))):=
 zaw ⟨#[65,86,69,82,65,71,69]⟩ 1 32 88 (λp=>#[.pointer (some ⟨p 6,0,none⟩)]) (by decide) (λ_=>rfl) (λargs W=>by go_simp) (by decide) (by decide) A n cap gs w h _ (λhr h1 h2 p W hW hB=>
  zcx A n cap (zK gs) 39 #[] averV (p 6) W (htab.ext hW) ((zX h hr).ext hW) (by omega) (zbi (t:=61) hB (by simp[zbv])) (zoF W) (λ_ hl=>zh1 hl) (λargs W=>by go_simp))
theorem zl3 (A n cap gs w) (htab:Tab w) (h:ArgsG w A n cap gs):Calls prog 7 #[.string ⟨#[67,79,85,78,84,65]⟩,.slice A n cap] w (zbh w (zS 1 32 gs (zdh notBlank (zs (zK gs))))):=
 zaw ⟨#[67,79,85,78,84,65]⟩ 1 32 95 (λp=>#[.pointer (some ⟨p 5,0,none⟩)]) (by decide) (λ_=>rfl) (λargs W=>by go_simp) (by decide) (by decide) A n cap gs w h _ (λhr h1 h2 p W hW hB=>
  zfj A n cap (zK gs) 38 #[] notBlank (p 5) W (htab.ext hW) ((zX h hr).ext hW) (by omega) (zbi (t:=65) hB (by simp[zbv])) (zr4 W) (λargs W=>by go_simp))
def zl4 (xs:List Ar):NA:=zej (opV .pow) xs
theorem zoG (A cap a b w) (htab:Tab w) (h:ArgsIn w A 2 cap [a,b]) :
  Calls prog 55 #[.slice A 2 cap] w λe w'=>zbB w (zaC (opV .pow) a.x.R a.x.C a.x.l b.x.R b.x.C b.x.l) e w':=by
 obtain⟨a',bb,off,ha,hA,⟨v0,v1,v2⟩,hoka⟩:=h.at (k:=0) (by omega);obtain⟨b',bb',off',hb,hA',⟨u0,u1,u2⟩,hokb⟩:=h.at (k:=1) (by omega);obtain rfl:a=a':=by simpa using ha
 obtain rfl:b=b':=by simpa using hb
 subst hA;simp only[Option.some.injEq,Addr.mk.injEq,and_true] at hA';obtain⟨rfl,rfl⟩:=hA';have hcap:=h.cap;have hop:=λW hT hx hy=>zoz .pow ⟨#[94]⟩ a.x.R a.x.C b.x.R b.x.C a.A b.A a.n a.cap b.n b.cap a.x.l b.x.l W hT (by decide) (by decide) hx hy _ rfl;generalize zaC (opV .pow) (a.x.R:Int) a.x.C a.x.l b.x.R b.x.C b.x.l=X at *;simp only[Nat.zero_mul,Nat.add_zero,Nat.one_mul] at v0 v1 v2 u0 u1 u2;have HT:=Lib.hid htab;have HOA:=Lib.hid hoka.arr;have HOB:=Lib.hid hokb.arr;have lb:=za v0;clear htab h ha hb hoka hokb;go_enter func55,ntmps55;go_upto_region 1 with fail;refine zby [(10,4),(0,0),(1,0),(2,0),(3,0),(4,0),(5,0),(6,1),(7,0),(8,0),(9,2),(10,3)] [11,12] [11,12] [9] (by kernel_rfl) (by kernel_rfl) (by kernel_rfl) (λ_ _ d _ _ h=>by cases d <;> exact h) (λ_ _ d _ _ h=>by cases d <;> exact h) ?_
 (refine zbH (t:=3) (.cells #[.int .i64 0,.int .i64 0,.slice none 0 0] 27) zcH rfl rfl rfl (λw1=>?_) ?_;(first | rfl | (simp[go_sem,zcH];done) | (go_simp;rfl)))
 iterate 6(apply rdG rfl rfl;(intros;go_simp;first | done | rfl);try simp only[zq])
 (refine zaX rfl ?_ (λwf hXf hE K hK=>?_);rfl;obtain⟨osf,df,rfl⟩:=hXf.more;go_simp;refine(hop _ (HT.out.ext (by simp[go_sem])) (HOA.out.ext (by simp[go_sem])) (HOB.out.ext (by simp[go_sem]))).mono ?_;rintro e w' ⟨D,m,cc,rfl,hN,hb⟩;refine hK _ _ (λW=>ArrN (w.heap.size+1) W D m cc X.l) (by(try simp only[zh,zc,Array.append_assoc]);exact hb) (λ_ _ hx h=>⟨h.rd.ext hx,h.len,h.cap,h.small,h.ok⟩) ⟨hN.rd.mono (by first | (simp;done) | (simp;omega) | (simp[go_sem];omega) | (trace_state;omega)),hN.len,hN.cap,hN.small,hN.ok⟩ ?_)
 try simp only[zq]
 iterate 3((first | (apply rdG rfl rfl;(intros;go_simp;first | done | rfl)) | (refine zbK (v:=?_) rfl ?_ (λw1=>?_) ?_;rotate_left 1;rfl;(go_simp;first | done | rfl)));try simp only[zq])
 refine zce λosa da osb db hE=>?_;try simp only[zq]
 (refine zaz rfl ?_ (λK hK=>?_);rfl;go_simp;refine hK _ _ ?_)
 try simp only[zq]
 (refine zaz rfl ?_ (λK hK=>?_);rfl;go_simp;refine hK _ _ ?_)
 try simp only[zq]
 refine zbS ?_;have hSl:=zt8 (.int .i64 X.R) (.int .i64 X.C) (.slice D m cc) hE.rd;have hl1:=hE.len;have hl2:=hE.cap;have hl3:=hE.small;have hl4:=hE.ok;clear hE;go_wp2_with fail;exact rc1 (v:=AV X.R X.C (.slice D m cc)) rfl rfl (by simp[go_sem]) ⟨D,m,cc,rfl,⟨(by(try simp only[zcF,zc] at hSl);(try simp only[zcF,zc]);(try simp only[zj] at hSl);(try simp only[zh] at hSl);(try simp only[Array.append_assoc] at hSl);(try simp only[Array.append_assoc]);exact hSl.sw (by simp <;> omega)),hl1,hl2,hl3,hl4⟩,by simp[go_sem]⟩
theorem zmJ (A n cap gs w) (htab:Tab w) (h:ArgsG w A n cap gs):Calls prog 7 #[.string ⟨#[80,79,87,69,82]⟩,.slice A n cap] w (zbh w (zS 2 2 gs (zl4 (zK gs)))):=
 zaw ⟨#[80,79,87,69,82]⟩ 2 2 55 (λp=>#[]) (by decide) (λ_=>rfl) (λargs W=>by go_simp) (by decide) (by decide) A n cap gs w h _ (λhr h1 h2 p W hW hB=>by
  have hin:=(zX h hr).ext hW
  obtain⟨a,b,hxs,rfl,e0,e1⟩:=zfm hin h1 h2
  unfold zl4 zej
  rw[e0,e1]
  rw[hxs] at hin
  exact zoG A cap a b W (htab.ext hW) hin)
theorem zeQ (r c r' c' A A' n cap n' cap' w) :
  Tl prog 101 #[AV r c (.slice A n cap),AV r' c' (.slice A' n' cap')] w (.bool (r==r'&&c==c')):=by
 cases h1:r==r' with
 | false=>
  go_enter func101,ntmps101;go_wp2_with fail;go_ret;exact⟨rfl,by simp[go_sem]⟩
 | true=>
  go_enter func101,ntmps101;go_wp2_with fail;go_ret;exact⟨rfl,by simp[go_sem]⟩
def zY (q:Val->Bool):List Val->List Val->List Val
 | x::xs,y::ys=>if q x then y::zY q xs ys else zY q xs ys
 | _,_=>[]
theorem zfD (q:Val->Bool):∀ {xs ys:List Val} {k:Nat} {x y:Val},xs[k]? = some x->ys[k]? = some y->zY q (xs.take (k+1)) (ys.take (k+1))=zY q (xs.take k) (ys.take k)++(if q x then[y] else[])
 | [],_,k,x,y,h,_=>by simp at h
 | _::_,[],k,x,y,_,h=>by simp at h
 | a::xs,b::ys,0,x,y,h,h'=>by
  obtain rfl:a=x:=by simpa using h
  obtain rfl:b=y:=by simpa using h'
  simp only[List.take_succ_cons,List.take_zero];unfold zY;split <;> simp[zY]
 | a::xs,b::ys,k+1,x,y,h,h'=>by
  have ih:=zfD q (xs:=xs) (ys:=ys) (k:=k) (x:=x) (y:=y) (by simpa using h) (by simpa using h');rw[List.take_succ_cons,List.take_succ_cons,List.take_succ_cons,List.take_succ_cons];show(if q a then b::zY q (xs.take (k+1)) (ys.take (k+1)) else zY q (xs.take (k+1)) (ys.take (k+1)))=(if q a then b::zY q (xs.take k) (ys.take k) else zY q (xs.take k) (ys.take k))++_;rw[ih];split <;> simp
theorem zcq (q:Val->Bool):∀ xs ys:List Val,(zY q xs ys).length<=xs.length
 | [],_=>by simp[zY]
 | _::_,[]=>by simp[zY]
 | a::xs,b::ys=>by
  have ih:=zcq q xs ys;unfold zY;split <;> simp <;> omega
theorem zeq (q:Val->Bool):∀ {xs ys:List Val} {v:Val},v∈zY q xs ys->v∈ys
 | [],_,v,h=>by simp[zY] at h
 | _::_,[],v,h=>by simp[zY] at h
 | a::xs,b::ys,v,h=>by
  unfold zY at h;split at h
  ·rcases List.mem_cons.1 h with rfl | h
   ·exact List.mem_cons_self
   ·exact List.mem_cons_of_mem _ (zeq q h)
  ·exact List.mem_cons_of_mem _ (zeq q h)
def zaV (xs:List Ar):NA:=if xs.length=3 then zI xs 2 else zI xs 0
def zbM (xs:List Ar):NA:=
 if(zaR xs 1).kind=4 then zT (zaR xs 1).fault
 else if((zaV xs).R==(zI xs 0).R&&(zaV xs).C==(zI xs 0).C)=false then zT 2
 else
  let l:=zY (zbQ (zaf (zaR xs 1)).1 (zaf (zaR xs 1)).2) (zI xs 0).l (zaV xs).l
  if ffL l=0 then zaj (sumV (zu l)) else zT (ffL l)
theorem zdj (a b:Nat):((a:Int)==(b:Int))=(a==b):=by rw[Bool.eq_iff_iff,beq_iff_eq,beq_iff_eq];omega
theorem zoH (A n cap xs w) (htab:Tab w) (hft:zbT w) (h:ArgsIn w A n cap xs) (hn:n=2) (h4:(zaR xs 1).kind≠4) :
  Calls prog 47 #[.slice A n cap] w λe w'=>zbB w (zbM xs) e w':=by
 subst hn;obtain⟨i0,hi0,hz0,hz1,hz2⟩:=info_parts zcn;have hxl:=h.len;have hcap:=h.cap;obtain⟨R,C,l,b1,off1,n1,cap1,b,off,x0,ha0,rfl,⟨v0,v1,v2⟩,hn1,hc1,_,_,_,hbl,hb1,_,_,harr,_⟩:=h.first (k:=0) (by omega);obtain⟨R',C',l',b2,off2,n2,cap2,b',off',x,ha1,e1,⟨w0,w1,w2⟩,hn2,hc2,⟨y0,y1,y2,y3,y4,y5⟩,hgv,hxr,_,hb2,hav,_,_,_⟩:=h.first (k:=1) (by omega);obtain⟨rfl,rfl⟩:b=b'∧off=off':=by simpa using e1
 rw[hav] at h4;simp only[Nat.zero_mul,Nat.add_zero,Nat.one_mul] at v0 v1 v2 w0 w1 w2;have hln:=harr.len;have hright:=(h.all _ (List.mem_of_getElem? ha0)).right;obtain⟨r1,r2,r3,r4,r5⟩:=zC.1 hright;simp only at r1 r2 r3 r4 r5;have hN0:zI xs 0=⟨R,C,l⟩:=by unfold zI;rw[ha0]
 have hcr:=λW hW=>zdy x W hxr h4 hW;have hsr:=zeh hxr;obtain⟨X,hX⟩:∃ X,zbM xs=X:=⟨_,rfl⟩;rw[hX];have hXX:=hX;unfold zbM zaV at hXX;have hx3:¬ xs.length=3:=by omega
 rw[hav,if_neg h4,if_neg hx3,hN0] at hXX;simp only[beq_self_eq_true,Bool.and_self,Bool.true_eq_false,if_false] at hXX;have HT:=Lib.hid htab;have HF:=Lib.hid hft;have HX:=Lib.hid hXX;have HR5:=Lib.hid r5;have HA:=Lib.hid harr;have HLN:=Lib.hid hln;clear htab hft hX hXX h ha0 ha1 hav hgv hN0 r5 harr hln e1 hright h4 hxr;have hal:=λW=>zeQ R C R C (some ⟨b1,off1,none⟩) (some ⟨b1,off1,none⟩) n1 cap1 n1 cap1 W;simp only[beq_self_eq_true,Bool.and_self] at hal;go_enter func47,ntmps47;go_upto_region 7 with(first | (go_at_call 107;(with_reducible refine(hcr _ (HF.out.ext (by simp[go_sem]))).mono ?_);rintro e w' ⟨p1,p2,rfl,hc,hp1,hp2,hb⟩;obtain⟨os1,d1,rfl⟩:=hb.more;clear hb));refine plP [(0,0),(1,0),(2,0),(3,0),(4,1),(5,0)] [] (by kernel_rfl) (λ_ _ d _ _ h=>by cases d <;> exact h) ?_;iterate 4(apply rdP rfl rfl;(intros;go_simp;first | done | rfl);try simp only[zq])
 (refine zg rfl ?_ (λK hK=>?_);rfl;go_simp;refine aM (hal _) λos2 d2=>?_;refine hK _ _ ?_ ?_;(simp[go_sem]))
 try simp only[zq]
 (apply rdP rfl rfl;(intros;go_simp;first | done | rfl))
 try simp only[zq]
 refine zi ?_;go_upto_region 9 with fail;refine zH λU hU=>?_;have hxU:Ext w U:=by rw[hU];exact(by simp[go_sem])
 have hcU:CritAt U p1 p2 (zaf x).1 (zaf x).2:=hc.ext (by rw[hU];exact(by simp[go_sem]));have s0:U.cell? ⟨w.heap.size+1+os1.size,0,none⟩=some (.int .i64 R):=by rw[hU];go_simp
 have s1:U.cell? ⟨w.heap.size+1+os1.size,1,none⟩=some (.int .i64 C):=by rw[hU];go_simp
 have s2:U.cell? ⟨w.heap.size+1+os1.size,2,none⟩=some (.slice (some ⟨b1,off1,none⟩) n1 cap1):=by rw[hU];go_simp
 have hrow:U.heap[w.heap.size]? = some (.cells #[.int .i64 0,.int .i64 0,.slice none 0 0] 27 (0,0)):=((show Ext (w.alloc (Obj.cells #[.int .i64 0,.int .i64 0,.slice none 0 0] 27)) U by rw[hU];exact(by simp[go_sem])).block (by simp)).trans (zaU _ _);have lo:=zG hrow;have ls:=za s0;replace v0:=hxU.cell_some v0;replace v1:=hxU.cell_some v1;replace v2:=hxU.cell_some v2;have lv:=za v0;have HTU:=Lib.hid (HT.out.ext hxU);have HAU:=Lib.hid (HA.out.ext hxU);have HQ:Hid (zhJ U 169 #[.pointer (some ⟨p1,0,none⟩),.pointer (some ⟨p2,0,none⟩)] (zbQ (zaf x).1 (zaf x).2)):=Lib.hid (zgD hcU hsr);have HXU:=Lib.hid hxU;have HRW:=Lib.hid hrow;have hcp:n1<=cap1:=HA.out.cap;have hn9:n1<=4096:=by have:=HLN.out;omega
 clear hU hc hcU hsr HT HF HA hal hcr w0 w1 w2 y0 y1 y2 y3 y4 y5 hxU hrow;generalize zbQ (zaf x).1 (zaf x).2=q at *;generalize w.heap.size+1+os1.size=pS at *;go_upto_region 11 with fail;go_loopw [6,45] (λv i wr=>∃ k:Nat,k<=n1∧i = .int .i64 (k:Int)∧Hid (wr.ownsRow U.heap.size 38 6 v (zY q (l.take k) (l.take k)).length (zJ (zY q (l.take k) (l.take k))))∧Ext U wr) (λ_ i _=>n1-(intOf i).toNat)
 case atStart=>exact⟨0,Nat.zero_le _,rfl,World.ownsRow_nil _ _ _ _,Ext.refl _⟩
 case round=>
  obtain⟨k,hk,rfl,HW,hxr⟩:=hrel;have hsz:=hxr.size;by_cases hlt:k<n1
  ·obtain⟨x1,b9,off9,hx,hxo,e9,hat⟩:=HAU.out.at hlt;obtain⟨rfl,rfl⟩:b1=b9∧off1=off9:=by simpa using e9
   obtain⟨z0,z1,z2,z3,z4,z5⟩:=hat.ext hxr;have lz:=za z0;replace s0:=hxr.cell_some s0;replace s1:=hxr.cell_some s1;replace s2:=hxr.cell_some s2;replace ls:=za s0;have hxR:x1.right:=HR5.out x1 (List.mem_of_getElem? hx);have HS:=Lib.hid (zfD q hx hx);have hcall:=λW (hW:Ext U W)=>HQ.out x1 W (zgB hW) hxR;have hfl:=Lib.hid (zcq q (l.take k) (l.take k));have hle:(zY q (l.take k) (l.take k)).length<=4096:=by have:=hfl.out;rw[List.length_take] at this;omega
   clear hx hxR hat hfl e9;generalize zY q (l.take k) (l.take k)=F at *;cases hqx:q x1 with
   | true=>
    rw[hqx] at hcall HS;rw[if_pos rfl] at HS;go_wp2_with (first | (at_builtin;refine wpList_append_own _ rfl _ _ _ rfl U.heap.size 38 i0 (VV 0 0 0 ⟨#[]⟩ false 0) 6 56 Tryz.underlying25 hi0 hz0 hz1 hz2 rfl (by decide) _ F.length (zJ F) rfl (zL HW.out (by simp[go_sem])) _ 1 1 [.int .i64 x1.kind,.int .i64 x1.mant,.int .i64 x1.exp,.string x1.text,.bool x1.truth,.int .i64 x1.fault] rfl rfl (zap _ _ _ (by first | rfl | (simp;done)) rfl _) (zeH (l:=[x1])) (by simp only[maxLen];omega) (by omega) (by simp;omega) ?_;intro v4 w4 ho4 hg4 _) | (refine(hcall _ ?_).mono ?_;(focus(exact hxr.trans (by simp[go_sem])));rintro e w' ⟨rfl,hb⟩;obtain⟨os3,d3,rfl⟩:=hb.more;clear hb));have hx4:=za2 (hxr.trans (by simp[go_sem])) (zL HW.out (by simp[go_sem])) hg4;refine⟨⟨k+1,by omega,by go_num,?_,hx4⟩,by simp[intOf];omega⟩;show World.ownsRow _ _ _ _ _ _ _;rw[HS.out,zcM,List.length_append];exact ho4
   | false=>
    rw[hqx] at hcall HS;rw[if_neg (by simp),List.append_nil] at HS;go_wp2_with (refine(hcall _ ?_).mono ?_;(focus(exact hxr.trans (by simp[go_sem])));rintro e w' ⟨rfl,hb⟩;obtain⟨os3,d3,rfl⟩:=hb.more;clear hb);refine⟨⟨k+1,by omega,by go_num,?_,hxr.trans (by simp[go_sem])⟩,by simp[intOf];omega⟩;show World.ownsRow _ _ _ _ _ _ _;rw[HS.out];exact zL HW.out (by simp[go_sem])
  ·obtain rfl:k=n1:=by omega
   have htk:l.take k=l:=by rw[<-HLN.out];exact List.take_length
   rw[htk] at HW;obtain⟨D,c,rfl,hrd,hcD⟩:=Rd.of_own HW.out;have hfl:=zcq q l l;have hln:=HLN.out;have hFR:∀ v∈zY q l l,v.right:=λv hv=>HR5.out v (zeq q hv);have hle:(zY q l l).length<=4096:=by omega
   have hin:ArrIn wr D (zY q l l).length c (zY q l l):=⟨hrd.mono (Nat.zero_le _),rfl,hcD,by omega,λy hy=>(hFR y hy).ok⟩;have hXo:=HX.out;have hnr:=zb4 hFR;have hlen9:=zbf (zY q l l);have hno9:ffL (zY q l l)=0->noF (zY q l l):=λh0=>zhi hFR h0;have hx0:Ext w wr:=HXU.out.trans hxr;have hrw:=(hxr.block (zG HRW.out)).trans HRW.out;have o0:=cell_of_row _ _ 0 _ _ _ hrw;have o1:=cell_of_row _ _ 1 _ _ _ hrw;have o2:=cell_of_row _ _ 2 _ _ _ hrw;have g0:=frozen_of_row _ _ 0 _ _ hrw;have g1:=frozen_of_row _ _ 1 _ _ hrw;have g2:=frozen_of_row _ _ 2 _ _ hrw;have lor:=zG hrw;clear hrw;clear HW hrd hFR hfl hln htk;generalize zY q l l=FL at *;by_cases h0:ffL FL=0
   ·rw[if_pos h0] at hXo;have hno:=hno9 h0;have hone:∀ W,Calls prog 56 #[VV (sumV (zu FL)).kind (sumV (zu FL)).mant (sumV (zu FL)).exp (sumV (zu FL)).text (sumV (zu FL)).truth (sumV (zu FL)).fault] W (zbB W X):=λW=>by rw[<-hXo];exact zdT _ W (zbZ hnr).ok (zbZ hnr)
    have HNR:=Lib.hid (And.intro hnr hlen9);have HIN:=Lib.hid hin;clear hXo HX hnr hlen9 hno9 hin;go_upto_region 17 with(go_at_call 89;(with_reducible refine(zav _ _ _ FL _ (HIN.out.ext (by simp[go_sem])) (by omega)).mono ?_);rw[h0];rintro e w' ⟨v,rfl,hnm,hb⟩;obtain⟨A2,c2,rfl,hin2⟩:=(hnm hno).in (by have:=HNR.out.2;omega) HNR.out.1;obtain⟨os4,d4,rfl⟩:=hb.more;clear hb hnm);have hsum:=λW (hT:Tab W) (hN:NmIn W A2 (zu FL).length c2 (zu FL))=>zgA A2 (zu FL).length c2 (zu FL) W hT hN;have HI2:=Lib.hid hin2;clear hin2;generalize zu FL=L at *;generalize L.length=n8 at *;generalize sumV L=y at *;go_wp2_with (first | (go_at_call 56;with_reducible refine aR (hone _) λD2 m2 cc2 os5 d5 hD=>?_;have hDr:=hD.rd) | (go_at_call 31;(refine(hsum _ ?_ ?_).mono ?_);(focus(exact HTU.out.ext (hxr.trans (by simp[go_sem]))));(focus(exact HI2.out.ext (by simp[go_sem])));rintro e w' ⟨rfl,hb⟩;obtain⟨os6,d6,rfl⟩:=hb.more;clear hb));exact bodyPost_ret (v:=AV X.R X.C (.slice D2 m2 cc2)) (by simp[results,results47,go_sem,o0,o1,o2,lor]) rfl ⟨D2,m2,cc2,rfl,⟨(by(try simp only[zc,zj,zh,Array.append_assoc] at hDr);exact hDr.sw (by simp <;> omega)),hD.len,hD.cap,hD.small,hD.ok⟩,Ext.more_ (Ext.set (Ext.set (Ext.set hx0 _ (Nat.le_refl _)) _ (Nat.le_refl _)) _ (Nat.le_refl _)) _ _⟩
   ·rw[if_neg h0] at hXo;have hfa:=λW=>zaT (ffL FL) W;rw[hXo] at hfa;have HIN:=Lib.hid hin;clear hXo HX hnr hlen9 hno9 hin;generalize hff:ffL FL=f at *;have h0':(f != 0)=true:=by simpa using h0
    have h0'':(f==0)=false:=by simpa using h0
    go_upto_region 17 with(go_at_call 89;(with_reducible refine(zav _ _ _ FL _ (HIN.out.ext (by simp[go_sem])) (by omega)).mono ?_);rw[hff];rintro e w' ⟨v,rfl,hnm,hb⟩;obtain⟨os4,d4,rfl⟩:=hb.more;clear hb hnm);clear hff HIN;go_wp2_with (go_at_call 16;with_reducible refine aR (hfa _) λD2 m2 cc2 os5 d5 hD=>?_;have hDr:=hD.rd);exact bodyPost_ret (v:=AV X.R X.C (.slice D2 m2 cc2)) (by simp[results,results47,go_sem,o0,o1,o2,lor]) rfl ⟨D2,m2,cc2,rfl,⟨(by(try simp only[zc,zj,zh,Array.append_assoc] at hDr);exact hDr.sw (by simp <;> omega)),hD.len,hD.cap,hD.small,hD.ok⟩,Ext.more_ (Ext.set (Ext.set (Ext.set hx0 _ (Nat.le_refl _)) _ (Nat.le_refl _)) _ (Nat.le_refl _)) _ _⟩
theorem zl5 (A n cap xs w) (htab:Tab w) (hft:zbT w) (h:ArgsIn w A n cap xs) (hn:n=3) (h4:(zaR xs 1).kind≠4) (hsm:((zI xs 2).R==(zI xs 0).R&&(zI xs 2).C==(zI xs 0).C)=true) :
  Calls prog 47 #[.slice A n cap] w λe w'=>zbB w (zbM xs) e w':=by
 subst hn;obtain⟨i0,hi0,hz0,hz1,hz2⟩:=info_parts zcn;have hxl:=h.len;have hcap:=h.cap;obtain⟨R,C,l,b1,off1,n1,cap1,b,off,x0,ha0,rfl,⟨v0,v1,v2⟩,hn1,hc1,_,_,_,hbl,hb1,_,_,harr,_⟩:=h.first (k:=0) (by omega);obtain⟨R',C',l',b2,off2,n2,cap2,b',off',x,ha1,e1,⟨w0,w1,w2⟩,hn2,hc2,⟨y0,y1,y2,y3,y4,y5⟩,hgv,hxr,_,hb2,hav,_,_,_⟩:=h.first (k:=1) (by omega);obtain⟨rfl,rfl⟩:b=b'∧off=off':=by simpa using e1
 obtain⟨R3,C3,l3,b3,off3,n3,cap3,b',off',x03,ha3,e3,⟨t0,t1,t2⟩,hn3,hc3,_,_,_,hbl3,hb3,_,_,harr3,_⟩:=h.first (k:=2) (by omega);obtain⟨rfl,rfl⟩:b=b'∧off=off':=by simpa using e3
 simp only[Nat.reduceMul] at t0 t1 t2;have hln3:=harr3.len;have hright3:=(h.all _ (List.mem_of_getElem? ha3)).right;obtain⟨q1,q2,q3,q4,q5⟩:=zC.1 hright3;simp only at q1 q2 q3 q4 q5;have hN2:zI xs 2=⟨R3,C3,l3⟩:=by unfold zI;rw[ha3]
 rw[hav] at h4;simp only[Nat.zero_mul,Nat.add_zero,Nat.one_mul] at v0 v1 v2 w0 w1 w2;have hln:=harr.len;have hright:=(h.all _ (List.mem_of_getElem? ha0)).right;obtain⟨r1,r2,r3,r4,r5⟩:=zC.1 hright;simp only at r1 r2 r3 r4 r5;have hN0:zI xs 0=⟨R,C,l⟩:=by unfold zI;rw[ha0]
 have hcr:=λW hW=>zdy x W hxr h4 hW;have hsr:=zeh hxr;rw[hN2,hN0] at hsm;obtain⟨rfl,rfl⟩:R3=R∧C3=C:=by simpa using hsm
 obtain rfl:n3=n1:=by rw[<-hln3,<-hln,q4,r4]
 clear hsm;obtain⟨X,hX⟩:∃ X,zbM xs=X:=⟨_,rfl⟩;rw[hX];have hXX:=hX;unfold zbM zaV at hXX;have hx3:xs.length=3:=by omega
 rw[hav,if_neg h4,if_pos hx3,hN0,hN2] at hXX;simp only[beq_self_eq_true,Bool.and_self,Bool.true_eq_false,if_false] at hXX;have HT:=Lib.hid htab;have HF:=Lib.hid hft;have HX:=Lib.hid hXX;have HR5:=Lib.hid r5;have HA:=Lib.hid harr;have HLN:=Lib.hid hln;have HR3:=Lib.hid q5;have HA3:=Lib.hid harr3;have HLN3:=Lib.hid hln3;clear q5 harr3 hln3 ha3 hN2 hright3 e3;clear htab hft hX hXX h ha0 ha1 hav hgv hN0 r5 harr hln e1 hright h4 hxr;have hal:=λW=>zeQ R3 C3 R3 C3 (some ⟨b3,off3,none⟩) (some ⟨b1,off1,none⟩) n3 cap3 n3 cap1 W;simp only[beq_self_eq_true,Bool.and_self] at hal;go_enter func47,ntmps47;go_upto_region 7 with(first | (go_at_call 107;(with_reducible refine(hcr _ (HF.out.ext (by simp[go_sem]))).mono ?_);rintro e w' ⟨p1,p2,rfl,hc,hp1,hp2,hb⟩;obtain⟨os1,d1,rfl⟩:=hb.more;clear hb));refine plP [(0,0),(1,0),(2,0),(3,0),(4,1),(5,0)] [] (by kernel_rfl) (λ_ _ d _ _ h=>by cases d <;> exact h) ?_;iterate 4(apply rdP rfl rfl;(intros;go_simp;first | done | rfl);try simp only[zq])
 (refine zg rfl ?_ (λK hK=>?_);rfl;go_simp;refine aM (hal _) λos2 d2=>?_;refine hK _ _ ?_ ?_;(simp[go_sem]))
 try simp only[zq]
 (apply rdP rfl rfl;(intros;go_simp;first | done | rfl))
 try simp only[zq]
 refine zi ?_;go_upto_region 9 with fail;refine zH λU hU=>?_;have hxU:Ext w U:=by rw[hU];exact(by simp[go_sem])
 have hcU:CritAt U p1 p2 (zaf x).1 (zaf x).2:=hc.ext (by rw[hU];exact(by simp[go_sem]));have s0:U.cell? ⟨w.heap.size+1+os1.size,0,none⟩=some (.int .i64 R3):=by rw[hU];go_simp
 have s1:U.cell? ⟨w.heap.size+1+os1.size,1,none⟩=some (.int .i64 C3):=by rw[hU];go_simp
 have s2:U.cell? ⟨w.heap.size+1+os1.size,2,none⟩=some (.slice (some ⟨b3,off3,none⟩) n3 cap3):=by rw[hU];go_simp
 have hrow:U.heap[w.heap.size]? = some (.cells #[.int .i64 0,.int .i64 0,.slice none 0 0] 27 (0,0)):=((show Ext (w.alloc (Obj.cells #[.int .i64 0,.int .i64 0,.slice none 0 0] 27)) U by rw[hU];exact(by simp[go_sem])).block (by simp)).trans (zaU _ _);have lo:=zG hrow;have ls:=za s0;replace v0:=hxU.cell_some v0;replace v1:=hxU.cell_some v1;replace v2:=hxU.cell_some v2;have lv:=za v0;have HTU:=Lib.hid (HT.out.ext hxU);have HAU:=Lib.hid (HA.out.ext hxU);have HA3U:=Lib.hid (HA3.out.ext hxU);have hcp3:n3<=cap3:=HA3.out.cap;clear HA3 t0 t1 t2;have HQ:Hid (zhJ U 169 #[.pointer (some ⟨p1,0,none⟩),.pointer (some ⟨p2,0,none⟩)] (zbQ (zaf x).1 (zaf x).2)):=Lib.hid (zgD hcU hsr);have HXU:=Lib.hid hxU;have HRW:=Lib.hid hrow;have hcp:n3<=cap1:=HA.out.cap;have hn9:n3<=4096:=by have:=HLN.out;omega
 clear hU hc hcU hsr HT HF HA hal hcr w0 w1 w2 y0 y1 y2 y3 y4 y5 hxU hrow;generalize zbQ (zaf x).1 (zaf x).2=q at *;generalize w.heap.size+1+os1.size=pS at *;go_upto_region 11 with fail;go_loopw [6,45] (λv i wr=>∃ k:Nat,k<=n3∧i = .int .i64 (k:Int)∧Hid (wr.ownsRow U.heap.size 38 6 v (zY q (l.take k) (l3.take k)).length (zJ (zY q (l.take k) (l3.take k))))∧Ext U wr) (λ_ i _=>n3-(intOf i).toNat)
 case atStart=>exact⟨0,Nat.zero_le _,rfl,World.ownsRow_nil _ _ _ _,Ext.refl _⟩
 case round=>
  obtain⟨k,hk,rfl,HW,hxr⟩:=hrel;have hsz:=hxr.size;by_cases hlt:k<n3
  ·obtain⟨x1,b9,off9,hx,hxo,e9,hat⟩:=HAU.out.at hlt;obtain⟨rfl,rfl⟩:b1=b9∧off1=off9:=by simpa using e9
   obtain⟨z0,z1,z2,z3,z4,z5⟩:=hat.ext hxr;have lz:=za z0;obtain⟨y1,b8,off8,hy,hyo,e8,hay⟩:=HA3U.out.at hlt;obtain⟨rfl,rfl⟩:b3=b8∧off3=off8:=by simpa using e8
   obtain⟨g0,g1,g2,g3,g4,g5⟩:=hay.ext hxr;have lg:=za g0;replace s0:=hxr.cell_some s0;replace s1:=hxr.cell_some s1;replace s2:=hxr.cell_some s2;replace ls:=za s0;have hxR:x1.right:=HR5.out x1 (List.mem_of_getElem? hx);have HS:=Lib.hid (zfD q hx hy);have hcall:=λW (hW:Ext U W)=>HQ.out x1 W (zgB hW) hxR;have hfl:=Lib.hid (zcq q (l.take k) (l3.take k));have hle:(zY q (l.take k) (l3.take k)).length<=4096:=by have:=hfl.out;rw[List.length_take] at this;omega
   clear hx hxR hat hfl e9 hy hay e8;generalize zY q (l.take k) (l3.take k)=F at *;cases hqx:q x1 with
   | true=>
    rw[hqx] at hcall HS;rw[if_pos rfl] at HS;go_wp2_with (first | (at_builtin;refine wpList_append_own _ rfl _ _ _ rfl U.heap.size 38 i0 (VV 0 0 0 ⟨#[]⟩ false 0) 6 56 Tryz.underlying25 hi0 hz0 hz1 hz2 rfl (by decide) _ F.length (zJ F) rfl (zL HW.out (by simp[go_sem])) _ 1 1 [.int .i64 y1.kind,.int .i64 y1.mant,.int .i64 y1.exp,.string y1.text,.bool y1.truth,.int .i64 y1.fault] rfl rfl (zap _ _ _ (by first | rfl | (simp;done)) rfl _) (zeH (l:=[y1])) (by simp only[maxLen];omega) (by omega) (by simp;omega) ?_;intro v4 w4 ho4 hg4 _) | (refine(hcall _ ?_).mono ?_;(focus(exact hxr.trans (by simp[go_sem])));rintro e w' ⟨rfl,hb⟩;obtain⟨os3,d3,rfl⟩:=hb.more;clear hb));have hx4:=za2 (hxr.trans (by simp[go_sem])) (zL HW.out (by simp[go_sem])) hg4;refine⟨⟨k+1,by omega,by go_num,?_,hx4⟩,by simp[intOf];omega⟩;show World.ownsRow _ _ _ _ _ _ _;rw[HS.out,zcM,List.length_append];exact ho4
   | false=>
    rw[hqx] at hcall HS;rw[if_neg (by simp),List.append_nil] at HS;go_wp2_with (refine(hcall _ ?_).mono ?_;(focus(exact hxr.trans (by simp[go_sem])));rintro e w' ⟨rfl,hb⟩;obtain⟨os3,d3,rfl⟩:=hb.more;clear hb);refine⟨⟨k+1,by omega,by go_num,?_,hxr.trans (by simp[go_sem])⟩,by simp[intOf];omega⟩;show World.ownsRow _ _ _ _ _ _ _;rw[HS.out];exact zL HW.out (by simp[go_sem])
  ·obtain rfl:k=n3:=by omega
   have htk:l.take k=l:=by rw[<-HLN.out];exact List.take_length
   have htk3:l3.take k=l3:=by rw[<-HLN3.out];exact List.take_length
   rw[htk,htk3] at HW;obtain⟨D,c,rfl,hrd,hcD⟩:=Rd.of_own HW.out;have hfl:=zcq q l l3;have hln:=HLN.out;have hFR:∀ v∈zY q l l3,v.right:=λv hv=>HR3.out v (zeq q hv);have hle:(zY q l l3).length<=4096:=by omega
   have hin:ArrIn wr D (zY q l l3).length c (zY q l l3):=⟨hrd.mono (Nat.zero_le _),rfl,hcD,by omega,λy hy=>(hFR y hy).ok⟩;have hXo:=HX.out;have hnr:=zb4 hFR;have hlen9:=zbf (zY q l l3);have hno9:ffL (zY q l l3)=0->noF (zY q l l3):=λh0=>zhi hFR h0;have hx0:Ext w wr:=HXU.out.trans hxr;have hrw:=(hxr.block (zG HRW.out)).trans HRW.out;have o0:=cell_of_row _ _ 0 _ _ _ hrw;have o1:=cell_of_row _ _ 1 _ _ _ hrw;have o2:=cell_of_row _ _ 2 _ _ _ hrw;have g0:=frozen_of_row _ _ 0 _ _ hrw;have g1:=frozen_of_row _ _ 1 _ _ hrw;have g2:=frozen_of_row _ _ 2 _ _ hrw;have lor:=zG hrw;clear hrw;clear HW hrd hFR hfl hln htk htk3;generalize zY q l l3=FL at *;by_cases h0:ffL FL=0
   ·rw[if_pos h0] at hXo;have hno:=hno9 h0;have hone:∀ W,Calls prog 56 #[VV (sumV (zu FL)).kind (sumV (zu FL)).mant (sumV (zu FL)).exp (sumV (zu FL)).text (sumV (zu FL)).truth (sumV (zu FL)).fault] W (zbB W X):=λW=>by rw[<-hXo];exact zdT _ W (zbZ hnr).ok (zbZ hnr)
    have HNR:=Lib.hid (And.intro hnr hlen9);have HIN:=Lib.hid hin;clear hXo HX hnr hlen9 hno9 hin;go_upto_region 17 with(go_at_call 89;(with_reducible refine(zav _ _ _ FL _ (HIN.out.ext (by simp[go_sem])) (by omega)).mono ?_);rw[h0];rintro e w' ⟨v,rfl,hnm,hb⟩;obtain⟨A2,c2,rfl,hin2⟩:=(hnm hno).in (by have:=HNR.out.2;omega) HNR.out.1;obtain⟨os4,d4,rfl⟩:=hb.more;clear hb hnm);have hsum:=λW (hT:Tab W) (hN:NmIn W A2 (zu FL).length c2 (zu FL))=>zgA A2 (zu FL).length c2 (zu FL) W hT hN;have HI2:=Lib.hid hin2;clear hin2;generalize zu FL=L at *;generalize L.length=n8 at *;generalize sumV L=y at *;go_wp2_with (first | (go_at_call 56;with_reducible refine aR (hone _) λD2 m2 cc2 os5 d5 hD=>?_;have hDr:=hD.rd) | (go_at_call 31;(refine(hsum _ ?_ ?_).mono ?_);(focus(exact HTU.out.ext (hxr.trans (by simp[go_sem]))));(focus(exact HI2.out.ext (by simp[go_sem])));rintro e w' ⟨rfl,hb⟩;obtain⟨os6,d6,rfl⟩:=hb.more;clear hb));exact bodyPost_ret (v:=AV X.R X.C (.slice D2 m2 cc2)) (by simp[results,results47,go_sem,o0,o1,o2,lor]) rfl ⟨D2,m2,cc2,rfl,⟨(by(try simp only[zc,zj,zh,Array.append_assoc] at hDr);exact hDr.sw (by simp <;> omega)),hD.len,hD.cap,hD.small,hD.ok⟩,Ext.more_ (Ext.set (Ext.set (Ext.set hx0 _ (Nat.le_refl _)) _ (Nat.le_refl _)) _ (Nat.le_refl _)) _ _⟩
   ·rw[if_neg h0] at hXo;have hfa:=λW=>zaT (ffL FL) W;rw[hXo] at hfa;have HIN:=Lib.hid hin;clear hXo HX hnr hlen9 hno9 hin;generalize hff:ffL FL=f at *;have h0':(f != 0)=true:=by simpa using h0
    have h0'':(f==0)=false:=by simpa using h0
    go_upto_region 17 with(go_at_call 89;(with_reducible refine(zav _ _ _ FL _ (HIN.out.ext (by simp[go_sem])) (by omega)).mono ?_);rw[hff];rintro e w' ⟨v,rfl,hnm,hb⟩;obtain⟨os4,d4,rfl⟩:=hb.more;clear hb hnm);clear hff HIN;go_wp2_with (go_at_call 16;with_reducible refine aR (hfa _) λD2 m2 cc2 os5 d5 hD=>?_;have hDr:=hD.rd);exact bodyPost_ret (v:=AV X.R X.C (.slice D2 m2 cc2)) (by simp[results,results47,go_sem,o0,o1,o2,lor]) rfl ⟨D2,m2,cc2,rfl,⟨(by(try simp only[zc,zj,zh,Array.append_assoc] at hDr);exact hDr.sw (by simp <;> omega)),hD.len,hD.cap,hD.small,hD.ok⟩,Ext.more_ (Ext.set (Ext.set (Ext.set hx0 _ (Nat.le_refl _)) _ (Nat.le_refl _)) _ (Nat.le_refl _)) _ _⟩
theorem zl6 (A n cap xs w) (htab:Tab w) (hft:zbT w) (h:ArgsIn w A n cap xs) (hn:n=3) (h4:(zaR xs 1).kind≠4) (hsm:((zI xs 2).R==(zI xs 0).R&&(zI xs 2).C==(zI xs 0).C)=false) :
  Calls prog 47 #[.slice A n cap] w λe w'=>zbB w (zbM xs) e w':=by
 subst hn;obtain⟨i0,hi0,hz0,hz1,hz2⟩:=info_parts zcn;have hxl:=h.len;have hcap:=h.cap;obtain⟨R,C,l,b1,off1,n1,cap1,b,off,x0,ha0,rfl,⟨v0,v1,v2⟩,hn1,hc1,_,_,_,hbl,hb1,_,_,harr,_⟩:=h.first (k:=0) (by omega);obtain⟨R',C',l',b2,off2,n2,cap2,b',off',x,ha1,e1,⟨w0,w1,w2⟩,hn2,hc2,⟨y0,y1,y2,y3,y4,y5⟩,hgv,hxr,_,hb2,hav,_,_,_⟩:=h.first (k:=1) (by omega);obtain⟨rfl,rfl⟩:b=b'∧off=off':=by simpa using e1
 obtain⟨R3,C3,l3,b3,off3,n3,cap3,b',off',x03,ha3,e3,⟨t0,t1,t2⟩,hn3,hc3,_,_,_,hbl3,hb3,_,_,harr3,_⟩:=h.first (k:=2) (by omega);obtain⟨rfl,rfl⟩:b=b'∧off=off':=by simpa using e3
 simp only[Nat.reduceMul] at t0 t1 t2;have hln3:=harr3.len;have hright3:=(h.all _ (List.mem_of_getElem? ha3)).right;obtain⟨q1,q2,q3,q4,q5⟩:=zC.1 hright3;simp only at q1 q2 q3 q4 q5;have hN2:zI xs 2=⟨R3,C3,l3⟩:=by unfold zI;rw[ha3]
 rw[hav] at h4;simp only[Nat.zero_mul,Nat.add_zero,Nat.one_mul] at v0 v1 v2 w0 w1 w2;have hln:=harr.len;have hright:=(h.all _ (List.mem_of_getElem? ha0)).right;obtain⟨r1,r2,r3,r4,r5⟩:=zC.1 hright;simp only at r1 r2 r3 r4 r5;have hN0:zI xs 0=⟨R,C,l⟩:=by unfold zI;rw[ha0]
 have hcr:=λW hW=>zdy x W hxr h4 hW;have hsr:=zeh hxr;obtain⟨X,hX⟩:∃ X,zbM xs=X:=⟨_,rfl⟩;rw[hX];have hfa:=λW=>zaT 2 W;have hXX:=hX;unfold zbM zaV at hXX;have hx3:xs.length=3:=by omega
 rw[hav,if_neg h4,if_pos hx3,if_pos hsm] at hXX;rw[hXX] at hfa;rw[hN2,hN0] at hsm;have hal:=λW=>zeQ R3 C3 R C (some ⟨b3,off3,none⟩) (some ⟨b1,off1,none⟩) n3 cap3 n1 cap1 W;simp only at hsm;simp only[zdj,hsm] at hal;have HT:=Lib.hid htab;have HF:=Lib.hid hft;clear htab hft hX hXX h ha0 ha1 ha3 hav hgv hN0 hN2 r5 q5 harr harr3 hln hln3 e1 e3 hright hright3 h4 hxr hsm;go_enter func47,ntmps47;go_upto_region 7 with(first | (go_at_call 107;(with_reducible refine(hcr _ (HF.out.ext (by simp[go_sem]))).mono ?_);rintro e w' ⟨p1,p2,rfl,hc,hp1,hp2,hb⟩;obtain⟨os1,d1,rfl⟩:=hb.more;clear hb));refine plP [(0,0),(1,0),(2,0),(3,0),(4,1),(5,0)] [] (by kernel_rfl) (λ_ _ d _ _ h=>by cases d <;> exact h) ?_;iterate 4(apply rdP rfl rfl;(intros;go_simp;first | done | rfl);try simp only[zq])
 (refine zg rfl ?_ (λK hK=>?_);rfl;go_simp;refine aM (hal _) λos2 d2=>?_;refine hK _ _ ?_ ?_;(simp[go_sem]))
 try simp only[zq]
 (apply rdP rfl rfl;(intros;go_simp;first | done | rfl))
 try simp only[zq]
 refine zi ?_;go_wp2_with (go_at_call 16;with_reducible refine aR (hfa _) λD2 m2 cc2 os5 d5 hD=>?_;have hDr:=hD.rd);exact rc1 (v:=AV X.R X.C (.slice D2 m2 cc2)) rfl rfl (by simp[go_sem]) (by(try simp only[zc,zj,zh,Array.append_assoc] at hDr);exact raS hDr hD (by simp <;> omega) (by simp[go_sem]))
theorem zoI (A n cap xs w) (h:ArgsIn w A n cap xs) (hn:2<=n) (h4:(zaR xs 1).kind=4) :
  Calls prog 47 #[.slice A n cap] w λe w'=>zbB w (zbM xs) e w':=by
 obtain⟨R,C,l,b1,off1,n1,cap1,b,off,x,ha,rfl,⟨v0,v1,v2⟩,hn1,hc1,⟨y0,y1,y2,y3,y4,y5⟩,hgv,hxr,hbl,hb1,hav,_,_,_⟩:=h.first (k:=1) (by omega);have hcap:=h.cap;have hsm:=h.small;simp only[Nat.one_mul] at v0 v1 v2;obtain⟨X,hX⟩:∃ X,zbM xs=X:=⟨_,rfl⟩;rw[hX];unfold zbM at hX;rw[hav] at hX h4;rw[if_pos h4] at hX;have hcb:=λW=>zgS x W h4;have hfa:=λW=>zaT x.fault W;rw[hX] at hfa;have hne:(x.fault != 0)=true:=by have:=(zbG hxr).2.2.2 h4;simp;omega
 clear hX h4 hxr h ha hgv hav;go_enter func47,ntmps47;go_wp2_with (first | (go_at_call 107;with_reducible refine aM (hcb _) λos1 d1=>?_) | (go_at_call 16;with_reducible refine aR (hfa _) λD2 m2 cc2 os5 d5 hD=>?_;have hDr:=hD.rd));exact rc1 (v:=AV X.R X.C (.slice D2 m2 cc2)) rfl rfl (by simp[go_sem]) (by(try simp only[zc,zj,zh,Array.append_assoc] at hDr);exact raS hDr hD (by simp <;> omega) (by simp[go_sem]))
theorem zoJ (A n cap xs w) (htab:Tab w) (hft:zbT w) (h:ArgsIn w A n cap xs) (h2:2<=n) (h3:n<=3) :
  Calls prog 47 #[.slice A n cap] w λe w'=>zbB w (zbM xs) e w':=by
 by_cases h4:(zaR xs 1).kind=4
 ·exact zoI A n cap xs w h h2 h4
 ·by_cases hn:n=2
  ·exact zoH A n cap xs w htab hft h hn h4
  ·have hn:n=3:=by omega
   cases hs:((zI xs 2).R==(zI xs 0).R&&(zI xs 2).C==(zI xs 0).C) with
   | true=>exact zl5 A n cap xs w htab hft h hn h4 hs
   | false=>exact zl6 A n cap xs w htab hft h hn h4 hs
theorem zmK (A n cap gs w) (htab:Tab w) (hft:zbT w) (h:ArgsG w A n cap gs):Calls prog 7 #[.string ⟨#[83,85,77,73,70]⟩,.slice A n cap] w (zbh w (zS 2 3 gs (zbM (zK gs)))):=
 zaw ⟨#[83,85,77,73,70]⟩ 2 3 47 (λ_=>#[]) (by decide) (λ_=>rfl) (λargs W=>by go_simp) (by decide) (by decide) A n cap gs w h _ (λhr h1 h2 p W hW _=>zoJ A n cap _ W (htab.ext hW) (hft.ext hW) ((zX h hr).ext hW) h1 h2)
end Go.Proofs.YtinjdacijiohiaaGreatDoor
