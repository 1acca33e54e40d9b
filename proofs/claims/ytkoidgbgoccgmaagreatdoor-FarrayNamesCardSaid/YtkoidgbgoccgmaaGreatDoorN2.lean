/- What the rows' proofs lean on: the contracts of the functions that they reach, and plain facts (part N2). -/
import Derived.Lib.Bytealg
import Derived.Laws.RangeAny
import Derived.Test.YtkoidgbgoccgmaaGreatDoorN1
set_option linter.unusedSimpArgs false
set_option linter.unusedVariables false
set_option maxRecDepth 100000
set_option maxHeartbeats 4000000
namespace Go.Proofs.YtkoidgbgoccgmaaGreatDoor
open Tryz
open Go.RowKit NM
abbrev moreW:=@more
abbrev zcn (neg:Bool) (A:Option Addr) (len cap:Nat) (ex:Int):Value:=.agg #[.bool neg,.slice A len cap,.int .i64 ex]
def NSt (base:Nat) (W0:World) (M:Nat) (E:Int) (s6 s7:Value) (wx:World):Prop :=
 ∃ A1 c1 E',s6 = .slice A1 (nd M) c1∧s7 = .int .i64 E'∧(M≠0→E'=E) ∧ -2000000≤E'∧E'≤2000000∧Rd base wx A1 (i6 (dig M))∧nd M≤c1∧Ext W0 wx
theorem zss (N:Nat) (more:Bool):nd (n1 N more)≤16:=(nd_le_iff _ 16).2 (Nat.lt_of_le_of_lt (n1_le N more) (T_lt (by omega)))
theorem zst (N:Nat) (more:Bool) (e:Int):nd (n2 N more e)≤16:=(nd_le_iff _ 16).2 (Nat.lt_of_le_of_lt (n2_le N more e) (T_lt (by omega)))
theorem zfU {N:Nat} {more:Bool} {e:Int} (h:n1 N more=0):n2 N more e=0:=by
 unfold n2;rw [h];exact cutN_false_zero _
def zjW (M2:Nat) (E2:Int) (M:Nat) (E':Int):Prop:=M=0∧M2=0∨M≠0∧M2≠0∧trim M E'=trim M2 E2∧(nd M:Int)+E'=nd M2+E2∧M≤M2
theorem zjW.step {M2:Nat} {E2:Int} {M:Nat} {E':Int} (h:zjW M2 E2 M E') (h0:M≠0) (h1:M % 10=0):zjW M2 E2 (M / 10) (E'+1):=by
 rcases h with ⟨h2,_⟩ | ⟨_,h3,h4,h5,h6⟩
 ·exact absurd h2 h0
 ·right
  refine ⟨by omega,h3,?_,?_,by omega⟩
  ·rw [← h4,trim_ten E' h0 h1]
  ·rw [nd_pos h0] at h5;omega
theorem zpn {M:Nat} (h:M≠0):(dig M)[nd M - 1]? = some (M % 10):=by
 rw [dig_pos h,nd_pos h,Nat.add_sub_cancel,← dig_length (M / 10),List.getElem?_append_right (Nat.le_refl _),Nat.sub_self];rfl
theorem zpo {M:Nat} (h:M≠0):(dig M).take (nd M - 1)=dig (M / 10):=by
 rw [dig_pos h,nd_pos h,Nat.add_sub_cancel,← dig_length (M / 10),List.take_left]
theorem zcs (base:Nat) (neg:Bool) (A:Option Addr) (len cap:Nat) (l:List Nat) (N:Nat) (ex:Int) (more:Bool) (w:World) (hlen:l.length=len) (h:Rd base w A (i6 l)) (hcp:len≤cap) (hbig:len≤1000) (hall:AllD l) (hv:val l=N) (he : -1000000≤ex∧ex≤1000000) (hb:base≤w.heap.size) :
  Tl prog 60 #[zcn neg A len cap ex,.bool more] w (rnV (rnd neg N more ex)):=by
 have hx0:Ext w ((w.alloc (.cells #[.bool neg,.slice A len cap,.int .i64 ex] 74)).alloc (.cells #[.int .i64 0,.int .i64 0] 35)):=by simp [go_sem]
 have hst:=zdR base A cap len l N ((w.alloc (.cells #[.bool neg,.slice A len cap,.int .i64 ex] 74)).alloc (.cells #[.int .i64 0,.int .i64 0] 35)) hlen (h.ext hx0) (by omega) hcp hall hv
 have hndN:nd N≤1000:=by
  rw [← hv]
  have:=(nd_le_iff (val l) l.length).2 (val_lt hall)
  omega
 have hdl:=dig_length N
 clear h hlen hv hall hx0
 go_enter func60,ntmps60
 go_upto_if 19 with (go_at_call 111;refine hst.mono ?_;rintro e w' ⟨⟨A',cap',rfl,hr,hcp'⟩,rfl⟩;rw [hdl])
 have HR:=Lib.hid hr
 have HDL:=Lib.hid hdl
 rw [hdl] at hcp'
 clear hr hdl hst
 go_cut [6,7] (fun s6 s7 wx=>NSt base ((w.alloc (.cells #[.bool neg,.slice A len cap,.int .i64 ex] 74)).alloc (.cells #[.int .i64 0,.int .i64 0] 35)) (n1 N more) (ex+(nd N - 15:Nat)) s6 s7 wx)
 case first =>
  by_cases h15:15 < nd N
  ·have e15:decide ((15:Int) < (nd N:Int))=true:=by simp;omega
   have hsub:(nd N:Int) - 15=((nd N - 15:Nat):Int):=by omega
   have hct:=zjT base A' cap' (nd N) (nd N - 15) N more ((w.alloc (.cells #[.bool neg,.slice A len cap,.int .i64 ex] 74)).alloc (.cells #[.int .i64 0,.int .i64 0] 35)) (by omega) rfl HR.out hcp' (by omega) (by simp;omega)
   go_wp2_with (go_at_call 112;refine hct.mono ?_;rintro e w' ⟨⟨A2,c2,rfl,hr2,hc2⟩,hb2⟩;rw [dig_length] at *)
   go_meet
   exact ⟨A2,c2,_,rfl,rfl,fun _=>rfl,by omega,by omega,hr2,hc2,hb2⟩
  ·have hn1:n1 N more=N:=by unfold n1;rw [show nd N - 15=0 by omega,cutN_zero]
   have HN1:=Lib.hid hn1
   clear hn1
   go_wp2
   go_meet
   rw [HN1.out]
   exact ⟨A',cap',_,rfl,rfl,fun _=>by rw [show nd N - 15=0 by omega];simp,by omega,by omega,HR.out,hcp',Ext.refl _⟩
 case rest =>
  obtain ⟨A1,c1,E1,rfl,rfl,hE1,hE1a,hE1b,hr1,hc1,hx1⟩:=hcut
  obtain ⟨os1,d1,rfl⟩:=hx1.more
  have hnd1:=zss N more
  have HR1:=Lib.hid hr1
  have HE1:=Lib.hid hE1
  clear hr1 hE1 hx1 HR
  go_upto_region 7 with (fail)
  refine wp_region_lit ?_
  iterate 7 ((first | refine zas rfl rfl rfl rfl rfl ?_ | refine zaC rfl rfl rfl rfl rfl ?_ | (refine zbj (v:=?_) rfl ?_ ?_;rotate_left 1;(go_simp;first | done | rfl)) | (refine za1 (v:=?_) (c:=?_) rfl rfl rfl ?_ (fun hc=>?_) ?_;rotate_left 2;(first | exact zak _ | exact zal _ | exact zQ _ _ | exact zR _ _);((try simp only [zn hc]);(try (have hc1:=zx hc;(try simp only [zn hc1]);(try (have hc2:=zx hc1;(try simp only [zn hc2])))));go_simp;first | done | rfl)));try simp only [zq])
  refine wpList_nil ?_
  try go_simp
  go_upto_if 36 with (fail)
  go_cut [6,7] (fun s6 s7 wx=>NSt base ((w.alloc (.cells #[.bool neg,.slice A len cap,.int .i64 ex] 74)).alloc (.cells #[.int .i64 0,.int .i64 0] 35)) (n2 N more ex) (e2 N ex) s6 s7 wx)
  case first =>
   by_cases hlow:E1 < -40
   ·by_cases hpos:n1 N more=0
    ·have hz:nd (n1 N more)=0:=by rw [hpos,nd_zero]
     have e1:decide (E1 < -40)=true:=by simp;omega
     have e2':decide (0 < nd (n1 N more))=false:=by simp;omega
     have e3':¬ (0 < nd (n1 N more)):=by omega
     have HZ:=Lib.hid hpos
     clear hpos hz
     go_wp2_with fail
     go_meet
     have h20:=zfU (e:=ex) HZ.out
     refine ⟨A1,c1,E1,?_,rfl,fun h0=>absurd h20 h0,hE1a,hE1b,?_,?_,by simp [go_sem]⟩
     ·rw [h20,HZ.out]
     ·rw [h20,dig_zero];exact Rd.nil _ _ _
     ·rw [h20,nd_zero];exact Nat.zero_le _
    ·obtain ⟨k,rfl⟩:∃ k:Nat,E1 = -40 - (k:Int):=⟨(-40 - E1).toNat,by omega⟩
     have hkk : -40 - (-40 - (k:Int))=k:=by omega
     have hk2:(-40 - (ex+(nd N - 15:Nat))).toNat=k:=by have:=HE1.out hpos;omega
     have he2:e2 N ex = -40:=by unfold e2;have:=HE1.out hpos;omega
     have hnp:0 < nd (n1 N more):=by rw [nd_pos hpos];omega
     have e1:decide (-40 - (k:Int) < -40)=true:=by simp;omega
     have e2':decide (0 < nd (n1 N more))=true:=by simp;omega
     have HK:=Lib.hid hk2
     have HE2:=Lib.hid he2
     clear hk2 he2 hpos
     have hct:=zjT base A1 c1 (nd (n1 N more)) k (n1 N more) false _ (by omega) rfl HR1.out hc1 (by omega) (by simp;omega)
     go_wp2_with (go_at_call 112;refine hct.mono ?_;rintro e w' ⟨⟨A2,c2,rfl,hr2,hc2⟩,hb2⟩;rw [dig_length] at *)
     go_meet
     have hn2:n2 N more ex=cutN (n1 N more) k false:=by unfold n2;rw [HK.out]
     rw [hn2,HE2.out]
     exact ⟨A2,c2,_,rfl,rfl,fun _=>rfl,by omega,by omega,hr2,hc2,(zP _ _ _).trans hb2⟩
   ·have e1:decide (E1 < -40)=false:=by simp;omega
    go_wp2
    go_meet
    have hn2:n2 N more ex=n1 N more:=by
     by_cases h0:n1 N more=0
     ·rw [zfU h0,h0]
     ·unfold n2;rw [← HE1.out h0,show (-40 - E1).toNat=0 by omega,cutN_zero]
    rw [hn2]
    exact ⟨A1,c1,E1,rfl,rfl,fun h0=>by unfold e2;rw [← HE1.out h0];omega,hE1a,hE1b,HR1.out,hc1,zP _ _ _⟩
  case rest =>
   obtain ⟨A2,c2,E2,rfl,rfl,hE2,hE2a,hE2b,hr2,hc2,hx2⟩:=hcut
   obtain ⟨os2,d2,rfl⟩:=hx2.more
   have hnd2:=zst N more ex
   clear hx2 HR1 HE1
   have HR2:=Lib.hid hr2
   have HE2:=Lib.hid hE2
   clear hr2 hE2
   generalize hM2:n2 N more ex=M2 at *
   have HM2:=Lib.hid hM2
   clear hM2
   go_wp2_with fail
   go_loop [6,7] (fun a b=>∃ (M:Nat) (E':Int) (A3:Option Addr) (c3:Nat),nd M≤16∧a = .slice A3 (nd M) c3∧b = .int .i64 E'∧nd M≤c3 ∧ -2000000≤E'∧E'+nd M≤2000016∧Hid (Rd base (moreW ((w.alloc (.cells #[.bool neg,.slice A len cap,.int .i64 ex] 74)).alloc (.cells #[.int .i64 0,.int .i64 0] 35)) os2 d2) A3 (i6 (dig M)))∧Hid (zjW M2 E2 M E')) (fun a _=>zcI a)
   case atStart=>exact ⟨M2,E2,A2,c2,hnd2,rfl,rfl,hc2,hE2a,by omega,HR2,by
    show zjW _ _ _ _
    by_cases h0:M2=0
    ·exact Or.inl ⟨h0,h0⟩
    ·exact Or.inr ⟨h0,h0,rfl,rfl,Nat.le_refl _⟩⟩
   case round =>
    obtain ⟨M,E',A3,c3,hndM,rfl,rfl,hc3,hEa,hEb,HR3,HN⟩:=hrel
    by_cases hM:M=0
    ·have hz:nd M=0:=by rw [hM,nd_zero]
     have HZ:=Lib.hid hM
     have HM0:Hid (rnd neg N more ex=some (0,0)):=by
      show _=_
      apply rnd_of_zero
      rw [HM2.out]
      rcases HN.out with ⟨_,h2⟩ | ⟨h2,_⟩
      ·exact h2
      ·exact absurd hM h2
     rw [hz]
     clear hM hz
     go_wp2_with fail
     exact rct (v:=NV 0 0) rfl rfl (by simp [go_sem]) ⟨by rw [HM0.out];rfl,by simp [go_sem]⟩
    ·have hnp:1≤nd M:=by rw [nd_pos hM];omega
     obtain ⟨b3,o3,rfl,_,hcl⟩:=Rd.at_ HR3.out (zpn hM)
     have hnn:((nd M:Int) - 1)=((nd M - 1:Nat):Int):=by omega
     by_cases h10:M % 10=0
     ·have HS:=Lib.hid (HN.out.step hM h10)
      have HRt:=Lib.hid (Rd.take HR3.out (nd M - 1))
      have hnd10:nd (M / 10)=nd M - 1:=by rw [nd_pos hM];omega
      have HI:=Lib.hid (zpo hM)
      have e0:(((M % 10:Nat):Int) == 0)=true:=by simp;omega
      have HND:=Lib.hid hnd10
      clear hnd10
      go_wp2_with fail
      refine ⟨⟨M / 10,E'+1,some ⟨b3,o3,none⟩,c3,?_,?_,rfl,?_,by omega,?_,?_,HS⟩,by simp [zcI];omega⟩
      ·rw [HND.out];omega
      ·rw [HND.out]
      ·rw [HND.out];omega
      ·rw [HND.out];omega
      ·show Rd _ _ _ _
       have:=HRt.out
       rw [← List.map_take,HI.out] at this
       exact this
     ·have e0:(((M % 10:Nat):Int) == 0)=false:=by simp;omega
      have e0b:(nd M == 0)=false:=by simp;omega
      have e0c:((nd M:Int) == 0)=false:=by simp;omega
      have hlt15:M < 10000000000000000:=by
       have h1:=lt_T_nd M
       have h2:=T_mono hndM
       have h3:T 16=10000000000000000:=by decide
       omega
      have HF:Hid (rnd neg N more ex=if 40 < (nd M:Int)+E' then none else some (sg neg M,E')):=by
       show _=_
       rcases HN.out with ⟨h2,_⟩ | ⟨_,h3,h4,h5,_⟩
       ·exact absurd h2 hM
       ·have hE:=HE2.out h3
        rw [trim_done _ h10] at h4
        unfold rnd
        rw [HM2.out,if_neg h3,← hE,← h5,← h4]
      have HALLM:=Lib.hid (dig_all M)
      have HVM:=Lib.hid (val_dig M)
      have HDM:=Lib.hid (dig_length M)
      have HB:Hid (∀ j,val ((dig M).take j) < 10000000000000000):=by
       intro j
       have h1:=val_lt ((dig_all M).take j)
       have h2:T ((dig M).take j).length≤T 16:=T_mono (by rw [List.length_take,dig_length];omega)
       have h3:T 16=10000000000000000:=by decide
       omega
      clear h10 hM
      by_cases h40:40 < (nd M:Int)+E'
      ·go_wp2_with fail
       refine bodyPost_ret (v:=.tuple #[NV 0 0,.bool false]) (by simp [results,results60,go_sem]) rfl ⟨?_,by simp [go_sem]⟩
       rw [HF.out,if_pos h40];(try rfl)
      ·go_wp2_with fail
       go_loop [10,11] (fun a b=>∃ j:Nat,j≤nd M∧b = .int .i64 (j:Int)∧a = .int .i64 ((val ((dig M).take j):Nat):Int)) (fun _ b=>nd M - (intOf b).toNat)
       case atStart=>exact ⟨0,Nat.zero_le _,rfl,rfl⟩
       case round =>
        obtain ⟨j,hj,rfl,rfl⟩:=hrel
        have hVb:=HB.out j
        by_cases hlt:j < nd M
        ·obtain ⟨d,hd⟩:∃ d,(dig M)[j]? = some d:=⟨(dig M)[j]'(by have:=HDM.out;omega),by rw [List.getElem?_eq_getElem]⟩
         obtain ⟨b4,o4,hA4,_,hcj⟩:=Rd.at_ HR3.out hd
         obtain ⟨rfl,rfl⟩:=aI hA4
         have hd10:=HALLM.out.at hd
         have hV2:val ((dig M).take (j+1))=10 * val ((dig M).take j)+d:=by rw [za2 hd,val_snoc]
         have HV3:=Lib.hid hV2
         clear hV2 hd
         generalize hV:val ((dig M).take j)=V at *
         have HV:=Lib.hid hV
         clear hV
         go_wp2
         refine ⟨⟨j+1,by omega,by go_num,?_⟩,by simp [intOf];omega⟩
         rw [HV3.out];exact congrArg (Value.int .i64) (by omega)
        ·have hMv:val ((dig M).take j)=M:=by rw [List.take_of_length_le (by have:=HDM.out;omega)];exact HVM.out
         rw [hMv]
         clear hMv hVb
         have w1:wrap64 (-(M:Int)) = -(M:Int):=IntWalk.wrap64_in _ (by omega)
         have w2:IntKind.i64.wrap (-(M:Int)) = -(M:Int):=zbJ (by omega) (by omega)
         cases neg with
         | false =>
          go_wp2_with fail
          refine bodyPost_ret (v:=.tuple #[NV (M:Int) E',.bool true]) (by simp [results,results60,go_sem]) rfl ⟨?_,by simp [go_sem]⟩
          rw [HF.out,if_neg (by omega)];(try rfl)
         | true =>
          go_wp2_with fail
          refine bodyPost_ret (v:=.tuple #[NV (-(M:Int)) E',.bool true]) (by simp [results,results60,go_sem]) rfl ⟨?_,by simp [go_sem]⟩
          rw [HF.out,if_neg (by omega)];(try rfl)
theorem zgQ {P:Program} (w:World) {ops:Array Oper} {rest:List Oper} {o:Oper} {a:Act} {Q:Exit→Act→World→Prop} (hgd:o.guard=none) (s x:Operand) (t:TypeId)
  (ho:o.op = .call { callee:=.builtin .append,args:=#[s,x],argTypes:=#[t,t] })
  (base:Nat) (e:TypeId) (i:TypeInfo) (z:Value) (bytes:Nat) (ht:P.underlying t=some (.slice e)) (hi:P.info? e=some i) (hz:i.zero=some z)
  (hsize:i.size=1) (hby:i.bytes=bytes) (hzs:z.cells.size=1)
  (v:Value) (n:Nat) (xs:List Value) (hs:a.eval s=v) (hown:w.ownsRow base e 1 v n xs)
  (B:Option Addr) (m c:Nat) (news:List Value) (hx:a.eval x = .slice B m c) (hl:news.length=m) (hB:Rd 0 w B news) (h1:∀ u∈news,u.oneCell'=true)
  (h63:n+m≤maxLen) (hbytes:(n+m) * bytes≤140737488355328) (hbase:base≤w.heap.size)
  (h:∀ v' w',w'.ownsRow base e 1 v' (n+m) (xs++news)→w.grownBy w' v.ownBlock→wpList P ops Q rest (a.put o.dst v') w'):wpList P ops Q (o::rest) a w:=by
 by_cases hm:m=0
 ·subst hm
  obtain rfl:news=[]:=List.eq_nil_of_length_eq_zero hl
  obtain ⟨A,cap,hv,hcap⟩:∃ A cap,v = .slice A n cap∧n≤cap:=by
   rcases hown.2 with ⟨h2,h3⟩ | ⟨g,cap,cur,h3,h4,h5,h6,_⟩
   ·exact ⟨none,0,by rw [h2,h3],by omega⟩
   ·exact ⟨_,cap,h3,h6⟩
  have hr:=zeQ (P:=P) w t o.type e i ht hi A n cap B c hcap
  refine wpList_plain hgd fun K hK=>?_
  unfold Oper.wp execOp
  simp only [ho,resolve,invoke,builtin,Sem.run_bind,Sem.run_pure,Result.andThen_ok,List.map_toArray,List.map_cons,List.map_nil,hs,hx,hv,hr]
  refine hK _ _ (h _ _ (by rw [← hv];simpa using hown) ⟨rfl,rfl,rfl,Nat.le_refl _,fun _ _ _=>rfl⟩)
 ·have hpos:0 < news.length:=by omega
  obtain ⟨b,off,rfl,_,_⟩:=hB 0 news[0] (by simp [hpos])
  exact wpList_append_own w hgd s x t ho base e i z 1 bytes ht hi hz hsize hby hzs (by decide) v n xs hs hown ⟨b,off,none⟩ m c news hx (by omega) hB.add h1 h63 hbytes hbase fun v' w' h2 h3 _=>h v' w' h2 h3
theorem zdS {X wr:World} {ty:TypeId} {v:Value} {n:Nat} {xs:List Value} (ho:wr.ownsRow X.heap.size ty 1 v n xs) (o:Obj):(wr.alloc o).ownsRow X.heap.size ty 1 v n xs :=
 zbk ho fun g cur hg=>RowKit.Below.heap_alloc _ o g (zH hg)
theorem zlR {w:World} {base n:Nat} {ty:TypeId} (hn:n=w.heap.size) (hb:base≤n):(w.alloc (.cells #[] ty)).ownsRow base ty 1 (.slice (some ⟨n,0,none⟩) 0 0) 0 []:=by
 subst hn
 exact ⟨by simp,Or.inr ⟨w.heap.size,0,#[],rfl,hb,Array.getElem?_push_size,Nat.le_refl _,by decide,by simp,by simp⟩⟩
theorem zjX (A:Option Addr) (len cap k:Nat) (l:List Nat) (w:World) (hlen:l.length=len) (h:Rd 0 w A (i6 l)) (hbig:len+k≤100000) :
  Calls prog 200 #[.slice A len cap,.int .i64 (k:Int)] w fun e w'=>∃ v,e = .returned v∧w'.ownsRow w.heap.size 3 1 v (len+k) (i6 (l++List.replicate k 0))∧Ext w w':=by
 obtain ⟨i0,hi,hz0,hz1,hz2⟩:=info_parts zbq
 have HR:=Lib.hid h
 have HL:=Lib.hid hlen
 clear h hlen
 go_enter func200,ntmps200
 go_wp2_with (at_builtin;refine zgQ _ rfl _ _ _ rfl w.heap.size 3 i0 (.int .i64 0) 8 Tryz.underlying71 hi hz0 hz1 hz2 rfl _ 0 [] rfl (zlR rfl (Nat.le_refl _)) A len cap (i6 l) rfl (by simp [HL.out]) (HR.out.ext ((Ext.refl _).alloc _)) (zcr _) (by simp [maxLen];omega) (by omega) (by simp) ?_;intro v3 w3 ho3 hg3)
 have hx3:=zbr ((Ext.refl w).alloc _) (zlR rfl (Nat.le_refl _)) hg3
 have HO:Hid (w3.ownsRow w.heap.size 3 1 v3 (len+0) (i6 (l++List.replicate 0 0))):=by show World.ownsRow _ _ _ _ _ _ _;simpa using ho3
 clear ho3 hg3
 go_loopw [5,6] (fun v i wr=>∃ j:Nat,j≤k∧i = .int .i64 (j:Int)∧Hid (wr.ownsRow w.heap.size 3 1 v (len+j) (i6 (l++List.replicate j 0)))∧Ext w wr) (fun _ i _=>k - (intOf i).toNat)
 case atStart=>exact ⟨0,Nat.zero_le _,rfl,HO,hx3⟩
 case round =>
  obtain ⟨j,hj,rfl,HW,hxr⟩:=hrel
  have hsz:=hxr.size
  by_cases hlt:j < k
  ·go_wp2_with (at_builtin;refine wpList_append_own _ rfl _ _ _ rfl w.heap.size 3 i0 (.int .i64 0) 1 8 Tryz.underlying71 hi hz0 hz1 hz2 rfl (by decide) _ (len+j) (i6 (l++List.replicate j 0)) rfl (zdS HW.out _) _ 1 1 [.int .i64 0] rfl rfl (Rd.one_ _ _ rfl).add (zcr [0]) (by simp [maxLen];omega) (by omega) (by simp;omega) ?_;intro v4 w4 ho4 hg4 _)
   have hx4:=zbr (hxr.alloc _) (zdS HW.out _) hg4
   refine ⟨⟨j+1,by omega,by go_num,?_,hx4⟩,by simp [intOf];omega⟩
   show World.ownsRow _ _ _ _ _ _ _
   rw [List.replicate_succ',← List.append_assoc];unfold i6;rw [List.map_append]
   exact ho4
  ·go_wp2_with fail
   go_ret
   obtain rfl:j=k:=by omega
   exact ⟨_,rfl,HW.out,hxr⟩
def zbS (w:World) (L N:Nat) (v:Value) (w':World):Prop:=∃ A c X,v = .slice A L c∧Rd w.heap.size w' A (i6 X)∧X.length=L∧AllD X∧val X=N∧L≤c
theorem zbS.ext {w w' w'':World} {L N:Nat} {v:Value} (h:zbS w L N v w') (hx:Ext w' w''):zbS w L N v w'':=by
 obtain ⟨A,c,X,h1,h2,h3⟩:=h
 exact ⟨A,c,X,h1,h2.ext hx,h3⟩
theorem zbS.of_own_ {w w':World} {base:Nat} {l:List Nat} {v:Value} {n:Nat} (h:w'.ownsRow base 3 1 v n (i6 l)) (ha:AllD l) (hb:w.heap.size≤base):zbS w n (val l) v w':=by
 obtain ⟨A,c,rfl,h1,rfl⟩:=Dg.of_own (l:=l) (k:=.i64) h
 exact ⟨A,c,l,rfl,h1.rd.mono hb,rfl,ha,rfl,h1.1⟩
theorem zdE (l:List Nat) (k:Nat):val (l++List.replicate k 0)=val l * T k:=by rw [val_append,val_rep0,List.length_replicate];omega
theorem zfV (l:List Nat):val (0::l)=val l:=by rw [val_cons];omega
theorem ziS (na nb:Bool) (A B:Option Addr) (ca cb:Nat) (la lb:List Nat) (ea eb:Int) (e:Int) (ka kb:Nat) (w:World) (ha:Rd 0 w A (i6 la)) (hb:Rd 0 w B (i6 lb)) (hla:la.length≤1000) (hlb:lb.length≤1000)
  (hka:ea=e+ka) (hkb:eb=e+kb) (hk0:ka=0∨kb=0) (hkk:ka≤10000∧kb≤10000) (he : -1000000≤e∧e≤1000000) (hda:AllD la) (hdb:AllD lb) :
  Calls prog 183 #[zcn na A la.length ca ea,zcn nb B lb.length cb eb] w fun r w'=>(∃ va vb,r = .returned (.tuple #[va,vb,.int .i64 e])∧zbS w (max (la.length+ka) (lb.length+kb)) (val la * T ka) va w'∧zbS w (max (la.length+ka) (lb.length+kb)) (val lb * T kb) vb w')∧Ext w w':=by
 subst hka hkb
 have hwa:=fun W hW=>zjX A la.length ca ka la W rfl hW (by omega)
 have hwb:=fun W hW=>zjX B lb.length cb kb lb W rfl hW (by omega)
 obtain ⟨i0,hi,hz0,hz1,hz2⟩:=info_parts zbq
 have HA:=Lib.hid ha
 have HB:=Lib.hid hb
 have s1:e+(ka:Int) - e=ka:=by omega
 have s2:e+(kb:Int) - e=kb:=by omega
 clear ha hb
 have hcmp:Hid (ka=0∨kb=0):=hk0
 clear hk0
 by_cases hlt:kb < ka
 focus
  have e1:decide (e+(kb:Int) < e+(ka:Int))=true:=by simp;omega
  have hkb0:kb=0:=by have:=hcmp.out;omega
  subst hkb0
  simp only [show ((0:Nat):Int)=0 from rfl,Int.add_zero] at hwb e1 s2
  simp only [show ((0:Nat):Int)=0 from rfl,Int.add_zero]
  go_enter func183,ntmps183
  go_wp2_with (first | (go_at_call_of 200 (Value.slice A la.length ca);(with_reducible refine (hwa _ (HA.out.ext (by simp [go_sem]))).mono ?_);rintro r w' ⟨va,rfl,hva,hxa⟩;obtain ⟨osa,da,rfl⟩:=hxa.more) | (go_at_call 200;(with_reducible refine (hwb _ (HB.out.ext (by simp [go_sem]))).mono ?_);rintro r w' ⟨vb,rfl,hvb,hxb⟩;obtain ⟨osb,db,rfl⟩:=hxb.more))
  have hLa:=(zbS.of_own_ (w:=w) hva (hda.append (AllD.rep _ _ (by omega))) (by simp;omega)).ext hxb
  have hLb:=zbS.of_own_ (w:=w) hvb (hdb.append (AllD.rep _ _ (by omega))) (by simp;omega)
  rw [zdE] at hLa hLb
  generalize hNa:val la * T ka=Na at *
  generalize hNb:val lb * T 0=Nb at *
  generalize hLLa:la.length+ka=La at *
  generalize hLLb:lb.length+0=Lb at *
  have hxW:Ext w (more (more ((w.alloc (.cells #[.bool na,.slice A la.length ca,.int .i64 (e+(ka:Int))] 74)).alloc (.cells #[.bool nb,.slice B lb.length cb,.int .i64 e] 74)) osa da) osb db):=by simp [go_sem]
 rotate_left
 focus
  have e1:decide (e+(kb:Int) < e+(ka:Int))=false:=by simp;omega
  have hka0:ka=0:=by have:=hcmp.out;omega
  subst hka0
  simp only [show ((0:Nat):Int)=0 from rfl,Int.add_zero] at hwa e1 s1
  simp only [show ((0:Nat):Int)=0 from rfl,Int.add_zero]
  go_enter func183,ntmps183
  go_wp2_with (first | (go_at_call_of 200 (Value.slice A la.length ca);(with_reducible refine (hwa _ (HA.out.ext (by simp [go_sem]))).mono ?_);rintro r w' ⟨va,rfl,hva,hxa⟩;obtain ⟨osa,da,rfl⟩:=hxa.more) | (go_at_call 200;(with_reducible refine (hwb _ (HB.out.ext (by simp [go_sem]))).mono ?_);rintro r w' ⟨vb,rfl,hvb,hxb⟩;obtain ⟨osb,db,rfl⟩:=hxb.more))
  have hLa:=(zbS.of_own_ (w:=w) hva (hda.append (AllD.rep _ _ (by omega))) (by simp;omega)).ext hxb
  have hLb:=zbS.of_own_ (w:=w) hvb (hdb.append (AllD.rep _ _ (by omega))) (by simp;omega)
  rw [zdE] at hLa hLb
  generalize hNa:val la * T 0=Na at *
  generalize hNb:val lb * T kb=Nb at *
  generalize hLLa:la.length+0=La at *
  generalize hLLb:lb.length+kb=Lb at *
  have hxW:Ext w (more (more ((w.alloc (.cells #[.bool na,.slice A la.length ca,.int .i64 e] 74)).alloc (.cells #[.bool nb,.slice B lb.length cb,.int .i64 (e+(kb:Int))] 74)) osa da) osb db):=by simp [go_sem]
 all_goals
  refine zz fun W hW=>?_
  rw [za,← hW] at hLa hLb hxW
  clear hW hva hvb hxa hxb
  obtain ⟨Aa,cx,Xa,rfl,hra,hna,hala,hvala,hcx⟩:=hLa
  obtain ⟨Ab,cy,Xb,rfl,hrb,hnb,halb,hvalb,hcy⟩:=hLb
  have HLa:Hid (zbS w La Na (.slice Aa La cx) W):=⟨Aa,cx,Xa,rfl,hra,hna,hala,hvala,hcx⟩
  have HLb:Hid (zbS w Lb Nb (.slice Ab Lb cy) W):=⟨Ab,cy,Xb,rfl,hrb,hnb,halb,hvalb,hcy⟩
  have HNa:=Lib.hid hNa
  have HNb:=Lib.hid hNb
  have HLLa:=Lib.hid hLLa
  have HLLb:=Lib.hid hLLb
  clear hra hna hala hvala hcx hrb hnb halb hvalb hcy hNa hNb
  have hLab:La≤11000∧Lb≤11000:=by omega
  clear hLLa hLLb hwa hwb e1 s1 s2 hlt
  go_loopw [8] (fun x wr=>∃ L1,La≤L1∧L1≤max La Lb∧Hid (zbS w L1 Na x wr)∧Hid (zbS w Lb Nb (.slice Ab Lb cy) wr)∧Ext w wr) (fun x _=>Lb - zcI x)
  case atStart=>exact ⟨La,Nat.le_refl _,by omega,HLa,HLb,hxW⟩
  case round =>
   obtain ⟨L1,hL1,hL2,HX,HY,hxr⟩:=hrel
   obtain ⟨A8,c8,X8,rfl,hrx,hnx,halx,hvx,hcx⟩:=HX.out
   by_cases hll:L1 < Lb
   ·have HNX:=Lib.hid hnx
    have HVX:=Lib.hid hvx
    clear hvx
    go_wp2_with (at_builtin;refine zbp _ rfl _ _ _ rfl 3 i0 (.int .i64 0) 1 8 Tryz.underlying71 hi hz0 hz1 hz2 rfl (by decide) w.heap.size _ 1 [.int .i64 0] rfl (by simp) rfl ((Rd.one _ _ _).mono hxr.size) (by have:=hxr.size;simp;omega) A8 L1 c8 (i6 X8) rfl (by simp;omega) ((Rd.alloc hrx _).mono (Nat.zero_le _)) (zcr _) (by simp [maxLen];omega) (by omega) ?_;intro A9 c9 os9 d9 hr9 hn9 hc9)
    refine ⟨⟨1+L1,by omega,by omega,?_,?_,?_⟩,by simp [zcI];omega⟩
    ·exact ⟨A9,c9,0::X8,rfl,hr9,by simp;omega,AllD.cons (by omega) halx,by rw [zfV];exact HVX.out,hc9⟩
    ·exact HY.out.ext (by simp [go_sem])
    ·exact hxr.trans (by simp [go_sem])
   ·have HNX:=Lib.hid hnx
    have HVX:=Lib.hid hvx
    clear hvx
    go_wp2_with fail
    go_loopw [9] (fun y wq=>∃ L2,Lb≤L2∧L2≤max La Lb∧Hid (zbS w L2 Nb y wq)∧Hid (zbS w L1 Na (.slice A8 L1 c8) wq)∧Ext w wq) (fun y _=>La - zcI y)
    case atStart=>exact ⟨Lb,Nat.le_refl _,by omega,HY,HX,hxr⟩
    case round =>
     clear hrx hnx halx hcx HNX HVX HX HY hxr
     obtain ⟨L2,hL3,hL4,HY,HX,hxr⟩:=hrel
     obtain ⟨A7,c7,X7,rfl,hrx,hnx,halx,hvx,hcx⟩:=HY.out
     by_cases hll2:L2 < L1
     ·have HNX:=Lib.hid hnx
      have HVX:=Lib.hid hvx
      clear hvx
      go_wp2_with (at_builtin;refine zbp _ rfl _ _ _ rfl 3 i0 (.int .i64 0) 1 8 Tryz.underlying71 hi hz0 hz1 hz2 rfl (by decide) w.heap.size _ 1 [.int .i64 0] rfl (by simp) rfl ((Rd.one _ _ _).mono hxr.size) (by have:=hxr.size;simp;omega) A7 L2 c7 (i6 X7) rfl (by simp;omega) ((Rd.alloc hrx _).mono (Nat.zero_le _)) (zcr _) (by simp [maxLen];omega) (by omega) ?_;intro A9 c9 os9 d9 hr9 hn9 hc9)
      refine ⟨⟨1+L2,by omega,by omega,?_,?_,?_⟩,by simp [zcI];omega⟩
      ·exact ⟨A9,c9,0::X7,rfl,hr9,by simp;omega,AllD.cons (by omega) halx,by rw [zfV];exact HVX.out,hc9⟩
      ·exact HX.out.ext (by simp [go_sem])
      ·exact hxr.trans (by simp [go_sem])
     ·clear hvx
      go_wp2_with fail
      go_ret3
      rw [HNa.out,HNb.out,HLLa.out,HLLb.out]
      obtain rfl:L1=max La Lb:=by omega
      obtain rfl:L2=max La Lb:=by omega
      exact ⟨⟨_,_,rfl,HX.out,HY.out⟩,hxr⟩
theorem ziT {l:List Nat} {j d:Nat} (h:l[j]? = some d):l=l.take j++d::l.drop (j+1):=by
 have hj:j < l.length:=by
  rcases Nat.lt_or_ge j l.length with h1 | h1
  ·exact h1
  ·rw [List.getElem?_eq_none h1] at h;cases h
 have h1:=List.take_append_drop j l
 rw [List.drop_eq_getElem_cons hj] at h1
 rw [List.getElem?_eq_getElem hj] at h
 rw [← Option.some.inj h]
 exact h1.symm
theorem zqO {X Y:List Nat} {j x y:Nat} (hl:X.length=Y.length) (hX:AllD X) (hY:AllD Y) (he:X.take j=Y.take j) (hx:X[j]? = some x) (hy:Y[j]? = some y) (hne:x≠y):decide (x < y)=decide (val X < val Y):=by
 have h1:=ziT hx
 have h2:=ziT hy
 have h3:=val_lt (hX.drop (j+1))
 have h4:=val_lt (hY.drop (j+1))
 have h5:(X.drop (j+1)).length=(Y.drop (j+1)).length:=by simp;omega
 have e1:val X=val (X.take j) * T (X.drop (j+1)).length * 10+x * T (X.drop (j+1)).length+val (X.drop (j+1)):=by
  conv=>lhs;rw [h1]
  rw [val_append,val_cons,List.length_cons,T_succ,Nat.mul_comm 10,← Nat.mul_assoc,Nat.add_assoc]
 have e2:val Y=val (X.take j) * T (X.drop (j+1)).length * 10+y * T (X.drop (j+1)).length+val (Y.drop (j+1)):=by
  conv=>lhs;rw [h2]
  rw [val_append,val_cons,List.length_cons,T_succ,Nat.mul_comm 10,← Nat.mul_assoc,Nat.add_assoc,he,h5]
 rw [← h5] at h4
 rw [e1,e2]
 generalize T (X.drop (j+1)).length=t at *
 generalize val (X.take j) * t * 10=z at *
 rw [Bool.eq_iff_iff,decide_eq_true_eq,decide_eq_true_eq]
 constructor
 ·intro h
  have:=Nat.mul_le_mul_right t (show x+1≤y from h)
  rw [Nat.add_mul,Nat.one_mul] at this
  omega
 ·intro h
  rcases Nat.lt_or_ge x y with h6 | h6
  ·exact h6
  ·exfalso
   have:=Nat.mul_le_mul_right t (show y+1≤x by omega)
   rw [Nat.add_mul,Nat.one_mul] at this
   omega
theorem zpp (A B:Option Addr) (ca cb L:Nat) (X Y:List Nat) (w:World) (hA:Rd 0 w A (i6 X)) (hB:Rd 0 w B (i6 Y)) (hX:X.length=L) (hY:Y.length=L) (hXd:AllD X) (hYd:AllD Y) (hL:L≤1000000) :
  Tl prog 184 #[.slice A L ca,.slice B L cb] w (.bool (decide (val X < val Y))):=by
 have HA:=Lib.hid hA
 have HB:=Lib.hid hB
 have HX:=Lib.hid hX
 have HY:=Lib.hid hY
 generalize hR:decide (val X < val Y)=R
 have HR:=Lib.hid hR
 clear hA hB hX hY hR
 go_enter func184,ntmps184
 go_wp2
 go_loopw [5] (fun i wr=>∃ j:Nat,j≤L∧i = .int .i64 (j:Int)∧Hid (X.take j=Y.take j)∧Ext w wr) (fun i _=>L - (intOf i).toNat)
 case atStart=>exact ⟨0,Nat.zero_le _,rfl,by show _=_;rfl,Ext.refl _⟩
 case round =>
  obtain ⟨j,hj,rfl,HE,hxr⟩:=hrel
  by_cases hlt:j < L
  ·obtain ⟨x,hx⟩:∃ x,X[j]? = some x:=⟨X[j]'(by have:=HX.out;omega),by rw [List.getElem?_eq_getElem]⟩
   obtain ⟨y,hy⟩:∃ y,Y[j]? = some y:=⟨Y[j]'(by have:=HY.out;omega),by rw [List.getElem?_eq_getElem]⟩
   obtain ⟨ba,oa,rfl,_,hcx⟩:=Rd.at_ (HA.out.ext hxr) hx
   obtain ⟨bb,ob,rfl,_,hcy⟩:=Rd.at_ (HB.out.ext hxr) hy
   have hba:=zg hcx
   have hbb:=zg hcy
   simp only at hba hbb
   by_cases hne:x=y
   ·subst hne
    have HN:Hid (X.take (j+1)=Y.take (j+1)):=by show _=_;rw [za2 hx,za2 hy,HE.out]
    clear hx hy
    go_wp2
    refine plP [(0,0),(1,0),(2,0),(3,0),(4,0),(5,0),(6,0),(7,0),(8,0)] [] (by kernel_rfl) (fun _ _ d _ _ h=>by cases d <;> exact h) ?_
    iterate 9 (apply rdP rfl rfl;(intros;go_simp;first | done | rfl);try simp only [zq])
    refine zj ?_
    go_wp2
    refine ⟨⟨j+1,by omega,by go_num,HN,?_⟩,by simp [intOf];omega⟩
    exact hxr.trans (by simp [go_sem])
   ·have hRR:decide (x < y)=R:=by rw [zqO (by rw [HX.out,HY.out]) hXd hYd HE.out hx hy hne];exact HR.out
    have HRR:=Lib.hid hRR
    have e1:((x:Int) == (y:Int))=false:=by simp;omega
    have e2:(x == y)=false:=by simp;omega
    clear hx hy hRR
    go_wp2
    refine plP [(0,0),(1,0),(2,0),(3,0),(4,0),(5,0),(6,0),(7,0),(8,0)] [] (by kernel_rfl) (fun _ _ d _ _ h=>by cases d <;> exact h) ?_
    iterate 9 (apply rdP rfl rfl;(intros;go_simp;first | done | rfl);try simp only [zq])
    refine zj ?_
    go_wp2
    refine plP [(0,0),(1,0),(2,0),(3,0),(4,0),(5,0),(6,0),(7,0),(8,0),(9,0)] [] (by kernel_rfl) (fun _ _ d _ _ h=>by cases d <;> exact h) ?_
    iterate 10 (apply rdP rfl rfl;(intros;go_simp;first | done | rfl);try simp only [zq])
    refine zj ?_
    go_wp2
    go_ret
    exact ⟨zaK HRR.out,hxr.trans (by simp [go_sem])⟩
  ·have hRR:R=false:=by
    rw [← HR.out]
    have h1:=HE.out
    rw [List.take_of_length_le (by have:=HX.out;omega),List.take_of_length_le (by have:=HY.out;omega)] at h1
    rw [h1];simp
   subst hRR
   go_wp2
   go_ret
   exact ⟨rfl,hxr⟩
theorem zgC {k:IntKind} {ty:TypeId} {base n:Nat} {w:World} (L:Nat) (hn:n=w.heap.size) (hb:base≤n):Dg k ty base (w.alloc (.cells (madeCells #[.int k 0] L) ty)) (some ⟨n,0,none⟩) L (List.replicate L 0):=by
 have hC:madeCells #[.int k 0] L=((List.replicate L 0).map fun d:Nat=>Value.int k (d:Int)).toArray:=by
  apply Array.ext'
  rw [toList_madeCells_one]
  simp
 have:=Dg.new (k:=k) (ty:=ty) (base:=base) (List.replicate L 0) hC hn hb
 rw [List.length_replicate] at this
 exact this
theorem Rd.set_low {base:Nat} {w:World} {A:Option Addr} {cs:List Value} {p:Addr} (v:Value) (h:Rd base w A cs) (hp:p.block < base):Rd base (w.setCell p v) A cs :=
 h.blocks fun b hb=>RowKit.Below.heap_setCell _ _ _ _ (by omega)
def zf7 (w:World) (neg:Bool) (L N:Nat) (ex:Int) (e:Ending) (w':World):Prop:=∃ A c X,e = .returned (zcn neg A L c ex)∧Rd w.heap.size w' A (i6 X)∧X.length=L∧AllD X∧val X=N∧L≤c
theorem zfo (n:Nat) (hn:n≤100000) (W:World):(Instr.makeSlice 71 (.int .i64 (n:Int)) (.int .i64 (n:Int))).run prog W = .ok (.slice (some ⟨W.heap.size,0,none⟩) n n) (W.alloc (.cells (madeCells #[.int .i64 0] n) 3)):=by
 obtain ⟨i0,hi,hz0,hz1,hz2⟩:=info_parts zbq
 have:=run_make (P:=prog) W 71 3 i0 _ Tryz.underlying71 hi hz0 .i64 .i64 (n:Int) (n:Int) (by omega) (by omega) (by rw [hz2];omega) (by omega)
 simpa [hz1,Value.cells] using this
structure PlusSt (W:World) (L j:Nat) (S:List Nat) (wr:World):Prop where
 out:Dg .i64 3 W.heap.size wr (some ⟨W.heap.size,0,none⟩) (L+1) (List.replicate (j+1) 0++S)
 len:S.length=L - j
 all:AllD S
 ext:Ext W wr
theorem PlusSt.step {W wr:World} {L j d:Nat} {S:List Nat} (h:PlusSt W L (j+1) S wr) (hd:d < 10) (hj:j+1≤L):PlusSt W L j (d::S) (wr.setCell ⟨W.heap.size,j+1,none⟩ (.int .i64 (d:Int))):=by
 refine ⟨?_,by simp [h.len];omega,AllD.cons hd h.all,h.ext.set _ (Nat.le_refl _)⟩
 have:=h.out.set (i:=j+1) (d:=d) (by simp;omega)
 rw [Nat.zero_add,List.set_append_left _ _ (by simp)] at this
 have he:(List.replicate (j+1+1) 0).set (j+1) d=List.replicate (j+1) 0++[d]:=by
  rw [List.replicate_succ',List.set_append_right _ _ (by simp)];simp
 rw [he,List.append_assoc,List.singleton_append] at this
 exact this
theorem PlusSt.at {W wr:World} {L j:Nat} {S:List Nat} (h:PlusSt W L j S wr):wr.cell? ⟨W.heap.size,j,none⟩=some (.int .i64 0)∧wr.frozen? ⟨W.heap.size,j,none⟩=false:=by
 obtain ⟨b,off,h1,_,h2,h3⟩:=h.out.at (i:=j) (d:=0) (by rw [List.getElem?_append_left (by simp)];simp [List.getElem?_replicate])
 obtain ⟨rfl,rfl⟩:=aI h1
 rw [Nat.zero_add] at h2 h3
 exact ⟨h2,h3⟩
theorem PlusSt.drew {W wr:World} {L j:Nat} {S:List Nat} (h:PlusSt W L j S wr):PlusSt W L j S wr.drew:=⟨h.out,h.len,h.all,h.ext.drew⟩
theorem PlusSt.ext_ {W wr wr':World} {L j:Nat} {S:List Nat} (h:PlusSt W L j S wr) (hx:Ext wr wr'):PlusSt W L j S wr':=⟨h.out.ext hx,h.len,h.all,h.ext.trans hx⟩
theorem PlusSt.last {W wr:World} {L:Nat} {S:List Nat} (h:PlusSt W L 0 S wr) (d:Nat):Dg .i64 3 W.heap.size (wr.setCell ⟨W.heap.size,0,none⟩ (.int .i64 (d:Int))) (some ⟨W.heap.size,0,none⟩) (L+1) (d::S):=by
 have:=h.out.set (i:=0) (d:=d) (by simp)
 simpa using this
theorem znJ (neg:Bool) (A B:Option Addr) (ca cb:Nat) (la lb:List Nat) (ea eb:Int) (e:Int) (ka kb L:Nat) (w:World) (ha:Rd 0 w A (i6 la)) (hb:Rd 0 w B (i6 lb)) (hla:la.length≤1000) (hlb:lb.length≤1000)
  (hka:ea=e+ka) (hkb:eb=e+kb) (hk0:ka=0∨kb=0) (hkk:ka≤10000∧kb≤10000) (he : -1000000≤e∧e≤1000000) (hda:AllD la) (hdb:AllD lb) (hL:max (la.length+ka) (lb.length+kb)=L) :
  Calls prog 145 #[zcn neg A la.length ca ea,zcn neg B lb.length cb eb] w fun r w'=>zf7 w neg (L+1) (val la * T ka+val lb * T kb) e r w'∧Ext w w':=by
 have hlv:=fun W h1 h2=>ziS neg neg A B ca cb la lb ea eb e ka kb W h1 h2 hla hlb hka hkb hk0 hkk he hda hdb
 rw [hL] at hlv
 have hLb:L≤11000:=by omega
 have hNa:val la * T ka < T L:=by
  rw [← zdE]
  exact Nat.lt_of_lt_of_le (val_lt (hda.append (AllD.rep _ _ (by omega)))) (T_mono (by simp;omega))
 have hNb:val lb * T kb < T L:=by
  rw [← zdE]
  exact Nat.lt_of_lt_of_le (val_lt (hdb.append (AllD.rep _ _ (by omega)))) (T_mono (by simp;omega))
 generalize val la * T ka=Na at *
 generalize val lb * T kb=Nb at *
 have HA:=Lib.hid ha
 have HB:=Lib.hid hb
 have HNa:=Lib.hid hNa
 have HNb:=Lib.hid hNb
 clear ha hb hka hkb hk0 hkk hL hNa hNb
 have hmk:=zfo (L+1) (by omega)
 rw [show (((L+1:Nat)):Int)=(L:Int)+1 by omega] at hmk
 go_enter func145,ntmps145
 go_upto_region 2 with (go_at_call 183;(with_reducible refine (hlv _ (HA.out.ext (by simp [go_sem])) (HB.out.ext (by simp [go_sem]))).mono ?_);rintro r w' ⟨⟨va,vb,rfl,hva,hvb⟩,hx⟩;obtain ⟨os,d,rfl⟩:=hx.more;obtain ⟨Ax,cx,X,rfl,hrx,hnx,hax,hvx,hcx⟩:=hva;obtain ⟨Ay,cy,Y,rfl,hry,hny,hay,hvy,hcy⟩:=hvb)
 refine zz fun W hW=>?_
 have c0:W.cell? ⟨w.heap.size,0,none⟩=some (.bool neg):=by rw [hW];go_simp
 have c1:W.cell? ⟨w.heap.size+1,0,none⟩=some (.bool neg):=by rw [hW];go_simp
 have r0:W.cell? ⟨w.heap.size+1+1,0,none⟩=some (.bool false):=by rw [hW];go_simp
 have r1:W.cell? ⟨w.heap.size+1+1,1,none⟩=some (.slice none 0 0):=by rw [hW];go_simp
 have r2:W.cell? ⟨w.heap.size+1+1,2,none⟩=some (.int .i64 0):=by rw [hW];go_simp
 have q0:W.frozen? ⟨w.heap.size+1+1,0,none⟩=false:=by rw [hW];go_simp
 have q1:W.frozen? ⟨w.heap.size+1+1,1,none⟩=false:=by rw [hW];go_simp
 have q2:W.frozen? ⟨w.heap.size+1+1,2,none⟩=false:=by rw [hW];go_simp
 have hz:w.heap.size+1+1 < W.heap.size:=by rw [hW];simp;try omega
 have hz1:w.heap.size+1 < W.heap.size:=by omega
 have hz0:w.heap.size < W.heap.size:=by omega
 have hxW:Ext w W:=by rw [hW];exact by simp [go_sem]
 have HX:Hid (Rd 0 W Ax (i6 X)):=by show Rd _ _ _ _;rw [hW];exact hrx.mono (Nat.zero_le _)
 have HY:Hid (Rd 0 W Ay (i6 Y)):=by show Rd _ _ _ _;rw [hW];exact hry.mono (Nat.zero_le _)
 clear hW hrx hry hx
 have HS:Hid (PlusSt W L L [] (W.alloc (.cells (madeCells #[.int .i64 0] (L+1)) 3))):=⟨by have:=zgC (k:=.i64) (ty:=3) (w:=W) (L+1) rfl (Nat.le_refl _);simpa using this,by simp,AllD.nil,(Ext.refl _).alloc _⟩
 have HNX:=Lib.hid hnx
 have HNY:=Lib.hid hny
 have HVX:=Lib.hid hvx
 have HVY:=Lib.hid hvy
 clear hnx hny hvx hvy
 go_wp2
 go_loopw [9,10] (fun a i wr=>∃ (j c:Nat) (S:List Nat),j≤L∧c≤1∧i = .int .i64 ((j:Int) - 1)∧a = .int .i64 (c:Int)∧Hid (PlusSt W L j S wr)∧Hid (val (X.drop j)+val (Y.drop j)=c * T S.length+val S)) (fun _ i _=>((intOf i)+1).toNat)
 case atStart =>
  exact ⟨L,0,[],Nat.le_refl _,by omega,by go_num,rfl,HS,by show _=_;rw [List.drop_eq_nil_of_le (by rw [HNX.out];exact Nat.le_refl _),List.drop_eq_nil_of_le (by rw [HNY.out];exact Nat.le_refl _)];simp [val_nil]⟩
 case round =>
  obtain ⟨j,c,S,hj,hc,rfl,rfl,H,HV⟩:=hrel
  have hxr:=H.out.ext
  have hsz:=hxr.size
  cases j with
  | zero =>
   obtain ⟨o0,o1⟩:=H.out.at
   have c0':=hxr.cell_some c0
   have r0':=hxr.cell_some r0
   have r1':=hxr.cell_some r1
   have r2':=hxr.cell_some r2
   have q0':=(hxr.frozen (p:=⟨w.heap.size+1+1,0,none⟩) (by show w.heap.size+1+1 < _;omega)).trans q0
   have q1':=(hxr.frozen (p:=⟨w.heap.size+1+1,1,none⟩) (by show w.heap.size+1+1 < _;omega)).trans q1
   have q2':=(hxr.frozen (p:=⟨w.heap.size+1+1,2,none⟩) (by show w.heap.size+1+1 < _;omega)).trans q2
   have HLAST:=Lib.hid (H.out.last c)
   go_wp2
   refine bodyPost_ret (v:=zcn neg (some ⟨W.heap.size,0,none⟩) (L+1) (L+1) e) (by simp [results,results145,go_sem,hz,r0',r1',r2']) rfl ⟨⟨_,_,c::S,rfl,?_,by have:=H.out.len;simp;omega,AllD.cons (by omega) H.out.all,?_,Nat.le_refl _⟩,?_⟩
   ·exact (((HLAST.out.rd.set_low _ hz).set_low _ hz).set_low _ hz).mono (by omega)
   ·rw [val_cons]
    have:=HV.out
    rw [List.drop_zero,List.drop_zero,HVX.out,HVY.out] at this
    omega
   ·exact (((((hxW.trans hxr).set _ (by show w.heap.size≤W.heap.size;omega)).set _ (by show w.heap.size≤w.heap.size+1+1;omega)).set _ (by show w.heap.size≤w.heap.size+1+1;omega)).set _ (by show w.heap.size≤w.heap.size+1+1;omega))
  | succ j =>
   have hjL:j < L:=by omega
   obtain ⟨x,hxj⟩:∃ x,X[j]? = some x:=⟨X[j]'(by have:=HNX.out;omega),by rw [List.getElem?_eq_getElem]⟩
   obtain ⟨y,hyj⟩:∃ y,Y[j]? = some y:=⟨Y[j]'(by have:=HNY.out;omega),by rw [List.getElem?_eq_getElem]⟩
   obtain ⟨ba,oa,rfl,_,hcx'⟩:=Rd.at_ (HX.out.ext hxr) hxj
   obtain ⟨bb,ob,rfl,_,hcy'⟩:=Rd.at_ (HY.out.ext hxr) hyj
   have hba:=zg hcx'
   have hbb:=zg hcy'
   simp only at hba hbb
   have hx10:=hax.at hxj
   have hy10:=hay.at hyj
   have HST:=Lib.hid (add_step hxj hyj (by rw [HNX.out,HNY.out]) (by rw [H.out.len,HNX.out]) HV.out)
   obtain ⟨o0,o1⟩:=H.out.at
   have t1:((x:Int)+(y:Int)+(c:Int)).tmod 10=(((x+y+c) % 10:Nat):Int):=rfl
   have t3:((x:Int)+(y:Int)+(c:Int)) % 10=(((x+y+c) % 10:Nat):Int):=rfl
   have t2:((x:Int)+(y:Int)+(c:Int)).tdiv 10=(((x+y+c) / 10:Nat):Int):=rfl
   have hd1:(x+y+c) % 10 < 10:=by omega
   have hd2:(x+y+c) / 10≤1:=by omega
   have hji:(((j+1:Nat):Int) - 1)=(j:Int):=by omega
   rw [hji]
   have HSP:=Lib.hid (H.out.step hd1 hj)
   clear hxj hyj
   generalize (x+y+c) % 10=dg at *
   generalize (x+y+c) / 10=cc at *
   go_wp2
   refine plP [(0,0),(1,0),(2,0),(3,0),(4,0),(5,0),(6,0),(7,0),(8,0),(9,0),(10,0),(11,0)] [] (by kernel_rfl) (fun _ _ d _ _ h=>by cases d <;> exact h) ?_
   iterate 12 (apply rdP rfl rfl;(intros;go_simp;first | done | rfl);try simp only [zq])
   refine zj ?_
   go_wp2
   refine ⟨⟨j,cc,dg::S,by omega,hd2,by go_num,by rw [t2],?_,?_⟩,by simp [intOf]⟩
   ·exact HSP.out.drew
   ·exact HST
theorem znK (na nb:Bool) (A B:Option Addr) (ca cb:Nat) (la lb:List Nat) (ea eb:Int) (e:Int) (ka kb L:Nat) (w:World) (ha:Rd 0 w A (i6 la)) (hb:Rd 0 w B (i6 lb)) (hla:la.length≤1000) (hlb:lb.length≤1000)
  (hka:ea=e+ka) (hkb:eb=e+kb) (hk0:ka=0∨kb=0) (hkk:ka≤10000∧kb≤10000) (he : -1000000≤e∧e≤1000000) (hda:AllD la) (hdb:AllD lb) (hne:na≠nb) (hL:max (la.length+ka) (lb.length+kb)=L) :
  Calls prog 145 #[zcn na A la.length ca ea,zcn nb B lb.length cb eb] w fun r w'=>zf7 w (if val la * T ka < val lb * T kb then nb else na) (L+1) (if val la * T ka < val lb * T kb then val lb * T kb - val la * T ka else val la * T ka - val lb * T kb) e r w'∧Ext w w':=by
 have hlv:=fun W h1 h2=>ziS na nb A B ca cb la lb ea eb e ka kb W h1 h2 hla hlb hka hkb hk0 hkk he hda hdb
 rw [hL] at hlv
 have hLb:L≤11000:=by omega
 generalize val la * T ka=Na at *
 generalize val lb * T kb=Nb at *
 generalize hNG:(if Na < Nb then nb else na)=NG
 generalize hVV:(if Na < Nb then Nb - Na else Na - Nb)=VV
 have HNG:=Lib.hid hNG
 have HVV:=Lib.hid hVV
 clear hNG hVV
 have HA:=Lib.hid ha
 have HB:=Lib.hid hb
 clear ha hb hka hkb hk0 hkk hL
 have hmk:=zfo (L+1) (by omega)
 rw [show (((L+1:Nat)):Int)=(L:Int)+1 by omega] at hmk
 go_enter func145,ntmps145
 go_upto_region 2 with (go_at_call 183;(with_reducible refine (hlv _ (HA.out.ext (by simp [go_sem])) (HB.out.ext (by simp [go_sem]))).mono ?_);rintro r w' ⟨⟨va,vb,rfl,hva,hvb⟩,hx⟩;obtain ⟨os,d,rfl⟩:=hx.more;obtain ⟨Ax,cx,X,rfl,hrx,hnx,hax,hvx,hcx⟩:=hva;obtain ⟨Ay,cy,Y,rfl,hry,hny,hay,hvy,hcy⟩:=hvb)
 refine zz fun W hW=>?_
 have c0:W.cell? ⟨w.heap.size,0,none⟩=some (.bool na):=by rw [hW];go_simp
 have c1:W.cell? ⟨w.heap.size+1,0,none⟩=some (.bool nb):=by rw [hW];go_simp
 have r0:W.cell? ⟨w.heap.size+1+1,0,none⟩=some (.bool false):=by rw [hW];go_simp
 have r1:W.cell? ⟨w.heap.size+1+1,1,none⟩=some (.slice none 0 0):=by rw [hW];go_simp
 have r2:W.cell? ⟨w.heap.size+1+1,2,none⟩=some (.int .i64 0):=by rw [hW];go_simp
 have q0:W.frozen? ⟨w.heap.size+1+1,0,none⟩=false:=by rw [hW];go_simp
 have q1:W.frozen? ⟨w.heap.size+1+1,1,none⟩=false:=by rw [hW];go_simp
 have q2:W.frozen? ⟨w.heap.size+1+1,2,none⟩=false:=by rw [hW];go_simp
 have hz:w.heap.size+1+1 < W.heap.size:=by rw [hW];simp;try omega
 have hz1:w.heap.size+1 < W.heap.size:=by omega
 have hz0:w.heap.size < W.heap.size:=by omega
 have hxW:Ext w W:=by rw [hW];exact by simp [go_sem]
 have HX:Hid (Rd 0 W Ax (i6 X)):=by show Rd _ _ _ _;rw [hW];exact hrx.mono (Nat.zero_le _)
 have HY:Hid (Rd 0 W Ay (i6 Y)):=by show Rd _ _ _ _;rw [hW];exact hry.mono (Nat.zero_le _)
 clear hW hrx hry hx
 have HS:Hid (PlusSt W L L [] (W.alloc (.cells (madeCells #[.int .i64 0] (L+1)) 3))):=⟨by have:=zgC (k:=.i64) (ty:=3) (w:=W) (L+1) rfl (Nat.le_refl _);simpa using this,by simp,AllD.nil,(Ext.refl _).alloc _⟩
 have HNX:=Lib.hid hnx
 have HNY:=Lib.hid hny
 have HVX:=Lib.hid hvx
 have HVY:=Lib.hid hvy
 clear hnx hny hvx hvy
 have hne':(na == nb)=false:=by simpa using hne
 have hls:=fun W' (hx':Ext W W')=>zpp Ax Ay cx cy L X Y W' (HX.out.ext hx') (HY.out.ext hx') HNX.out HNY.out hax hay (by omega)
 go_upto_if 70 with (go_at_call 184;(with_reducible refine (hls _ (by simp [go_sem])).mono ?_);rintro r w' ⟨rfl,hx⟩;obtain ⟨os2,d2,rfl⟩:=hx.more)
 have HS2:=HS.out.ext_ (zP _ os2 d2)
 have HS2:=Lib.hid HS2
 refine zz fun W2 hW2=>?_
 rw [← hW2] at HS2
 clear hW2 HS hls hx
 have hx2:=HS2.out.ext
 have hz2:=hx2.size
 have c1':=hx2.cell_some c1
 go_cut [5,6,12] (fun s5 s6 s12 wx=>∃ (Ap Aq:Option Addr) (cp cq:Nat) (P Q:List Nat) (n:Bool),s5 = .slice Ap L cp∧s6 = .slice Aq L cq∧s12 = .bool n∧wx=W2∧Hid (Rd 0 W Ap (i6 P))∧Hid (Rd 0 W Aq (i6 Q))∧Hid (P.length=L)∧Hid (Q.length=L)∧AllD P∧AllD Q∧L≤cp∧L≤cq∧Hid (val Q≤val P∧n=NG∧val P - val Q=VV))
 case first =>
  by_cases hlt:val X < val Y
  ·have e1:decide (val X < val Y)=true:=by simp [hlt]
   have hN:Na < Nb:=by rw [← HVX.out,← HVY.out];exact hlt
   have HN:=Lib.hid hN
   have HLT:=Lib.hid hlt
   clear hlt hN
   go_wp2
   go_meet
   exact ⟨Ay,Ax,cy,cx,Y,X,nb,rfl,rfl,rfl,rfl,HY,HX,HNY,HNX,hay,hax,hcy,hcx,Nat.le_of_lt HLT.out,by rw [← HNG.out,if_pos HN.out],by rw [← HVV.out,if_pos HN.out,HVX.out,HVY.out]⟩
  ·have e1:decide (val X < val Y)=false:=by simp [hlt]
   have hN:¬ Na < Nb:=by rw [← HVX.out,← HVY.out];exact hlt
   have HN:=Lib.hid hN
   have HLT:=Lib.hid hlt
   clear hlt hN
   go_wp2
   go_meet
   exact ⟨Ax,Ay,cx,cy,X,Y,na,rfl,rfl,rfl,rfl,HX,HY,HNX,HNY,hax,hay,hcx,hcy,Nat.le_of_not_lt HLT.out,by rw [← HNG.out,if_neg HN.out],by rw [← HVV.out,if_neg HN.out,HVX.out,HVY.out]⟩
 case rest =>
 clear HX HY HNX HNY HVX HVY hax hay hcx hcy c1'
 obtain ⟨Ap,Aq,cp,cq,X,Y,n,rfl,rfl,rfl,rfl,HX,HY,HNX,HNY,hax,hay,hcx,hcy,HFIN⟩:=hcut
 go_wp2
 go_loopw [13,14] (fun a i wr=>∃ (j c:Nat) (S:List Nat),j≤L∧c≤1∧i = .int .i64 ((j:Int) - 1)∧a = .int .i64 (c:Int)∧Hid (PlusSt W L j S wr)∧Hid (val (X.drop j)+c * T S.length=val (Y.drop j)+val S)) (fun _ i _=>((intOf i)+1).toNat)
 case atStart =>
  exact ⟨L,0,[],Nat.le_refl _,by omega,by go_num,rfl,HS2,by show _=_;rw [List.drop_eq_nil_of_le (by rw [HNX.out];exact Nat.le_refl _),List.drop_eq_nil_of_le (by rw [HNY.out];exact Nat.le_refl _)];simp [val_nil]⟩
 case round =>
  obtain ⟨j,c,S,hj,hc,rfl,rfl,H,HV⟩:=hrel
  have hxr:=H.out.ext
  have hsz:=hxr.size
  cases j with
  | zero =>
   have r0':=hxr.cell_some r0
   have r1':=hxr.cell_some r1
   have r2':=hxr.cell_some r2
   have q0':=(hxr.frozen (p:=⟨w.heap.size+1+1,0,none⟩) (by show w.heap.size+1+1 < _;omega)).trans q0
   have q1':=(hxr.frozen (p:=⟨w.heap.size+1+1,1,none⟩) (by show w.heap.size+1+1 < _;omega)).trans q1
   have q2':=(hxr.frozen (p:=⟨w.heap.size+1+1,2,none⟩) (by show w.heap.size+1+1 < _;omega)).trans q2
   have hz':w.heap.size+1+1 < wr.heap.size:=by omega
   go_wp2
   obtain ⟨f1,f2,f3⟩:=HFIN.out
   refine bodyPost_ret (v:=zcn n (some ⟨W.heap.size,0,none⟩) (L+1) (L+1) e) (by simp [results,results145,go_sem,hz',r0',r1',r2']) rfl ⟨⟨_,_,0::S,by rw [f2],?_,by have:=H.out.len;simp;omega,AllD.cons (by omega) H.out.all,?_,Nat.le_refl _⟩,?_⟩
   ·have hrd:=H.out.out.rd
    exact (((hrd.set_low _ hz).set_low _ hz).set_low _ hz).mono (by omega)
   ·rw [← f3,val_cons]
    have h1:=HV.out
    rw [List.drop_zero,List.drop_zero] at h1
    have hS:=val_lt H.out.all
    have hc0:c=0:=by
     rcases Nat.eq_zero_or_pos c with h0 | h0
     ·exact h0
     ·exfalso
      have h2:=Nat.mul_le_mul_right (T S.length) h0
      rw [Nat.one_mul] at h2
      omega
    rw [hc0] at h1
    omega
   ·exact ((((hxW.trans hxr).set _ (by show w.heap.size≤w.heap.size+1+1;omega)).set _ (by show w.heap.size≤w.heap.size+1+1;omega)).set _ (by show w.heap.size≤w.heap.size+1+1;omega))
  | succ j =>
   have hjL:j < L:=by omega
   obtain ⟨x,hxj⟩:∃ x,X[j]? = some x:=⟨X[j]'(by have:=HNX.out;omega),by rw [List.getElem?_eq_getElem]⟩
   obtain ⟨y,hyj⟩:∃ y,Y[j]? = some y:=⟨Y[j]'(by have:=HNY.out;omega),by rw [List.getElem?_eq_getElem]⟩
   obtain ⟨ba,oa,rfl,_,hcx'⟩:=Rd.at_ (HX.out.ext hxr) hxj
   obtain ⟨bb,ob,rfl,_,hcy'⟩:=Rd.at_ (HY.out.ext hxr) hyj
   have hba:=zg hcx'
   have hbb:=zg hcy'
   simp only at hba hbb
   have hx10:=hax.at hxj
   have hy10:=hay.at hyj
   have HST:=Lib.hid (fun d c'=>sub_step (d:=d) (c':=c') hxj hyj (by rw [HNX.out,HNY.out]) (by rw [H.out.len,HNX.out]) HV.out)
   obtain ⟨o0,o1⟩:=H.out.at
   have hji:(((j+1:Nat):Int) - 1)=(j:Int):=by omega
   rw [hji]
   have HSP:=Lib.hid (fun d (hd1:d < 10)=>H.out.step hd1 hj)
   clear hxj hyj
   by_cases hneg:x < y+c
   ·have e1:(x:Int) - (y:Int) - (c:Int) < 0:=by omega
    have e2:(x:Int) - (y:Int) - (c:Int)+10=((x+10 - y - c:Nat):Int):=by omega
    go_wp2
    refine plP [(0,0),(1,0),(2,0),(3,0),(4,0),(5,0),(6,0),(7,0),(8,0),(9,0),(10,0),(11,0)] [] (by kernel_rfl) (fun _ _ d _ _ h=>by cases d <;> exact h) ?_
    iterate 12 (apply rdP rfl rfl;(intros;go_simp;first | done | rfl);try simp only [zq])
    refine zj ?_
    go_wp2
    refine ⟨⟨j,1,(x+10 - y - c)::S,by omega,by omega,by go_num,rfl,?_,HST.out _ _ (by omega)⟩,by simp [intOf]⟩
    have:=(HSP.out (x+10 - y - c) (by omega)).drew
    exact this
   ·have e1:¬ (x:Int) - (y:Int) - (c:Int) < 0:=by omega
    have e2:(x:Int) - (y:Int) - (c:Int)=((x - y - c:Nat):Int):=by omega
    go_wp2
    refine plP [(0,0),(1,0),(2,0),(3,0),(4,0),(5,0),(6,0),(7,0),(8,0),(9,0),(10,0),(11,0)] [] (by kernel_rfl) (fun _ _ d _ _ h=>by cases d <;> exact h) ?_
    iterate 12 (apply rdP rfl rfl;(intros;go_simp;first | done | rfl);try simp only [zq])
    refine zj ?_
    go_wp2
    refine ⟨⟨j,0,(x - y - c)::S,by omega,by omega,by go_num,rfl,?_,HST.out _ _ (by omega)⟩,by simp [intOf]⟩
    have:=(HSP.out (x - y - c) (by omega)).drew
    exact this
theorem zhh (na nb:Bool) (A B:Option Addr) (ca cb:Nat) (la lb:List Nat) (ea eb:Int) (e:Int) (ka kb L:Nat) (w:World) (ha:Rd 0 w A (i6 la)) (hb:Rd 0 w B (i6 lb)) (hla:la.length≤1000) (hlb:lb.length≤1000)
  (hka:ea=e+ka) (hkb:eb=e+kb) (hk0:ka=0∨kb=0) (hkk:ka≤10000∧kb≤10000) (he : -1000000≤e∧e≤1000000) (hda:AllD la) (hdb:AllD lb) (hL:max (la.length+ka) (lb.length+kb)=L) :
  Calls prog 145 #[zcn na A la.length ca ea,zcn nb B lb.length cb eb] w fun r w'=>zf7 w (plusN na nb (val la * T ka) (val lb * T kb)).1 (L+1) (plusN na nb (val la * T ka) (val lb * T kb)).2 e r w'∧Ext w w':=by
 unfold plusN
 by_cases h:na=nb
 ·rw [if_pos h]
  subst h
  exact znJ na A B ca cb la lb ea eb e ka kb L w ha hb hla hlb hka hkb hk0 hkk he hda hdb hL
 ·rw [if_neg h]
  have:=znK na nb A B ca cb la lb ea eb e ka kb L w ha hb hla hlb hka hkb hk0 hkk he hda hdb h hL
  split
  ·rename_i hlt;rw [if_pos hlt,if_pos hlt] at this;exact this
  ·rename_i hlt;rw [if_neg hlt,if_neg hlt] at this;exact this
def zco (w:World) (b:Nat) (l:List Int):Prop:=w.heap[b]? = some (.cells (l.map (Value.int .i64)).toArray 3 (0,0))
structure Only (b:Nat) (w w':World):Prop where
 os:w'.os=w.os
 tape:w'.tape=w.tape
 output:w'.output=w.output
 size:w'.heap.size=w.heap.size
 block:∀ j,j≠b→w'.heap[j]? = w.heap[j]?
theorem Only.refl (b:Nat) (w:World):Only b w w:=⟨rfl,rfl,rfl,rfl,fun _ _=>rfl⟩
theorem Only.trans {b:Nat} {w w' w'':World} (h:Only b w w') (k:Only b w' w''):Only b w w'':=⟨k.os.trans h.os,k.tape.trans h.tape,k.output.trans h.output,k.size.trans h.size,fun j hj=>(k.block j hj).trans (h.block j hj)⟩
theorem Only.set {b:Nat} {w w':World} (h:Only b w w') (o:Nat) (v:Value):Only b w (w'.setCell ⟨b,o,none⟩ v) :=
 h.trans ⟨rfl,rfl,rfl,by simp,fun j hj=>RowKit.Below.heap_setCell _ _ _ _ hj⟩
theorem Only.cell {b:Nat} {w w':World} (h:Only b w w') {p:Addr} (hp:p.block≠b):w'.cell? p=w.cell? p:=World.cell?_of_block (h.block _ hp)
theorem Only.ext {b:Nat} {W w w':World} (h:Only b w w') (hx:Ext W w) (hb:W.heap.size≤b):Ext W w' :=
 ⟨h.os.trans hx.os,h.tape.trans hx.tape,h.output.trans hx.output,by rw [h.size];exact hx.size,fun j hj=>(h.block j (by omega)).trans (hx.block hj)⟩
theorem zco.at {w:World} {b:Nat} {l:List Int} (h:zco w b l) {j:Nat} {x:Int} (hx:l[j]? = some x):w.cell? ⟨b,j,none⟩=some (.int .i64 x)∧w.frozen? ⟨b,j,none⟩=false:=by
 refine ⟨?_,frozen_of_row w b j _ _ h⟩
 rw [cell_of_row w b j _ _ (0,0) h]
 simp [hx]
theorem zco.set {w:World} {b:Nat} {l:List Int} (h:zco w b l) (j:Nat) (x:Int):zco (w.setCell ⟨b,j,none⟩ (.int .i64 x)) b (l.set j x):=by
 unfold zco at *
 rw [heap_setCell_same w b j _ _ _ h]
 congr 2
 apply Array.ext'
 simp
def pad (neg:Bool) (n i:Nat) (D:List Nat):List Int:=List.replicate (n - D.length) 0++((D.take i).map (fun d=>sg neg d)++List.replicate (D.length - i) 0)
theorem zcb {neg:Bool} {n i:Nat} {D:List Nat} (h:D.length≤n) (hi:i≤D.length):(pad neg n i D).length=n:=by unfold pad;simp;omega
theorem zrs {a b:List Int} {j:Nat} {x y:Int} (hx:a[j]? = some x) (hy:b[j]? = some y):(List.zipWith (· + ·) a b)[j]? = some (x+y):=by
 rw [List.getElem?_zipWith,hx,hy]
theorem zrt {neg:Bool} {n i:Nat} {D:List Nat} (h:D.length≤n) (hi:i < D.length):(pad neg n i D)[n - D.length+i]? = some 0:=by
 unfold pad
 rw [List.getElem?_append_right (by simp),List.getElem?_append_right (by simp;omega),List.getElem?_replicate,if_pos (by simp;omega)]
theorem zpq {neg:Bool} {n i d:Nat} {D:List Nat} (h:D.length≤n) (hd:D[i]? = some d):(pad neg n i D).set (n - D.length+i) (sg neg d)=pad neg n (i+1) D:=by
 have hi:=lt_at hd
 unfold pad
 rw [List.set_append_right _ _ (by simp)]
 congr 1
 rw [List.set_append_right _ _ (by simp;omega),za2 hd,List.map_append,List.append_assoc]
 congr 1
 rw [show D.length - i=D.length - (i+1)+1 by omega,List.replicate_succ]
 have:n - D.length+i - (List.replicate (n - D.length) (0:Int)).length - ((D.take i).map fun d=>sg neg d).length=0:=by simp;omega
 rw [this];rfl
theorem zqP {a b:List Int} {j:Nat} {x y:Int} (hx:a[j]? = some x) (hj:j < b.length):(List.zipWith (· + ·) a b).set j (x+y)=List.zipWith (· + ·) a (b.set j y):=by
 apply List.ext_getElem?
 intro k
 by_cases hk:j=k
 ·subst hk
  rw [List.getElem?_set_self (by rw [List.length_zipWith];have:=lt_at hx;omega),List.getElem?_zipWith,hx,List.getElem?_set_self hj]
 ·rw [List.getElem?_set_ne hk,List.getElem?_zipWith,List.getElem?_zipWith,List.getElem?_set_ne hk]
theorem zqQ {neg:Bool} {n i:Nat} {D:List Nat} (hD:AllD D):∀ x∈pad neg n i D,-9≤x∧x≤9:=by
 intro x hx
 unfold pad at hx
 rcases List.mem_append.1 hx with h | h
 ·rw [List.eq_of_mem_replicate h];omega
 ·rcases List.mem_append.1 h with h | h
  ·obtain ⟨d,hd,rfl⟩:=List.mem_map.1 h
   have:=hD d (List.mem_of_mem_take hd)
   unfold sg;split <;> omega
  ·rw [List.eq_of_mem_replicate h];omega
theorem zhC (b n:Nat) (l:List Int) (A:Option Addr) (c:Nat) (D:List Nat) (neg:Bool) (w:World) (hl:l.length=n) (h:zco w b l) (hD:Rd 0 w A (b8 D)) (hne:∀ p,A=some p→D≠[]→p.block≠b) (hn:D.length≤n) (hbig:n≤1000000) (hall:AllD D) (hlb:∀ x∈l,-1000≤x∧x≤1000) :
  Calls prog 135 #[.slice (some ⟨b,0,none⟩) n n,.slice A D.length c,.bool neg] w fun e w'=>e = .returned (.tuple #[])∧zco w' b (List.zipWith (· + ·) l (pad neg n D.length D))∧Only b w w':=by
 generalize hR:List.zipWith (· + ·) l (pad neg n D.length D)=R
 have HR:=Lib.hid hR
 clear hR
 have HH:Hid (zco w b (List.zipWith (· + ·) l (pad neg n 0 D))):=by
  show zco _ _ _
  have:List.zipWith (· + ·) l (pad neg n 0 D)=l:=by
   apply List.ext_getElem?
   intro k
   unfold pad
   rw [List.getElem?_zipWith]
   simp
   rw [show n - D.length+D.length=n by omega,List.getElem?_replicate]
   by_cases hk:k < n
   ·rw [if_pos hk]
    cases hlk:l[k]? <;> simp
   ·rw [if_neg hk,List.getElem?_eq_none (by omega)]
  rw [this];exact h
 have HD:=Lib.hid hD
 have HL:=Lib.hid hl
 have HLB:=Lib.hid hlb
 have HNE:=Lib.hid hne
 have hsub:(n:Int) - (D.length:Int)=((n - D.length:Nat):Int):=by omega
 clear h hD hl hlb hne
 go_enter func135,ntmps135
 go_wp2
 go_loopw [16] (fun i wr=>∃ j:Nat,j≤D.length∧i = .int .i64 (j:Int)∧Hid (zco wr b (List.zipWith (· + ·) l (pad neg n j D)))∧Hid (Only b w wr)) (fun i _=>D.length - (intOf i).toNat)
 case atStart=>exact ⟨0,Nat.zero_le _,rfl,HH,Only.refl _ _⟩
 case round =>
  obtain ⟨j,hj,rfl,HI,HO⟩:=hrel
  by_cases hlt:j < D.length
  ·obtain ⟨d,hd⟩:∃ d,D[j]? = some d:=⟨D[j],by rw [List.getElem?_eq_getElem]⟩
   obtain ⟨ba,oa,rfl,_,hcd⟩:=HD.out j (.int .u8 (d:Int)) (by unfold b8;rw [List.getElem?_map,hd];rfl)
   have hcd':=(HO.out.cell (p:=⟨ba,oa+j,none⟩) (by show ba≠b;exact HNE.out ⟨ba,oa,none⟩ rfl (fun h0=>by rw [h0] at hd;simp at hd))).trans hcd
   obtain ⟨x,hx⟩:∃ x,l[n - D.length+j]? = some x:=⟨l[n - D.length+j]'(by have:=HL.out;omega),by rw [List.getElem?_eq_getElem]⟩
   have hxb:=HLB.out x (List.mem_of_getElem? hx)
   have hd10:=hall.at hd
   have hz:=zrs hx (zrt (neg:=neg) hn hlt)
   rw [Int.add_zero] at hz
   obtain ⟨hc1,hc2⟩:=HI.out.at hz
   have HN:Hid (zco (wr.setCell ⟨b,n - D.length+j,none⟩ (.int .i64 (x+sg neg d))) b (List.zipWith (· + ·) l (pad neg n (j+1) D))):=by
    show zco _ _ _
    have:=HI.out.set (n - D.length+j) (x+sg neg d)
    rw [zqP hx (by rw [zcb hn hj];omega),zpq hn hd] at this
    exact this
   have hidx:((n - D.length:Nat):Int)+(j:Int)=((n - D.length+j:Nat):Int):=by omega
   have hin:n - D.length+j < n:=by omega
   generalize n - D.length+j=q at *
   clear hx hd hz hcd
   cases neg with
   | true =>
    have e1:x+sg true d=x - (d:Int):=by simp [sg];omega
    rw [e1] at HN
    go_wp2
    exact ⟨⟨j+1,by omega,by go_num,HN,HO.out.set _ _⟩,by simp [intOf];omega⟩
   | false =>
    have e1:x+sg false d=x+(d:Int):=by simp [sg]
    rw [e1] at HN
    go_wp2
    exact ⟨⟨j+1,by omega,by go_num,HN,HO.out.set _ _⟩,by simp [intOf];omega⟩
  ·go_wp2
   refine bodyPost_end (v:=.tuple #[]) (by simp [results,results135]) rfl ⟨rfl,?_,HO.out⟩
   rw [← HR.out,show D.length=j by omega]
   exact HI.out
theorem zmB (n:Nat) (hn:n≤100000) (W:World):(Instr.makeSlice 124 (.int .i64 (n:Int)) (.int .i64 (n:Int))).run prog W = .ok (.slice (some ⟨W.heap.size,0,none⟩) n n) (W.alloc (.cells (madeCells #[.int .u8 0] n) 5)):=by
 obtain ⟨i0,hi,hz0,hz1,hz2⟩:=info_parts zcW
 have:=run_make (P:=prog) W 124 5 i0 _ Tryz.underlying124 hi hz0 .i64 .i64 (n:Int) (n:Int) (by omega) (by omega) (by rw [hz2];omega) (by omega)
 simpa [hz1,Value.cells] using this
theorem zhi {l:List Int} {j:Nat} {x:Int} (h:l[j]? = some x):l.drop j=x::l.drop (j+1):=by
 have hj:=lt_at h
 rw [List.drop_eq_getElem_cons hj]
 rw [List.getElem?_eq_getElem hj] at h
 rw [Option.some.inj h]
theorem zru {l:List Int} (h:DOk l) {x:Int} (hx:x∈l):if sgn l then -18≤x∧x≤9 else -9≤x∧x≤18:=by
 rcases h with h | h | h
 ·have:=h x hx;split <;> omega
 ·have h1:=h x hx
  have h2:sgn l=false:=by
   have:=sgn_spec (l:=l) (Or.inr (Or.inl h))
   rw [this]
   have h3:=valI_nonneg (l:=l) (fun d hd=>(h d hd).1)
   simp;omega
  rw [h2];simp;omega
 ·have h1:=h x hx
  cases hs:sgn l with
  | true=>simp;omega
  | false =>
   have h0:∀ (m:List Int),(∀ d∈m,-18≤d∧d≤0)→sgn m=false→∀ d∈m,d=0:=by
    intro m
    induction m with
    | nil=>intro _ _ d hd;cases hd
    | cons y m ih =>
     intro hm hs d hd
     rw [sgn] at hs
     by_cases hy:y=0
     ·rw [if_pos hy] at hs
      rcases List.mem_cons.1 hd with rfl | hd
      ·exact hy
      ·exact ih (fun d hd=>hm d (List.mem_cons_of_mem _ hd)) hs d hd
     ·rw [if_neg hy] at hs
      have:=hm y (List.mem_cons_self ..)
      simp at hs;omega
   have:=h0 l h hs x hx
   simp;omega
structure SetSt (W:World) (L j:Nat) (S:List Nat) (wr:World):Prop where
 out:Dg .u8 5 W.heap.size wr (some ⟨W.heap.size,0,none⟩) L (List.replicate j 0++S)
 len:S.length=L - j
 all:AllD S
 ext:Ext W wr
theorem SetSt.step {W wr:World} {L j d:Nat} {S:List Nat} (h:SetSt W L (j+1) S wr) (hd:d < 10) (hj:j+1≤L):SetSt W L j (d::S) (wr.setCell ⟨W.heap.size,j,none⟩ (.int .u8 (d:Int))):=by
 refine ⟨?_,by simp [h.len];omega,AllD.cons hd h.all,h.ext.set _ (Nat.le_refl _)⟩
 have:=h.out.set (i:=j) (d:=d) (by simp;omega)
 rw [Nat.zero_add,List.set_append_left _ _ (by simp)] at this
 have he:(List.replicate (j+1) 0).set j d=List.replicate j 0++[d]:=by
  rw [List.replicate_succ',List.set_append_right _ _ (by simp)];simp
 rw [he,List.append_assoc,List.singleton_append] at this
 exact this
theorem SetSt.at {W wr:World} {L j:Nat} {S:List Nat} (h:SetSt W L (j+1) S wr):wr.cell? ⟨W.heap.size,j,none⟩=some (.int .u8 0)∧wr.frozen? ⟨W.heap.size,j,none⟩=false:=by
 obtain ⟨b,off,h1,_,h2,h3⟩:=h.out.at (i:=j) (d:=0) (by rw [List.getElem?_append_left (by simp)];simp [List.getElem?_replicate])
 obtain ⟨rfl,rfl⟩:=aI h1
 rw [Nat.zero_add] at h2 h3
 exact ⟨h2,h3⟩
theorem zlc {l:List Int} {j:Nat} {x c c':Int} {d:Nat} {S:List Nat} (s:Int) (hx:l[j]? = some x) (hS:S.length=l.length - (j+1)) (h:s * valI (l.drop (j+1))=c * (T S.length:Nat)+(val S:Int)) (hd:(d:Int)+10 * c'=s * x+c) :
  s * valI (l.drop j)=c' * (T (S.length+1):Nat)+(val (d::S):Int):=by
 have hj:=lt_at hx
 have hl:(l.drop (j+1)).length=S.length:=by simp;omega
 rw [zhi hx,valI_cons,val_cons,hl,T_succ,Int.mul_add,h,Int.natCast_add,Int.natCast_mul,Int.natCast_mul,← Int.mul_assoc s x]
 generalize ((T S.length:Nat):Int)=t at *
 have h1:(d:Int) * t+10 * c' * t=s * x * t+c * t:=by rw [← Int.add_mul,hd,Int.add_mul]
 have h2:c' * (10 * t)=10 * c' * t:=by rw [← Int.mul_assoc,Int.mul_comm c' 10]
 show _=c' * (10 * t)+_
 rw [h2];omega
theorem zpr {l:List Int} {x:Int} {j:Nat} (hx:l[j]? = some x) (h0:x=0):sgn (l.drop j)=sgn (l.drop (j+1)):=by rw [zhi hx,sgn,if_pos h0]
theorem zqR {l:List Int} {x:Int} {j:Nat} (hx:l[j]? = some x) (h0:x≠0):sgn (l.drop j)=decide (x < 0):=by rw [zhi hx,sgn,if_neg h0]
theorem zmC (b L : Nat) (l : List Int) (w : World) (hl : l.length = L) (h : zco w b l) (hok : DOk l) (hbig : L ≤ 10000) (hT : (valI l).natAbs < T L) :
    Calls prog 136 #[.slice (some ⟨b, 0, none⟩) L L] w fun e w' => e = .returned (.tuple #[.slice (some ⟨w.heap.size, 0, none⟩) L L, .bool (decide (valI l < 0))]) ∧ (∃ D, Dg .u8 5 w.heap.size w' (some ⟨w.heap.size, 0, none⟩) L D ∧ D.length = L ∧ AllD D ∧ val D = (valI l).natAbs) ∧ Ext w w' := by
  have hs := sgn_spec hok
  have hbd := fun x hx => zru hok (x := x) hx
  have hmk := zmB L (by omega)
  have hb := zH h
  rw [← hs]
  have HS := Lib.hid hs
  have HBD := Lib.hid hbd
  have HI := Lib.hid h
  have HL := Lib.hid hl
  have HT := Lib.hid hT
  clear hs hbd h hl hT hok
  generalize hG : sgn l = G at *
  have HG := Lib.hid hG
  clear hG
  go_enter func136, ntmps136
  go_upto_block 0 with fail
  go_cut [4] (fun s4 wx => s4 = .bool G ∧ wx = w)
  case first =>
    go_wp2_with fail
    go_loop [4, 13] (fun a i => ∃ j : Nat, j ≤ L ∧ i = .int .i64 (j : Int) ∧ a = .bool false ∧ Hid (sgn (l.drop j) = G)) (fun _ i => L - (intOf i).toNat)
    case atStart => exact ⟨0, Nat.zero_le _, rfl, rfl, HG⟩
    case round =>
      obtain ⟨j, hj, rfl, rfl, HJ⟩ := hrel
      by_cases hlt : j < L
      · obtain ⟨x, hx⟩ : ∃ x, l[j]? = some x := ⟨l[j]'(by have := HL.out; omega), by rw [List.getElem?_eq_getElem]⟩
        obtain ⟨hc1, hc2⟩ := HI.out.at hx
        by_cases h0 : x = 0
        · have e0 : (x == 0) = true := by simp [h0]
          have HJ2 : Hid (sgn (l.drop (j + 1)) = G) := by show _ = _; rw [← zpr hx h0]; exact HJ.out
          clear hx h0
          go_wp2
          exact ⟨⟨j + 1, by omega, by go_num, rfl, HJ2⟩, by simp [intOf]; omega⟩
        · have e0 : (x == 0) = false := by simp [h0]
          have HJ2 : Hid (decide (x < 0) = G) := by show _ = _; rw [← zqR hx h0]; exact HJ.out
          clear hx h0
          go_wp2
          go_meet
          exact ⟨by rw [← HJ2.out], rfl⟩
      · go_wp2
        go_meet
        refine ⟨?_, rfl⟩
        have := HJ.out
        rw [List.drop_eq_nil_of_le (by have := HL.out; omega)] at this
        rw [← this]; rfl
  case rest =>
  obtain ⟨rfl, rfl⟩ := hcut
  have HST : Hid (SetSt wc L L [] (wc.alloc (.cells (madeCells #[.int .u8 0] L) 5))) := ⟨by have := zgC (k := .u8) (ty := 5) (w := wc) L rfl (Nat.le_refl _); simpa using this, by simp, AllD.nil, (Ext.refl _).alloc _⟩
  go_wp2
  go_loopw [8, 9] (fun a i wr => ∃ (j : Nat) (c : Int) (S : List Nat), j ≤ L ∧ -1 ≤ c ∧ c ≤ 1 ∧ i = .int .i64 ((j : Int) - 1) ∧ a = .int .i64 c ∧ Hid (SetSt wc L j S wr) ∧ Hid ((if G then -1 else 1) * valI (l.drop j) = c * (T S.length : Nat) + (val S : Int))) (fun _ i _ => ((intOf i) + 1).toNat)
  case atStart =>
    exact ⟨L, 0, [], Nat.le_refl _, by omega, by omega, by go_num, rfl, HST, by show _ = _; rw [List.drop_eq_nil_of_le (by rw [HL.out]; exact Nat.le_refl _)]; simp [val_nil, valI_nil]⟩
  case round =>
    obtain ⟨j, c, S, hj, hca, hcb, rfl, rfl, H, HV⟩ := hrel
    have hxr := H.out.ext
    have hsz := hxr.size
    cases j with
    | zero =>
      have HF : Hid (val S = (valI l).natAbs) := by
        show _ = _
        have h1 := HV.out
        have h2 := val_lt H.out.all
        have h3 := H.out.len
        have h4 := HT.out
        have h5 := HS.out
        rw [List.drop_zero] at h1
        rw [h3, Nat.sub_zero] at h1 h2
        have hTp := T_pos L
        have hGV : (if G = true then (-1 : Int) else 1) * valI l = ((valI l).natAbs : Int) := by
          cases G with
          | true => simp at h5 ⊢; omega
          | false => simp at h5 ⊢; omega
        rw [hGV] at h1
        have h6 : c = -1 ∨ c = 0 ∨ c = 1 := by omega
        generalize ((valI l).natAbs) = V at *
        generalize T L = t at *
        rcases h6 with h6 | h6 | h6 <;> rw [h6] at h1 <;> omega
      go_wp2
      go_ret2
      exact ⟨rfl, ⟨S, by simpa using H.out.out, by have := H.out.len; omega, H.out.all, HF.out⟩, hxr⟩
    | succ j =>
      have hjL : j < L := by omega
      obtain ⟨x, hx⟩ : ∃ x, l[j]? = some x := ⟨l[j]'(by have := HL.out; omega), by rw [List.getElem?_eq_getElem]⟩
      obtain ⟨hc1, hc2⟩ := HI.out.at hx
      have hc1' := hxr.cell_some hc1
      have hxb := HBD.out x (List.mem_of_getElem? hx)
      obtain ⟨o0, o1⟩ := H.out.at
      have hji : (((j + 1 : Nat) : Int) - 1) = (j : Int) := by omega
      rw [hji]
      have HSP := Lib.hid (fun d (hd1 : d < 10) => H.out.step hd1 hj)
      have HSTEP := Lib.hid (fun (d : Nat) (c' : Int) => zlc (d := d) (c' := c') (if G then -1 else 1) hx (by rw [H.out.len, HL.out]) HV.out)
      clear hx HV hc1 hc2
      cases G with
      | true =>
        have hxb1 : -9 ≤ -x ∧ -x ≤ 18 := by have : -18 ≤ x ∧ x ≤ 9 := by simpa using hxb
                                            omega
        clear hxb
        by_cases h9 : 9 < -x + c
        · obtain ⟨d, hd⟩ : ∃ d : Nat, -x + c - 10 = (d : Int) := ⟨(-x + c - 10).toNat, by omega⟩
          have w1 : IntKind.u8.wrap (d : Int) = d := by rw [IntKind.wrap_u8]; omega
          go_wp2
          refine ⟨⟨j, 1, d :: S, by omega, by omega, by omega, by go_num, rfl, HSP.out d (by omega), HSTEP.out d 1 (by simp; omega)⟩, by simp [intOf]⟩
        · by_cases h0 : -x + c < 0
          · obtain ⟨d, hd⟩ : ∃ d : Nat, -x + c + 10 = (d : Int) := ⟨(-x + c + 10).toNat, by omega⟩
            have w1 : IntKind.u8.wrap (d : Int) = d := by rw [IntKind.wrap_u8]; omega
            go_wp2
            refine ⟨⟨j, -1, d :: S, by omega, by omega, by omega, by go_num, rfl, HSP.out d (by omega), HSTEP.out d (-1) (by simp; omega)⟩, by simp [intOf]⟩
          · obtain ⟨d, hd⟩ : ∃ d : Nat, -x + c = (d : Int) := ⟨(-x + c).toNat, by omega⟩
            have w1 : IntKind.u8.wrap (d : Int) = d := by rw [IntKind.wrap_u8]; omega
            go_wp2
            refine ⟨⟨j, 0, d :: S, by omega, by omega, by omega, by go_num, rfl, HSP.out d (by omega), HSTEP.out d 0 (by simp; omega)⟩, by simp [intOf]⟩
      | false =>
        have hxb1 : -9 ≤ x ∧ x ≤ 18 := by simpa using hxb
        clear hxb
        by_cases h9 : 9 < x + c
        · obtain ⟨d, hd⟩ : ∃ d : Nat, x + c - 10 = (d : Int) := ⟨(x + c - 10).toNat, by omega⟩
          have w1 : IntKind.u8.wrap (d : Int) = d := by rw [IntKind.wrap_u8]; omega
          go_wp2
          refine ⟨⟨j, 1, d :: S, by omega, by omega, by omega, by go_num, rfl, HSP.out d (by omega), HSTEP.out d 1 (by simp; omega)⟩, by simp [intOf]⟩
        · by_cases h0 : x + c < 0
          · obtain ⟨d, hd⟩ : ∃ d : Nat, x + c + 10 = (d : Int) := ⟨(x + c + 10).toNat, by omega⟩
            have w1 : IntKind.u8.wrap (d : Int) = d := by rw [IntKind.wrap_u8]; omega
            go_wp2
            refine ⟨⟨j, -1, d :: S, by omega, by omega, by omega, by go_num, rfl, HSP.out d (by omega), HSTEP.out d (-1) (by simp; omega)⟩, by simp [intOf]⟩
          · obtain ⟨d, hd⟩ : ∃ d : Nat, x + c = (d : Int) := ⟨(x + c).toNat, by omega⟩
            have w1 : IntKind.u8.wrap (d : Int) = d := by rw [IntKind.wrap_u8]; omega
            go_wp2
            refine ⟨⟨j, 0, d :: S, by omega, by omega, by omega, by go_num, rfl, HSP.out d (by omega), HSTEP.out d 0 (by simp; omega)⟩, by simp [intOf]⟩
theorem zps {a:ByteArray} {l:List UInt8} (h:a.data.toList=l):a=⟨l.toArray⟩:=by
 subst h
 cases a;simp
theorem zc7:Rt 1 0:=Or.inr ⟨by decide,by decide,by decide,by decide,by
 have:nd (1:Int).natAbs=1:=nd_eq (k:=0) (by decide) (by decide)
 rw [this];decide⟩
theorem zhj (n:Nat):zeR n=dig n:=by
 induction n using Nat.strongRecOn with
 | ind n ih =>
  by_cases h:n=0
  ·subst h;rw [zeo,dig_zero]
  ·rw [zhe h,dig_pos h,ih (n / 10) (by omega)]
theorem SlI.i6_ {base:Nat} {w:World} {A:Option Addr} {n:Int} (h:SlI base w A (zay n)):Rd base w A (i6 (dig n.natAbs)):=by
 unfold SlI zay at h
 rw [zhj,List.map_map] at h
 exact h
theorem zqS (n:Int) (w:World) (h:I64 n) :
  Calls prog 61 #[.int .i64 n] w fun e w'=>∃ A c,e = .returned (.slice A (nd n.natAbs) c)∧Rd w.heap.size w' A (i6 (dig n.natAbs))∧nd n.natAbs≤c∧Ext w w':=by
 have hl:(zay n).length=nd n.natAbs:=by unfold zay;rw [List.length_map,zhj,dig_length]
 refine (zhA n w h).mono fun e w' ⟨A,c,h1,h2,h3,h4⟩=>⟨A,c,?_,h2.i6_,by omega,h3⟩
 rw [← hl];exact h1
theorem zjY {neg:Bool} {N:Nat} {e:Int} (h:(nd N:Int)+e < -41):rnd neg N false e=some (0,0):=by
 apply rnd_of_zero
 unfold n2
 apply cutN_far
 by_cases h15:nd N≤15
 ·have:n1 N false=N:=by unfold n1;rw [show nd N - 15=0 by omega,cutN_zero]
  rw [this,show nd N - 15=0 by omega];omega
 ·have:=(nd_le_iff (n1 N false) 16).2 (Nat.lt_of_le_of_lt (n1_le N false) (T_lt (by omega)))
  omega
theorem ziU (m ex:Int) (w:World) (hm:I64 m) :
  Tl prog 19 #[.int .i64 m,.int .i64 ex] w (rnV (rnd (decide (m < 0)) m.natAbs false ex)):=by
 by_cases h0:m=0
 ·subst h0
  have hr:rnd (decide ((0:Int) < 0)) (0:Int).natAbs false ex=some (0,0):=rnd_of_zero (n2_zero _ _)
  rw [hr]
  go_enter func19,ntmps19
  go_wp2
  exact rct (v:=NV 0 0) rfl rfl (by simp [go_sem]) ⟨rfl,by simp [go_sem]⟩
 ·have h0':(m == 0)=false:=by simp [h0]
  by_cases h1:100 < ex
  ·rw [rnd_far_up (by omega) (by omega)]
   clear h0
   go_enter func19,ntmps19
   go_wp2
   exact rct (v:=NV 0 0) rfl rfl (by simp [go_sem]) ⟨rfl,by simp [go_sem]⟩
  ·have hnd:nd m.natAbs≤20:=(nd_le_iff _ _).2 (Nat.lt_of_lt_of_le (show m.natAbs < 18446744073709551616 by obtain ⟨h1,h2⟩:=hm;omega) (by decide))
   by_cases h2:ex < -100
   ·rw [zjY (by omega)]
    clear h0
    go_enter func19,ntmps19
    go_wp2
    exact rct (v:=NV 0 0) rfl rfl (by simp [go_sem]) ⟨rfl,by simp [go_sem]⟩
   ·clear h0
    have HA:=Lib.hid (dig_all m.natAbs)
    have HL:=Lib.hid (dig_length m.natAbs)
    have HV:=Lib.hid (val_dig m.natAbs)
    go_enter func19,ntmps19
    go_wp2_with (first | (go_at_call 61;refine (zqS m _ hm).mono ?_;rintro e w' ⟨A,c,rfl,hr,hc,hx⟩;obtain ⟨os,d,rfl⟩:=hx.more) | (go_at_call 60;refine aM (zcs _ _ _ _ _ (dig m.natAbs) m.natAbs _ _ _ HL.out hr hc (by omega) HA.out HV.out (by omega) (by simp)) fun os2 d2=>?_))
    exact rct rfl rfl (by simp [go_sem]) ⟨rfl,by simp [go_sem]⟩
theorem zW (m ex:Int) (w:World) (h:I64 m) :
  Tl prog 140 #[NV m ex] w (.bool (rtB m ex)):=by
 have:=zes m ex w h
 rw [← zgS m ex h,zck] at this
 exact this
theorem zf8 (n:Nat) (w:World) (hn:n≤15) :
  Calls prog 162 #[.int .i64 (n:Int)] w fun e w'=>e = .returned (.int .u64 ((T n:Nat):Int))∧w=w':=by
 have hT:∀ j,j≤n→T j≤1000000000000000:=fun j hj=>by
  have h1:T j≤T 15:=T_mono (by omega)
  have h2:T 15=1000000000000000:=by decide
  omega
 generalize hR:T n=R
 have HR:=Lib.hid hR
 have HT:=Lib.hid hT
 clear hR hT
 go_enter func162,ntmps162
 go_wp2
 go_loop [3,5] (fun a i=>∃ (j V:Nat),j≤n∧i = .int .i64 (j:Int)∧a = .int .u64 (V:Int)∧V≤1000000000000000∧Hid (V=T j)) (fun _ i=>n - (intOf i).toNat)
 case atStart=>exact ⟨0,1,Nat.zero_le _,rfl,rfl,by omega,by show _=_;rfl⟩
 case round =>
  obtain ⟨j,V,hj,rfl,rfl,hV,HV⟩:=hrel
  by_cases hlt:j < n
  ·have w1:IntKind.u64.wrap ((V:Int) * 10)=(V:Int) * 10:=by rw [IntKind.wrap_u64];omega
   go_wp2
   refine ⟨⟨j+1,V * 10,by omega,by go_num,by go_num,?_,?_⟩,by simp [intOf];omega⟩
   ·have h1:=HT.out (j+1) (by omega);rw [T_succ,← HV.out] at h1;omega
   ·show _=_;rw [T_succ,← HV.out];omega
  ·have hVR:V=R:=by rw [HV.out,← HR.out,show j=n by omega]
   subst hVR
   go_wp2
   go_ret
   exact ⟨rfl,rfl⟩
def zim (m e:Int):Int:=if Rt m e then -m else 0
def zgD (m e:Int):Int:=if Rt m e then e else 0
theorem zrv {m e:Int} : Rt (zim m e) (zgD m e):=by
 unfold zim zgD
 split
 ·rename_i h
  rcases h with ⟨h1,h2⟩ | ⟨h1,h2,h3,h4,h5⟩
  ·exact Or.inl ⟨by omega,h2⟩
  ·right
   rw [Int.natAbs_neg]
   exact ⟨by omega,h2,h3,h4,h5⟩
 ·exact Or.inl ⟨rfl,rfl⟩
def zap (m:Int) (k:Nat):Nat:=if m < 0 then m.natAbs / T k+1 else m.natAbs / T k
def zN (m e:Int):Int×Int :=
 if ¬ Rt m e then (0,0) else if 0≤e then (m,e) else (sg (decide (m < 0)) (trim (zap m (-e).toNat) 0).1,(trim (zap m (-e).toNat) 0).2)
theorem zjZ {N k:Nat} (h:N % 10≠0) (hk:0 < k):N % T k≠0:=by
 obtain ⟨j,rfl⟩:∃ j,k=j+1:=⟨k - 1,by omega⟩
 intro h0
 have h1:10 ∣ T (j+1):=⟨T j,T_succ j⟩
 have h2:=Nat.dvd_trans h1 (Nat.dvd_of_mod_eq_zero h0)
 omega
theorem znL (m ex:Int) (w:World) (h:Rt m ex) (he:ex < 0) :
  Tl prog 128 #[NV m ex] w (NV (sg (decide (m < 0)) (trim (zap m (-ex).toNat) 0).1) (trim (zap m (-ex).toNat) 0).2):=by
 obtain ⟨b1,b2,b3⟩:=zaE h
 have hm:I64 m:=by unfold I64;omega
 have r1:=zab h
 obtain ⟨k,hkk⟩:∃ k:Nat,ex = -(k:Int):=⟨(-ex).toNat,by omega⟩
 subst hkk
 have hk1:0 < k:=by omega
 have hm0:m≠0∧m.natAbs % 10≠0:=by
  rcases h with ⟨_,h2⟩ | ⟨h1,_,h3,_⟩
  ·omega
  ·exact ⟨h1,h3⟩
 have hr0:=zjZ hm0.2 hk1
 have hT15:T 15=1000000000000000:=by decide
 rw [show (- -(k:Int)).toNat=k by omega]
 have hfl:zap m k=if m < 0 then m.natAbs / T k+1 else m.natAbs / T k:=rfl
 have hdle:=Nat.div_le_self m.natAbs (T k)
 have htr:=fun W=>zgT (decide (m < 0)) (zap m k) 0 W (by rw [hfl];split <;> omega) (by omega)
 generalize sg (decide (m < 0)) (trim (zap m k) 0).1=m' at *
 generalize (trim (zap m k) 0).2=e' at *
 generalize zap m k=F at *
 have hsz:=fun W=>zcR m W hm
 have w5:wrap64 (- -(k:Int))=k:=by rw [show - -(k:Int)=k by omega];exact IntWalk.wrap64_in _ (by omega)
 have w6:IntKind.i64.wrap (- -(k:Int))=k:=by rw [show - -(k:Int)=k by omega];exact zbJ (by omega) (by omega)
 by_cases hk15:k≤15
 ·have hTk:0 < T k∧T k≤1000000000000000:=⟨T_pos k,by have:=T_mono hk15;omega⟩
  have hpw:=fun W=>zf8 k W hk15
  generalize T k=U at *
  generalize hN:m.natAbs=N at *
  have hU0:¬ U=0:=by omega
  have q1:(N:Int) % (U:Int)=((N % U:Nat):Int):=by omega
  have q2:(N:Int) / (U:Int)=((N / U:Nat):Int):=by omega
  have hrl:=Nat.mod_lt N hTk.1
  generalize N % U=r at *
  generalize N / U=q at *
  have w1:IntKind.u64.wrap (r:Int)=r:=by rw [IntKind.wrap_u64];omega
  have w2:IntKind.u64.wrap (q:Int)=q:=by rw [IntKind.wrap_u64];omega
  have w4:IntKind.u64.wrap ((q:Int)+1)=(q:Int)+1:=by rw [IntKind.wrap_u64];omega
  have g1:((r:Int) != 0)=true:=by simp;omega
  have g2:(r != 0)=true:=by simp;omega
  by_cases hneg:m < 0
  ·rw [if_pos hneg] at hfl
   subst hfl
   have htr':=htr
   rw [show ((q+1:Nat):Int)=(q:Int)+1 by omega,decide_eq_true hneg] at htr'
   clear htr hN hr0 hm0 h
   have htr:=htr'
   clear htr'
   go_enter func128,ntmps128
   go_wp2_with (first | (go_at_call 108;with_reducible refine aM (zaf _ _ _ (by assumption)) fun osr dr=>?_) | (go_at_call 126;(with_reducible refine (hsz _).mono ?_);rintro e w' ⟨rfl,rfl⟩) | (go_at_call 162;(with_reducible refine (hpw _).mono ?_);rintro e w' ⟨rfl,rfl⟩) | (go_at_call 159;with_reducible refine aM (htr _) fun ost dt=>?_))
   refine plP [(0,0),(1,0),(2,0),(3,0),(4,0),(5,0),(6,0),(7,0)] [] (by kernel_rfl) (fun _ _ d _ _ h=>by cases d <;> exact h) ?_
   iterate 8 (apply rdP rfl rfl;(intros;go_simp;first | done | rfl);try simp only [zq])
   refine zj ?_
   go_wp2_with (first | (go_at_call 108;with_reducible refine aM (zaf _ _ _ (by assumption)) fun osr dr=>?_) | (go_at_call 126;(with_reducible refine (hsz _).mono ?_);rintro e w' ⟨rfl,rfl⟩) | (go_at_call 162;(with_reducible refine (hpw _).mono ?_);rintro e w' ⟨rfl,rfl⟩) | (go_at_call 159;with_reducible refine aM (htr _) fun ost dt=>?_))
   exact rc1 rfl rfl (by simp [go_sem]) ⟨rfl,by simp [go_sem]⟩
  ·rw [if_neg hneg] at hfl
   subst hfl
   rw [decide_eq_false hneg] at htr
   clear hN hr0 hm0 h
   go_enter func128,ntmps128
   go_wp2_with (first | (go_at_call 108;with_reducible refine aM (zaf _ _ _ (by assumption)) fun osr dr=>?_) | (go_at_call 126;(with_reducible refine (hsz _).mono ?_);rintro e w' ⟨rfl,rfl⟩) | (go_at_call 162;(with_reducible refine (hpw _).mono ?_);rintro e w' ⟨rfl,rfl⟩) | (go_at_call 159;with_reducible refine aM (htr _) fun ost dt=>?_))
   refine plP [(0,0),(1,0),(2,0),(3,0),(4,0),(5,0),(6,0),(7,0)] [] (by kernel_rfl) (fun _ _ d _ _ h=>by cases d <;> exact h) ?_
   iterate 8 (apply rdP rfl rfl;(intros;go_simp;first | done | rfl);try simp only [zq])
   refine zj ?_
   go_wp2_with (first | (go_at_call 108;with_reducible refine aM (zaf _ _ _ (by assumption)) fun osr dr=>?_) | (go_at_call 126;(with_reducible refine (hsz _).mono ?_);rintro e w' ⟨rfl,rfl⟩) | (go_at_call 162;(with_reducible refine (hpw _).mono ?_);rintro e w' ⟨rfl,rfl⟩) | (go_at_call 159;with_reducible refine aM (htr _) fun ost dt=>?_))
   exact rc1 rfl rfl (by simp [go_sem]) ⟨rfl,by simp [go_sem]⟩
 ·have hT1:T 15≤T k:=T_mono (by omega)
  have hq0:m.natAbs / T k=0:=Nat.div_eq_of_lt (by omega)
  rw [hq0] at hfl
  have hpw:True:=trivial
  generalize hN:m.natAbs=N at *
  have g1:((N:Int) != 0)=true:=by simp;omega
  have g2:(N != 0)=true:=by simp;omega
  by_cases hneg:m < 0
  ·rw [if_pos hneg] at hfl
   subst hfl
   rw [decide_eq_true hneg,show ((0+1:Nat):Int)=1 from rfl] at htr
   clear hN hr0 hm0 h hT1 hq0 hdle
   go_enter func128,ntmps128
   go_wp2_with (first | (go_at_call 108;with_reducible refine aM (zaf _ _ _ (by assumption)) fun osr dr=>?_) | (go_at_call 126;(with_reducible refine (hsz _).mono ?_);rintro e w' ⟨rfl,rfl⟩) | (go_at_call 162;(with_reducible refine (hpw _).mono ?_);rintro e w' ⟨rfl,rfl⟩) | (go_at_call 159;with_reducible refine aM (htr _) fun ost dt=>?_))
   exact rc1 rfl rfl (by simp [go_sem]) ⟨rfl,by simp [go_sem]⟩
  ·rw [if_neg hneg] at hfl
   subst hfl
   rw [decide_eq_false hneg,show ((0:Nat):Int)=0 from rfl] at htr
   clear hN hr0 hm0 h hT1 hq0 hdle
   go_enter func128,ntmps128
   go_wp2_with (first | (go_at_call 108;with_reducible refine aM (zaf _ _ _ (by assumption)) fun osr dr=>?_) | (go_at_call 126;(with_reducible refine (hsz _).mono ?_);rintro e w' ⟨rfl,rfl⟩) | (go_at_call 162;(with_reducible refine (hpw _).mono ?_);rintro e w' ⟨rfl,rfl⟩) | (go_at_call 159;with_reducible refine aM (htr _) fun ost dt=>?_))
   exact rc1 rfl rfl (by simp [go_sem]) ⟨rfl,by simp [go_sem]⟩
theorem znM (m ex:Int) (w:World) (hm:I64 m) :
  Tl prog 128 #[NV m ex] w (NV (zN m ex).1 (zN m ex).2):=by
 by_cases h:Rt m ex
 ·have r1:=zab h
  by_cases h1:0≤ex
  ·have hs:zN m ex=(m,ex):=by unfold zN;rw [if_neg (fun hh=>hh h),if_pos h1]
   rw [hs]
   clear h hs
   go_enter func128,ntmps128
   go_wp2_with (go_at_call 108;with_reducible refine aM (zaf _ _ _ (by assumption)) fun osr dr=>?_)
   exact rc1 rfl rfl (by simp [go_sem]) ⟨rfl,by simp [go_sem]⟩
  ·have hs:zN m ex=(sg (decide (m < 0)) (trim (zap m (-ex).toNat) 0).1,(trim (zap m (-ex).toNat) 0).2):=by unfold zN;rw [if_neg (fun hh=>hh h),if_neg h1]
   rw [hs]
   exact znL m ex w h (by omega)
 ·have r1:=zbi h
  have hs:zN m ex=(0,0):=by unfold zN;rw [if_pos h]
  rw [hs]
  clear h hs
  go_enter func128,ntmps128
  go_wp2_with (go_at_call 108;with_reducible refine aM (zaf _ _ _ (by assumption)) fun osr dr=>?_)
  exact rc1 rfl rfl (by simp [go_sem]) ⟨rfl,by simp [go_sem]⟩
theorem zdn (m ex:Int) (w:World) (h:I64 m) :
  Calls prog 146 #[NV m ex] w fun e w'=>∃ A c,e = .returned (zcn (decide (m < 0)) A (nd m.natAbs) c ex)∧Rd w.heap.size w' A (i6 (dig m.natAbs))∧nd m.natAbs≤c∧Ext w w':=by
 have hl:(zay m).length=nd m.natAbs:=by unfold zay;rw [List.length_map,zhj,dig_length]
 refine (ziR m ex w h).mono fun e w' ⟨A,c,h1,h2,h3,h4⟩=>⟨A,c,?_,h2.i6_,by omega,h3⟩
 rw [← hl];exact h1
theorem zpt (m ex:Int) (w:World) (hm:I64 m) :
  Tl prog 180 #[NV m ex] w (NV (if Rt m ex then m else 0) (if Rt m ex then ex else 0)):=by
 by_cases h:Rt m ex
 ·have r1:=zab h
  rw [if_pos h,if_pos h]
  clear h
  go_enter func180,ntmps180
  go_wp2_with (go_at_call 140;with_reducible refine aM (zW _ _ _ (by assumption)) fun osr dr=>?_)
  exact rc1 rfl rfl (by simp [go_sem]) ⟨rfl,by simp [go_sem]⟩
 ·have r1:=zbi h
  rw [if_neg h,if_neg h]
  clear h
  go_enter func180,ntmps180
  go_wp2_with (go_at_call 140;with_reducible refine aM (zW _ _ _ (by assumption)) fun osr dr=>?_)
  exact rc1 rfl rfl (by simp [go_sem]) ⟨rfl,by simp [go_sem]⟩
theorem znN {neg:Bool} {N:Nat} {E:Int} (h:nd N≤15) (hE : -40≤E):rnd neg N false E=fin neg N E:=by
 rw [rnd_fin]
 unfold n2 n1 e2
 rw [show nd N - 15=0 by omega,cutN_zero,show (-40 - (E+((0:Nat):Int))).toNat=0 by omega,cutN_zero,show max (E+((0:Nat):Int)) (-40)=E by omega]
theorem zqT (ma ea mb eb:Int) (w:World) (hma:I64 ma) (hmb:I64 mb) (h:¬ (Rt ma ea∧Rt mb eb)) :
  Tl prog 100 #[NV ma ea,NV mb eb] w (rnV none):=by
 by_cases h1:Rt ma ea
 ·have r1:=zab h1
  have r2:=zbi (fun h2=>h ⟨h1,h2⟩)
  clear h h1
  go_enter func100,ntmps100
  go_wp2_with (go_at_call 140;with_reducible refine aM (zW _ _ _ (by assumption)) fun osr dr=>?_)
  exact rct (v:=NV 0 0) rfl rfl (by simp [go_sem]) ⟨rfl,by simp [go_sem]⟩
 ·have r1:=zbi h1
  clear h h1
  go_enter func100,ntmps100
  go_wp2_with (go_at_call 140;with_reducible refine aM (zW _ _ _ (by assumption)) fun osr dr=>?_)
  exact rct (v:=NV 0 0) rfl rfl (by simp [go_sem]) ⟨rfl,by simp [go_sem]⟩
theorem zlS (ma ea mb eb:Int) (h1:Rt ma ea) (h2:Rt mb eb) (A B:Option Addr) (ca cb:Nat) (w:World) (ha:Rd 0 w A (i6 (dig ma.natAbs))) (hb:Rd 0 w B (i6 (dig mb.natAbs))) :
  Calls prog 145 #[zcn (decide (ma < 0)) A (nd ma.natAbs) ca ea,zcn (decide (mb < 0)) B (nd mb.natAbs) cb eb] w fun r w'=>zf7 w (plusN (decide (ma < 0)) (decide (mb < 0)) (ma.natAbs * T (ea - min ea eb).toNat) (mb.natAbs * T (eb - min ea eb).toNat)).1 (max (nd ma.natAbs+(ea - min ea eb).toNat) (nd mb.natAbs+(eb - min ea eb).toNat)+1) (plusN (decide (ma < 0)) (decide (mb < 0)) (ma.natAbs * T (ea - min ea eb).toNat) (mb.natAbs * T (eb - min ea eb).toNat)).2 (min ea eb) r w'∧Ext w w':=by
 obtain ⟨b1,b2,b3⟩:=zaE h1
 obtain ⟨b4,b5,b6⟩:=zaE h2
 have hT15:T 15=1000000000000000:=by decide
 have n1:nd ma.natAbs≤15:=(nd_le_iff _ _).2 (by omega)
 have n2:nd mb.natAbs≤15:=(nd_le_iff _ _).2 (by omega)
 have:=zhh (decide (ma < 0)) (decide (mb < 0)) A B ca cb (dig ma.natAbs) (dig mb.natAbs) ea eb (min ea eb) (ea - min ea eb).toNat (eb - min ea eb).toNat _ w ha hb (by rw [dig_length];omega) (by rw [dig_length];omega) (by omega) (by omega) (by omega) (by omega) (by omega) (dig_all _) (dig_all _) rfl
 rw [val_dig,val_dig,dig_length,dig_length] at this
 exact this
theorem zpu (ma ea mb eb:Int) (w:World) (h1:Rt ma ea) (h2:Rt mb eb) :
  Tl prog 100 #[NV ma ea,NV mb eb] w (rnV (rndI (sumI ma ea mb eb) (min ea eb))):=by
 obtain ⟨b1,b2,b3⟩:=zaE h1
 obtain ⟨b4,b5,b6⟩:=zaE h2
 have hma:I64 ma:=by unfold I64;omega
 have hmb:I64 mb:=by unfold I64;omega
 have r1:=zab h1
 have r2:=zab h2
 have hT15:T 15=1000000000000000:=by decide
 have n1:nd ma.natAbs≤15:=(nd_le_iff _ _).2 (by omega)
 have n2:nd mb.natAbs≤15:=(nd_le_iff _ _).2 (by omega)
 have hof1:=fun W=>zdn ma ea W hma
 have hof2:=fun W=>zdn mb eb W hmb
 have hpl:=fun A B ca cb W h3 h4=>zlS ma ea mb eb h1 h2 A B ca cb W h3 h4
 have hL:max (nd ma.natAbs+(ea - min ea eb).toNat) (nd mb.natAbs+(eb - min ea eb).toNat)+1≤1000:=by omega
 have hE : -1000000≤min ea eb∧min ea eb≤1000000:=by omega
 rw [← rnd_plus]
 generalize max (nd ma.natAbs+(ea - min ea eb).toNat) (nd mb.natAbs+(eb - min ea eb).toNat)+1=L at *
 generalize plusN (decide (ma < 0)) (decide (mb < 0)) (ma.natAbs * T (ea - min ea eb).toNat) (mb.natAbs * T (eb - min ea eb).toNat)=PN at *
 generalize min ea eb=E at *
 have hnr:=fun (A:Option Addr) (cap:Nat) (l:List Nat) (W:World) (a1:l.length=L) (a2:Rd 0 W A (i6 l)) (a3:L≤cap) (a4:AllD l) (a5:val l=PN.2)=>zcs 0 PN.1 A L cap l PN.2 E false W a1 a2 a3 hL a4 a5 hE (Nat.zero_le _)
 generalize rnd PN.1 PN.2 false E=R at *
 clear h1 h2 n1 n2 hT15
 generalize ma.natAbs=Na at *
 generalize mb.natAbs=Nb at *
 go_enter func100,ntmps100
 go_wp2_with (go_at_call 140;with_reducible refine aM (zW _ _ _ (by assumption)) fun osr dr=>?_)
 refine plP [(0,0),(2,0),(1,1),(3,1),(4,1),(5,1),(6,0),(7,0),(8,2),(9,2)] [8,9] (by kernel_rfl) (fun _ _ d _ _ h=>by cases d <;> exact h) ?_
 iterate 2 (apply rdP rfl rfl;(intros;go_simp;first | done | rfl);try simp only [zq])
 (refine zh rfl ?_ (fun K hK=>?_);rfl;go_simp;(go_at_call 146;(with_reducible refine (hof1 _).mono ?_);rintro e w' ⟨A1,c1,rfl,hrd1,hcp1,hx⟩;obtain ⟨os1,d1,rfl⟩:=hx.more;have hrd1:=hrd1.mono (Nat.zero_le _);(try simp only [za,zb,zc,Array.append_assoc] at hrd1));refine hK _ _ ?_ ?_;(simp [go_sem]))
 try simp only [zq]
 (refine zh rfl ?_ (fun K hK=>?_);rfl;go_simp;(go_at_call 146;(with_reducible refine (hof2 _).mono ?_);rintro e w' ⟨A2,c2,rfl,hrd2,hcp2,hx⟩;obtain ⟨os2,d2,rfl⟩:=hx.more;have hrd2:=hrd2.mono (Nat.zero_le _);(try simp only [za,zb,zc,Array.append_assoc] at hrd2));refine hK _ _ ?_ ?_;(simp [go_sem]))
 try simp only [zq]
 (refine zh rfl ?_ (fun K hK=>?_);rfl;go_simp;(go_at_call 145;(with_reducible refine (hpl _ _ _ _ _ (Rd.ext hrd1 (by (try simp only [za,zb,zc,Array.append_assoc]);repeat (first | (with_reducible (first | exact Ext.refl _ | exact zdw _ _ _ _ | exact zbI _ _ _ _ _ | exact zb0 _ _ _ _ _ _ | exact zb1 _ _ _ _ _ _ _)) | ((with_reducible refine zaV ⟨_,?_⟩);(try simp only [Array.append_assoc]);rfl) | (with_reducible (first | apply Ext.drew | apply Ext.alloc | apply Ext.more_))))) (Rd.ext hrd2 (by (try simp only [za,zb,zc,Array.append_assoc]);repeat (first | (with_reducible (first | exact Ext.refl _ | exact zdw _ _ _ _ | exact zbI _ _ _ _ _ | exact zb0 _ _ _ _ _ _ | exact zb1 _ _ _ _ _ _ _)) | ((with_reducible refine zaV ⟨_,?_⟩);(try simp only [Array.append_assoc]);rfl) | (with_reducible (first | apply Ext.drew | apply Ext.alloc | apply Ext.more_)))))).mono ?_);rintro e w' ⟨⟨A3,c3,X3,rfl,hrx3,hn3,ha3,hv3,hc3⟩,hx⟩;obtain ⟨os3,d3,rfl⟩:=hx.more;(try simp only [za,zb,zc,Array.append_assoc] at hrx3));refine hK _ _ ?_ ?_;(simp [go_sem]))
 try simp only [zq]
 (refine zh rfl ?_ (fun K hK=>?_);rfl;go_simp;(go_at_call 60;with_reducible refine aM (hnr _ _ _ _ hn3 (Rd.mono hrx3 (Nat.zero_le _)) hc3 ha3 hv3) fun os4 d4=>?_);refine hK _ _ ?_ ?_;(simp [go_sem]))
 try simp only [zq]
 iterate 2 (apply rdP rfl rfl;(intros;go_simp;first | done | rfl);try simp only [zq])
 (refine zaa rfl ?_ (fun K hK=>?_);rfl;go_simp;refine hK _ _ ?_)
 try simp only [Act.put]
 (refine zaa rfl ?_ (fun K hK=>?_);rfl;go_simp;refine hK _ _ ?_)
 try simp only [zq]
 refine zj ?_
 go_wp2
 exact rct rfl rfl (by simp [go_sem]) ⟨rfl,by simp [go_sem]⟩
theorem zj0 (ma ea mb eb:Int) (w:World) (hma:I64 ma) (hmb:I64 mb) :
  Tl prog 100 #[NV ma ea,NV mb eb] w (rnV (addS ma ea mb eb)):=by
 unfold addS
 split
 ·rename_i h;exact zpu ma ea mb eb w h.1 h.2
 ·rename_i h;exact zqT ma ea mb eb w hma hmb h
theorem zpv (m ex:Int) (w:World) (hm:I64 m) :
  Tl prog 209 #[NV m ex] w (NV (zim m ex) (zgD m ex)):=by
 unfold zim zgD
 by_cases h:Rt m ex
 ·have hb:=zaE h
  have r1:=zab h
  rw [if_pos h,if_pos h]
  clear h
  have w1:wrap64 (-m) = -m:=IntWalk.wrap64_in _ (by omega)
  go_enter func209,ntmps209
  go_wp2_with (go_at_call 140;with_reducible refine aM (zW _ _ _ (by assumption)) fun osr dr=>?_)
  exact rc1 rfl rfl (by simp [go_sem]) ⟨rfl,by simp [go_sem]⟩
 ·have r1:=zbi h
  rw [if_neg h,if_neg h]
  clear h
  go_enter func209,ntmps209
  go_wp2_with (go_at_call 140;with_reducible refine aM (zW _ _ _ (by assumption)) fun osr dr=>?_)
  exact rc1 rfl rfl (by simp [go_sem]) ⟨rfl,by simp [go_sem]⟩
theorem zgE {m e:Int} (h:Rt m e):zim m e = -m∧zgD m e=e:=by unfold zim zgD;rw [if_pos h,if_pos h];exact ⟨rfl,rfl⟩
theorem zrw {m e:Int} (h:Rt m e):Rt (-m) e:=by
 have:=zrv (m:=m) (e:=e)
 rw [(zgE h).1,(zgE h).2] at this
 exact this
def zbN (ma ea mb eb:Int):Int:=if Rt ma ea∧Rt mb eb then (sumI ma ea (-mb) eb).sign else 0
theorem znO (na nb:Bool) (Na Nb:Nat):(sg na Na+sg nb Nb).sign=if (plusN na nb Na Nb).2=0 then 0 else if (plusN na nb Na Nb).1=true then -1 else 1:=by
 rw [← plusN_sg]
 generalize plusN na nb Na Nb=p
 obtain ⟨n,N⟩:=p
 simp only
 by_cases h:N=0
 ·rw [if_pos h,h];cases n <;> rfl
 ·rw [if_neg h]
  have hp:(0:Int) < (N:Int):=by omega
  cases n with
  | false=>simp [sg];omega
  | true=>simp [sg];omega
theorem zpw (ma ea mb eb:Int) (w:World) (h1:Rt ma ea) (h2:Rt mb eb) :
  Tl prog 201 #[NV ma ea,NV mb eb] w (.int .i64 (sumI ma ea (-mb) eb).sign):=by
 obtain ⟨b1,b2,b3⟩:=zaE h1
 obtain ⟨b4,b5,b6⟩:=zaE h2
 have hma:I64 ma:=by unfold I64;omega
 have hmb:I64 mb:=by unfold I64;omega
 have r1:=zab h1
 have r2:=zab h2
 have hng:=fun W=>zpv mb eb W hmb
 rw [(zgE h2).1,(zgE h2).2] at hng
 have hof1:=fun W=>zdn ma ea W hma
 have hof2:=fun W=>zdn (-mb) eb W (by unfold I64;omega)
 have hpl:=fun A B ca cb W h3 h4=>zlS ma ea (-mb) eb h1 (zrw h2) A B ca cb W h3 h4
 have hT15:T 15=1000000000000000:=by decide
 have n1:nd ma.natAbs≤15:=(nd_le_iff _ _).2 (by omega)
 have n2:nd (-mb).natAbs≤15:=(nd_le_iff _ _).2 (by omega)
 have hL:max (nd ma.natAbs+(ea - min ea eb).toNat) (nd (-mb).natAbs+(eb - min ea eb).toNat)+1≤1000:=by omega
 have hs:sumI ma ea (-mb) eb=sg (decide (ma < 0)) (ma.natAbs * T (ea - min ea eb).toNat)+sg (decide (-mb < 0)) ((-mb).natAbs * T (eb - min ea eb).toNat):=by
  rw [sg_mul_nat,sg_mul_nat,sg_nat,sg_nat];rfl
 rw [hs,znO]
 generalize max (nd ma.natAbs+(ea - min ea eb).toNat) (nd (-mb).natAbs+(eb - min ea eb).toNat)+1=L at *
 generalize plusN (decide (ma < 0)) (decide (-mb < 0)) (ma.natAbs * T (ea - min ea eb).toNat) ((-mb).natAbs * T (eb - min ea eb).toNat)=PN at *
 generalize min ea eb=E at *
 obtain ⟨n,N⟩:=PN
 simp only at hpl ⊢
 have hst:=fun (A:Option Addr) (cap:Nat) (l:List Nat) (W:World) (a1:l.length=L) (a2:Rd 0 W A (i6 l)) (a3:L≤cap) (a4:AllD l) (a5:val l=N)=>zdR 0 A cap L l N W a1 a2 (by omega) a3 a4 a5
 simp only [zjS,dig_length] at hst
 clear h1 h2 n1 n2 hT15 hs
 generalize decide (-mb < 0)=nb at *
 generalize ma.natAbs=Na at *
 generalize (-mb).natAbs=Nb at *
 obtain ⟨Z,hZ⟩:∃ Z,(if N=0 then (0:Int) else if n=true then -1 else 1)=Z:=⟨_,rfl⟩
 rw [hZ]
 have HZ:=Lib.hid hZ
 obtain ⟨k,hk⟩:∃ k,nd N=k:=⟨_,rfl⟩
 rw [hk] at hst
 have HK:=Lib.hid hk
 clear hZ hk
 go_enter func201,ntmps201
 go_wp2_with (go_at_call 140;with_reducible refine aM (zW _ _ _ (by assumption)) fun osr dr=>?_)
 refine plP [(0,0),(2,0),(1,1),(3,1),(4,1),(5,1),(6,0),(7,1),(8,0)] [] (by kernel_rfl) (fun _ _ d _ _ h=>by cases d <;> exact h) ?_
 iterate 2 (apply rdP rfl rfl;(intros;go_simp;first | done | rfl);try simp only [zq])
 (refine zh rfl ?_ (fun K hK=>?_);rfl;go_simp;(go_at_call 146;(with_reducible refine (hof1 _).mono ?_);rintro e w' ⟨A1,c1,rfl,hrd1,hcp1,hx⟩;obtain ⟨os1,d1,rfl⟩:=hx.more;have hrd1:=hrd1.mono (Nat.zero_le _);(try simp only [za,zb,zc,Array.append_assoc] at hrd1));refine hK _ _ ?_ ?_;(simp [go_sem]))
 try simp only [zq]
 (refine zh rfl ?_ (fun K hK=>?_);rfl;go_simp;(go_at_call 209;with_reducible refine aM (hng _) fun osn dn=>?_);refine hK _ _ ?_ ?_;(simp [go_sem]))
 try simp only [zq]
 (refine zh rfl ?_ (fun K hK=>?_);rfl;go_simp;(go_at_call 146;(with_reducible refine (hof2 _).mono ?_);rintro e w' ⟨A2,c2,rfl,hrd2,hcp2,hx⟩;obtain ⟨os2,d2,rfl⟩:=hx.more;have hrd2:=hrd2.mono (Nat.zero_le _);(try simp only [za,zb,zc,Array.append_assoc] at hrd2));refine hK _ _ ?_ ?_;(simp [go_sem]))
 try simp only [zq]
 (refine zh rfl ?_ (fun K hK=>?_);rfl;go_simp;(go_at_call 145;(with_reducible refine (hpl _ _ _ _ _ (Rd.ext hrd1 (by (try simp only [za,zb,zc,Array.append_assoc]);repeat (first | (with_reducible (first | exact Ext.refl _ | exact zdw _ _ _ _ | exact zbI _ _ _ _ _ | exact zb0 _ _ _ _ _ _ | exact zb1 _ _ _ _ _ _ _)) | ((with_reducible refine zaV ⟨_,?_⟩);(try simp only [Array.append_assoc]);rfl) | (with_reducible (first | apply Ext.drew | apply Ext.alloc | apply Ext.more_))))) (Rd.ext hrd2 (by (try simp only [za,zb,zc,Array.append_assoc]);repeat (first | (with_reducible (first | exact Ext.refl _ | exact zdw _ _ _ _ | exact zbI _ _ _ _ _ | exact zb0 _ _ _ _ _ _ | exact zb1 _ _ _ _ _ _ _)) | ((with_reducible refine zaV ⟨_,?_⟩);(try simp only [Array.append_assoc]);rfl) | (with_reducible (first | apply Ext.drew | apply Ext.alloc | apply Ext.more_)))))).mono ?_);rintro e w' ⟨⟨A3,c3,X3,rfl,hrx3,hn3,ha3,hv3,hc3⟩,hx⟩;obtain ⟨os3,d3,rfl⟩:=hx.more;(try simp only [za,zb,zc,Array.append_assoc] at hrx3));refine hK _ _ ?_ ?_;(simp [go_sem]))
 try simp only [zq]
 (apply rdP rfl rfl;(intros;go_simp;first | done | rfl))
 try simp only [zq]
 (refine zh rfl ?_ (fun K hK=>?_);rfl;go_simp;(go_at_call 111;(with_reducible refine (hst _ _ _ _ hn3 (Rd.mono hrx3 (Nat.zero_le _)) hc3 ha3 hv3).mono ?_);rintro e w' ⟨⟨A4,c4,rfl,_,_⟩,rfl⟩);refine hK _ _ ?_ ?_;(simp [go_sem]))
 try simp only [zq]
 (apply rdP rfl rfl;(intros;go_simp;first | done | rfl))
 try simp only [zq]
 refine zj ?_
 clear hrd1 hrd2 hrx3 ha3 hv3 hn3 hst
 by_cases h0:N=0
 ·obtain rfl:0=k:=by rw [← HK.out,h0,nd_zero]
  obtain rfl:0=Z:=by rw [← HZ.out,if_pos h0]
  clear h0 HK HZ
  go_wp2
  go_ret
  exact ⟨rfl,by simp [go_sem]⟩
 ·have hz:(k == 0)=false:=by rw [← HK.out,nd_pos h0];simp
  have hz':((k:Int) == 0)=false:=by rw [← HK.out,nd_pos h0];simp;omega
  have HR:Hid ((if n=true then (-1:Int) else 1)=Z):=by show _=_;rw [← HZ.out,if_neg h0]
  clear h0 HK HZ
  go_wp2
  refine zz fun W hW=>?_
  have c0:W.cell? ⟨w.heap.size,0,none⟩=some (.int .i64 ma):=by rw [hW];go_simp
  have c1:W.cell? ⟨w.heap.size,1,none⟩=some (.int .i64 ea):=by rw [hW];go_simp
  have c2:W.cell? ⟨w.heap.size+1,0,none⟩=some (.int .i64 mb):=by rw [hW];go_simp
  have c3:W.cell? ⟨w.heap.size+1,1,none⟩=some (.int .i64 eb):=by rw [hW];go_simp
  have hz1:w.heap.size+1 < W.heap.size:=by rw [hW];simp;try omega
  have hz0:w.heap.size < W.heap.size:=by omega
  have hxW:Ext w W:=by rw [hW];exact by simp [go_sem]
  clear hW
  refine plP [(0,0),(2,0),(1,1),(3,1),(4,1),(5,1),(6,0)] [] (by kernel_rfl) (fun _ _ d _ _ h=>by cases d <;> exact h) ?_
  iterate 2 (apply rdP rfl rfl;(intros;go_simp;first | done | rfl);try simp only [zq])
  (refine zh rfl ?_ (fun K hK=>?_);rfl;go_simp;(go_at_call 146;(with_reducible refine (hof1 _).mono ?_);rintro e w' ⟨A1,c1,rfl,hrd1,hcp1,hx⟩;obtain ⟨os1,d1,rfl⟩:=hx.more;have hrd1:=hrd1.mono (Nat.zero_le _);(try simp only [za,zb,zc,Array.append_assoc] at hrd1));refine hK _ _ ?_ ?_;(simp [go_sem]))
  try simp only [zq]
  (refine zh rfl ?_ (fun K hK=>?_);rfl;go_simp;(go_at_call 209;with_reducible refine aM (hng _) fun osn dn=>?_);refine hK _ _ ?_ ?_;(simp [go_sem]))
  try simp only [zq]
  (refine zh rfl ?_ (fun K hK=>?_);rfl;go_simp;(go_at_call 146;(with_reducible refine (hof2 _).mono ?_);rintro e w' ⟨A2,c2,rfl,hrd2,hcp2,hx⟩;obtain ⟨os2,d2,rfl⟩:=hx.more;have hrd2:=hrd2.mono (Nat.zero_le _);(try simp only [za,zb,zc,Array.append_assoc] at hrd2));refine hK _ _ ?_ ?_;(simp [go_sem]))
  try simp only [zq]
  (refine zh rfl ?_ (fun K hK=>?_);rfl;go_simp;(go_at_call 145;(with_reducible refine (hpl _ _ _ _ _ (Rd.ext hrd1 (by (try simp only [za,zb,zc,Array.append_assoc]);repeat (first | (with_reducible (first | exact Ext.refl _ | exact zdw _ _ _ _ | exact zbI _ _ _ _ _ | exact zb0 _ _ _ _ _ _ | exact zb1 _ _ _ _ _ _ _)) | ((with_reducible refine zaV ⟨_,?_⟩);(try simp only [Array.append_assoc]);rfl) | (with_reducible (first | apply Ext.drew | apply Ext.alloc | apply Ext.more_))))) (Rd.ext hrd2 (by (try simp only [za,zb,zc,Array.append_assoc]);repeat (first | (with_reducible (first | exact Ext.refl _ | exact zdw _ _ _ _ | exact zbI _ _ _ _ _ | exact zb0 _ _ _ _ _ _ | exact zb1 _ _ _ _ _ _ _)) | ((with_reducible refine zaV ⟨_,?_⟩);(try simp only [Array.append_assoc]);rfl) | (with_reducible (first | apply Ext.drew | apply Ext.alloc | apply Ext.more_)))))).mono ?_);rintro e w' ⟨⟨A3,c3,X3,rfl,hrx3,hn3,ha3,hv3,hc3⟩,hx⟩;obtain ⟨os3,d3,rfl⟩:=hx.more;(try simp only [za,zb,zc,Array.append_assoc] at hrx3));refine hK _ _ ?_ ?_;(simp [go_sem]))
  try simp only [zq]
  (apply rdP rfl rfl;(intros;go_simp;first | done | rfl))
  try simp only [zq]
  refine zj ?_
  cases n <;> (go_wp2;go_ret;exact ⟨by rw [← HR.out];rfl,hxW.trans (by simp [go_sem])⟩)
theorem zhk (ma ea mb eb:Int) (w:World) (hma:I64 ma) (hmb:I64 mb) :
  Tl prog 201 #[NV ma ea,NV mb eb] w (.int .i64 (zbN ma ea mb eb)):=by
 unfold zbN
 by_cases h1:Rt ma ea
 ·have r1:=zab h1
  by_cases h2:Rt mb eb
  ·rw [if_pos ⟨h1,h2⟩];exact zpw ma ea mb eb w h1 h2
  ·have r2:=zbi h2
   rw [if_neg (fun h=>h2 h.2)]
   clear h1 h2
   go_enter func201,ntmps201
   go_wp2_with (go_at_call 140;with_reducible refine aM (zW _ _ _ (by assumption)) fun osr dr=>?_)
   go_ret
   exact ⟨rfl,by simp [go_sem]⟩
 ·have r1:=zbi h1
  rw [if_neg (fun h=>h1 h.1)]
  clear h1
  go_enter func201,ntmps201
  go_wp2_with (go_at_call 140;with_reducible refine aM (zW _ _ _ (by assumption)) fun osr dr=>?_)
  go_ret
  exact ⟨rfl,by simp [go_sem]⟩
theorem Ext.trans_below {W w3 w4:World} {base:Nat} (h:Ext W w3) (hb:Below base w3 w4) (hs:W.heap.size≤base):Ext W w4:=Below.trans h (Below.mono hb hs)
theorem zlT {neg:Bool} {n:Nat} {D:List Nat} : valI (pad neg n D.length D)=sg neg (val D):=by
 unfold pad
 have h0:∀ (k:Nat) (l:List Int),valI (List.replicate k 0++l)=valI l:=by
  intro k l
  induction k with
  | zero=>rfl
  | succ k ih=>rw [List.replicate_succ,List.cons_append,valI_cons,ih];omega
 rw [h0,Nat.sub_self,List.replicate_zero,List.append_nil,List.take_length]
 cases neg with
 | false=>exact valI_nat D
 | true =>
  have:(D.map fun d=>sg true d)=(D.map fun d:Nat=>(d:Int)).map fun x=>-x:=by rw [List.map_map];rfl
  rw [this,valI_neg,valI_nat];rfl
theorem zj1 {neg:Bool} {n i:Nat} {D:List Nat} (hD:AllD D):∀ x∈pad neg n i D,if neg then -9≤x∧x≤0 else 0≤x∧x≤9:=by
 intro x hx
 unfold pad at hx
 rcases List.mem_append.1 hx with h | h
 ·rw [List.eq_of_mem_replicate h];split <;> omega
 ·rcases List.mem_append.1 h with h | h
  ·obtain ⟨d,hd,rfl⟩:=List.mem_map.1 h
   have:=hD d (List.mem_of_mem_take hd)
   cases neg <;> simp [sg] <;> omega
  ·rw [List.eq_of_mem_replicate h];split <;> omega
def zeU (na nb:Bool) (n:Nat) (X Y:List Nat):List Int:=List.zipWith (· + ·) (List.zipWith (· + ·) (List.replicate n 0) (pad na n X.length X)) (pad nb n Y.length Y)
theorem zin {a b:List Int} {z:Int} (h:z∈List.zipWith (· + ·) a b):∃ x∈a,∃ y∈b,z=x+y:=by
 obtain ⟨j,hj⟩:=List.getElem?_of_mem h
 rw [List.getElem?_zipWith] at hj
 cases ha:a[j]? with
 | none=>rw [ha] at hj;simp at hj
 | some x =>
  cases hb:b[j]? with
  | none=>rw [ha,hb] at hj;simp at hj
  | some y =>
   rw [ha,hb] at hj
   simp at hj
   exact ⟨x,List.mem_of_getElem? ha,y,List.mem_of_getElem? hb,hj.symm⟩
theorem zpx {na nb:Bool} {n:Nat} {X Y:List Nat} {z:Int} (h:z∈zeU na nb n X Y):∃ x∈pad na n X.length X,∃ y∈pad nb n Y.length Y,z=x+y:=by
 obtain ⟨u,hu,y,hy,rfl⟩:=zin h
 obtain ⟨v,hv,x,hx,rfl⟩:=zin hu
 rw [List.eq_of_mem_replicate hv]
 exact ⟨x,hx,y,hy,by omega⟩
theorem zqU {na nb:Bool} {n:Nat} {X Y:List Nat} (hX:AllD X) (hY:AllD Y):DOk (zeU na nb n X Y):=by
 cases na <;> cases nb
 focus
  refine Or.inr (Or.inl fun z hz=>?_)
 rotate_left
 focus
  refine Or.inl fun z hz=>?_
 rotate_left
 focus
  refine Or.inl fun z hz=>?_
 rotate_left
 focus
  refine Or.inr (Or.inr fun z hz=>?_)
 rotate_left
 all_goals
  obtain ⟨x,hx,y,hy,rfl⟩:=zpx hz
  have h1:=zj1 hX x hx
  have h2:=zj1 hY y hy
  simp at h1 h2;omega
theorem zld {na nb:Bool} {n:Nat} {X Y:List Nat} (hX:X.length≤n) (hY:Y.length≤n):(zeU na nb n X Y).length=n:=by
 unfold zeU
 rw [List.length_zipWith,List.length_zipWith,zcb hX (Nat.le_refl _),zcb hY (Nat.le_refl _),List.length_replicate];omega
theorem zj2 {na nb:Bool} {n:Nat} {X Y:List Nat} (hX:X.length≤n) (hY:Y.length≤n):valI (zeU na nb n X Y)=sg na (val X)+sg nb (val Y):=by
 unfold zeU
 rw [valI_zip _ _ (by rw [List.length_zipWith,zcb hX (Nat.le_refl _),zcb hY (Nat.le_refl _),List.length_replicate];omega),valI_zip _ _ (by rw [zcb hX (Nat.le_refl _),List.length_replicate]),valI_rep0,zlT,zlT];omega
theorem zqV {na nb:Bool} {n:Nat} {X Y:List Nat} (hX:AllD X) (hY:AllD Y) (h:max X.length Y.length+1=n):(valI (zeU na nb n X Y)).natAbs < T n:=by
 rw [zj2 (by omega) (by omega)]
 have h1:=Nat.lt_of_lt_of_le (val_lt hX) (T_mono (show X.length≤n - 1 by omega))
 have h2:=Nat.lt_of_lt_of_le (val_lt hY) (T_mono (show Y.length≤n - 1 by omega))
 have h3:T n=10 * T (n - 1):=by rw [← T_succ];congr 1;omega
 rw [h3]
 generalize T (n - 1)=t at *
 cases na <;> cases nb <;> simp [sg] <;> omega
theorem zj3 (m:Int) (k:Nat):val (zcS m k)=m.natAbs * T k:=by unfold zcS;rw [zdE,zfn]
theorem zj4 (m:Int) (k:Nat):AllD (zcS m k):=(zcQ _).append (AllD.rep _ _ (by omega))
theorem zrx (ma ea mb eb:Int) (w:World) (hma:I64 ma) (hmb:I64 mb) (h:¬ (Rt ma ea∧Rt mb eb)) :
  Tl prog 82 #[NV ma ea,NV mb eb] w (rnV none):=by
 by_cases h1:Rt ma ea
 ·have r1:=zab h1
  have r2:=zbi (fun h2=>h ⟨h1,h2⟩)
  clear h h1
  go_enter func82,ntmps82
  go_wp2_with (go_at_call 108;with_reducible refine aM (zaf _ _ _ (by assumption)) fun osr dr=>?_)
  exact rct (v:=NV 0 0) rfl rfl (by simp [go_sem]) ⟨rfl,by simp [go_sem]⟩
 ·have r1:=zbi h1
  clear h h1
  go_enter func82,ntmps82
  go_wp2_with (go_at_call 108;with_reducible refine aM (zaf _ _ _ (by assumption)) fun osr dr=>?_)
  exact rct (v:=NV 0 0) rfl rfl (by simp [go_sem]) ⟨rfl,by simp [go_sem]⟩
theorem zqW (ma ea mb eb:Int) (w:World) (htab:Tab w) (h1:Rt ma ea) (h2:Rt mb eb) :
  Tl prog 82 #[NV ma ea,NV mb eb] w (rnV (rndI (sumI ma ea mb eb) (min ea eb))):=by
 obtain ⟨b1,b2,b3⟩:=zaE h1
 obtain ⟨b4,b5,b6⟩:=zaE h2
 have hma:I64 ma:=by unfold I64;omega
 have hmb:I64 mb:=by unfold I64;omega
 have r1:=zab h1
 have r2:=zab h2
 have hT15:T 15=1000000000000000:=by decide
 have n1:nd ma.natAbs≤15:=(nd_le_iff _ _).2 (by omega)
 have n2:nd mb.natAbs≤15:=(nd_le_iff _ _).2 (by omega)
 have hsp1:=fun W hW=>zhB ma ea (min ea eb) (ea - min ea eb).toNat W hW hma (by omega) (by omega)
 have hsp2:=fun W hW=>zhB mb eb (min ea eb) (eb - min ea eb).toNat W hW hmb (by omega) (by omega)
 have hlx:(zcS ma (ea - min ea eb).toNat).length≤200:=by unfold zcS;rw [List.length_append,zbm,List.length_replicate];omega
 have hly:(zcS mb (eb - min ea eb).toNat).length≤200:=by unfold zcS;rw [List.length_append,zbm,List.length_replicate];omega
 have hax:=zj4 ma (ea - min ea eb).toNat
 have hay:=zj4 mb (eb - min ea eb).toNat
 have hsum:sumI ma ea mb eb=sg (decide (ma < 0)) (val (zcS ma (ea - min ea eb).toNat))+sg (decide (mb < 0)) (val (zcS mb (eb - min ea eb).toNat)):=by
  rw [zj3,zj3,sg_mul_nat,sg_mul_nat,sg_nat,sg_nat];rfl
 rw [hsum]
 generalize zcS ma (ea - min ea eb).toNat=X at *
 generalize zcS mb (eb - min ea eb).toNat=Y at *
 have hlen:=zld (na:=decide (ma < 0)) (nb:=decide (mb < 0)) (n:=max X.length Y.length+1) (X:=X) (Y:=Y) (by omega) (by omega)
 have hok:=zqU (na:=decide (ma < 0)) (nb:=decide (mb < 0)) (n:=max X.length Y.length+1) hax hay
 have hval:=zj2 (na:=decide (ma < 0)) (nb:=decide (mb < 0)) (n:=max X.length Y.length+1) (X:=X) (Y:=Y) (by omega) (by omega)
 have hlt:=zqV (na:=decide (ma < 0)) (nb:=decide (mb < 0)) hax hay rfl
 rw [← hval]
 generalize hRR:rndI (valI (zeU (decide (ma < 0)) (decide (mb < 0)) (max X.length Y.length+1) X Y)) (min ea eb)=R
 have HRR:=Lib.hid hRR
 have HLEN:=Lib.hid hlen
 have HOK:=Lib.hid hok
 have HLT:=Lib.hid hlt
 have HT:=Lib.hid htab
 have HAX:=Lib.hid hax
 have HAY:=Lib.hid hay
 clear h1 h2 hRR hlen hok hlt hval hsum htab hax hay n1 n2 hT15
 go_enter func82,ntmps82
 go_wp2_with (go_at_call 108;with_reducible refine aM (zaf _ _ _ (by assumption)) fun osr dr=>?_)
 refine plP [(0,0),(1,0),(3,0),(4,0),(2,1),(5,1),(6,0),(7,0)] [] (by kernel_rfl) (fun _ _ d _ _ h=>by cases d <;> exact h) ?_
 iterate 4 (apply rdP rfl rfl;(intros;go_simp;first | done | rfl);try simp only [zq])
 (refine zh rfl ?_ (fun K hK=>?_);rfl;go_simp;(go_at_call 134;(with_reducible refine (hsp1 _ (HT.out.ext (by simp [go_sem]))).mono ?_);rintro e w' ⟨v1,rfl,ho1,hx1⟩;obtain ⟨os1,d1,rfl⟩:=hx1.more;obtain ⟨A1,p1,rfl,hg1,_⟩:=Dg.of_own (l:=X) (k:=.u8) ho1;clear ho1);refine hK _ _ ?_ ?_;(simp [go_sem]))
 try simp only [zq]
 (refine zh rfl ?_ (fun K hK=>?_);rfl;go_simp;(go_at_call 134;(with_reducible refine (hsp2 _ (HT.out.ext (by simp [go_sem]))).mono ?_);rintro e w' ⟨v2,rfl,ho2,hx2⟩;obtain ⟨os2,d2,rfl⟩:=hx2.more;obtain ⟨A2,p2,rfl,hg2,_⟩:=Dg.of_own (l:=Y) (k:=.u8) ho2;clear ho2);refine hK _ _ ?_ ?_;(simp [go_sem]))
 try simp only [zq]
 iterate 2 (apply rdP rfl rfl;(intros;go_simp;first | done | rfl);try simp only [zq])
 refine zj ?_
 go_upto_region 5 with fail
 refine zz fun W hW=>?_
 have c0:W.cell? ⟨w.heap.size,0,none⟩=some (.int .i64 ma):=by rw [hW];go_simp
 have c2:W.cell? ⟨w.heap.size+1,0,none⟩=some (.int .i64 mb):=by rw [hW];go_simp
 have c4:W.cell? ⟨w.heap.size+1+1,0,none⟩=some (.int .i64 0):=by rw [hW];go_simp
 have c5:W.cell? ⟨w.heap.size+1+1,1,none⟩=some (.int .i64 0):=by rw [hW];go_simp
 have f4:W.frozen? ⟨w.heap.size+1+1,0,none⟩=false:=by rw [hW];go_simp
 have f5:W.frozen? ⟨w.heap.size+1+1,1,none⟩=false:=by rw [hW];go_simp
 have hz:w.heap.size+1+1 < W.heap.size:=by rw [hW];simp;try omega
 have hz1:w.heap.size+1 < W.heap.size:=by omega
 have hz0:w.heap.size < W.heap.size:=by omega
 have hxW:Ext w W:=by rw [hW];exact by simp [go_sem]
 have HRX:Hid (Rd 0 W A1 (b8 X)∧∀ p,A1=some p→X≠[]→p.block < W.heap.size):=by
  have h3:Rd 0 W A1 (b8 X):=by rw [hW];exact Rd.ext (hg1.rd.mono (Nat.zero_le _)) (by (try simp only [za,zb,zc,Array.append_assoc]);repeat (first | (with_reducible (first | exact Ext.refl _ | exact zdw _ _ _ _ | exact zbI _ _ _ _ _ | exact zb0 _ _ _ _ _ _ | exact zb1 _ _ _ _ _ _ _)) | ((with_reducible refine zaV ⟨_,?_⟩);(try simp only [Array.append_assoc]);rfl) | (with_reducible (first | apply Ext.drew | apply Ext.alloc | apply Ext.more_))))
  refine ⟨h3,fun p hp hne=>?_⟩
  obtain ⟨x,X',rfl⟩:=List.exists_cons_of_ne_nil hne
  obtain ⟨b',o',hA,_,hc⟩:=h3 0 _ rfl
  rw [hp] at hA
  obtain rfl:p=⟨b',o',none⟩:=Option.some.inj hA
  exact zg hc
 have HRY:Hid (Rd 0 W A2 (b8 Y)∧∀ p,A2=some p→Y≠[]→p.block < W.heap.size):=by
  have h3:Rd 0 W A2 (b8 Y):=by rw [hW];exact Rd.ext (hg2.rd.mono (Nat.zero_le _)) (by (try simp only [za,zb,zc,Array.append_assoc]);repeat (first | (with_reducible (first | exact Ext.refl _ | exact zdw _ _ _ _ | exact zbI _ _ _ _ _ | exact zb0 _ _ _ _ _ _ | exact zb1 _ _ _ _ _ _ _)) | ((with_reducible refine zaV ⟨_,?_⟩);(try simp only [Array.append_assoc]);rfl) | (with_reducible (first | apply Ext.drew | apply Ext.alloc | apply Ext.more_))))
  refine ⟨h3,fun p hp hne=>?_⟩
  obtain ⟨x,X',rfl⟩:=List.exists_cons_of_ne_nil hne
  obtain ⟨b',o',hA,_,hc⟩:=h3 0 _ rfl
  rw [hp] at hA
  obtain rfl:p=⟨b',o',none⟩:=Option.some.inj hA
  exact zg hc
 clear hW hg1 hg2 hx1 hx2 hsp1 hsp2
 have hmk:=zfo (max X.length Y.length+1) (by omega)
 rw [show (((max X.length Y.length+1:Nat)):Int)=max (X.length:Int) (Y.length:Int)+1 by omega] at hmk
 obtain ⟨n,hn⟩:∃ n,n=max X.length Y.length+1:=⟨_,rfl⟩
 have hnb:n≤1000:=by omega
 have hnx:X.length≤n:=by omega
 have hny:Y.length≤n:=by omega
 rw [← hn] at hmk HRR HLEN HOK HLT
 have HI0:Hid (zco (W.alloc (.cells (madeCells #[.int .i64 0] n) 3)) W.heap.size (List.replicate n 0)):=by
  show _=_
  have hC:madeCells #[.int .i64 0] n=((List.replicate n (0:Int)).map (Value.int .i64)).toArray:=by
   apply Array.ext'
   rw [toList_madeCells_one]
   simp
  rw [hC]
  exact Array.getElem?_push_size
 have hga1:=fun W' (hx:Ext W W') (hi:zco W' W.heap.size (List.replicate n 0))=>zhC W.heap.size n (List.replicate n 0) A1 p1 X (decide (ma < 0)) W' (by simp) hi (HRX.out.1.ext hx) (fun p hp h0=>by have:=HRX.out.2 p hp h0;omega) hnx (by omega) HAX.out (fun x hx=>by rw [List.eq_of_mem_replicate hx];omega)
 have hga2:=fun W' (hx:Ext W W') (hi:zco W' W.heap.size (List.zipWith (· + ·) (List.replicate n 0) (pad (decide (ma < 0)) n X.length X)))=>zhC W.heap.size n _ A2 p2 Y (decide (mb < 0)) W' (by rw [List.length_zipWith,zcb hnx (Nat.le_refl _),List.length_replicate];omega) hi (HRY.out.1.ext hx) (fun p hp h0=>by have:=HRY.out.2 p hp h0;omega) hny (by omega) HAY.out (fun x hx=>by
  obtain ⟨u,hu,v,hv,rfl⟩:=zin hx
  rw [List.eq_of_mem_replicate hu]
  have:=zqQ HAX.out v hv
  omega)
 have hse:=fun W' (hi:zco W' W.heap.size (zeU (decide (ma < 0)) (decide (mb < 0)) n X Y))=>zmC W.heap.size n _ W' HLEN.out hi HOK.out (by omega) HLT.out
 have hx0:Ext W (W.alloc (.cells (madeCells #[.int .i64 0] n) 3)):=(Ext.refl _).alloc _
 clear hn
 go_upto_region 7 with (go_at_call 135;(with_reducible refine (hga1 _ hx0 HI0.out).mono ?_);rintro e w1 ⟨rfl,hi1,ho1⟩;have hx1:=ho1.ext hx0 (Nat.le_refl _))
 have c2':=hx1.cell_some c2
 go_upto_region 8 with (go_at_call 135;(with_reducible refine (hga2 _ hx1 hi1).mono ?_);rintro e w2 ⟨rfl,hi2,ho2⟩;have hx2:=ho2.ext hx1 (Nat.le_refl _))
 have hse2:=hse w2 hi2
 clear hse hga1 hga2 hi1 hi2 HLEN HOK HLT HRX HRY HI0 hmk ho1 ho2 c2'
 generalize valI (zeU (decide (ma < 0)) (decide (mb < 0)) n X Y)=V at *
 go_upto_region 9 with (go_at_call 136;(with_reducible refine hse2.mono ?_);rintro e w3 ⟨rfl,⟨D,hdg,hdl,hda,hdv⟩,hx3⟩)
 have hrd:=ziP w2.heap.size (decide (V < 0)) (some ⟨w2.heap.size,0,none⟩) n D (min ea eb) w3 hdg hda (by omega) hx3.size (by omega)
 rw [hdl,hdv,show rnd (decide (V < 0)) V.natAbs false (min ea eb)=R from HRR.out] at hrd
 clear hdg hda hdv hdl HRR hse2
 go_wp2_with (go_at_call 124;(with_reducible refine hrd.mono ?_);rintro e w4 ⟨rfl,hb4⟩;have hx4:Ext W w4:=(hx2.trans hx3).trans_below hb4 hx2.size;obtain ⟨os4,d4,rfl⟩:=hx4.more)
 exact bodyPost_ret (v:=rnV R) (by simp [results,results82,go_sem,c4,c5,hz]) rfl ⟨rfl,((hxW.set _ (by show w.heap.size≤w.heap.size+1+1;omega)).set _ (by show w.heap.size≤w.heap.size+1+1;omega)).more_ _ _⟩
theorem zio (ma ea mb eb:Int) (w:World) (htab:Tab w) (hma:I64 ma) (hmb:I64 mb) :
  Tl prog 82 #[NV ma ea,NV mb eb] w (rnV (addS ma ea mb eb)):=by
 unfold addS
 split
 ·rename_i h;exact zqW ma ea mb eb w htab h.1 h.2
 ·rename_i h;exact zrx ma ea mb eb w hma hmb h
theorem zd8 {w w':World} {base:Nat} {ty:TypeId} {v:Value} {n:Nat} {xs:List Value} (h:w.ownsRow base ty 1 v n xs) (hx:Ext w w'):w'.ownsRow base ty 1 v n xs:=by
 refine ⟨h.1,?_⟩
 rcases h.2 with h2 | ⟨g,cap,cur,h3,h4,h5,h6⟩
 ·exact Or.inl h2
 ·exact Or.inr ⟨g,cap,cur,h3,h4,by rw [hx.block (zH h5)];exact h5,h6⟩
theorem zry (l:List Nat):∀ u∈b8 l,u.oneCell'=true:=by
 intro u hu
 obtain ⟨x,_,rfl⟩:=List.mem_map.1 hu
 rfl
theorem zqX {up lw:Nat} (h:lw < 1000000000000000):val (zax up++(zax (1000000000000000+lw)).drop 1)=up * 1000000000000000+lw∧(zax (1000000000000000+lw)).length=16∧AllD (zax up++(zax (1000000000000000+lw)).drop 1):=by
 have hT15:T 15=1000000000000000:=by decide
 have hT16:T 16=10000000000000000:=by decide
 have hnd:nd (1000000000000000+lw)=16:=nd_eq (k:=15) (by omega) (by rw [show 15+1=16 from rfl];omega)
 have hl:(zax (1000000000000000+lw)).length=16:=by rw [zbm,hnd];rfl
 have ht:=(take_val (zcQ (1000000000000000+lw)) 1).2
 rw [zfn,hl,hT15] at ht
 refine ⟨?_,hl,(zcQ _).append ((zcQ _).drop 1)⟩
 rw [val_append,zfn,ht,List.length_drop,hl,hT15]
 omega
theorem zrz (ma ea mb eb:Int) (w:World) (hma:I64 ma) (hmb:I64 mb) (h:¬ (Rt ma ea∧Rt mb eb)) :
  Tl prog 132 #[NV ma ea,NV mb eb] w (rnV none):=by
 by_cases h1:Rt ma ea
 ·have r1:=zab h1
  have r2:=zbi (fun h2=>h ⟨h1,h2⟩)
  clear h h1
  go_enter func132,ntmps132
  go_wp2_with (go_at_call 108;with_reducible refine aM (zaf _ _ _ (by assumption)) fun osr dr=>?_)
  exact rct (v:=NV 0 0) rfl rfl (by simp [go_sem]) ⟨rfl,by simp [go_sem]⟩
 ·have r1:=zbi h1
  clear h h1
  go_enter func132,ntmps132
  go_wp2_with (go_at_call 108;with_reducible refine aM (zaf _ _ _ (by assumption)) fun osr dr=>?_)
  exact rct (v:=NV 0 0) rfl rfl (by simp [go_sem]) ⟨rfl,by simp [go_sem]⟩
theorem zsu (ma mb:Int):sg (ngB ma mb) (ma.natAbs * mb.natAbs)=ma * mb:=by
 unfold ngB
 have h:=sg_nat ma
 have h':=sg_nat mb
 cases ha:decide (ma < 0) <;> cases hb:decide (mb < 0) <;> rw [ha] at h <;> rw [hb] at h' <;> simp only [sg] at * <;> (conv=>rhs;rw [← h,← h']) <;> simp [Int.neg_mul,Int.mul_neg]
theorem zqY (ma ea mb eb:Int) (w:World) (htab:Tab w) (h1:Rt ma ea) (h2:Rt mb eb) :
  Tl prog 132 #[NV ma ea,NV mb eb] w (rnV (rndI (ma * mb) (ea+eb))):=by
 obtain ⟨b1,b2,b3⟩:=zaE h1
 obtain ⟨b4,b5,b6⟩:=zaE h2
 have hma:I64 ma:=by unfold I64;omega
 have hmb:I64 mb:=by unfold I64;omega
 have r1:=zab h1
 have r2:=zab h2
 have hsa:=fun W=>zcR ma W hma
 have hsb:=fun W=>zcR mb W hmb
 rw [← zsu,← rnd_sg]
 unfold ngB
 have hPb:ma.natAbs * mb.natAbs < 1000000000000000000000000000000:=Nat.lt_of_le_of_lt (Nat.mul_le_mul (Nat.le_of_lt_succ (show ma.natAbs < 999999999999999+1 from b1)) (Nat.le_of_lt_succ (show mb.natAbs < 999999999999999+1 from b4))) (by decide)
 have hmu:=fun W=>Tryz.bits_Mul64 ma.natAbs mb.natAbs (by omega) (by omega) W
 generalize ma.natAbs=Na at *
 generalize mb.natAbs=Nb at *
 have hdiv:=fun W=>znI (Na * Nb / 18446744073709551616) (Na * Nb % 18446744073709551616) W (Nat.mod_lt _ (by decide)) (by rw [Nat.div_add_mod'];exact hPb)
 rw [Nat.div_add_mod'] at hdiv
 have hup:Na * Nb / 1000000000000000 < 1000000000000000:=Nat.div_lt_of_lt_mul (Nat.lt_of_lt_of_le hPb (by decide))
 have hlw:Na * Nb % 1000000000000000 < 1000000000000000:=Nat.mod_lt _ (by decide)
 have hPQ:Na * Nb / 1000000000000000 * 1000000000000000+Na * Nb % 1000000000000000=Na * Nb:=Nat.div_add_mod' _ _
 generalize Na * Nb / 18446744073709551616=hh at *
 generalize Na * Nb % 18446744073709551616=ll at *
 generalize Na * Nb / 1000000000000000=up at *
 generalize Na * Nb % 1000000000000000=lw at *
 generalize Na * Nb=P at *
 obtain ⟨hmv,hml,hmd⟩:=zqX (up:=up) hlw
 rw [hPQ] at hmv
 have hdg1:=fun W hW=>zc6 up (by omega) W hW
 have hdg2:=fun W hW=>zc6 (1000000000000000+lw) (by omega) W hW
 have hl1:(zax up).length≤20:=by rw [zbm];have:=(nd_le_iff up 20).2 (Nat.lt_trans hup (by decide));omega
 have g1:(1000000000000000:Int)+(lw:Int)=((1000000000000000+lw:Nat):Int):=by omega
 have g2:IntKind.u64.wrap ((1000000000000000+lw:Nat):Int)=((1000000000000000+lw:Nat):Int):=by rw [IntKind.wrap_u64];omega
 generalize 1000000000000000+lw=sm at *
 generalize zax up=D1 at *
 generalize zax sm=D2 at *
 obtain ⟨i0,hi,hz0',hz1',hz2'⟩:=info_parts zcW
 generalize hRR:rnd (!(decide (ma < 0) == decide (mb < 0))) P false (ea+eb)=R
 have HRR:=Lib.hid hRR
 have HT:=Lib.hid htab
 have HMV:=Lib.hid hmv
 have HMD:=Lib.hid hmd
 clear h1 h2 htab hPb hup hlw hPQ hmv hmd hRR
 go_enter func132,ntmps132
 go_wp2_with (go_at_call 108;with_reducible refine aM (zaf _ _ _ (by assumption)) fun osr dr=>?_)
 refine plP [(0,0),(1,0),(3,0),(4,0),(2,1),(5,1),(6,1),(7,0),(8,0),(9,0),(10,0),(11,0)] [] (by kernel_rfl) (fun _ _ d _ _ h=>by cases d <;> exact h) ?_
 iterate 4 (apply rdP rfl rfl;(intros;go_simp;first | done | rfl);try simp only [zq])
 (refine zh rfl ?_ (fun K hK=>?_);rfl;go_simp;(go_at_call 126;(with_reducible refine (hsa _).mono ?_);rintro e w' ⟨rfl,rfl⟩);refine hK _ _ ?_ ?_;(simp [go_sem]))
 try simp only [zq]
 (refine zh rfl ?_ (fun K hK=>?_);rfl;go_simp;(go_at_call 126;(with_reducible refine (hsb _).mono ?_);rintro e w' ⟨rfl,rfl⟩);refine hK _ _ ?_ ?_;(simp [go_sem]))
 try simp only [zq]
 (refine zh rfl ?_ (fun K hK=>?_);rfl;go_simp;(go_at_call 161;(with_reducible refine (hmu _).mono ?_);rintro e w' ⟨rfl,rfl⟩);refine hK _ _ ?_ ?_;(simp [go_sem]))
 try simp only [zq]
 iterate 5 (apply rdP rfl rfl;(intros;go_simp;first | done | rfl);try simp only [zq])
 refine zj ?_
 go_upto_region 4 with fail
 refine zz fun W hW=>?_
 have c0:W.cell? ⟨w.heap.size,0,none⟩=some (.int .i64 ma):=by rw [hW];go_simp
 have c1:W.cell? ⟨w.heap.size,1,none⟩=some (.int .i64 ea):=by rw [hW];go_simp
 have c2:W.cell? ⟨w.heap.size+1,0,none⟩=some (.int .i64 mb):=by rw [hW];go_simp
 have c3:W.cell? ⟨w.heap.size+1,1,none⟩=some (.int .i64 eb):=by rw [hW];go_simp
 have c4:W.cell? ⟨w.heap.size+1+1,0,none⟩=some (.int .i64 0):=by rw [hW];go_simp
 have c5:W.cell? ⟨w.heap.size+1+1,1,none⟩=some (.int .i64 0):=by rw [hW];go_simp
 have f4:W.frozen? ⟨w.heap.size+1+1,0,none⟩=false:=by rw [hW];go_simp
 have f5:W.frozen? ⟨w.heap.size+1+1,1,none⟩=false:=by rw [hW];go_simp
 have hz:w.heap.size+1+1 < W.heap.size:=by rw [hW];simp;try omega
 have hz1:w.heap.size+1 < W.heap.size:=by omega
 have hz0:w.heap.size < W.heap.size:=by omega
 have hxW:Ext w W:=by rw [hW];exact by simp [go_sem]
 have HTW:Hid (Tab W):=HT.out.ext hxW
 clear hW
 go_upto_region 6 with (first | (go_at_call 164;(with_reducible refine (hdiv _).mono ?_);rintro e w' ⟨rfl,hx⟩;obtain ⟨os1,d1,rfl⟩:=hx.more) | (go_at_call 125;(with_reducible refine (hdg1 _ (HTW.out.ext (by simp [go_sem]))).mono ?_);rintro e w' ⟨v1,rfl,ho1,hx1⟩;obtain ⟨os2,d2,rfl⟩:=hx1.more))
 refine zz fun W2 hW2=>?_
 have hxW2:Ext W W2:=by rw [hW2];exact by simp [go_sem]
 have HO1:Hid (W2.ownsRow W.heap.size 5 1 v1 D1.length (b8 D1)):=by
  show World.ownsRow _ _ _ _ _ _ _
  rw [hW2,← za]
  exact zjV ho1 (by simp)
 clear hW2 ho1 hx1 hx hdg1 hdiv
 have hsz2:=hxW2.size
 obtain ⟨x2,t2,hD2⟩:∃ x t,D2=x::t:=by cases D2 with | nil=>simp at hml | cons x t=>exact ⟨x,t,rfl⟩
 have HD2:=Lib.hid hD2
 clear hD2
 go_upto_region 7 with (first | (go_at_call 125;(with_reducible refine (hdg2 _ (HTW.out.ext hxW2)).mono ?_);rintro e w' ⟨v2,rfl,ho2,hx2⟩;obtain ⟨os3,d3,rfl⟩:=hx2.more;obtain ⟨A2,cap2,rfl,hdg,_⟩:=Dg.of_own (l:=D2) (k:=.u8) ho2;have hcap:=hdg.1;rw [hml] at hcap ⊢;obtain ⟨b,off,rfl,_,_⟩:=Dg.cons (by rw [HD2.out] at hdg;exact hdg);clear ho2;have hc1:¬ cap2=1:=by omega) | (at_builtin;refine wpList_append_own _ rfl _ _ _ rfl W.heap.size 5 i0 (.int .u8 0) 1 1 Tryz.underlying124 hi hz0' hz1' hz2' rfl (by decide) _ D1.length (b8 D1) rfl (zd8 HO1.out hx2) _ 15 (cap2 - 1) (b8 (D2.drop 1)) rfl (by simp [b8,hml]) (Rd.add (Rd.mono (hdg.drop 1).rd (Nat.zero_le _))) (zry _) (by simp [maxLen];omega) (by omega) (by simp;omega) ?_;intro v3 w3 ho3 hg3 _;have hx3:=zbr (hxW2.trans hx2) (zd8 HO1.out hx2) hg3;obtain ⟨os4,d4,rfl⟩:=hx3.more;clear hg3 hdg hcap hc1 hx2))
 have hrd:=zeq W (!(decide (ma < 0) == decide (mb < 0))) v3 (D1++D2.drop 1) (ea+eb) (more W os4 d4) _ hx3 (by unfold b8;rw [List.map_append];exact ho3) HMD.out (by simp;omega) (by omega)
 rw [HMV.out,HRR.out] at hrd
 have w1:IntKind.i64.wrap (ea+eb)=ea+eb:=zbJ (by omega) (by omega)
 clear ho3 hx3
 go_wp2_with (go_at_call 124;(with_reducible refine hrd.mono ?_);rintro e w4 ⟨rfl,os5,d5,rfl⟩)
 exact bodyPost_ret (v:=rnV R) (by simp [results,results132,go_sem,c4,c5,hz]) rfl ⟨rfl,((hxW.set _ (by show w.heap.size≤w.heap.size+1+1;omega)).set _ (by show w.heap.size≤w.heap.size+1+1;omega)).more_ _ _⟩
theorem zlU (ma ea mb eb:Int) (w:World) (htab:Tab w) (hma:I64 ma) (hmb:I64 mb) :
  Tl prog 132 #[NV ma ea,NV mb eb] w (rnV (mulS ma ea mb eb)):=by
 unfold mulS
 split
 ·rename_i h;exact zqY ma ea mb eb w htab h.1 h.2
 ·rename_i h;exact zrz ma ea mb eb w hma hmb h
structure TSt (W:World) (L z:Nat) (O:List Nat) (wr:World):Prop where
 out:Dg .i64 3 W.heap.size wr (some ⟨W.heap.size,0,none⟩) L O
 len:O.length=L
 all:AllD O
 zer:∀ p,p≤z→p < L→O[p]? = some 0
 ext:Ext W wr
theorem TSt.at {W wr:World} {L z p d:Nat} {O:List Nat} (h:TSt W L z O wr) (hd:O[p]? = some d):wr.cell? ⟨W.heap.size,p,none⟩=some (.int .i64 (d:Int))∧wr.frozen? ⟨W.heap.size,p,none⟩=false:=by
 obtain ⟨b,off,h1,_,h2,h3⟩:=h.out.at hd
 obtain ⟨rfl,rfl⟩:=aI h1
 rw [Nat.zero_add] at h2 h3
 exact ⟨h2,h3⟩
theorem TSt.set {W wr:World} {L z p d:Nat} {O:List Nat} (h:TSt W L z O wr) (hd:d < 10) (hp:p < L) (z':Nat) (hz:z'≤z) (hzp:z' < p):TSt W L z' (O.set p d) (wr.setCell ⟨W.heap.size,p,none⟩ (.int .i64 (d:Int))):=by
 have:=h.out.set (i:=p) (d:=d) (by rw [h.len];exact hp)
 rw [Nat.zero_add] at this
 exact ⟨this,by rw [List.length_set];exact h.len,h.all.set hd,fun q hq hL=>by rw [List.getElem?_set_ne (by omega)];exact h.zer q (by omega) hL,h.ext.set _ (Nat.le_refl _)⟩
theorem TSt.drew {W wr:World} {L z:Nat} {O:List Nat} (h:TSt W L z O wr):TSt W L z O wr.drew:=⟨h.out,h.len,h.all,h.zer,h.ext.drew⟩
theorem zmD {O lb:List Nat} {V A s n q p o b c:Nat} (hL:O.length - 1 - p=s+(n - (q+1))) (ho:O[p]? = some o) (hb:lb[q]? = some b) (hn:lb.length=n) (h:val O+c * T (s+(n - (q+1)))=V+A * val (lb.drop (q+1)) * T s) :
  val (O.set p ((o+A * b+c) % 10))+(o+A * b+c) / 10 * T (s+(n - q))=V+A * val (lb.drop q) * T s:=by
 have hq:=lt_at hb
 have h1:=val_set ((o+A * b+c) % 10) ho
 rw [hL] at h1
 have h2:val (lb.drop q)=b * T (n - (q+1))+val (lb.drop (q+1)):=by
  rw [drop_at hb,val_cons,List.length_drop,hn]
 have h3:T (s+(n - q))=10 * T (s+(n - (q+1))):=by rw [← T_succ];congr 1;omega
 have h4:A * val (lb.drop q) * T s=A * b * T (s+(n - (q+1)))+A * val (lb.drop (q+1)) * T s:=by
  rw [h2,Nat.mul_add,Nat.add_mul,T_add,Nat.mul_comm (T s) (T (n - (q+1))),Nat.mul_assoc A b,Nat.mul_assoc,Nat.mul_assoc,Nat.mul_assoc]
 rw [h3,h4]
 generalize T (s+(n - (q+1)))=t at *
 generalize val O=vO at *
 generalize val (O.set p ((o+A * b+c) % 10))=vN at *
 generalize A * val (lb.drop (q+1)) * T s=R at *
 have h5:=Nat.div_add_mod (o+A * b+c) 10
 generalize (o+A * b+c) / 10=dq at *
 generalize (o+A * b+c) % 10=dr at *
 generalize A * b=ab at *
 have h6:(10 * dq+dr) * t=(o+ab+c) * t:=by rw [h5]
 rw [Nat.add_mul,Nat.add_mul,Nat.add_mul] at h6
 have h7:dq * (10 * t)=10 * dq * t:=by rw [← Nat.mul_assoc,Nat.mul_comm dq 10]
 rw [h7]
 omega
theorem znP (na nb:Bool) (A B:Option Addr) (ca cb m n:Nat) (la lb:List Nat) (ea eb:Int) (w:World) (ha:Rd 0 w A (i6 la)) (hb:Rd 0 w B (i6 lb)) (hm:la.length=m) (hn:lb.length=n) (hmb:m≤1000) (hnb:n≤1000) (hda:AllD la) (hdb:AllD lb) (hea : -1000≤ea∧ea≤1000) (heb : -1000≤eb∧eb≤1000) :
  Calls prog 149 #[zcn na A m ca ea,zcn nb B n cb eb] w fun r w'=>zf7 w (!(na == nb)) (m+n+1) (val la * val lb) (ea+eb) r w'∧Ext w w':=by
 have HA:=Lib.hid ha
 have HB:=Lib.hid hb
 have HM:=Lib.hid hm
 have HN:=Lib.hid hn
 clear ha hb hm hn
 have hmk:=zfo (m+n+1) (by omega)
 rw [show (((m+n+1:Nat)):Int)=(m:Int)+(n:Int)+1 by omega] at hmk
 go_enter func149,ntmps149
 go_upto_region 1 with fail
 refine zz fun W hW=>?_
 have a0:W.cell? ⟨w.heap.size,0,none⟩=some (.bool na):=by rw [hW];go_simp
 have a1:W.cell? ⟨w.heap.size,1,none⟩=some (.slice A m ca):=by rw [hW];go_simp
 have a2:W.cell? ⟨w.heap.size,2,none⟩=some (.int .i64 ea):=by rw [hW];go_simp
 have b0:W.cell? ⟨w.heap.size+1,0,none⟩=some (.bool nb):=by rw [hW];go_simp
 have b1:W.cell? ⟨w.heap.size+1,1,none⟩=some (.slice B n cb):=by rw [hW];go_simp
 have b2:W.cell? ⟨w.heap.size+1,2,none⟩=some (.int .i64 eb):=by rw [hW];go_simp
 have r0:W.cell? ⟨w.heap.size+1+1,0,none⟩=some (.bool false):=by rw [hW];go_simp
 have r1:W.cell? ⟨w.heap.size+1+1,1,none⟩=some (.slice none 0 0):=by rw [hW];go_simp
 have r2:W.cell? ⟨w.heap.size+1+1,2,none⟩=some (.int .i64 0):=by rw [hW];go_simp
 have q0:W.frozen? ⟨w.heap.size+1+1,0,none⟩=false:=by rw [hW];go_simp
 have q1:W.frozen? ⟨w.heap.size+1+1,1,none⟩=false:=by rw [hW];go_simp
 have q2:W.frozen? ⟨w.heap.size+1+1,2,none⟩=false:=by rw [hW];go_simp
 have hz:w.heap.size+1+1 < W.heap.size:=by rw [hW];simp;try omega
 have hz1:w.heap.size+1 < W.heap.size:=by omega
 have hz0:w.heap.size < W.heap.size:=by omega
 have hxW:Ext w W:=by rw [hW];exact by simp [go_sem]
 clear hW
 have HX:Hid (Rd 0 W A (i6 la)):=HA.out.ext hxW
 have HY:Hid (Rd 0 W B (i6 lb)):=HB.out.ext hxW
 have HS:Hid (TSt W (m+n+1) (m+n) (List.replicate (m+n+1) 0) (W.alloc (.cells (madeCells #[.int .i64 0] (m+n+1)) 3))):=⟨zgC (k:=.i64) (ty:=3) (w:=W) (m+n+1) rfl (Nat.le_refl _),by simp,AllD.rep _ _ (by omega),fun p h1 h2=>by rw [List.getElem?_replicate,if_pos h2],(Ext.refl _).alloc _⟩
 go_wp2
 go_loopw [6] (fun i wr=>∃ (j:Nat) (O:List Nat),j≤m∧i = .int .i64 ((j:Int) - 1)∧Hid (TSt W (m+n+1) j O wr)∧Hid (val O=val (la.drop j) * val lb)) (fun i _=>((intOf i)+1).toNat)
 case atStart =>
  refine ⟨m,_,Nat.le_refl _,by go_num,⟨HS.out.out,HS.out.len,HS.out.all,fun p h1 h2=>HS.out.zer p (by omega) h2,HS.out.ext⟩,?_⟩
  show _=_
  rw [val_rep0,List.drop_eq_nil_of_le (by rw [HM.out];exact Nat.le_refl _),val_nil,Nat.zero_mul]
 case round =>
  obtain ⟨j,O,hj,rfl,H,HV⟩:=hrel
  have hxr:=H.out.ext
  have hsz:=hxr.size
  have a0':=hxr.cell_some a0
  have a1':=hxr.cell_some a1
  have a2':=hxr.cell_some a2
  have b0':=hxr.cell_some b0
  have b1':=hxr.cell_some b1
  have b2':=hxr.cell_some b2
  cases j with
  | zero =>
   have r0':=hxr.cell_some r0
   have r1':=hxr.cell_some r1
   have r2':=hxr.cell_some r2
   have q0':=(hxr.frozen (p:=⟨w.heap.size+1+1,0,none⟩) (by show w.heap.size+1+1 < _;omega)).trans q0
   have q1':=(hxr.frozen (p:=⟨w.heap.size+1+1,1,none⟩) (by show w.heap.size+1+1 < _;omega)).trans q1
   have q2':=(hxr.frozen (p:=⟨w.heap.size+1+1,2,none⟩) (by show w.heap.size+1+1 < _;omega)).trans q2
   have hz':w.heap.size+1+1 < wr.heap.size:=by omega
   go_wp2
   refine bodyPost_ret (v:=zcn (!(na == nb)) (some ⟨W.heap.size,0,none⟩) (m+n+1) (m+n+1) (ea+eb)) (by simp [results,results149,go_sem,hz',r0',r1',r2']) rfl ⟨⟨_,_,O,rfl,?_,H.out.len,H.out.all,?_,Nat.le_refl _⟩,?_⟩
   ·exact (((H.out.out.rd.set_low _ hz).set_low _ hz).set_low _ hz).mono (by omega)
   ·have:=HV.out
    rw [List.drop_zero] at this
    exact this
   ·exact ((((hxW.trans hxr).set _ (by show w.heap.size≤w.heap.size+1+1;omega)).set _ (by show w.heap.size≤w.heap.size+1+1;omega)).set _ (by show w.heap.size≤w.heap.size+1+1;omega))
  | succ i =>
   have hiM:i < m:=by omega
   obtain ⟨x,hxi⟩:∃ x,la[i]? = some x:=⟨la[i]'(by have:=HM.out;omega),by rw [List.getElem?_eq_getElem]⟩
   have hx10:=hda.at hxi
   have hji:(((i+1:Nat):Int) - 1)=(i:Int):=by omega
   rw [hji]
   obtain ⟨ba,oa,hAe,_,hcx⟩:=Rd.at_ HX.out hxi
   have HXI:=Lib.hid hxi
   clear hxi
   go_wp2
   go_loopw [7,8] (fun c k wq=>∃ (q cc:Nat) (O':List Nat),q≤n∧cc≤9∧k = .int .i64 ((q:Int) - 1)∧c = .int .i64 (cc:Int)∧Hid (TSt W (m+n+1) (i+1) O' wq)∧Hid (val O'+cc * T (m - (i+1)+(n - q))=val O+x * val (lb.drop q) * T (m - (i+1)))) (fun _ k _=>((intOf k)+1).toNat)
   case atStart =>
    refine ⟨n,0,O,Nat.le_refl _,by omega,by go_num,rfl,H,?_⟩
    show _=_
    rw [List.drop_eq_nil_of_le (by rw [HN.out];exact Nat.le_refl _),val_nil];simp
   case round =>
    obtain ⟨q,cc,O',hq,hcc,rfl,rfl,H',HV'⟩:=hrel
    have hxq:=H'.out.ext
    have hszq:=hxq.size
    have a1q:=hxq.cell_some a1
    have b1q:=hxq.cell_some b1
    clear a0' a1' a2' b0' b1' b2'
    cases q with
    | zero =>
     obtain ⟨o0,o1⟩:=H'.out.at (H'.out.zer (i+1) (Nat.le_refl _) (by omega))
     have HN2:=Lib.hid (H'.out.set (d:=cc) (p:=i+1) (by omega) (by omega) i (by omega) (by omega))
     have hvs:=val_set cc (H'.out.zer (i+1) (Nat.le_refl _) (by omega))
     have HVN:Hid (val (O'.set (i+1) cc)=val (la.drop i) * val lb):=by
      show _=_
      have h1:=HV'.out
      rw [List.drop_zero,Nat.sub_zero,HV.out] at h1
      rw [H'.out.len,show m+n+1 - 1 - (i+1)=m - (i+1)+n by omega] at hvs
      rw [drop_at HXI.out,val_cons,List.length_drop,HM.out,Nat.add_mul]
      have h2:x * T (m - (i+1)) * val lb=x * val lb * T (m - (i+1)):=by rw [Nat.mul_assoc,Nat.mul_comm (T _),← Nat.mul_assoc]
      omega
     go_wp2
     exact ⟨⟨i,_,by omega,by go_num,HN2,HVN⟩,by simp [intOf]⟩
    | succ k =>
     have hkN:k < n:=by omega
     obtain ⟨y,hyk⟩:∃ y,lb[k]? = some y:=⟨lb[k]'(by have:=HN.out;omega),by rw [List.getElem?_eq_getElem]⟩
     have hy10:=hdb.at hyk
     obtain ⟨bb,ob,hBe,_,hcy⟩:=Rd.at_ HY.out hyk
     obtain ⟨o,hok⟩:∃ o,O'[i+k+2]? = some o:=⟨O'[i+k+2]'(by have:=H'.out.len;omega),by rw [List.getElem?_eq_getElem]⟩
     have ho10:=H'.out.all.at hok
     obtain ⟨o0,o1⟩:=H'.out.at hok
     have HST:=Lib.hid (zmD (V:=val O) (A:=x) (s:=m - (i+1)) (n:=n) (q:=k) (c:=cc) (by rw [H'.out.len];omega) hok hyk HN.out HV'.out)
     have hxy:x * y≤81:=Nat.mul_le_mul (show x≤9 by omega) (show y≤9 by omega)
     have HSE:=Lib.hid (fun d (hd:d < 10)=>H'.out.set (d:=d) (p:=i+k+2) hd (by omega) (i+1) (Nat.le_refl _) (by omega))
     have hcxq:=hxq.cell_some hcx
     have hcyq:=hxq.cell_some hcy
     rw [hAe] at a1q
     rw [hBe] at b1q
     have hki:(((k+1:Nat):Int) - 1)=(k:Int):=by omega
     rw [hki]
     obtain ⟨ik,hik⟩:∃ ik:Nat,(i:Int)+(k:Int)=(ik:Int):=⟨i+k,by omega⟩
     have hpp:((ik:Int)+2)=((i+k+2:Nat):Int):=by omega
     have hikw:IntKind.i64.wrap (ik:Int)=(ik:Int):=zbJ (by omega) (by omega)
     have hppw:IntKind.i64.wrap ((i+k+2:Nat):Int)=((i+k+2:Nat):Int):=zbJ (by omega) (by omega)
     have hxyw:IntKind.i64.wrap ((x * y:Nat):Int)=((x * y:Nat):Int):=zbJ (by omega) (by omega)
     have hpL:i+k+2 < m+n+1:=by omega
     have hpLi:((i+k+2:Nat):Int) < (m:Int)+(n:Int)+1:=by omega
     have hxyi:(x:Int) * (y:Int)=((x * y:Nat):Int):=by rw [Int.natCast_mul]
     generalize hXY:x * y=xy at *
     have t1:((o:Int)+(xy:Int)+(cc:Int)) % 10=(((o+xy+cc) % 10:Nat):Int):=rfl
     have t3:((o:Int)+(xy:Int)+(cc:Int)).tmod 10=(((o+xy+cc) % 10:Nat):Int):=rfl
     have t2:((o:Int)+(xy:Int)+(cc:Int)).tdiv 10=(((o+xy+cc) / 10:Nat):Int):=rfl
     have hd1:(o+xy+cc) % 10 < 10:=by omega
     have hd2:(o+xy+cc) / 10≤9:=by omega
     have HSD:=Lib.hid (HSE.out _ hd1)
     have l1:=zg hcxq
     have l2:=zg hcyq
     have l3:=zg o0
     simp only at l1 l2 l3
     have l4:w.heap.size < wr.heap.size:=by omega
     have l5:w.heap.size+1 < wr.heap.size:=by omega
     clear hok hyk HSE
     generalize i+k+2=p at *
     generalize (o+xy+cc) % 10=dg at *
     generalize (o+xy+cc) / 10=c2 at *
     go_wp2
     refine plP [(0,0),(1,0),(2,0),(3,0),(4,0),(5,0),(6,0),(7,0),(8,0),(9,0),(10,0),(11,0),(12,0),(13,0),(14,0),(15,0),(16,0),(17,0),(18,0),(19,0),(20,0),(21,0)] [] (by kernel_rfl) (fun _ _ d _ _ h=>by cases d <;> exact h) ?_
     iterate 22 (apply rdP rfl rfl;(intros;go_simp;first | done | rfl);try simp only [zq])
     refine zj ?_
     go_wp2
     refine ⟨⟨k,c2,_,by omega,hd2,by go_num,by rw [t2],HSD.out.drew,HST⟩,by simp [intOf]⟩
theorem zrA (ma mb:Int):sg (ngB ma mb) (ma.natAbs * mb.natAbs)=ma * mb:=by
 unfold ngB
 have h:=sg_nat ma
 have h':=sg_nat mb
 cases ha:decide (ma < 0) <;> cases hb:decide (mb < 0) <;> rw [ha] at h <;> rw [hb] at h' <;> simp only [sg] at * <;> (conv=>rhs;rw [← h,← h']) <;> simp [Int.neg_mul,Int.mul_neg]
theorem zpy (ma ea mb eb:Int) (w:World) (hma:I64 ma) (hmb:I64 mb) :
  Tl prog 107 #[NV ma ea,NV mb eb] w (rnV (mulS ma ea mb eb)):=by
 by_cases h1:Rt ma ea
 ·have r1:=zab h1
  by_cases h2:Rt mb eb
  ·have r2:=zab h2
   have hs:mulS ma ea mb eb=rnd (!(decide (ma < 0) == decide (mb < 0))) (ma.natAbs * mb.natAbs) false (ea+eb):=by
    unfold mulS;rw [if_pos ⟨h1,h2⟩,← zrA,← rnd_sg];rfl
   rw [hs]
   obtain ⟨b1,b2,b3⟩:=zaE h1
   obtain ⟨b4,b5,b6⟩:=zaE h2
   have hT15:T 15=1000000000000000:=by decide
   have n1:nd ma.natAbs≤15:=(nd_le_iff _ _).2 (by omega)
   have n2:nd mb.natAbs≤15:=(nd_le_iff _ _).2 (by omega)
   have hof1:=fun W=>zdn ma ea W hma
   have hof2:=fun W=>zdn mb eb W hmb
   have hpl:=fun A B ca cb W h3 h4=>znP (decide (ma < 0)) (decide (mb < 0)) A B ca cb (nd ma.natAbs) (nd mb.natAbs) (dig ma.natAbs) (dig mb.natAbs) ea eb W h3 h4 (dig_length _) (dig_length _) (by omega) (by omega) (dig_all _) (dig_all _) (by omega) (by omega)
   simp only [val_dig] at hpl
   have hL:nd ma.natAbs+nd mb.natAbs+1≤1000:=by omega
   have hnr:=fun (A:Option Addr) (cap:Nat) (l:List Nat) (W:World) (a1:l.length=nd ma.natAbs+nd mb.natAbs+1) (a2:Rd 0 W A (i6 l)) (a3:nd ma.natAbs+nd mb.natAbs+1≤cap) (a4:AllD l) (a5:val l=ma.natAbs * mb.natAbs)=>zcs 0 (!(decide (ma < 0) == decide (mb < 0))) A (nd ma.natAbs+nd mb.natAbs+1) cap l (ma.natAbs * mb.natAbs) (ea+eb) false W a1 a2 a3 hL a4 a5 (by omega) (Nat.zero_le _)
   generalize rnd (!(decide (ma < 0) == decide (mb < 0))) (ma.natAbs * mb.natAbs) false (ea+eb)=R at *
   generalize nd ma.natAbs+nd mb.natAbs+1=L at *
   generalize ma.natAbs * mb.natAbs=P at *
   clear h1 h2 n1 n2 hT15 hs
   generalize ma.natAbs=Na at *
   generalize mb.natAbs=Nb at *
   go_enter func107,ntmps107
   go_wp2_with (go_at_call 140;with_reducible refine aM (zW _ _ _ (by assumption)) fun osr dr=>?_)
   refine plP [(0,0),(2,0),(1,1),(3,1),(4,1),(5,1),(6,0),(7,0),(8,2),(9,2)] [8,9] (by kernel_rfl) (fun _ _ d _ _ h=>by cases d <;> exact h) ?_
   iterate 2 (apply rdP rfl rfl;(intros;go_simp;first | done | rfl);try simp only [zq])
   (refine zh rfl ?_ (fun K hK=>?_);rfl;go_simp;(go_at_call 146;(with_reducible refine (hof1 _).mono ?_);rintro e w' ⟨A1,c1,rfl,hrd1,hcp1,hx⟩;obtain ⟨os1,d1,rfl⟩:=hx.more;have hrd1:=hrd1.mono (Nat.zero_le _);(try simp only [za,zb,zc,Array.append_assoc] at hrd1));refine hK _ _ ?_ ?_;(simp [go_sem]))
   try simp only [zq]
   (refine zh rfl ?_ (fun K hK=>?_);rfl;go_simp;(go_at_call 146;(with_reducible refine (hof2 _).mono ?_);rintro e w' ⟨A2,c2,rfl,hrd2,hcp2,hx⟩;obtain ⟨os2,d2,rfl⟩:=hx.more;have hrd2:=hrd2.mono (Nat.zero_le _);(try simp only [za,zb,zc,Array.append_assoc] at hrd2));refine hK _ _ ?_ ?_;(simp [go_sem]))
   try simp only [zq]
   (refine zh rfl ?_ (fun K hK=>?_);rfl;go_simp;(go_at_call 149;(with_reducible refine (hpl _ _ _ _ _ (Rd.ext hrd1 (by (try simp only [za,zb,zc,Array.append_assoc]);repeat (first | (with_reducible (first | exact Ext.refl _ | exact zdw _ _ _ _ | exact zbI _ _ _ _ _ | exact zb0 _ _ _ _ _ _ | exact zb1 _ _ _ _ _ _ _)) | ((with_reducible refine zaV ⟨_,?_⟩);(try simp only [Array.append_assoc]);rfl) | (with_reducible (first | apply Ext.drew | apply Ext.alloc | apply Ext.more_))))) (Rd.ext hrd2 (by (try simp only [za,zb,zc,Array.append_assoc]);repeat (first | (with_reducible (first | exact Ext.refl _ | exact zdw _ _ _ _ | exact zbI _ _ _ _ _ | exact zb0 _ _ _ _ _ _ | exact zb1 _ _ _ _ _ _ _)) | ((with_reducible refine zaV ⟨_,?_⟩);(try simp only [Array.append_assoc]);rfl) | (with_reducible (first | apply Ext.drew | apply Ext.alloc | apply Ext.more_)))))).mono ?_);rintro e w' ⟨⟨A3,c3,X3,rfl,hrx3,hn3,ha3,hv3,hc3⟩,hx⟩;obtain ⟨os3,d3,rfl⟩:=hx.more;(try simp only [za,zb,zc,Array.append_assoc] at hrx3));refine hK _ _ ?_ ?_;(simp [go_sem]))
   try simp only [zq]
   (refine zh rfl ?_ (fun K hK=>?_);rfl;go_simp;(go_at_call 60;with_reducible refine aM (hnr _ _ _ _ hn3 (Rd.mono hrx3 (Nat.zero_le _)) hc3 ha3 hv3) fun os4 d4=>?_);refine hK _ _ ?_ ?_;(simp [go_sem]))
   try simp only [zq]
   iterate 2 (apply rdP rfl rfl;(intros;go_simp;first | done | rfl);try simp only [zq])
   (refine zaa rfl ?_ (fun K hK=>?_);rfl;go_simp;refine hK _ _ ?_)
   try simp only [Act.put]
   (refine zaa rfl ?_ (fun K hK=>?_);rfl;go_simp;refine hK _ _ ?_)
   try simp only [zq]
   refine zj ?_
   go_wp2
   exact rct rfl rfl (by simp [go_sem]) ⟨rfl,by simp [go_sem]⟩
  ·have r2:=zbi h2
   have hs:mulS ma ea mb eb=none:=by unfold mulS;rw [if_neg (fun h=>h2 h.2)]
   rw [hs]
   clear h1 h2 hs
   go_enter func107,ntmps107
   go_wp2_with (go_at_call 140;with_reducible refine aM (zW _ _ _ (by assumption)) fun osr dr=>?_)
   exact rct (v:=NV 0 0) rfl rfl (by simp [go_sem]) ⟨rfl,by simp [go_sem]⟩
 ·have r1:=zbi h1
  have hs:mulS ma ea mb eb=none:=by unfold mulS;rw [if_neg (fun h=>h1 h.1)]
  rw [hs]
  clear h1 hs
  go_enter func107,ntmps107
  go_wp2_with (go_at_call 140;with_reducible refine aM (zW _ _ _ (by assumption)) fun osr dr=>?_)
  exact rct (v:=NV 0 0) rfl rfl (by simp [go_sem]) ⟨rfl,by simp [go_sem]⟩
theorem zct {m e:Int} (h:Rt m e):I64 m∧I64 e:=by
 obtain ⟨b1,b2,b3⟩:=zaE h
 unfold I64;omega
def PV (w:World) (p:Nat) (m e:Int):Prop:=w.heap[p]? = some (.cells #[.int .i64 m,.int .i64 e] 35 (0,0))
theorem PV.c0 {w:World} {p:Nat} {m e:Int} (h:PV w p m e):w.cell? ⟨p,0,none⟩=some (.int .i64 m):=by rw [cell_of_row w p 0 _ _ (0,0) h];rfl
theorem PV.c1 {w:World} {p:Nat} {m e:Int} (h:PV w p m e):w.cell? ⟨p,1,none⟩=some (.int .i64 e):=by rw [cell_of_row w p 1 _ _ (0,0) h];rfl
theorem PV.fz {w:World} {p:Nat} {m e:Int} (h:PV w p m e) (o:Nat):w.frozen? ⟨p,o,none⟩=false:=frozen_of_row w p o _ _ h
theorem PV.lt {w:World} {p:Nat} {m e:Int} (h:PV w p m e):p < w.heap.size:=zH h
theorem PV.ext {w w':World} {p:Nat} {m e:Int} (h:PV w p m e) (hx:Ext w w'):PV w' p m e:=by unfold PV;rw [hx.block h.lt];exact h
theorem PV.set {w:World} {p:Nat} {m e:Int} (h:PV w p m e) (m' e':Int):PV ((w.setCell ⟨p,0,none⟩ (.int .i64 m')).setCell ⟨p,1,none⟩ (.int .i64 e')) p m' e':=by
 have h1:=heap_setCell_same w p 0 _ _ (.int .i64 m') h
 have h2:=heap_setCell_same _ p 1 _ _ (.int .i64 e') h1
 exact h2
theorem PV.new {w:World} {n:Nat} (m e:Int) (hn:n=w.heap.size):PV (w.alloc (.cells #[.int .i64 m,.int .i64 e] 35)) n m e:=by subst hn;exact Array.getElem?_push_size
theorem zj5 (m ex:Int) (w:World) :
  Tl prog 193 #[NV m ex] w (.int .i64 m.sign):=by
 rcases Int.lt_trichotomy m 0 with h | h | h
 ·rw [Int.sign_eq_neg_one_of_neg h]
  go_enter func193,ntmps193
  go_wp2
  go_ret
  exact ⟨rfl,by simp [go_sem]⟩
 ·subst h
  go_enter func193,ntmps193
  go_wp2
  go_ret
  exact ⟨rfl,by simp [go_sem]⟩
 ·rw [Int.sign_eq_one_of_pos h]
  have h':¬ m < 0:=by omega
  go_enter func193,ntmps193
  go_wp2
  go_ret
  exact ⟨rfl,by simp [go_sem]⟩
def zbO (x y:Nat):Int:=if x < y then -1 else if y < x then 1 else 0
theorem zlV {x y ka kb:Nat} (hx:x≠0) (hy:y≠0) (h:nd x+ka < nd y+kb):x * T ka < y * T kb:=by
 have h1:=lt_T_nd (x * T ka)
 rw [nd_mul_T ka hx] at h1
 have h2:=T_le_of_nd (Nat.mul_ne_zero hy (by have:=T_pos kb;omega):y * T kb≠0)
 rw [nd_mul_T kb hy] at h2
 have h3:T (nd x+ka)≤T (nd y+kb - 1):=T_mono (by omega)
 omega
theorem zpz {x y ka kb:Nat} (hx:nd x≤15) (hy:nd y≤15) (h:nd x+ka=nd y+kb):zbO (x * T ka) (y * T kb)=zbO (x * T (15 - nd x)) (y * T (15 - nd y)):=by
 have e1:x * T (15 - nd x) * T (nd x+ka)=x * T ka * T 15:=by
  rw [Nat.mul_assoc,← T_add,Nat.mul_assoc,← T_add];congr 2;omega
 have e2:y * T (15 - nd y) * T (nd x+ka)=y * T kb * T 15:=by
  rw [Nat.mul_assoc,← T_add,Nat.mul_assoc,← T_add];congr 2;omega
 have p1:=T_pos (nd x+ka)
 have p2:=T_pos 15
 have i1:x * T ka < y * T kb↔x * T (15 - nd x) < y * T (15 - nd y):=by
  rw [← Nat.mul_lt_mul_right p2,← e1,← e2,Nat.mul_lt_mul_right p1]
 have i2:y * T kb < x * T ka↔y * T (15 - nd y) < x * T (15 - nd x):=by
  rw [← Nat.mul_lt_mul_right p2,← e1,← e2,Nat.mul_lt_mul_right p1]
 unfold zbO
 rw [ite_iff _ _ i1,ite_iff _ _ i2]
theorem ziV (n:Nat) (w:World) (h:n < 18446744073709551616) (h0:n≠0) :
  Calls prog 150 #[.int .u64 (n:Int)] w fun e w'=>e = .returned (.int .i64 ((nd n:Nat):Int))∧w=w':=by
 have:=ziO n w (by omega) (by omega)
 rw [show za0 (n:Int)=((nd n:Nat):Int) by unfold za0;rw [Int.toNat_natCast,znF h0]] at this
 exact this
theorem zle (ma ea mb eb:Int) (ka kb:Nat) (w:World) (h1:Rt ma ea) (h2:Rt mb eb) (h0:ma=0↔mb=0) (hk:ea - (ka:Int)=eb - (kb:Int)) :
  Tl prog 194 #[NV ma ea,NV mb eb] w (.int .i64 (zbO (ma.natAbs * T ka) (mb.natAbs * T kb))):=by
 by_cases hz:ma=0
 ·have hz':=h0.1 hz
  rw [hz,hz',show (0:Int).natAbs=0 from rfl,Nat.zero_mul,Nat.zero_mul]
  go_enter func194,ntmps194
  go_wp2
  go_ret
  exact ⟨rfl,by simp [go_sem]⟩
 ·have hz':mb≠0:=fun h=>hz (h0.2 h)
  have e0:(ma == 0)=false:=by simp [hz]
  obtain ⟨b1,b2,b3⟩:=zaE h1
  obtain ⟨b4,b5,b6⟩:=zaE h2
  have hma:I64 ma:=by unfold I64;omega
  have hmb:I64 mb:=by unfold I64;omega
  have hsa:=fun W=>zcR ma W hma
  have hsb:=fun W=>zcR mb W hmb
  have hca:=fun W=>ziV ma.natAbs W (by omega) (by omega)
  have hcb:=fun W=>ziV mb.natAbs W (by omega) (by omega)
  have hT15:T 15=1000000000000000:=by decide
  have n1:nd ma.natAbs≤15:=(nd_le_iff _ _).2 (by omega)
  have n2:nd mb.natAbs≤15:=(nd_le_iff _ _).2 (by omega)
  have hpa:=fun W=>zf8 (15 - nd ma.natAbs) W (by omega)
  have hpb:=fun W=>zf8 (15 - nd mb.natAbs) W (by omega)
  have hna:ma.natAbs≠0:=by omega
  have hnb:mb.natAbs≠0:=by omega
  have l1:ma.natAbs * T (15 - nd ma.natAbs) < 1000000000000000:=by
   have:=Nat.mul_lt_mul_of_pos_right (lt_T_nd ma.natAbs) (T_pos (15 - nd ma.natAbs))
   rw [← T_add,show nd ma.natAbs+(15 - nd ma.natAbs)=15 by omega,hT15] at this;exact this
  have l2:mb.natAbs * T (15 - nd mb.natAbs) < 1000000000000000:=by
   have:=Nat.mul_lt_mul_of_pos_right (lt_T_nd mb.natAbs) (T_pos (15 - nd mb.natAbs))
   rw [← T_add,show nd mb.natAbs+(15 - nd mb.natAbs)=15 by omega,hT15] at this;exact this
  have ct1:=zlV (x:=ma.natAbs) (y:=mb.natAbs) (ka:=ka) (kb:=kb) hna hnb
  have ct2:=zlV (x:=mb.natAbs) (y:=ma.natAbs) (ka:=kb) (kb:=ka) hnb hna
  have ct3:=zpz (x:=ma.natAbs) (y:=mb.natAbs) (ka:=ka) (kb:=kb) n1 n2
  clear h1 h2 h0 hz hz' hna hnb hT15
  generalize ma.natAbs=Na at *
  generalize mb.natAbs=Nb at *
  have ca:(15:Int) - (nd Na:Int)=((15 - nd Na:Nat):Int):=by omega
  have cb:(15:Int) - (nd Nb:Int)=((15 - nd Nb:Nat):Int):=by omega
  generalize hda:nd Na=da at *
  generalize hdb:nd Nb=db at *
  clear hda hdb
  rcases Int.lt_trichotomy ((da:Int)+ea) ((db:Int)+eb) with ht | ht | ht
  rw [show zbO (Na * T ka) (Nb * T kb) = -1 by unfold zbO;rw [if_pos (ct1 (by omega))]]
  have e1:((da:Int)+ea == (db:Int)+eb)=false:=by simp;omega
  clear ct1 ct2 ct3 hk
  rotate_left
  rw [ct3 (by omega)]
  have e1:((da:Int)+ea == (db:Int)+eb)=true:=by simp;omega
  clear ct1 ct2 ct3 hk
  generalize T (15 - da)=Ta at *
  generalize T (15 - db)=Tb at *
  have m1:(Na:Int) * (Ta:Int)=((Na * Ta:Nat):Int):=by rw [Int.natCast_mul]
  have m2:(Nb:Int) * (Tb:Int)=((Nb * Tb:Nat):Int):=by rw [Int.natCast_mul]
  generalize Na * Ta=Pa at *
  generalize Nb * Tb=Pb at *
  have w1:IntKind.u64.wrap (Pa:Int)=Pa:=by rw [IntKind.wrap_u64];omega
  have w2:IntKind.u64.wrap (Pb:Int)=Pb:=by rw [IntKind.wrap_u64];omega
  rcases Nat.lt_trichotomy Pa Pb with hc | hc | hc
  rw [show zbO Pa Pb = -1 by unfold zbO;rw [if_pos hc]]
  rotate_left
  rw [show zbO Pa Pb=0 by unfold zbO;rw [if_neg (by omega),if_neg (by omega)]]
  rotate_left
  rw [show zbO Pa Pb=1 by unfold zbO;rw [if_neg (by omega),if_pos (by omega)]]
  have hc':¬ Pa < Pb:=by omega
  rotate_left
  have ct:=ct2 (by omega)
  rw [show zbO (Na * T ka) (Nb * T kb)=1 by unfold zbO;rw [if_neg (by omega),if_pos ct]]
  have e1:((da:Int)+ea == (db:Int)+eb)=false:=by simp;omega
  have e2:¬ ((da:Int)+ea < (db:Int)+eb):=by omega
  clear ct ct1 ct2 ct3 hk
  all_goals
   go_enter func194,ntmps194
   go_wp2
   refine plP [(0,0),(1,0),(3,0),(4,0),(2,1),(5,1),(6,0),(7,0)] [] (by kernel_rfl) (fun _ _ d _ _ h=>by cases d <;> exact h) ?_
   iterate 4 (apply rdP rfl rfl;(intros;go_simp;first | done | rfl);try simp only [zq])
   (refine zh rfl ?_ (fun K hK=>?_);rfl;go_simp;(go_at_call 126;(with_reducible refine (hsa _).mono ?_);rintro e w' ⟨rfl,rfl⟩);refine hK _ _ ?_ ?_;(simp [go_sem]))
   try simp only [zq]
   (refine zh rfl ?_ (fun K hK=>?_);rfl;go_simp;(go_at_call 126;(with_reducible refine (hsb _).mono ?_);rintro e w' ⟨rfl,rfl⟩);refine hK _ _ ?_ ?_;(simp [go_sem]))
   try simp only [zq]
   iterate 2 (apply rdP rfl rfl;(intros;go_simp;first | done | rfl);try simp only [zq])
   refine zj ?_
   go_wp2_with (first | (go_at_call_of 150 (Value.int IntKind.u64 (Na:Int));(with_reducible refine (hca _).mono ?_);rintro e w' ⟨rfl,rfl⟩) | (go_at_call 150;(with_reducible refine (hcb _).mono ?_);rintro e w' ⟨rfl,rfl⟩))
   refine plP [(0,0),(1,0),(2,0),(3,0),(4,0),(5,0),(6,0),(7,0),(8,0),(9,0)] [] (by kernel_rfl) (fun _ _ d _ _ h=>by cases d <;> exact h) ?_
   iterate 10 (apply rdP rfl rfl;(intros;go_simp;first | done | rfl);try simp only [zq])
   refine zj ?_
   go_wp2_with (first | (go_at_call 162;(with_reducible refine (hpa _).mono ?_);rintro e w' ⟨rfl,rfl⟩) | (go_at_call 162;(with_reducible refine (hpb _).mono ?_);rintro e w' ⟨rfl,rfl⟩))
   go_ret
   exact ⟨rfl,by simp [go_sem]⟩
theorem zpA (A B:Int):(A - B).sign=if A.sign=B.sign then A.sign * zbO A.natAbs B.natAbs else if A.sign < B.sign then -1 else 1:=by
 have hp:∀ x:Int,0 < x→x.sign=1:=fun x h=>Int.sign_eq_one_of_pos h
 have hn:∀ x:Int,x < 0→x.sign = -1:=fun x h=>Int.sign_eq_neg_one_of_neg h
 have hz:(0:Int).sign=0:=rfl
 rcases Int.lt_trichotomy A 0 with a | a | a <;> rcases Int.lt_trichotomy B 0 with b | b | b
 ·rw [hn A a,hn B b,if_pos rfl]
  unfold zbO
  rcases Int.lt_trichotomy A B with c | c | c
  ·rw [hn _ (by omega),if_neg (by omega),if_pos (by omega)];rfl
  ·rw [c,Int.sub_self,if_neg (by omega),if_neg (by omega)];rfl
  ·rw [hp _ (by omega),if_pos (by omega)];rfl
 ·rw [hn A a,b,hz,hn _ (by omega)];rfl
 ·rw [hn A a,hp B b,hn _ (by omega)];rfl
 ·rw [hn B b,a,hz,hp _ (by omega)];rfl
 ·rw [a,b];rfl
 ·rw [hp B b,a,hz,hn _ (by omega)];rfl
 ·rw [hp A a,hn B b,hp _ (by omega)];rfl
 ·rw [hp A a,b,hz,hp _ (by omega)];rfl
 ·rw [hp A a,hp B b,if_pos rfl]
  unfold zbO
  rcases Int.lt_trichotomy A B with c | c | c
  ·rw [hn _ (by omega),if_pos (by omega)];rfl
  ·rw [c,Int.sub_self,if_neg (by omega),if_neg (by omega)];rfl
  ·rw [hp _ (by omega),if_neg (by omega),if_pos (by omega)];rfl
theorem zj6 (m:Int) (k:Nat):(m * (T k:Nat)).sign=m.sign:=by
 have h:((T k:Nat):Int).sign=1:=Int.sign_eq_one_of_pos (by have:=T_pos k;omega)
 rw [Int.sign_mul,h,Int.mul_one]
theorem zqZ (ma ea mb eb:Int):(sumI ma ea (-mb) eb).sign=if ma.sign=mb.sign then ma.sign * zbO (ma.natAbs * T (ea - min ea eb).toNat) (mb.natAbs * T (eb - min ea eb).toNat) else if ma.sign < mb.sign then -1 else 1:=by
 unfold sumI
 rw [Int.neg_mul,← Int.sub_eq_add_neg,zpA,zj6,zj6,Int.natAbs_mul,Int.natAbs_mul,Int.natAbs_natCast,Int.natAbs_natCast]
theorem zip (m:Int) : -1≤m.sign∧m.sign≤1:=by
 rcases Int.lt_trichotomy m 0 with a | a | a
 ·rw [Int.sign_eq_neg_one_of_neg a];omega
 ·rw [a];decide
 ·rw [Int.sign_eq_one_of_pos a];omega
theorem zq0 (x y:Nat) : -1≤zbO x y∧zbO x y≤1:=by unfold zbO;split <;> (try split) <;> omega
theorem zq1 (ma ea mb eb:Int) (w:World) (h1:Rt ma ea) (h2:Rt mb eb) :
  Tl prog 168 #[NV ma ea,NV mb eb] w (.int .i64 (sumI ma ea (-mb) eb).sign):=by
 obtain ⟨b1,b2,b3⟩:=zaE h1
 obtain ⟨b4,b5,b6⟩:=zaE h2
 have hma:I64 ma:=by unfold I64;omega
 have hmb:I64 mb:=by unfold I64;omega
 have r1:=zab h1
 have r2:=zab h2
 have hsa:=fun W=>zj5 ma ea W
 have hsb:=fun W=>zj5 mb eb W
 have s1:=zip ma
 have s2:=zip mb
 rw [zqZ]
 by_cases hs:ma.sign=mb.sign
 ·have hcs:=fun W=>zle ma ea mb eb (ea - min ea eb).toNat (eb - min ea eb).toNat W h1 h2 (by rw [← Int.sign_eq_zero_iff_zero,← Int.sign_eq_zero_iff_zero (a:=mb),hs]) (by omega)
  rw [if_pos hs]
  have s3:=zq0 (ma.natAbs * T (ea - min ea eb).toNat) (mb.natAbs * T (eb - min ea eb).toNat)
  generalize zbO (ma.natAbs * T (ea - min ea eb).toNat) (mb.natAbs * T (eb - min ea eb).toNat)=C at *
  rw [← hs] at hsb
  clear s2 hs h1 h2
  generalize ma.sign=sa at *
  have w1:IntKind.i64.wrap (sa * C)=sa * C:=by
   have h6:sa = -1∨sa=0∨sa=1:=by omega
   rcases h6 with h | h | h <;> rw [h] <;> exact zbJ (by omega) (by omega)
  have w2:wrap64 (sa * C)=sa * C:=by
   have h6:sa = -1∨sa=0∨sa=1:=by omega
   rcases h6 with h | h | h <;> rw [h] <;> exact IntWalk.wrap64_in _ (by omega)
  go_enter func168,ntmps168
  go_wp2_with (go_at_call 108;with_reducible refine aM (zaf _ _ _ (by assumption)) fun osr dr=>?_)
  refine plP [(0,0),(2,0),(1,1),(3,1),(4,0),(5,0)] [] (by kernel_rfl) (fun _ _ d _ _ h=>by cases d <;> exact h) ?_
  iterate 2 (apply rdP rfl rfl;(intros;go_simp;first | done | rfl);try simp only [zq])
  (refine zh rfl ?_ (fun K hK=>?_);rfl;go_simp;(go_at_call 193;with_reducible refine aM (hsa _) fun os1 d1=>?_);refine hK _ _ ?_ ?_;(simp [go_sem]))
  try simp only [zq]
  (refine zh rfl ?_ (fun K hK=>?_);rfl;go_simp;(go_at_call 193;with_reducible refine aM (hsb _) fun os2 d2=>?_);refine hK _ _ ?_ ?_;(simp [go_sem]))
  try simp only [zq]
  iterate 2 (apply rdP rfl rfl;(intros;go_simp;first | done | rfl);try simp only [zq])
  refine zj ?_
  go_wp2
  refine plP [(0,0),(2,0),(3,0),(1,1),(4,1),(5,0),(6,0)] [] (by kernel_rfl) (fun _ _ d _ _ h=>by cases d <;> exact h) ?_
  iterate 3 (apply rdP rfl rfl;(intros;go_simp;first | done | rfl);try simp only [zq])
  (refine zh rfl ?_ (fun K hK=>?_);rfl;go_simp;(go_at_call 193;with_reducible refine aM (hsa _) fun os1 d1=>?_);refine hK _ _ ?_ ?_;(simp [go_sem]))
  try simp only [zq]
  (refine zh rfl ?_ (fun K hK=>?_);rfl;go_simp;(go_at_call 194;with_reducible refine aM (hcs _) fun os2 d2=>?_);refine hK _ _ ?_ ?_;(simp [go_sem]))
  try simp only [zq]
  iterate 2 (apply rdP rfl rfl;(intros;go_simp;first | done | rfl);try simp only [zq])
  refine zj ?_
  go_wp2
  go_ret
  exact ⟨rfl,by simp [go_sem]⟩
 ·rw [if_neg hs]
  have e1:(ma.sign == mb.sign)=false:=by simp [hs]
  generalize ma.sign=sa at *
  generalize mb.sign=sb at *
  by_cases hl:sa < sb
  rw [if_pos hl]
  rotate_left
  rw [if_neg hl]
  all_goals
   clear h1 h2 hs
   go_enter func168,ntmps168
   go_wp2_with (go_at_call 108;with_reducible refine aM (zaf _ _ _ (by assumption)) fun osr dr=>?_)
   refine plP [(0,0),(2,0),(1,1),(3,1),(4,0),(5,0)] [] (by kernel_rfl) (fun _ _ d _ _ h=>by cases d <;> exact h) ?_
   iterate 2 (apply rdP rfl rfl;(intros;go_simp;first | done | rfl);try simp only [zq])
   (refine zh rfl ?_ (fun K hK=>?_);rfl;go_simp;(go_at_call 193;with_reducible refine aM (hsa _) fun os1 d1=>?_);refine hK _ _ ?_ ?_;(simp [go_sem]))
   try simp only [zq]
   (refine zh rfl ?_ (fun K hK=>?_);rfl;go_simp;(go_at_call 193;with_reducible refine aM (hsb _) fun os2 d2=>?_);refine hK _ _ ?_ ?_;(simp [go_sem]))
   try simp only [zq]
   iterate 2 (apply rdP rfl rfl;(intros;go_simp;first | done | rfl);try simp only [zq])
   refine zj ?_
   go_wp2
   go_ret
   exact ⟨rfl,by simp [go_sem]⟩
theorem zq2 (ma ea mb eb:Int) (w:World) (hma:I64 ma) (hmb:I64 mb) :
  Tl prog 168 #[NV ma ea,NV mb eb] w (.int .i64 (zbN ma ea mb eb)):=by
 unfold zbN
 by_cases h1:Rt ma ea
 ·have r1:=zab h1
  by_cases h2:Rt mb eb
  ·rw [if_pos ⟨h1,h2⟩];exact zq1 ma ea mb eb w h1 h2
  ·have r2:=zbi h2
   rw [if_neg (fun h=>h2 h.2)]
   clear h1 h2
   go_enter func168,ntmps168
   go_wp2_with (go_at_call 108;with_reducible refine aM (zaf _ _ _ (by assumption)) fun osr dr=>?_)
   go_ret
   exact ⟨rfl,by simp [go_sem]⟩
 ·have r1:=zbi h1
  rw [if_neg (fun h=>h1 h.1)]
  clear h1
  go_enter func168,ntmps168
  go_wp2_with (go_at_call 108;with_reducible refine aM (zaf _ _ _ (by assumption)) fun osr dr=>?_)
  go_ret
  exact ⟨rfl,by simp [go_sem]⟩
theorem zpB (ma ea mb eb:Int):sumI mb eb (-ma) ea = - sumI ma ea (-mb) eb:=by
 unfold sumI
 rw [Int.min_comm eb ea,Int.neg_mul,Int.neg_mul];omega
theorem zpC (ma ea mb eb:Int):zbN mb eb ma ea = - zbN ma ea mb eb:=by
 unfold zbN
 by_cases h:Rt ma ea∧Rt mb eb
 ·rw [if_pos h,if_pos h.symm,zpB,Int.sign_neg]
 ·rw [if_neg h,if_neg (fun h'=>h h'.symm)];rfl
theorem zrB (ma ea mb eb:Int) : -1≤zbN ma ea mb eb∧zbN ma ea mb eb≤1:=by
 unfold zbN;split
 ·exact zip _
 ·omega
end Go.Proofs.YtkoidgbgoccgmaaGreatDoor
namespace Go.Proofs.YtkoidgbgoccgmaaGreatDoor
open Tryz
open NM
theorem zdT (a b:Nat):((T (a+b):Nat):Int)=(T a:Nat) * (T b:Nat):=by rw [T_add,Int.natCast_mul]
theorem zrC {ma ea mb eb:Int} (h1 : -100≤ea) (h2 : -100≤eb):sumI ma ea mb eb * (T (min ea eb+100).toNat:Nat)=sc ma ea+sc mb eb:=by
 unfold sumI sc
 rw [Int.add_mul,Int.mul_assoc,Int.mul_assoc,← zdT,← zdT]
 congr 3
 ·congr 2;omega
 ·congr 2;omega
theorem zrD (m e:Int):sc (-m) e = - sc m e:=by unfold sc;rw [Int.neg_mul]
theorem zrE {ma ea mb eb:Int} (h1:Rt ma ea) (h2:Rt mb eb):zbN ma ea mb eb=(sc ma ea - sc mb eb).sign:=by
 obtain ⟨_,b2,b3⟩:=zaE h1
 obtain ⟨_,b5,b6⟩:=zaE h2
 unfold zbN
 rw [if_pos ⟨h1,h2⟩,← zj6 _ (min ea eb+100).toNat,zrC (by omega) (by omega),zrD,Int.sub_eq_add_neg]
theorem zq3 {x:Int} : x.sign≤0↔x≤0:=by
 rcases Int.lt_trichotomy x 0 with h | h | h
 ·rw [Int.sign_eq_neg_one_of_neg h];omega
 ·subst h;simp
 ·rw [Int.sign_eq_one_of_pos h];omega
theorem zj7 {ma ea mb eb:Int} (h1:Rt ma ea) (h2:Rt mb eb):zbN ma ea mb eb≤0↔sc ma ea≤sc mb eb:=by
 rw [zrE h1 h2,zq3];omega
end Go.Proofs.YtkoidgbgoccgmaaGreatDoor
namespace Go.Proofs.YtkoidgbgoccgmaaGreatDoor
open Tryz
open Go.RowKit NM
def tl (t:ByteArray):List UInt8:=t.data.toList
theorem znQ (a b:ByteArray):tl (a++b)=tl a++tl b:=by unfold tl;simp
theorem ziq (a:ByteArray):(tl a).length=a.size:=rfl
theorem zqt {a:ByteArray} {l:List UInt8} (h:tl a=l):a=⟨l.toArray⟩:=zps h
def upB (b:UInt8):UInt8:=if 97≤b∧b≤122 then b - 32 else b
def zac (s:ByteArray):ByteArray:=⟨((tl s).map upB).toArray⟩
theorem zir (s:ByteArray):tl (zac s)=(tl s).map upB:=by unfold zac;rfl
theorem zcG (s:ByteArray):(zac s).size=s.size:=by rw [← ziq,zir,List.length_map,ziq]
def zeV (a b:ByteArray):Int:=Lib.compareBytes (tl (zac a)) (tl (zac b))
def sgI (a b:Int):Int:=if a < b then -1 else if b < a then 1 else 0
def sgB (a b:Bool):Int:=if a=b then 0 else if b then -1 else 1
def Val.only (k:Int):Val:=⟨k,0,0,⟨#[]⟩,false,0⟩
def za3 (v w:Val):Val:=if v.kind≠0 then v else if w.kind=1∨w.kind=2∨w.kind=3 then Val.only w.kind else v
def zdo (a b:Val):Int :=
 if a.kind≠b.kind then (if a.kind < b.kind then -1 else 1)
 else if a.kind=1 then zbN a.mant a.exp b.mant b.exp
 else if a.kind=2 then zeV a.text b.text
 else if a.kind=3 then sgB a.truth b.truth
 else if a.kind=4 then sgI a.fault b.fault
 else 0
def zaR (a b:Val):Int:=zdo (za3 a b) (za3 b a)
def zv (a b:Val):Int:=if a.kind=0∧b.kind=0 then 0 else if a.kind=0 then 1 else if b.kind=0 then -1 else zaR a b
def zbl (l m:Bool):Int:=if l then -1 else if m then 1 else 0
theorem zlW:∀ a:List UInt8,Lib.compareBytes a a=0
 | []=>rfl
 | a::l=>by
  unfold Lib.compareBytes
  rw [if_neg (UInt8.lt_irrefl a),if_neg (UInt8.lt_irrefl a)]
  exact zlW l
theorem zlX:∀ a b:List UInt8,Lib.compareBytes b a = - Lib.compareBytes a b
 | [],[]=>rfl
 | [],_::_=>rfl
 | _::_,[]=>rfl
 | a::l,b::m=>by
  unfold Lib.compareBytes
  by_cases h1:a < b
  ·rw [if_pos h1,if_neg (UInt8.lt_asymm h1),if_pos h1];rfl
  ·by_cases h2:b < a
   ·rw [if_pos h2,if_neg h1,if_pos h2]
   ·rw [if_neg h2,if_neg h1,if_neg h1,if_neg h2];exact zlX l m
theorem zis:∀ a b:List UInt8,Lib.compareBytes a b = -1∨Lib.compareBytes a b=0∨Lib.compareBytes a b=1
 | [],[]=>Or.inr (Or.inl rfl)
 | [],_::_=>Or.inl rfl
 | _::_,[]=>Or.inr (Or.inr rfl)
 | a::l,b::m=>by
  unfold Lib.compareBytes
  split
  ·exact Or.inl rfl
  ·split
   ·exact Or.inr (Or.inr rfl)
   ·exact zis l m
theorem zlY:∀ {a b:List UInt8},Lib.compareBytes a b=0→a=b
 | [],[],_=>rfl
 | [],_::_,h=>by cases h
 | _::_,[],h=>by cases h
 | a::l,b::m,h=>by
  unfold Lib.compareBytes at h
  by_cases h1:a < b
  ·rw [if_pos h1] at h;cases h
  ·rw [if_neg h1] at h
   by_cases h2:b < a
   ·rw [if_pos h2] at h;cases h
   ·rw [if_neg h2] at h
    have:a=b:=by
     rw [UInt8.lt_iff_toNat_lt] at h1 h2
     exact UInt8.toNat_inj.1 (by omega)
    rw [this,zlY h]
theorem zj8:∀ {a b c:List UInt8},Lib.compareBytes a b≤0→Lib.compareBytes b c≤0→Lib.compareBytes a c≤0
 | [],_,[],_,_=>by unfold Lib.compareBytes;omega
 | [],_,_::_,_,_=>by unfold Lib.compareBytes;omega
 | _::_,[],_,h,_=>by unfold Lib.compareBytes at h;omega
 | _::_,_::_,[],_,h=>by unfold Lib.compareBytes at h;omega
 | a::l,b::m,c::n,h1,h2=>by
  unfold Lib.compareBytes at h1 h2 ⊢
  have hab:a≤b:=by
   rw [UInt8.le_iff_toNat_le]
   by_cases h:b < a
   ·rw [if_neg (UInt8.lt_asymm h),if_pos h] at h1;omega
   ·rw [UInt8.lt_iff_toNat_lt] at h;omega
  have hbc:b≤c:=by
   rw [UInt8.le_iff_toNat_le]
   by_cases h:c < b
   ·rw [if_neg (UInt8.lt_asymm h),if_pos h] at h2;omega
   ·rw [UInt8.lt_iff_toNat_lt] at h;omega
  rw [UInt8.le_iff_toNat_le] at hab hbc
  by_cases hac:a < c
  ·rw [if_pos hac];omega
  ·rw [if_neg hac,if_neg (by rw [UInt8.lt_iff_toNat_lt];omega)]
   rw [UInt8.lt_iff_toNat_lt] at hac
   have e1:¬ a < b:=by rw [UInt8.lt_iff_toNat_lt];omega
   have e2:¬ b < a:=by rw [UInt8.lt_iff_toNat_lt];omega
   have e3:¬ b < c:=by rw [UInt8.lt_iff_toNat_lt];omega
   have e4:¬ c < b:=by rw [UInt8.lt_iff_toNat_lt];omega
   rw [if_neg e1,if_neg e2] at h1
   rw [if_neg e3,if_neg e4] at h2
   exact zj8 h1 h2
theorem zlZ:∀ a b:List UInt8,Op.bytesLess a b=decide (Lib.compareBytes a b = -1)
 | [],[]=>rfl
 | [],_::_=>rfl
 | _::_,[]=>rfl
 | a::l,b::m=>by
  unfold Op.bytesLess Lib.compareBytes
  by_cases h1:a < b
  ·rw [if_pos h1,decide_eq_true h1];rfl
  ·rw [if_neg h1,decide_eq_false h1,Bool.false_or]
   by_cases h2:b < a
   ·rw [if_pos h2]
    have:(a == b)=false:=by
     rw [beq_eq_false_iff_ne];rintro rfl;exact UInt8.lt_irrefl _ h2
    rw [this];rfl
   ·rw [if_neg h2]
    have:(a == b)=true:=by
     rw [beq_iff_eq]
     rw [UInt8.lt_iff_toNat_lt] at h1 h2
     exact UInt8.toNat_inj.1 (by omega)
    rw [this,Bool.true_and];exact zlZ l m
theorem zit (a b:List UInt8):zbl (Op.bytesLess a b) (!(Op.bytesLess a b || a == b))=Lib.compareBytes a b:=by
 rw [zlZ]
 rcases zis a b with h | h | h
 ·rw [h];rfl
 ·have:(a == b)=true:=by rw [beq_iff_eq];exact zlY h
  rw [h,this];rfl
 ·have:(a == b)=false:=by rw [beq_eq_false_iff_ne];rintro rfl;rw [zlW] at h;cases h
  rw [h,this];rfl
theorem zf9 (a b:Bool):zbl (!a && b) (a && !b)=sgB a b:=by cases a <;> cases b <;> rfl
theorem zpD (a b:Int):zbl (decide (a < b)) (decide (b < a))=sgI a b:=by
 unfold zbl sgI
 by_cases h1:a < b
 ·simp [h1]
 ·by_cases h2:b < a <;> simp [h1,h2]
def Val.sane (x:Val):Prop:=0≤x.kind∧x.kind≤4∧(x.kind=0→x.fault=0)
def Val.tidy (x:Val):Prop:=x.sane∧(x.kind=0→x=Val.only 0)
theorem zga {a b:Val} (h:a.kind=b.kind):zaR a b=zdo a b:=by
 unfold zaR
 have h1:∀ x y:Val,x.kind=y.kind→za3 x y=x:=fun x y e=>by
  unfold za3
  by_cases h0:x.kind=0
  ·rw [if_neg (show ¬ (x.kind≠0) from fun h=>h h0),if_neg (show ¬ (y.kind=1∨y.kind=2∨y.kind=3) by omega)]
  ·rw [if_pos h0]
 rw [h1 a b h,h1 b a h.symm]
theorem zeW {x:Val} (h:valRight x=true):x.tidy∧(x.kind=1→zK x.mant x.exp=true)∧(x.kind=2→x.text.size≤255)∧(x.kind=4→1≤x.fault∧x.fault≤9):=by
 unfold valRight at h
 by_cases h0:x.kind=0
 ·rw [if_pos h0] at h
  have:=of_decide_eq_true h
  subst this
  exact ⟨⟨⟨by decide,by decide,fun _=>rfl⟩,fun _=>rfl⟩,fun h=>absurd h (by decide),fun h=>absurd h (by decide),fun h=>absurd h (by decide)⟩
 ·rw [if_neg h0] at h
  by_cases h1:x.kind=1
  ·rw [if_pos h1,Bool.and_eq_true] at h
   exact ⟨⟨⟨by omega,by omega,fun h=>by omega⟩,fun h=>by omega⟩,fun _=>h.1,fun h=>by omega,fun h=>by omega⟩
  ·rw [if_neg h1] at h
   by_cases h2:x.kind=2
   ·rw [if_pos h2] at h
    have:=of_decide_eq_true h
    refine ⟨⟨⟨by omega,by omega,fun h=>by omega⟩,fun h=>by omega⟩,fun h=>by omega,fun _=>?_,fun h=>by omega⟩
    unfold zcO at this
    by_cases h5:255 < x.text.size
    ·rw [if_pos h5] at this;rw [this] at h2;cases h2
    ·omega
   ·rw [if_neg h2] at h
    by_cases h3:x.kind=3
    ·exact ⟨⟨⟨by omega,by omega,fun h=>by omega⟩,fun h=>by omega⟩,fun h=>by omega,fun h=>by omega,fun h=>by omega⟩
    ·rw [if_neg h3] at h
     by_cases h4:x.kind=4
     ·rw [if_pos h4] at h
      have:=of_decide_eq_true h
      refine ⟨⟨⟨by omega,by omega,fun h=>by omega⟩,fun h=>by omega⟩,fun h=>by omega,fun h=>by omega,fun _=>?_⟩
      have hf:x.fault=zbZ x.fault:=congrArg Val.fault this
      unfold zbZ at hf
      split at hf <;> omega
     ·rw [if_neg h4] at h;cases h
structure St where
 st:Nat
 neg:Bool
 npow:Bool
 ds:List Nat
 beh:Nat
 pow:Nat
def isD (c:Nat):Bool:=decide (48≤c∧c≤57)
def zfp (s:St) (c:Nat):St :=
 if s.st≤2 then { s with st:=2,ds:=s.ds++[c - 48] }
 else if s.st≤4 then { s with st:=4,beh:=s.beh+1,ds:=s.ds++[c - 48] }
 else { s with st:=7,pow:=if s.pow < 100000 then s.pow * 10+(c - 48) else s.pow }
def zB (s:St) (c:Nat):Option St :=
 if isD c=true then some (zfp s c)
 else if c=45∧s.st=0 then some { s with neg:=true,st:=1 }
 else if c=46∧s.st≤2 then some { s with st:=3 }
 else if (c=101∨c=69)∧(s.st=2∨s.st=4) then some { s with st:=5 }
 else if (c=45∨c=43)∧s.st=5 then some { s with npow:=decide (c=45),st:=6 }
 else none
def zaS:List Nat→St→Option St
 | [],s=>some s
 | c::l,s=>(zB s c).bind (zaS l)
def zbg (s:St):Option (Int×Int) :=
 if s.st=2∨s.st=4∨s.st=7 then rnd s.neg (val s.ds) false ((if s.npow then -(s.pow:Int) else s.pow) - s.beh) else none
def st0:St:=⟨0,false,false,[],0,0⟩
def zgb (l:List Nat):Option (Int×Int):=(zaS l st0).bind zbg
def zhl (c:Nat) (t:List Nat):Option Int :=
  if c≠101∧c≠69 then none else
  let ng:=t.head? = some 45
  let t':=if t.head? = some 43∨t.head? = some 45 then t.tail else t
  if t'=[]∨¬ (∀ c∈t',isD c=true) then none else
  let n:Nat:=t'.foldl (fun n c=>min 1000 (10 * n+(c - 48))) 0
  some (if ng then -(n:Int) else n)
def zcT:List Nat→Option Int
 | []=>some 0
 | c::t=>zhl c t
theorem zdF (c:Nat) (t:List Nat):zcT (c::t)=zhl c t:=rfl
def zj9 (l:List Nat):Option (Int×Int) :=
 let ng:=decide (l.head? = some 45)
 let l1:=if l.head? = some 45 then l.tail else l
 let A:=l1.takeWhile isD
 let l2:=l1.dropWhile isD
 let B:=if l2.head? = some 46 then l2.tail.takeWhile isD else []
 let l3:=if l2.head? = some 46 then l2.tail.dropWhile isD else l2
 if l2.head? = some 46∧B=[] then none else
 match zcT l3 with
 | none=>none
 | some e=>if A.length+B.length=0 then none else rnd ng (val ((A++B).map (· - 48))) false (e - B.length)
theorem zcM (a b:List Nat):∀ s,zaS (a++b) s=(zaS a s).bind (zaS b):=by
 induction a with
 | nil=>intro s;rfl
 | cons c l ih =>
  intro s
  show (zB s c).bind (zaS (l++b))=((zB s c).bind (zaS l)).bind (zaS b)
  cases zB s c with
  | none=>rfl
  | some s'=>exact ih s'
theorem znR (a:List Nat) (h:∀ c∈a,isD c=true):∀ s:St,s.st≤2→zaS a s=some { s with st:=if a=[] then s.st else 2,ds:=s.ds++a.map (· - 48) }:=by
 induction a with
 | nil=>intro s hs;simp [zaS]
 | cons c l ih =>
  intro s hs
  have hc:=h c (List.mem_cons_self ..)
  show (zB s c).bind (zaS l)=_
  unfold zB
  rw [if_pos hc]
  unfold zfp
  rw [if_pos hs,Option.bind_some,ih (fun c hc=>h c (List.mem_cons_of_mem _ hc)) _ (Nat.le_refl 2)]
  simp
theorem zpE (a:List Nat) (h:∀ c∈a,isD c=true):∀ s:St,s.st=3∨s.st=4→zaS a s=some { s with st:=if a=[] then s.st else 4,ds:=s.ds++a.map (· - 48),beh:=s.beh+a.length }:=by
 induction a with
 | nil=>intro s hs;simp [zaS]
 | cons c l ih =>
  intro s hs
  have hc:=h c (List.mem_cons_self ..)
  show (zB s c).bind (zaS l)=_
  unfold zB
  rw [if_pos hc]
  unfold zfp
  rw [if_neg (by omega),if_pos (by omega),Option.bind_some,ih (fun c hc=>h c (List.mem_cons_of_mem _ hc)) _ (Or.inr rfl)]
  simp;omega
def zfq (p:Nat) (l:List Nat):Nat:=l.foldl (fun p c=>if p < 100000 then p * 10+(c - 48) else p) p
theorem zq4 (a:List Nat) (h:∀ c∈a,isD c=true):∀ s:St,5≤s.st→zaS a s=some { s with st:=if a=[] then s.st else 7,pow:=zfq s.pow a }:=by
 induction a with
 | nil=>intro s hs;simp [zaS,zfq]
 | cons c l ih =>
  intro s hs
  have hc:=h c (List.mem_cons_self ..)
  show (zB s c).bind (zaS l)=_
  unfold zB
  rw [if_pos hc]
  unfold zfp
  rw [if_neg (by omega),if_neg (by omega),Option.bind_some,ih (fun c hc=>h c (List.mem_cons_of_mem _ hc)) _ (show 5≤7 by omega)]
  simp [zfq]
theorem zl0 (l:List Nat):∀ p n:Nat,(p=n∧n < 1000∨1000≤p∧n=1000)→(zfq p l=l.foldl (fun n c=>min 1000 (10 * n+(c - 48))) n∧l.foldl (fun n c=>min 1000 (10 * n+(c - 48))) n < 1000∨1000≤zfq p l∧l.foldl (fun n c=>min 1000 (10 * n+(c - 48))) n=1000):=by
 induction l with
 | nil=>intro p n h;exact h
 | cons c l ih =>
  intro p n h
  show (zfq (if p < 100000 then p * 10+(c - 48) else p) l=_∧_∨_)
  apply ih
  show _=min 1000 (10 * n+(c - 48))∧min 1000 (10 * n+(c - 48)) < 1000∨_∧min 1000 (10 * n+(c - 48))=1000
  split <;> omega
theorem zka {neg:Bool} {N:Nat} {e:Int} (h:nd N+e ≤ -100):rnd neg N false e=some (0,0):=by
 apply rnd_of_zero
 unfold n2
 apply cutN_far
 have h1:=n1_le N false
 have h2:nd (n1 N false)≤16:=(nd_le_iff _ _).2 (Nat.lt_of_le_of_lt h1 (T_lt (by omega)))
 omega
theorem zkb {neg ng:Bool} {N b p n:Nat} (hN:nd N≤300) (hb:b≤300) (h:p=n∧n < 1000∨1000≤p∧n=1000):rnd neg N false ((if ng then -(p:Int) else p) - b)=rnd neg N false ((if ng then -(n:Int) else n) - b):=by
 rcases h with ⟨rfl,_⟩ | ⟨h1,rfl⟩
 ·rfl
 ·cases ng with
  | true =>
   simp only [if_true]
   rw [zka (by omega),zka (by omega)]
  | false =>
   simp only [Bool.false_eq_true,if_false]
   by_cases h0:N=0
   ·rw [h0,rnd_nought,rnd_nought]
   ·rw [rnd_far_up h0 (by omega),rnd_far_up h0 (by omega)]
theorem zcY (l:List Nat):l=l.takeWhile isD++l.dropWhile isD:=(List.takeWhile_append_dropWhile).symm
theorem zd9 (l:List Nat):∀ c∈l.takeWhile isD,isD c=true:=by
 intro c hc
 have:=List.all_takeWhile (l:=l) (p:=isD)
 exact List.all_eq_true.1 this c hc
theorem zkc {l:List Nat} {c:Nat} {t:List Nat} (h:l.dropWhile isD=c::t):isD c=false:=by
 have:=List.head?_dropWhile_not isD l
 rw [h] at this
 simpa using this
theorem zhD {s:St} {t:List Nat} (hs:s.st=5∨s.st=6) (hh:s.st=5→t.head? ≠ some 43∧t.head? ≠ some 45) :
  (zaS t s).bind zbg=if t=[]∨¬ (∀ c∈t,isD c=true) then none else rnd s.neg (val s.ds) false ((if s.npow then -(zfq s.pow t:Int) else zfq s.pow t) - s.beh):=by
 have h1:=zcY t
 have h2:=zd9 t
 have h3:=fun c u=>zkc (l:=t) (c:=c) (t:=u)
 generalize t.takeWhile isD=K at *
 generalize t.dropWhile isD=l4 at *
 subst h1
 rw [zcM,zq4 K h2 s (by omega),Option.bind_some]
 cases l4 with
 | nil =>
  rw [List.append_nil]
  by_cases hK:K=[]
  ·subst hK
   rw [if_pos (Or.inl rfl)]
   show zbg _=none
   unfold zbg
   rw [if_neg]
   simp;omega
  ·have hcond:¬ (K=[]∨¬ (∀ c∈K,isD c=true)):=fun hx=>hx.elim hK (fun h=>h h2)
   rw [if_neg hcond]
   show zbg _=_
   unfold zbg
   rw [if_pos (by simp [hK])]
 | cons c u =>
  have hc:=h3 c u rfl
  rw [if_pos (Or.inr (fun h=>by rw [h c (by simp)] at hc;cases hc))]
  have:zB { s with st:=if K=[] then s.st else 7,pow:=zfq s.pow K } c=none:=by
   unfold zB
   rw [if_neg (by rw [hc];simp)]
   by_cases hK:K=[]
   ·subst hK
    simp only [if_true]
    rw [if_neg (by omega),if_neg (by omega),if_neg (by omega),if_neg]
    rintro ⟨h,h5⟩
    have:=hh h5
    simp at this
    omega
   ·simp only [if_neg hK]
    rw [if_neg (by omega),if_neg (by omega),if_neg (by omega),if_neg (by omega)]
  show ((zB _ c).bind (zaS u)).bind zbg=none
  rw [this];rfl
theorem zkd {s:St} {l:List Nat} (hs:s.st=2∧l.head? ≠ some 46∨s.st=4) (hp:s.pow=0) (hn:s.npow=false) (hd:∀ c t,l=c::t→isD c=false) (h1:nd (val s.ds)≤300) (h2:s.beh≤300) :
  (zaS l s).bind zbg=match zcT l with
   | none=>none
   | some e=>rnd s.neg (val s.ds) false (e - s.beh):=by
 cases l with
 | nil =>
  show zbg s=rnd s.neg (val s.ds) false (0 - s.beh)
  unfold zbg
  rw [if_pos (by omega),hp,hn];rfl
 | cons c t =>
  have hc:=hd c t rfl
  by_cases he:c≠101∧c≠69
  ·have:zcT (c::t)=none:=by rw [zdF];unfold zhl;rw [if_pos he]
   rw [this]
   have:zB s c=none:=by
    unfold zB
    simp at hs
    rw [if_neg (by rw [hc];simp),if_neg (by omega),if_neg (by omega),if_neg (by omega),if_neg (by omega)]
   show ((zB s c).bind (zaS t)).bind zbg=none
   rw [this];rfl
  ·have ht:zB s c=some { s with st:=5 }:=by
    unfold zB
    rw [if_neg (by rw [hc];simp),if_neg (by omega),if_neg (by omega),if_pos (by omega)]
   show ((zB s c).bind (zaS t)).bind zbg=_
   rw [ht,Option.bind_some]
   rw [zdF]
   unfold zhl
   rw [if_neg he]
   simp only
   by_cases hsg:t.head? = some 43∨t.head? = some 45
   ·rw [if_pos hsg]
    obtain ⟨c',u,rfl⟩:∃ c' u,t=c'::u:=by
     cases t with
     | nil=>simp at hsg
     | cons c' u=>exact ⟨c',u,rfl⟩
    simp only [List.head?_cons,Option.some.injEq,List.tail_cons] at hsg ⊢
    have ht':zB { s with st:=5 } c'=some { s with npow:=decide (c'=45),st:=6 }:=by
     rcases hsg with rfl | rfl <;> simp [zB,isD]
    show ((zB { s with st:=5 } c').bind (zaS u)).bind zbg=_
    rw [ht',Option.bind_some,zhD (Or.inr rfl) (fun h=>absurd h (by simp))]
    by_cases hb:u=[]∨¬ (∀ c∈u,isD c=true)
    ·rw [if_pos hb,if_pos hb]
    ·rw [if_neg hb,if_neg hb]
     simp only [hp]
     have hpw:=zl0 u 0 0 (Or.inl ⟨rfl,by omega⟩)
     have:=zkb (neg:=s.neg) (ng:=decide (c'=45)) h1 h2 hpw
     rw [this]
     by_cases h45:c'=45 <;> simp [h45]
   ·rw [if_neg hsg,zhD (Or.inl rfl) (fun _=>⟨fun h=>hsg (Or.inl h),fun h=>hsg (Or.inr h)⟩)]
    by_cases hb:t=[]∨¬ (∀ c∈t,isD c=true)
    ·rw [if_pos hb,if_pos hb]
    ·rw [if_neg hb,if_neg hb]
     simp only [hp,hn]
     have hpw:=zl0 t 0 0 (Or.inl ⟨rfl,by omega⟩)
     have:=zkb (neg:=s.neg) (ng:=false) h1 h2 hpw
     rw [this,if_neg (fun h=>hsg (Or.inr h))]
     simp
def zdx (ng:Bool) (l1:List Nat):Option (Int×Int) :=
 let A:=l1.takeWhile isD
 let l2:=l1.dropWhile isD
 let B:=if l2.head? = some 46 then l2.tail.takeWhile isD else []
 let l3:=if l2.head? = some 46 then l2.tail.dropWhile isD else l2
 if l2.head? = some 46∧B=[] then none else
 match zcT l3 with
 | none=>none
 | some e=>if A.length+B.length=0 then none else rnd ng (val ((A++B).map (· - 48))) false (e - B.length)
theorem zhm (l:List Nat):zj9 l=zdx (decide (l.head? = some 45)) (if l.head? = some 45 then l.tail else l):=rfl
theorem zl1 (a:List Nat) (h:∀ c∈a,isD c=true) (hl:a.length≤300):nd (val (a.map (· - 48)))≤300:=by
 have h1:AllD (a.map (· - 48)):=by
  intro d hd
  obtain ⟨c,hc,rfl⟩:=List.mem_map.1 hd
  have:=h c hc
  unfold isD at this
  have:=of_decide_eq_true this
  omega
 have h2:=val_lt h1
 rw [List.length_map] at h2
 have:=(nd_le_iff _ _).2 h2
 omega
theorem zl2 {s:St} {l:List Nat} (hs:s.st=0∧l.head? ≠ some 45∨s.st=1) (hds:s.ds=[]) (hbh:s.beh=0) (hp:s.pow=0) (hn:s.npow=false) (hl:l.length≤300) :
  (zaS l s).bind zbg=zdx s.neg l:=by
 unfold zdx
 have hst:s.st≤1:=by rcases hs with ⟨h,_⟩ | h <;> omega
 have h1:=zcY l
 have h2:=zd9 l
 have h3:=fun c u=>zkc (l:=l) (c:=c) (t:=u)
 generalize l.takeWhile isD=A at *
 generalize l.dropWhile isD=l2 at *
 subst h1
 simp only
 rw [zcM,znR A h2 s (by omega),Option.bind_some,hds,List.nil_append]
 cases l2 with
 | nil =>
  simp only [List.head?_nil,if_neg (show ¬ (none:Option Nat)=some 46 by simp),false_and,if_false,reduceCtorEq]
  show zbg _=if A.length+0=0 then none else _
  by_cases hA:A=[]
  ·subst hA
   show zbg _=none
   unfold zbg
   exact if_neg (show ¬ (s.st=2∨s.st=4∨s.st=7) by omega)
  ·have hA0:¬ A.length+0=0:=by cases A;exact absurd rfl hA;simp
   rw [if_neg hA0]
   unfold zbg
   rw [if_pos (by simp [hA])]
   simp [hp,hn,hbh]
 | cons c t =>
  have hc:=h3 c t rfl
  simp only [List.head?_cons,Option.some.injEq,List.tail_cons]
  by_cases h46:c=46
  ·subst h46
   simp only [if_true,true_and]
   have ht:zB { s with st:=if A=[] then s.st else 2,ds:=A.map (· - 48) } 46=some { s with st:=3,ds:=A.map (· - 48) }:=by
    unfold zB
    rw [if_neg (by unfold isD;simp),if_neg (by omega),if_pos]
    by_cases hA:A=[] <;> simp [hA];omega
   show ((zB _ 46).bind (zaS t)).bind zbg=_
   rw [ht,Option.bind_some]
   have k1:=zcY t
   have k2:=zd9 t
   have k3:=fun c u=>zkc (l:=t) (c:=c) (t:=u)
   generalize t.takeWhile isD=B at *
   generalize t.dropWhile isD=l3 at *
   subst k1
   rw [zcM,zpE B k2 _ (Or.inl rfl),Option.bind_some]
   by_cases hB:B=[]
   ·subst hB
    rw [if_pos rfl]
    simp only [if_true]
    cases l3 with
    | nil=>show zbg _=none;unfold zbg;rw [if_neg (by simp)]
    | cons c u =>
     have hcd:=k3 c u rfl
     have:zB { s with st:=3,ds:=A.map (· - 48)++[].map (· - 48),beh:=s.beh+([]:List Nat).length } c=none:=by
      unfold zB
      rw [if_neg (by rw [hcd];simp),if_neg (by simp),if_neg (by simp),if_neg (by simp),if_neg (by simp)]
     show ((zB _ c).bind (zaS u)).bind zbg=none
     rw [this];rfl
   ·rw [if_neg hB]
    simp only [if_neg hB]
    have hlen:A.length+(B.length+l3.length)+1≤300:=by simp at hl;omega
    rw [zkd (s:={ s with st:=4,ds:=A.map (· - 48)++B.map (· - 48),beh:=s.beh+B.length }) (Or.inr rfl) hp hn k3 (by show nd (val (A.map (· - 48)++B.map (· - 48)))≤300;rw [← List.map_append];exact zl1 _ (fun c hc=>(List.mem_append.1 hc).elim (h2 c) (k2 c)) (by simp;omega)) (by simp [hbh];omega)]
    have hB0:¬ A.length+B.length=0:=by cases B;exact absurd rfl hB;simp
    simp only [if_neg hB0,hbh,Nat.zero_add,List.map_append]
  ·simp only [if_neg h46]
   rw [if_neg (show ¬ (c=46∧_) from fun h=>h46 h.1)]
   by_cases hA:A=[]
   ·subst hA
    have:zB { s with st:=if ([]:List Nat)=[] then s.st else 2,ds:=[].map (· - 48) } c=none:=by
     unfold zB
     simp only [if_true]
     simp at hs
     rw [if_neg (by rw [hc];simp),if_neg (by omega),if_neg (by omega),if_neg (by omega),if_neg (by omega)]
    show ((zB _ c).bind (zaS t)).bind zbg=_
    rw [this]
    cases zcT (c::t) <;> rfl
   ·simp only [if_neg hA]
    have hlen:A.length+t.length+1≤300:=by simp at hl;omega
    rw [zkd (s:={ s with st:=2,ds:=A.map (· - 48) }) (Or.inl ⟨rfl,by simpa using h46⟩) hp hn (fun c' u hu=>by cases hu;exact hc) (zl1 A h2 (by omega)) (by simp [hbh])]
    have hA0:¬ A.length+0=0:=by cases A;exact absurd rfl hA;simp
    simp only [List.length_nil,if_neg hA0,hbh,List.append_nil]
theorem znS (l:List Nat) (hl:l.length≤300):zgb l=zj9 l:=by
 rw [zhm]
 unfold zgb
 by_cases h:l.head? = some 45
 ·cases l with
  | nil=>simp at h
  | cons c t =>
   simp only [List.head?_cons,Option.some.injEq] at h
   subst h
   simp only [List.head?_cons,if_true,List.tail_cons,decide_true]
   show ((zB st0 45).bind (zaS t)).bind zbg=_
   have:zB st0 45=some { st0 with neg:=true,st:=1 }:=by simp [zB,isD,st0]
   rw [this,Option.bind_some]
   exact zl2 (Or.inr rfl) rfl rfl rfl rfl (by simp at hl;omega)
 ·rw [if_neg h,decide_eq_false h]
  exact zl2 (Or.inl ⟨rfl,h⟩) rfl rfl rfl rfl hl
theorem zc8 {w:World} {base:Nat} {e:TypeId} {v:Value} {n:Nat} {xs:List Value} (h:w.ownsRow base e 1 v n xs):∃ A L c,v = .slice A L c:=by
 obtain ⟨_,h2⟩:=h
 rcases h2 with ⟨rfl,_⟩ | ⟨g,cap,cur,rfl,_⟩
 ·exact ⟨_,_,_,rfl⟩
 ·exact ⟨_,_,_,rfl⟩
structure Fr (base:Nat) (w w':World):Prop where
 low:Below base w w'
 it:∀ (b:Nat) (s:ByteArray) (pos:Nat),w.heap[b]? = some (Obj.stringIter s pos)→w'.heap[b]? = some (Obj.stringIter s pos)
theorem Fr.refl (base:Nat) (w:World):Fr base w w:=⟨Below.refl _ _,fun _ _ _ h=>h⟩
theorem Fr.trans {base:Nat} {a b c:World} (h:Fr base a b) (k:Fr base b c):Fr base a c:=⟨Below.trans h.low k.low,fun i s pos hi=>k.it i s pos (h.it i s pos hi)⟩
structure RD (base q:Nat) (st:Nat) (neg npow:Bool) (ds:List Nat) (beh pow:Nat) (v:Value) (w:World):Prop where
 row:w.heap[q]? = some (.cells #[.int .i64 (st:Int),.bool neg,.bool npow,v,.int .i64 (beh:Int),.int .i64 (pow:Int)] 154 (0,0))
 own:w.ownsRow base 5 1 v ds.length (b8 ds)
 qb:base≤q
section
variable {base q st beh pow:Nat} {neg npow:Bool} {ds:List Nat} {v:Value} {w:World}
theorem RD.at (h:RD base q st neg npow ds beh pow v w):w.cell? ⟨q,0,none⟩=some (.int .i64 (st:Int))∧w.cell? ⟨q,1,none⟩=some (.bool neg)∧w.cell? ⟨q,2,none⟩=some (.bool npow)∧w.cell? ⟨q,3,none⟩=some v∧w.cell? ⟨q,4,none⟩=some (.int .i64 (beh:Int))∧w.cell? ⟨q,5,none⟩=some (.int .i64 (pow:Int)):=by
 refine ⟨?_,?_,?_,?_,?_,?_⟩ <;> rw [cell_of_row w q _ _ _ (0,0) h.row] <;> rfl
theorem RD.fz (h:RD base q st neg npow ds beh pow v w) (o:Nat):w.frozen? ⟨q,o,none⟩=false:=frozen_of_row w q o _ _ h.row
theorem RD.lt (h:RD base q st neg npow ds beh pow v w):q < w.heap.size:=zH h.row
theorem RD.fr (h:RD base q st neg npow ds beh pow v w) (o:Nat) (x:Value):Fr base w (w.setCell ⟨q,o,none⟩ x) :=
 ⟨Below.setCell (Below.refl _ _) h.qb x,fun b s pos hb=>by
  rw [RowKit.Below.heap_setCell _ _ _ _ (fun he=>by subst he;rw [h.row] at hb;cases hb)];exact hb⟩
theorem RD.keep (h:RD base q st neg npow ds beh pow v w) (o:Nat) (x:Value):(w.setCell ⟨q,o,none⟩ x).ownsRow base 5 1 v ds.length (b8 ds) :=
 zbk h.own fun g cur hg=>RowKit.Below.heap_setCell _ _ _ _ (fun he=>by subst he;rw [h.row] at hg;cases hg)
theorem RD.set0 (h:RD base q st neg npow ds beh pow v w) (st':Nat):RD base q st' neg npow ds beh pow v (w.setCell ⟨q,0,none⟩ (.int .i64 (st':Int))):=⟨heap_setCell_same w q 0 _ _ _ h.row,h.keep _ _,h.qb⟩
theorem RD.set1 (h:RD base q st neg npow ds beh pow v w) (n':Bool):RD base q st n' npow ds beh pow v (w.setCell ⟨q,1,none⟩ (.bool n')):=⟨heap_setCell_same w q 1 _ _ _ h.row,h.keep _ _,h.qb⟩
theorem RD.set2 (h:RD base q st neg npow ds beh pow v w) (n':Bool):RD base q st neg n' ds beh pow v (w.setCell ⟨q,2,none⟩ (.bool n')):=⟨heap_setCell_same w q 2 _ _ _ h.row,h.keep _ _,h.qb⟩
theorem RD.set4 (h:RD base q st neg npow ds beh pow v w) (b':Nat):RD base q st neg npow ds b' pow v (w.setCell ⟨q,4,none⟩ (.int .i64 (b':Int))):=⟨heap_setCell_same w q 4 _ _ _ h.row,h.keep _ _,h.qb⟩
theorem RD.set5 (h:RD base q st neg npow ds beh pow v w) (p':Nat):RD base q st neg npow ds beh p' v (w.setCell ⟨q,5,none⟩ (.int .i64 (p':Int))):=⟨heap_setCell_same w q 5 _ _ _ h.row,h.keep _ _,h.qb⟩
theorem RD.grown {w3:World} {v3:Value} {o:Obj} {d:Nat} (h:RD base q st neg npow ds beh pow v w) (hg:(w.alloc o).grownBy w3 v.ownBlock) (ho:w3.ownsRow base 5 1 v3 (ds.length+1) (b8 ds++[.int .u8 (d:Int)])) (hb:base≤w.heap.size) :
  w3.heap[q]? = w.heap[q]? ∧ RD base q st neg npow (ds++[d]) beh pow v3 (w3.setCell ⟨q,3,none⟩ v3)∧Fr base w (w3.setCell ⟨q,3,none⟩ v3):=by
 have hob:=zdQ h.own
 have hne:∀ b,(∀ cur,w.heap[b]? ≠ some (.cells cur 5 (0,0)))→some b≠v.ownBlock:=fun b hb he=>by
  obtain ⟨_,cur,hc⟩:=hob b he.symm
  exact hb cur hc
 have hk:∀ b,b < w.heap.size→some b≠v.ownBlock→w3.heap[b]? = w.heap[b]?:=fun b hb he=>by
  rw [hg.block b (by simp;omega) he,RowKit.Below.heap_alloc _ o b hb]
 have hq:w3.heap[q]? = w.heap[q]?:=hk q h.lt (hne q fun cur hc=>by rw [h.row] at hc;cases hc)
 have hrow:=h.row
 rw [← hq] at hrow
 have hsz:=hg.size
 simp at hsz
 refine ⟨hq,⟨heap_setCell_same w3 q 3 _ _ v3 hrow,?_,h.qb⟩,?_,?_⟩
 ·rw [List.length_append,b8,List.map_append]
  exact zbk ho fun g cur hc=>RowKit.Below.heap_setCell _ _ _ _ (fun he=>by subst he;rw [hrow] at hc;cases hc)
 ·have hbl:Below base w w3:=⟨hg.os,hg.tape,hg.output,by omega,fun b hb'=>hk b (by omega) fun he=>by have:=(hob b he.symm).1;omega⟩
  exact Below.setCell hbl h.qb v3
 ·intro b s pos hb'
  rw [RowKit.Below.heap_setCell _ _ _ _ (fun he=>by subst he;rw [h.row] at hb';cases hb'),hk b (zH hb') (hne b fun cur hc=>by rw [hb'] at hc;cases hc)]
  exact hb'
end
theorem znT (base q st:Nat) (neg npow:Bool) (ds:List Nat) (beh pow c:Nat) (v:Value) (w:World) (h:RD base q st neg npow ds beh pow v w) (hbw:base≤w.heap.size) (hc:48≤c∧c≤57) (hst:st≤7) (hds:ds.length≤300) (hbeh:beh≤300) (hpow:pow≤1000000) :
  Calls prog 190 #[.pointer (some ⟨q,0,none⟩),.int .i32 (c:Int)] w fun r w'=>r = .returned (.tuple #[])∧∃ s' v',zfp ⟨st,neg,npow,ds,beh,pow⟩ c=s'∧RD base q s'.st s'.neg s'.npow s'.ds s'.beh s'.pow v' w'∧Fr base w w':=by
 obtain ⟨i0,hi,hz0,hz1,hz2⟩:=info_parts zcW
 have hcd:(c:Int) - 48=((c - 48:Nat):Int):=by omega
 obtain ⟨c0,c1,c2,c3,c4,c5⟩:=h.at
 have f0:=h.fz 0
 have f4:=h.fz 4
 have f5:=h.fz 5
 have lq:=h.lt
 have HR:=Lib.hid h
 clear h
 have hst':st=0∨st=1∨st=2∨st=3∨st=4∨st=5∨st=6∨st=7:=by omega
 rcases hst' with rfl | rfl | rfl | rfl | rfl | rfl | rfl | rfl
 ·go_enter func190,ntmps190;go_upto_region 12 with fail;refine zz fun W hW=>?_;(have hR:RD base q 2 neg npow ds beh pow v W:=by rw [hW];exact HR.out.set0 2);(have hF:Fr base w W:=by rw [hW];exact HR.out.fr _ _);(have hbW:base≤W.heap.size:=Nat.le_trans hbw hF.low.size);clear hW HR c0 c1 c2 c3 c4 c5 f0 f4 f5 lq hbw;obtain ⟨c0,c1,c2,c3,c4,c5⟩:=hR.at;have lq:=hR.lt;have HR:=Lib.hid hR;clear hR;go_wp2_with (at_builtin;refine wpList_append_own _ rfl _ _ _ rfl base 5 i0 (.int .u8 0) 1 1 Tryz.underlying124 hi hz0 hz1 hz2 rfl (by decide) _ ds.length (b8 ds) rfl (zbk HR.out.own fun g cur hg=>RowKit.Below.heap_alloc _ _ g (zH hg)) _ 1 1 [.int .u8 ((c - 48:Nat):Int)] rfl rfl (Rd.one_ _ _ rfl).add (ze8 _) (by simp [maxLen];omega) (by omega) (by simp;omega) ?_;intro v3 w3 ho3 hg3 _;obtain ⟨A3,L3,C3,hv3⟩:=zc8 ho3;subst hv3;obtain ⟨hq3,hRD3,hFr3⟩:=HR.out.grown hg3 ho3 hbW;have hrow3:=HR.out.row;rw [← hq3] at hrow3;have fz3:=frozen_of_row w3 q 3 _ _ hrow3;have lt3:=zH hrow3;have q3:w3.cell? ⟨q,3,none⟩=some v:=by rw [cell_of_row w3 q 3 _ _ (0,0) hrow3];rfl);exact bodyPost_end (v:=.tuple #[]) (by simp [results,results190,go_sem]) rfl ⟨rfl,_,_,rfl,hRD3,hF.trans hFr3⟩
 ·go_enter func190,ntmps190;go_upto_region 12 with fail;refine zz fun W hW=>?_;(have hR:RD base q 2 neg npow ds beh pow v W:=by rw [hW];exact HR.out.set0 2);(have hF:Fr base w W:=by rw [hW];exact HR.out.fr _ _);(have hbW:base≤W.heap.size:=Nat.le_trans hbw hF.low.size);clear hW HR c0 c1 c2 c3 c4 c5 f0 f4 f5 lq hbw;obtain ⟨c0,c1,c2,c3,c4,c5⟩:=hR.at;have lq:=hR.lt;have HR:=Lib.hid hR;clear hR;go_wp2_with (at_builtin;refine wpList_append_own _ rfl _ _ _ rfl base 5 i0 (.int .u8 0) 1 1 Tryz.underlying124 hi hz0 hz1 hz2 rfl (by decide) _ ds.length (b8 ds) rfl (zbk HR.out.own fun g cur hg=>RowKit.Below.heap_alloc _ _ g (zH hg)) _ 1 1 [.int .u8 ((c - 48:Nat):Int)] rfl rfl (Rd.one_ _ _ rfl).add (ze8 _) (by simp [maxLen];omega) (by omega) (by simp;omega) ?_;intro v3 w3 ho3 hg3 _;obtain ⟨A3,L3,C3,hv3⟩:=zc8 ho3;subst hv3;obtain ⟨hq3,hRD3,hFr3⟩:=HR.out.grown hg3 ho3 hbW;have hrow3:=HR.out.row;rw [← hq3] at hrow3;have fz3:=frozen_of_row w3 q 3 _ _ hrow3;have lt3:=zH hrow3;have q3:w3.cell? ⟨q,3,none⟩=some v:=by rw [cell_of_row w3 q 3 _ _ (0,0) hrow3];rfl);exact bodyPost_end (v:=.tuple #[]) (by simp [results,results190,go_sem]) rfl ⟨rfl,_,_,rfl,hRD3,hF.trans hFr3⟩
 ·go_enter func190,ntmps190;go_upto_region 12 with fail;refine zz fun W hW=>?_;(have hR:RD base q 2 neg npow ds beh pow v W:=by rw [hW];exact HR.out.set0 2);(have hF:Fr base w W:=by rw [hW];exact HR.out.fr _ _);(have hbW:base≤W.heap.size:=Nat.le_trans hbw hF.low.size);clear hW HR c0 c1 c2 c3 c4 c5 f0 f4 f5 lq hbw;obtain ⟨c0,c1,c2,c3,c4,c5⟩:=hR.at;have lq:=hR.lt;have HR:=Lib.hid hR;clear hR;go_wp2_with (at_builtin;refine wpList_append_own _ rfl _ _ _ rfl base 5 i0 (.int .u8 0) 1 1 Tryz.underlying124 hi hz0 hz1 hz2 rfl (by decide) _ ds.length (b8 ds) rfl (zbk HR.out.own fun g cur hg=>RowKit.Below.heap_alloc _ _ g (zH hg)) _ 1 1 [.int .u8 ((c - 48:Nat):Int)] rfl rfl (Rd.one_ _ _ rfl).add (ze8 _) (by simp [maxLen];omega) (by omega) (by simp;omega) ?_;intro v3 w3 ho3 hg3 _;obtain ⟨A3,L3,C3,hv3⟩:=zc8 ho3;subst hv3;obtain ⟨hq3,hRD3,hFr3⟩:=HR.out.grown hg3 ho3 hbW;have hrow3:=HR.out.row;rw [← hq3] at hrow3;have fz3:=frozen_of_row w3 q 3 _ _ hrow3;have lt3:=zH hrow3;have q3:w3.cell? ⟨q,3,none⟩=some v:=by rw [cell_of_row w3 q 3 _ _ (0,0) hrow3];rfl);exact bodyPost_end (v:=.tuple #[]) (by simp [results,results190,go_sem]) rfl ⟨rfl,_,_,rfl,hRD3,hF.trans hFr3⟩
 ·go_enter func190,ntmps190;go_upto_region 12 with fail;refine zz fun W hW=>?_;(have hR:RD base q 4 neg npow ds (beh+1) pow v W:=by rw [hW];exact (HR.out.set0 4).set4 (beh+1));(have hF:Fr base w W:=by rw [hW];exact (HR.out.fr _ _).trans ((HR.out.set0 4).fr _ _));(have hbW:base≤W.heap.size:=Nat.le_trans hbw hF.low.size);clear hW HR c0 c1 c2 c3 c4 c5 f0 f4 f5 lq hbw;obtain ⟨c0,c1,c2,c3,c4,c5⟩:=hR.at;have lq:=hR.lt;have HR:=Lib.hid hR;clear hR;go_wp2_with (at_builtin;refine wpList_append_own _ rfl _ _ _ rfl base 5 i0 (.int .u8 0) 1 1 Tryz.underlying124 hi hz0 hz1 hz2 rfl (by decide) _ ds.length (b8 ds) rfl (zbk HR.out.own fun g cur hg=>RowKit.Below.heap_alloc _ _ g (zH hg)) _ 1 1 [.int .u8 ((c - 48:Nat):Int)] rfl rfl (Rd.one_ _ _ rfl).add (ze8 _) (by simp [maxLen];omega) (by omega) (by simp;omega) ?_;intro v3 w3 ho3 hg3 _;obtain ⟨A3,L3,C3,hv3⟩:=zc8 ho3;subst hv3;obtain ⟨hq3,hRD3,hFr3⟩:=HR.out.grown hg3 ho3 hbW;have hrow3:=HR.out.row;rw [← hq3] at hrow3;have fz3:=frozen_of_row w3 q 3 _ _ hrow3;have lt3:=zH hrow3;have q3:w3.cell? ⟨q,3,none⟩=some v:=by rw [cell_of_row w3 q 3 _ _ (0,0) hrow3];rfl);exact bodyPost_end (v:=.tuple #[]) (by simp [results,results190,go_sem]) rfl ⟨rfl,_,_,rfl,hRD3,hF.trans hFr3⟩
 ·go_enter func190,ntmps190;go_upto_region 12 with fail;refine zz fun W hW=>?_;(have hR:RD base q 4 neg npow ds (beh+1) pow v W:=by rw [hW];exact (HR.out.set0 4).set4 (beh+1));(have hF:Fr base w W:=by rw [hW];exact (HR.out.fr _ _).trans ((HR.out.set0 4).fr _ _));(have hbW:base≤W.heap.size:=Nat.le_trans hbw hF.low.size);clear hW HR c0 c1 c2 c3 c4 c5 f0 f4 f5 lq hbw;obtain ⟨c0,c1,c2,c3,c4,c5⟩:=hR.at;have lq:=hR.lt;have HR:=Lib.hid hR;clear hR;go_wp2_with (at_builtin;refine wpList_append_own _ rfl _ _ _ rfl base 5 i0 (.int .u8 0) 1 1 Tryz.underlying124 hi hz0 hz1 hz2 rfl (by decide) _ ds.length (b8 ds) rfl (zbk HR.out.own fun g cur hg=>RowKit.Below.heap_alloc _ _ g (zH hg)) _ 1 1 [.int .u8 ((c - 48:Nat):Int)] rfl rfl (Rd.one_ _ _ rfl).add (ze8 _) (by simp [maxLen];omega) (by omega) (by simp;omega) ?_;intro v3 w3 ho3 hg3 _;obtain ⟨A3,L3,C3,hv3⟩:=zc8 ho3;subst hv3;obtain ⟨hq3,hRD3,hFr3⟩:=HR.out.grown hg3 ho3 hbW;have hrow3:=HR.out.row;rw [← hq3] at hrow3;have fz3:=frozen_of_row w3 q 3 _ _ hrow3;have lt3:=zH hrow3;have q3:w3.cell? ⟨q,3,none⟩=some v:=by rw [cell_of_row w3 q 3 _ _ (0,0) hrow3];rfl);exact bodyPost_end (v:=.tuple #[]) (by simp [results,results190,go_sem]) rfl ⟨rfl,_,_,rfl,hRD3,hF.trans hFr3⟩
 rotate_left
 rotate_left
 rotate_left
 all_goals
  go_enter func190,ntmps190;go_upto_region 2 with fail;refine zz fun W hW=>?_;(have hR:RD base q 7 neg npow ds beh pow v W:=by rw [hW];exact HR.out.set0 7);(have hF:Fr base w W:=by rw [hW];exact HR.out.fr _ _);clear hW HR c0 c1 c2 c3 c4 c5 f0 f4 f5 lq hbw;obtain ⟨c0,c1,c2,c3,c4,c5⟩:=hR.at;have f5:=hR.fz 5;have lq:=hR.lt;have HR:=Lib.hid hR;clear hR;by_cases hp:pow < 100000
  ·have hd:decide ((pow:Int) < 100000)=true:=decide_eq_true (by omega)
   have HP:=Lib.hid hp
   clear hp
   go_wp2_with fail
   refine bodyPost_ret (v:=.tuple #[]) (by simp [results,results190,go_sem]) rfl ⟨rfl,⟨7,neg,npow,ds,beh,pow * 10+(c - 48)⟩,v,by simp [zfp,HP.out],?_,hF.trans (HR.out.fr _ _)⟩
   have:=HR.out.set5 (pow * 10+(c - 48))
   rw [Int.natCast_add,Int.natCast_mul] at this
   exact this
  ·have hd:decide ((pow:Int) < 100000)=false:=decide_eq_false (by omega)
   have HP:=Lib.hid hp
   clear hp
   go_wp2_with fail
   exact rt0 rfl rfl ⟨rfl,⟨7,neg,npow,ds,beh,pow⟩,v,by simp [zfp,HP.out],HR.out,hF⟩
theorem zke (base q st:Nat) (neg npow:Bool) (ds:List Nat) (beh pow c:Nat) (v:Value) (w:World) (h:RD base q st neg npow ds beh pow v w) (hbw:base≤w.heap.size) (hst:st≤7) (hds:ds.length≤300) (hbeh:beh≤300) (hpow:pow≤1000000) :
  Calls prog 165 #[.pointer (some ⟨q,0,none⟩),.int .i32 (c:Int)] w fun r w'=>r = .returned (.bool (zB ⟨st,neg,npow,ds,beh,pow⟩ c).isSome)∧Fr base w w'∧∀ s',zB ⟨st,neg,npow,ds,beh,pow⟩ c=some s'→∃ v',RD base q s'.st s'.neg s'.npow s'.ds s'.beh s'.pow v' w':=by
 obtain ⟨c0,c1,c2,c3,c4,c5⟩:=h.at
 have f0:=h.fz 0
 have f1:=h.fz 1
 have f2:=h.fz 2
 have lq:=h.lt
 obtain ⟨X,hX⟩:∃ X,zB ⟨st,neg,npow,ds,beh,pow⟩ c=X:=⟨_,rfl⟩
 rw [hX]
 by_cases hd:48≤c∧c≤57
 ·have hdg:=znT base q st neg npow ds beh pow c v w h hbw hd hst hds hbeh hpow
  have HS:Hid (X=some (zfp ⟨st,neg,npow,ds,beh,pow⟩ c)):=Lib.hid (by rw [← hX];unfold zB isD;rw [if_pos (decide_eq_true hd)])
  have g1:decide (48≤(c:Int))=true:=decide_eq_true (by omega)
  have g2:decide ((c:Int)≤57)=true:=decide_eq_true (by omega)
  clear h hX
  go_enter func165,ntmps165
  go_wp2_with (go_at_call 190;(with_reducible refine hdg.mono ?_);rintro e w' ⟨rfl,s',v',hs,hrd,hfr⟩)
  exact rt1 rfl rfl ⟨by rw [HS.out];rfl,hfr,fun s'' h''=>by rw [HS.out] at h'';cases h'';rw [hs];exact ⟨v',hrd⟩⟩
 have HR:=Lib.hid h
 have hst0:(st=0∨st=1∨st=2∨st=3∨st=4∨st=5∨st=6∨st=7):=by omega
 clear h
 by_cases h5:c=45∨c=43∨c=46∨c=101∨c=69
 ·rcases h5 with rfl | rfl | rfl | rfl | rfl
  all_goals
   clear hd
   rcases hst0 with rfl | rfl | rfl | rfl | rfl | rfl | rfl | rfl
   all_goals first
    | (refine (fun (HS:Hid (X=none))=>?_) ?_;rotate_left;(focus (show X=none;rw [← hX];simp [zB,isD];done));clear hX);(go_enter func165,ntmps165;go_wp2_with fail;exact rt1 rfl rfl ⟨by rw [HS.out];rfl,Fr.refl _ _,fun s' hs=>by rw [HS.out] at hs;cases hs⟩)
    | (refine (fun (HS:Hid (X=some ⟨3,neg,npow,ds,beh,pow⟩))=>?_) ?_;rotate_left;(focus (show X=some ⟨3,neg,npow,ds,beh,pow⟩;rw [← hX];simp [zB,isD];done));clear hX);(go_enter func165,ntmps165;go_wp2_with fail;exact rt1 rfl rfl ⟨by rw [HS.out];rfl,HR.out.fr _ _,fun s' hs=>by rw [HS.out] at hs;cases hs;exact ⟨v,HR.out.set0 3⟩⟩)
    | (refine (fun (HS:Hid (X=some ⟨5,neg,npow,ds,beh,pow⟩))=>?_) ?_;rotate_left;(focus (show X=some ⟨5,neg,npow,ds,beh,pow⟩;rw [← hX];simp [zB,isD];done));clear hX);(go_enter func165,ntmps165;go_wp2_with fail;exact rt1 rfl rfl ⟨by rw [HS.out];rfl,HR.out.fr _ _,fun s' hs=>by rw [HS.out] at hs;cases hs;exact ⟨v,HR.out.set0 5⟩⟩)
    | (refine (fun (HS:Hid (X=some ⟨1,true,npow,ds,beh,pow⟩))=>?_) ?_;rotate_left;(focus (show X=some ⟨1,true,npow,ds,beh,pow⟩;rw [← hX];simp [zB,isD];done));clear hX);(go_enter func165,ntmps165;go_wp2_with fail;exact rt1 rfl rfl ⟨by rw [HS.out];rfl,(HR.out.fr _ _).trans ((HR.out.set1 true).fr _ _),fun s' hs=>by rw [HS.out] at hs;cases hs;exact ⟨v,(HR.out.set1 true).set0 1⟩⟩)
    | (refine (fun (HS:Hid (X=some ⟨6,neg,true,ds,beh,pow⟩))=>?_) ?_;rotate_left;(focus (show X=some ⟨6,neg,true,ds,beh,pow⟩;rw [← hX];simp [zB,isD];done));clear hX);(go_enter func165,ntmps165;go_wp2_with fail;exact rt1 rfl rfl ⟨by rw [HS.out];rfl,(HR.out.fr _ _).trans ((HR.out.set2 true).fr _ _),fun s' hs=>by rw [HS.out] at hs;cases hs;exact ⟨v,(HR.out.set2 true).set0 6⟩⟩)
    | (refine (fun (HS:Hid (X=some ⟨6,neg,false,ds,beh,pow⟩))=>?_) ?_;rotate_left;(focus (show X=some ⟨6,neg,false,ds,beh,pow⟩;rw [← hX];simp [zB,isD];done));clear hX);(go_enter func165,ntmps165;go_wp2_with fail;exact rt1 rfl rfl ⟨by rw [HS.out];rfl,(HR.out.fr _ _).trans ((HR.out.set2 false).fr _ _),fun s' hs=>by rw [HS.out] at hs;cases hs;exact ⟨v,(HR.out.set2 false).set0 6⟩⟩)
 have HS:Hid (X=none):=Lib.hid (by
  rw [← hX]
  unfold zB isD
  rw [if_neg (by rw [decide_eq_true_eq];exact hd),if_neg (by omega),if_neg (by omega),if_neg (by omega),if_neg (by omega)])
 have e1:((c:Int) == 45)=false:=by simp;omega
 have e2:((c:Int) == 46)=false:=by simp;omega
 have e3:((c:Int) == 101)=false:=by simp;omega
 have e4:((c:Int) == 69)=false:=by simp;omega
 have e5:((c:Int) == 43)=false:=by simp;omega
 by_cases h48:48≤c
 have g1:decide (48≤(c:Int))=true:=decide_eq_true (by omega)
 have g2:decide ((c:Int)≤57)=false:=decide_eq_false (by omega)
 rotate_left
 have g1:decide (48≤(c:Int))=false:=decide_eq_false (by omega)
 all_goals
  clear hd h5 h48 hst0 hX
  (go_enter func165,ntmps165;go_wp2_with fail;exact rt1 rfl rfl ⟨by rw [HS.out];rfl,Fr.refl _ _,fun s' hs=>by rw [HS.out] at hs;cases hs⟩)
structure SB (n:Nat) (s:St):Prop where
 st:s.st≤7
 len:s.ds.length≤n
 beh:s.beh≤n
 pow:s.pow≤1000000
 all:AllD s.ds
theorem SB.step {n:Nat} {s s':St} {c:Nat} (h:SB n s) (ht:zB s c=some s'):SB (n+1) s':=by
 obtain ⟨h1,h2,h3,h4,h5⟩:=h
 unfold zB at ht
 split at ht
 ·rename_i hc
  unfold isD at hc
  have hc:=of_decide_eq_true hc
  cases ht
  have h6:AllD (s.ds++[c - 48]):=h5.append (AllD.cons (by omega) AllD.nil)
  unfold zfp
  split
  ·exact ⟨by simp,by simp;omega,by show s.beh≤_;omega,h4,h6⟩
  ·split
   ·exact ⟨by simp,by simp;omega,by show s.beh+1≤_;omega,h4,h6⟩
   ·refine ⟨by simp,by show s.ds.length≤_;omega,by show s.beh≤_;omega,?_,h5⟩
    show (if s.pow < 100000 then s.pow * 10+(c - 48) else s.pow)≤1000000
    split <;> omega
 all_goals (repeat' (split at ht)) <;> cases ht <;> exact ⟨by simp,by show s.ds.length≤_;omega,by show s.beh≤_;omega,h4,h5⟩
theorem ziW {s:St} {c:Nat} (h:128≤c):zB s c=none:=by
 unfold zB isD
 rw [if_neg (by rw [decide_eq_true_eq];omega),if_neg (by omega),if_neg (by omega),if_neg (by omega),if_neg (by omega)]
def bl (s:ByteArray):List Nat:=s.data.toList.map (·.toNat)
theorem zbs (s:ByteArray):(bl s).length=s.size:=by unfold bl;rw [List.length_map];rfl
theorem zdU (s:ByteArray) (pos:Nat) (h:pos < s.size):(bl s)[pos]? = some (s[pos]'h).toNat:=by
 unfold bl
 rw [List.getElem?_map,List.getElem?_eq_getElem (by exact h)]
 rfl
structure PI (X:World) (s:ByteArray) (q k pos:Nat) (S:St) (v:Value) (wr:World):Prop where
 run:zaS ((bl s).take pos) st0=some S
 rd:RD X.heap.size q S.st S.neg S.npow S.ds S.beh S.pow v wr
 it:wr.heap[k]? = some (Obj.stringIter s pos)
 ext:Ext X wr
 bd:SB pos S
 kb:X.heap.size≤k
theorem PI.next {X wr:World} {s:ByteArray} {q k pos:Nat} {S:St} {v:Value} (h:PI X s q k pos S v wr) (p':Nat):RD X.heap.size q S.st S.neg S.npow S.ds S.beh S.pow v (wr.iterAt k s p')∧(wr.iterAt k s p').heap[k]? = some (Obj.stringIter s p')∧Ext X (wr.iterAt k s p'):=by
 have hne:∀ b cs t,wr.heap[b]? = some (Obj.cells cs t (0,0))→b≠k:=fun b cs t hb he=>by subst he;rw [h.it] at hb;cases hb
 refine ⟨⟨?_,zbk h.rd.own fun g cur hg=>Lib.iterAt_other _ _ _ _ _ (hne g cur _ hg),h.rd.qb⟩,Lib.iterAt_heap wr k s pos p' h.it,?_⟩
 ·rw [Lib.iterAt_other _ _ _ _ _ (hne q _ _ h.rd.row)];exact h.rd.row
 ·refine ⟨h.ext.os,h.ext.tape,h.ext.output,by rw [Lib.iterAt_size];exact h.ext.size,fun b hb=>?_⟩
  rw [Lib.iterAt_other _ _ _ _ _ (by have:=h.kb;omega),h.ext.block hb]
theorem PI.step {X wr w':World} {s:ByteArray} {q k pos c:Nat} {S S':St} {v v':Value} (h:PI X s q k pos S v wr) (hc:(bl s)[pos]? = some c) (ht:zB S c=some S') (hf:Fr X.heap.size (wr.iterAt k s (pos+1)) w') (hr:RD X.heap.size q S'.st S'.neg S'.npow S'.ds S'.beh S'.pow v' w'):PI X s q k (pos+1) S' v' w':=by
 obtain ⟨_,h2,h3⟩:=h.next (pos+1)
 refine ⟨?_,hr,hf.it _ _ _ h2,Below.trans h3 hf.low,h.bd.step ht,h.kb⟩
 rw [za2 hc,zcM,h.run,Option.bind_some]
 show (zB S c).bind (zaS [])=_
 rw [ht];rfl
theorem ziX {s:ByteArray} {pos c:Nat} {S:St} (h:zaS ((bl s).take pos) st0=some S) (hc:(bl s)[pos]? = some c) (ht:zB S c=none):zgb (bl s)=none:=by
 unfold zgb
 have hl:=lt_at hc
 have h1:bl s=(bl s).take pos++(c::(bl s).drop (pos+1)):=by
  rw [← drop_at hc,List.take_append_drop]
 rw [h1,zcM,h,Option.bind_some]
 show ((zB S c).bind _).bind zbg=none
 rw [ht];rfl
def zcJ (s:ByteArray):Option (Int×Int):=if 255 < s.size then none else zgb (bl s)
theorem znU (s:ByteArray) (w:World) (hs:s.size≤1000) :
  Calls prog 133 #[.string s] w fun r w'=>r = .returned (rnV (zcJ s))∧Ext w w':=by
 unfold zcJ
 by_cases hlen:255 < s.size
 ·rw [if_pos hlen]
  go_enter func133,ntmps133
  go_wp2_with fail
  exact rct (v:=NV 0 0) rfl rfl (by simp [go_sem]) ⟨rfl,by simp [go_sem]⟩
 ·rw [if_neg hlen]
  generalize hR:zgb (bl s)=R
  have HR:=Lib.hid hR
  clear hR
  have HX:Hid (∀ W:World,W=((w.alloc (.cells #[.int .i64 0,.int .i64 0] 35)).alloc (.cells #[.int .i64 0,.bool false,.bool false,.slice none 0 0,.int .i64 0,.int .i64 0] 154)).iter s 0→PI (w.alloc (.cells #[.int .i64 0,.int .i64 0] 35)) s (w.heap.size+1) (w.heap.size+1+1) 0 st0 (.slice none 0 0) W):=by
   intro W hW
   have hx:Ext (w.alloc (.cells #[.int .i64 0,.int .i64 0] 35)) W:=by rw [hW];exact (((Ext.refl _).alloc _).alloc _)
   have hz:(w.alloc (.cells #[.int .i64 0,.int .i64 0] 35)).heap.size=w.heap.size+1:=by simp
   refine ⟨rfl,⟨?_,World.ownsRow_nil _ _ _ _,by omega⟩,?_,hx,⟨by decide,Nat.le_refl _,Nat.le_refl _,by decide,AllD.nil⟩,by omega⟩
   ·rw [hW]
    have h1:((w.alloc (.cells #[.int .i64 0,.int .i64 0] 35)).alloc (.cells #[.int .i64 0,.bool false,.bool false,.slice none 0 0,.int .i64 0,.int .i64 0] 154)).heap[w.heap.size+1]? = some (.cells #[.int .i64 0,.bool false,.bool false,.slice none 0 0,.int .i64 0,.int .i64 0] 154):=by rw [← hz];exact Array.getElem?_push_size
    exact (RowKit.Below.heap_alloc _ _ _ (zH h1)).trans h1
   ·rw [hW]
    have:=World.iter_heap ((w.alloc (.cells #[.int .i64 0,.int .i64 0] 35)).alloc (.cells #[.int .i64 0,.bool false,.bool false,.slice none 0 0,.int .i64 0,.int .i64 0] 154)) s 0
    simpa using this
  go_enter func133,ntmps133
  go_upto_block 0 with fail
  refine zz fun W hW=>?_
  have hPI:=HX.out W hW
  have hX0:PV (w.alloc (.cells #[.int .i64 0,.int .i64 0] 35)) w.heap.size 0 0:=PV.new 0 0 rfl
  have hXw:Ext w (w.alloc (.cells #[.int .i64 0,.int .i64 0] 35)):=(Ext.refl w).alloc _
  have hXs:(w.alloc (.cells #[.int .i64 0,.int .i64 0] 35)).heap.size=w.heap.size+1:=by simp
  clear hW HX
  generalize w.alloc (.cells #[.int .i64 0,.int .i64 0] 35)=X at *
  have hq:w.heap.size+1 < w.heap.size+1+1:=by omega
  have hq0:w.heap.size < w.heap.size+1:=by omega
  generalize w.heap.size+1+1=k at *
  have HS0:=Lib.hid hXs
  clear hXs
  generalize w.heap.size+1=q at *
  have HP:Hid (PI X s q k 0 st0 (.slice none 0 0) W):=hPI
  clear hPI
  go_wp2_with fail
  go_loopw [6] (fun _ wr=>∃ pos S v,pos≤s.size∧Hid (PI X s q k pos S v wr)) (fun _ wr=>s.size - wr.iterPos k)
  case atStart=>exact ⟨0,st0,_,Nat.zero_le _,HP⟩
  case round =>
   obtain ⟨pos,S,v,hpos,H⟩:=hrel
   by_cases hp:pos < s.size
   ·have hb:=zdU s pos hp
    have hnx:∀ ty,(Instr.next (.pointer (some ⟨k,0,none⟩)) true ty).run prog wr=_:=fun ty=>Lib.run_next_any_at wr k s pos ty H.out.it hp
    have hbd:=H.out.bd
    have heta:(⟨S.st,S.neg,S.npow,S.ds,S.beh,S.pow⟩:St)=S:=rfl
    by_cases ha:(s[pos]'hp).toNat < 128
    ·rw [decode_ascii s pos hp ha] at hnx
     generalize (s[pos]'hp).toNat=c at *
     simp only at hnx
     obtain ⟨r1,r2,r3⟩:=H.out.next (pos+1)
     have htk:=zke X.heap.size q S.st S.neg S.npow S.ds S.beh S.pow c v (wr.iterAt k s (pos+1)) r1 r3.size hbd.st (by have:=hbd.len;omega) (by have:=hbd.beh;omega) hbd.pow
     rw [heta] at htk
     have HC:=Lib.hid hb
     have HE:=Lib.hid r3
     clear hb r1 r2 r3 ha hbd heta
     cases hT:zB S c with
     | some S' =>
      have HT:=Lib.hid hT
      rw [hT] at htk
      clear hT
      go_wp2_with (go_at_call 165;(with_reducible refine htk.mono ?_);rintro e w' ⟨rfl,hfr,hrd⟩)
      obtain ⟨v',hr'⟩:=hrd S' rfl
      have h2:=H.out.step HC.out HT.out hfr hr'
      refine ⟨⟨pos+1,S',v',by omega,h2⟩,?_⟩
      simp only [World.iterPos,h2.it,H.out.it]
      omega
     | none =>
      have HT:=Lib.hid hT
      rw [hT] at htk
      clear hT
      have hRn:R=none:=by rw [← HR.out];exact ziX H.out.run HC.out HT.out
      subst hRn
      go_wp2_with (go_at_call 165;(with_reducible refine htk.mono ?_);rintro e w' ⟨rfl,hfr,hrd⟩;have hex:Ext X w':=Below.trans HE.out hfr.low;have hpv:=hX0.ext hex;have a0:=hpv.c0;have a1:=hpv.c1;have a2:=hpv.fz 0;have a3:=hpv.fz 1;have a4:=hpv.lt;have z0:=(hpv.set 0 0).c0;have z1:=(hpv.set 0 0).c1)
      exact bodyPost_ret (v:=.tuple #[NV 0 0,.bool false]) (by simp [results,results133,go_sem,z0,z1]) rfl ⟨rfl,((hXw.trans hex).set _ (Nat.le_refl _)).set _ (Nat.le_refl _)⟩
    ·obtain ⟨d1,d2⟩:=decode_high s pos hp (by omega)
     have hRn:R=none:=by rw [← HR.out];exact ziX H.out.run hb (ziW (by omega))
     subst hRn
     generalize (Utf8.decode s pos).1=c at *
     generalize (Utf8.decode s pos).2=b at *
     obtain ⟨r1,r2,r3⟩:=H.out.next (pos+b)
     have htk:=zke X.heap.size q S.st S.neg S.npow S.ds S.beh S.pow c v (wr.iterAt k s (pos+b)) r1 r3.size hbd.st (by have:=hbd.len;omega) (by have:=hbd.beh;omega) hbd.pow
     rw [heta,ziW d1] at htk
     have HE:=Lib.hid r3
     clear hb r1 r2 r3 ha hbd heta
     go_wp2_with (go_at_call 165;(with_reducible refine htk.mono ?_);rintro e w' ⟨rfl,hfr,hrd⟩;have hex:Ext X w':=Below.trans HE.out hfr.low;have hpv:=hX0.ext hex;have a0:=hpv.c0;have a1:=hpv.c1;have a2:=hpv.fz 0;have a3:=hpv.fz 1;have a4:=hpv.lt;have z0:=(hpv.set 0 0).c0;have z1:=(hpv.set 0 0).c1)
     exact bodyPost_ret (v:=.tuple #[NV 0 0,.bool false]) (by simp [results,results133,go_sem,z0,z1]) rfl ⟨rfl,((hXw.trans hex).set _ (Nat.le_refl _)).set _ (Nat.le_refl _)⟩
   ·have hnx:∀ ty,(Instr.next (.pointer (some ⟨k,0,none⟩)) true ty).run prog wr=_:=fun ty=>Lib.run_next_end_at wr k s pos ty H.out.it hp
    have hpe:pos=s.size:=by omega
    have hrun:=H.out.run
    have hR:=HR.out
    rw [hpe,← zbs,List.take_length] at hrun
    unfold zgb at hR
    rw [hrun,Option.bind_some] at hR
    have hrd:=H.out.rd
    have hbd:=H.out.bd
    have hex:=H.out.ext
    have HE:=Lib.hid hR
    clear hrun hR HR hpe
    obtain ⟨st,neg,npow,ds,beh,pow⟩:=S
    simp only at hrd
    obtain ⟨c0,c1,c2,c3,c4,c5⟩:=hrd.at
    have f5:=hrd.fz 5
    have lq:=hrd.lt
    have hpv:=hX0.ext hex
    have a0:=hpv.c0
    have a1:=hpv.c1
    have a2:=hpv.fz 0
    have a3:=hpv.fz 1
    have a4:=hpv.lt
    have z0:=(hpv.set 0 0).c0
    have z1:=(hpv.set 0 0).c1
    have HRD:=Lib.hid hrd
    have HBD:=Lib.hid hbd
    clear hrd hbd
    by_cases hok:st=2∨st=4∨st=7
    ·have hRn:rnd neg (val ds) false ((if npow then -(pow:Int) else pow) - beh)=R:=by rw [← HE.out];unfold zbg;exact (if_pos hok).symm
     have hpw:=HBD.out.pow
     have hbh:=HBD.out.beh
     have hln:=HBD.out.len
     simp only at hpw hbh hln
     have hqX:=HRD.out.qb
     cases npow with
     | true =>
      rw [if_pos rfl] at hRn
      have hro:=zeq X neg v ds (-(pow:Int) - beh) (wr.setCell ⟨q,5,none⟩ (.int .i64 (-(pow:Int)))) ds.length (hex.set _ hqX) (HRD.out.keep 5 _) HBD.out.all (by omega) (by omega)
      rw [hRn] at hro
      have w1:IntKind.i64.wrap (-(pow:Int)) = -pow:=zbJ (by omega) (by omega)
      have w2:IntKind.i64.wrap (-(pow:Int) - beh) = -pow - beh:=zbJ (by omega) (by omega)
      have x0:=hX0.c0
      have x1:=hX0.c1
      have x2:=hX0.fz 0
      have x3:=hX0.fz 1
      have x4:=hX0.lt
      have z0:=(hX0.set (rm R) (re R)).c0
      have z1:=(hX0.set (rm R) (re R)).c1
      clear hpw hbh hln hRn
      rcases hok with rfl | rfl | rfl
      all_goals
       go_wp2_with (go_at_call 124;(with_reducible refine hro.mono ?_);rintro e w' ⟨rfl,os,d,rfl⟩)
       exact bodyPost_ret (v:=rnV R) (by simp [results,results133,go_sem,z0,z1,x4]) rfl ⟨rfl,((hXw.set _ (Nat.le_refl _)).set _ (Nat.le_refl _)).more_ _ _⟩
     | false =>
      rw [if_neg (by simp)] at hRn
      have hro:=zeq X neg v ds ((pow:Int) - beh) wr ds.length hex HRD.out.own HBD.out.all (by omega) (by omega)
      rw [hRn] at hro
      have w2:IntKind.i64.wrap ((pow:Int) - beh)=pow - beh:=zbJ (by omega) (by omega)
      have x0:=hX0.c0
      have x1:=hX0.c1
      have x2:=hX0.fz 0
      have x3:=hX0.fz 1
      have x4:=hX0.lt
      have z0:=(hX0.set (rm R) (re R)).c0
      have z1:=(hX0.set (rm R) (re R)).c1
      clear hpw hbh hln hRn
      rcases hok with rfl | rfl | rfl
      all_goals
       go_wp2_with (go_at_call 124;(with_reducible refine hro.mono ?_);rintro e w' ⟨rfl,os,d,rfl⟩)
       exact bodyPost_ret (v:=rnV R) (by simp [results,results133,go_sem,z0,z1,x4]) rfl ⟨rfl,((hXw.set _ (Nat.le_refl _)).set _ (Nat.le_refl _)).more_ _ _⟩
    ·have hRn:R=none:=by rw [← HE.out];unfold zbg;exact if_neg hok
     subst hRn
     have e1:((st:Int) != 2)=true:=by simp;omega
     have e2:((st:Int) != 4)=true:=by simp;omega
     have e3:((st:Int) != 7)=true:=by simp;omega
     go_wp2_with fail
     exact bodyPost_ret (v:=.tuple #[NV 0 0,.bool false]) (by simp [results,results133,go_sem,z0,z1]) rfl ⟨rfl,((hXw.trans hex).set _ (Nat.le_refl _)).set _ (Nat.le_refl _)⟩
theorem zhE:∀ (l:List Nat) {j c:Nat},j < (l.takeWhile isD).length→l[j]? = some c→isD c=true
 | [],j,c,h,_=>by simp at h
 | d::l,j,c,h,hc=>by
  rw [List.takeWhile_cons] at h
  by_cases hd:isD d=true
  ·rw [if_pos hd,List.length_cons] at h
   cases j with
   | zero=>rw [List.getElem?_cons_zero] at hc;cases hc;exact hd
   | succ j=>rw [List.getElem?_cons_succ] at hc;exact zhE l (by omega) hc
  ·rw [if_neg hd] at h;simp at h
theorem zmE:∀ (l:List Nat) {c:Nat},l[(l.takeWhile isD).length]? = some c→isD c=false
 | [],c,h=>by simp at h
 | d::l,c,h=>by
  rw [List.takeWhile_cons] at h
  by_cases hd:isD d=true
  ·rw [if_pos hd,List.length_cons,List.getElem?_cons_succ] at h
   exact zmE l h
  ·rw [if_neg hd,List.length_nil,List.getElem?_cons_zero] at h
   cases h
   simpa using hd
theorem zgF (l:List Nat):(l.takeWhile isD).length≤l.length:=(List.takeWhile_sublist _).length_le
theorem zfa {c:Nat} (h:isD c=true):48≤c∧c≤57:=of_decide_eq_true h
theorem zrF {c:Nat} (h:isD c=false):c < 48∨57 < c:=by
 have:=of_decide_eq_false h;omega
theorem ziu (s:ByteArray) (i:Nat) (w:World) (hs:s.size≤1000) (hi:i≤s.size) :
  Calls prog 181 #[.string s,.int .i64 (i:Int)] w fun r w'=>r = .returned (.int .i64 ((((bl s).drop i).takeWhile isD).length:Int))∧w'=w:=by
 generalize hL:(((bl s).drop i).takeWhile isD).length=L
 have HL:=Lib.hid hL
 have hLs:i+L≤s.size:=by
  have h1:=zgF ((bl s).drop i)
  rw [hL,List.length_drop,zbs] at h1
  omega
 clear hL
 go_enter func181,ntmps181
 go_wp2_with fail
 go_loop [5] (fun v=>∃ j:Nat,v = .int .i64 (j:Int)∧j≤L) (fun v=>L - (intOf v).toNat)
 case atStart=>exact ⟨0,rfl,Nat.zero_le _⟩
 case round =>
  obtain ⟨j,rfl,hj⟩:=hrel
  by_cases hjs:i+j < s.size
  ·have hb:=zdU s (i+j) hjs
   have hb':((bl s).drop i)[j]? = some (s[i+j]'hjs).toNat:=by rw [List.getElem?_drop];exact hb
   clear hb
   by_cases hjL:j < L
   ·obtain ⟨g1,g2⟩:=zfa (zhE _ (by rw [HL.out];exact hjL) hb')
    have g1':(48:Int)≤((s[i+j]'hjs).toNat:Int):=by omega
    have g2':((s[i+j]'hjs).toNat:Int)≤57:=by omega
    clear hb' g1 g2
    go_wp2_with fail
    exact ⟨⟨j+1,by go_num,by omega⟩,by simp [intOf];omega⟩
   ·have hjL':Hid (j=L):=by show j=L;omega
    have hd:=zrF (zmE ((bl s).drop i) (by rw [HL.out,← hjL'.out];exact hb'))
    rcases hd with hd | hd
    ·have g1:¬ (48:Int)≤((s[i+j]'hjs).toNat:Int):=by omega
     clear hb' hd
     go_wp2_with fail
     exact bodyPost_ret (v:=.int .i64 (j:Int)) (by simp [results,results181,go_sem]) rfl ⟨by rw [hjL'.out],rfl⟩
    ·have g1:(48:Int)≤((s[i+j]'hjs).toNat:Int):=by omega
     have g2:¬ ((s[i+j]'hjs).toNat:Int)≤57:=by omega
     clear hb' hd
     go_wp2_with fail
     exact bodyPost_ret (v:=.int .i64 (j:Int)) (by simp [results,results181,go_sem]) rfl ⟨by rw [hjL'.out],rfl⟩
  ·have hjL':Hid (j=L):=by
    show j=L
    have h1:=zgF ((bl s).drop i)
    rw [HL.out,List.length_drop,zbs] at h1
    omega
   have hjs':¬ ((i:Int)+(j:Int) < (s.size:Int)):=by omega
   go_wp2_with fail
   exact bodyPost_ret (v:=.int .i64 (j:Int)) (by simp [results,results181,go_sem]) rfl ⟨by rw [hjL'.out],rfl⟩
end Go.Proofs.YtkoidgbgoccgmaaGreatDoor
