/- What the rows' proofs lean on: the contracts of the functions that they reach, and plain facts (part A1). -/
import Derived.Sort.OwnSorted
import Derived.Sort.KeysCollected
import Derived.Maps.RangeWalk
import Derived.Test.YtinjdacijiohiaaGreatDoorC8
set_option linter.unusedSimpArgs false
set_option linter.unusedVariables false
set_option maxRecDepth 100000
set_option maxHeartbeats 4000000
namespace Go.Proofs
open Go.Shelf
def Tryz.laysSlM6_f29_ren:Go.Shelf.Ren:=⟨fun | 6=>29 | 8=>87 | 9=>86 | 19=>156 | 20=>157 | 21=>147 | 22=>148 | 23=>149 | 24=>150 | 25=>151 | 26=>152 | 27=>153 | 28=>154 | 29=>155 | 36=>194 | 31=>195 | 32=>196 | 37=>197 | 38=>198 | 39=>199 | 41=>226 | n=>n,fun | 27=>32 | 29=>9 | 3=>3 | 32=>93 | 26=>32 | 0=>0 | 44=>139 | 46=>105 | 4=>4 | 36=>132 | 35=>131 | 41=>114 | 5=>5 | 9=>9 | 53=>172 | 57=>176 | 63=>194 | 64=>48 | n=>n,fun | n=>n⟩
theorem Tryz.laysSlM6_f29:Go.Proofs.SlLaysM.n6 prog Tryz.laysSlM6_f29_ren:={
 mixed:=by kernel_rfl
 f6:=⟨Tryz.f29.name,by decide,Tryz.func29.trans (congrArg some (by kernel_rfl))⟩
 f8:=Tryz.func87.trans (congrArg some (by kernel_rfl))
 f9:=⟨Tryz.f86.name,by decide,Tryz.func86.trans (congrArg some (by kernel_rfl))⟩
 f19:=Tryz.func156.trans (congrArg some (by kernel_rfl))
 f20:=Tryz.func157.trans (congrArg some (by kernel_rfl))
 f21:=⟨Tryz.f147.name,by decide,Tryz.func147.trans (congrArg some (by kernel_rfl))⟩
 f22:=⟨Tryz.f148.name,by decide,Tryz.func148.trans (congrArg some (by kernel_rfl))⟩
 f23:=⟨Tryz.f149.name,by decide,Tryz.func149.trans (congrArg some (by kernel_rfl))⟩
 f24:=⟨Tryz.f150.name,by decide,Tryz.func150.trans (congrArg some (by kernel_rfl))⟩
 f25:=⟨Tryz.f151.name,by decide,Tryz.func151.trans (congrArg some (by kernel_rfl))⟩
 f26:=⟨Tryz.f152.name,by decide,Tryz.func152.trans (congrArg some (by kernel_rfl))⟩
 f27:=⟨Tryz.f153.name,by decide,Tryz.func153.trans (congrArg some (by kernel_rfl))⟩
 f28:=⟨Tryz.f154.name,by decide,Tryz.func154.trans (congrArg some (by kernel_rfl))⟩
 f29:=⟨Tryz.f155.name,by decide,Tryz.func155.trans (congrArg some (by kernel_rfl))⟩
 f31:=Tryz.func195.trans (congrArg some (by kernel_rfl))
 f32:=Tryz.func196.trans (congrArg some (by kernel_rfl))
 f36:=⟨Tryz.f194.name,by decide,Tryz.func194.trans (congrArg some (by kernel_rfl))⟩
 f37:=⟨Tryz.f197.name,by decide,Tryz.func197.trans (congrArg some (by kernel_rfl))⟩
 f38:=⟨Tryz.f198.name,by decide,Tryz.func198.trans (congrArg some (by kernel_rfl))⟩
 f39:=⟨Tryz.f199.name,by decide,Tryz.func199.trans (congrArg some (by kernel_rfl))⟩
 f41:=⟨Tryz.f226.name,by decide,Tryz.func226.trans (congrArg some (by kernel_rfl))⟩
 t0:=Tryz.underlying0
 a0:=Tryz.isAgg0
 z0:=Tryz.sizeOf0
 v0:=Tryz.zeroValue0
 t3:=Tryz.underlying3
 a3:=Tryz.isAgg3
 z3:=Tryz.sizeOf3
 v3:=Tryz.zeroValue3
 t4:=Tryz.underlying4
 a4:=Tryz.isAgg4
 z4:=Tryz.sizeOf4
 v4:=Tryz.zeroValue4
 t5:=Tryz.underlying5
 a5:=Tryz.isAgg5
 z5:=Tryz.sizeOf5
 v5:=Tryz.zeroValue5
 t9:=Tryz.underlying9
 a9:=Tryz.isAgg9
 z9:=Tryz.sizeOf9
 v9:=Tryz.zeroValue9
 t26:=Tryz.underlying32
 a26:=Tryz.isAgg32
 z26:=Tryz.sizeOf32
 v26:=Tryz.zeroValue32
 t27:=Tryz.underlying32
 a27:=Tryz.isAgg32
 z27:=Tryz.sizeOf32
 v27:=Tryz.zeroValue32
 t29:=Tryz.underlying9
 a29:=Tryz.isAgg9
 z29:=Tryz.sizeOf9
 v29:=Tryz.zeroValue9
 t32:=Tryz.underlying93
 a32:=Tryz.isAgg93
 z32:=Tryz.sizeOf93
 v32:=Tryz.zeroValue93
 t35:=Tryz.underlying131
 a35:=Tryz.isAgg131
 z35:=Tryz.sizeOf131
 v35:=Tryz.zeroValue131
 t36:=Tryz.underlying132
 a36:=Tryz.isAgg132
 z36:=Tryz.sizeOf132
 v36:=Tryz.zeroValue132
 t41:=Tryz.underlying114
 a41:=Tryz.isAgg114
 z41:=Tryz.sizeOf114
 v41:=Tryz.zeroValue114
 t44:=Tryz.underlying139
 a44:=Tryz.isAgg139
 z44:=Tryz.sizeOf139
 v44:=Tryz.zeroValue139
 t46:=Tryz.underlying105
 a46:=Tryz.isAgg105
 z46:=Tryz.sizeOf105
 v46:=Tryz.zeroValue105
 t53:=Tryz.underlying172
 a53:=Tryz.isAgg172
 z53:=Tryz.sizeOf172
 v53:=Tryz.zeroValue172
 t57:=Tryz.underlying176
 a57:=Tryz.isAgg176
 z57:=Tryz.sizeOf176
 v57:=Tryz.zeroValue176
 t63:=Tryz.underlying194
 a63:=Tryz.isAgg194
 z63:=Tryz.sizeOf194
 v63:=Tryz.zeroValue194
 t64:=Tryz.underlying48
 a64:=Tryz.isAgg48
 z64:=Tryz.sizeOf48
 v64:=Tryz.zeroValue48 }
open Go.Sort Go.RowKit in
theorem Tryz.slices_Sort_string (blk off cap:Nat) (ss:List (List UInt8)) (w:World) (hH:Holds encStr w blk off ss.toArray) (hblk:blk<w.heap.size) (hsz:ss.length<4611686018427387904) :
  Calls prog 29 #[.slice (some ⟨blk,off,none⟩) ss.length cap] w λe w'=>
   e = .returned (.tuple #[])∧∃ n os,w'=grow (putRow encStr (Sort.ahead w n) blk off (ss.mergeSort λx y=>decide (x<=y)).toArray) os:=AnyM.slices_Sort_string Tryz.laysSlM6_f29 blk off cap ss w hH hblk hsz
end Go.Proofs
namespace Go.Proofs.YtinjdacijiohiaaGreatDoor
open _root_.Go.Proofs.Tryz
open Go.Maps Go.RowKit Go.Sort NM
theorem ktab_size (p:Nat->Nat):Maps.size (zik (zfg p))=19:=by kernel_rfl
theorem ktab_keys (p:Nat->Nat):strKeys (zik (zfg p))=strKeys (zik (zfg λ_=>0)):=by kernel_rfl
theorem kown_low {W:World} {base base' n size:Nat} {e:TypeId} {v:Value} {xs:List Value} (h:W.ownsRow base e size v n xs) (hb:base'<=base):W.ownsRow base' e size v n xs:=
 ⟨h.1,h.2.imp id fun⟨g,cap,cur,e1,hg,r⟩=>⟨g,cap,cur,e1,Nat.le_trans hb hg,r⟩⟩
theorem info_str:(Tryz.prog.info? 9).map (λi=>(i.zero,i.size,i.bytes))=some (some (.string ⟨#[]⟩),1,16):=by kernel_rfl
theorem knames_any (w:World) :
  Calls prog 11 #[] w λe w'=>∃ (v:Value) (ss:List (List UInt8)),e = .returned v∧ss.Perm (strKeys (zik (zfg λ_=>0)))∧w'.ownsRow w.heap.size 9 1 v ss.length ((ss.mergeSort (λx y=>decide (x<=y))).map encStr)∧Ext w w':=by
 obtain⟨i0,hi,hz0,hz1,hz2⟩:=info_parts info_str
 go_enter func11,ntmps11
 go_wp2_with (first
  | (go_at_call 15;(with_reducible refine(zdx _).mono ?_);rintro e w1 ⟨bm,rfl,p,hT⟩;obtain⟨D0,hOwn,HSZ,HKY⟩:∃ D0,w1.ownsMap prog 9 zoc bm 19 D0∧Hid (Maps.size D0=19)∧Hid (strKeys D0=strKeys (zik (zfg λ_=>0))):=⟨_,hT.tab,ktab_size p,ktab_keys p⟩;have hbm:=hT.hb;have hxT:=hT.ext;have hbl:=hT.lt;clear hT)
  | (at_range;refine wpList_range_own _ rfl _ 45 rfl 9 43 (string_keyed Tryz.underlying9) Tryz.underlying45 zoc bm 19 D0 rfl hOwn ?_;intro w0 hrg0 hg0 hs0)
  | go_in)
 go_frame
 rw[HSZ.out] at hrg0
 go_loopw [1] (λv wr=>∃ (left:Lit->Bool) (cnt:Nat) (ss:List (List UInt8)),wr.ranges prog 9 zoc bm w1.heap.size 19 D0 left cnt∧ss.length+cnt<=19∧wr.ownsRow w1.heap.size 9 1 v ss.length (ss.map encStr)∧Collected D0 left ss∧w1.heap.size+1<=wr.heap.size∧Below w.heap.size w wr)
  (λ_ wr=>wr.rangeLeft bm w1.heap.size)
 case atStart=>exact⟨_,_,[],hrg0,by simp,World.ownsRow_nil _ _ _ _,Collected.start _,by rw[hs0];exact Nat.le_refl _,hxT.grown hg0 hxT.size (λj hj=>by cases hj)⟩
 case round=>
  obtain⟨left,cnt,ss,hrg,hcs,hrow,hC,hz1',hnx⟩:=hrel
  go_wp2_with (first
   | (at_next;refine wpList_next_ranges _ rfl _ rfl 9 (string_keyed Tryz.underlying9) zoc encStr (λv:Value=>v) (λkey kl hk=>by obtain⟨x,hx,_⟩:=Maps.keyOf_str Tryz.underlying9 hk;exact⟨x,hx⟩) (λv y hv=>⟨v,rfl⟩) bm w1.heap.size 19 _ _ _ rfl hrg ?_ ?_)
   | go_in)
  ·intro hc0 hl0
   have hP:=hC.perm hrg.owns (string_keyed Tryz.underlying9) Tryz.underlying9 hl0
   rw[HKY.out] at hP
   have HP:=Lib.hid hP
   have hl19:ss.length=19:=by rw[hP.length_eq];kernel_rfl
   clear hP hC
   rcases hrow.2 with⟨hnil,hn0⟩ | ⟨g,cap,cur,rfl,hbase,hb,h1,h2,h3,h4⟩
   ·exfalso;omega
   have hH:Holds encStr wr g 0 ss.toArray:=holds_of_block hb (by simpa using h4)
   have hgl:g<wr.heap.size:=(Array.getElem?_eq_some_iff.1 hb).1
   have hc:=Tryz.slices_Sort_string g 0 cap ss wr hH hgl (by omega)
   clear hl19
   go_wp2_with (go_at_call 29;with_reducible refine(hc).mono ?_;rintro e w' ⟨rfl,nn,os,rfl⟩)
   go_ret
   exact⟨_,ss,rfl,HP.out,kown_low (ownsRow_sorted (by simp) hbase hb h1 h2 h3) hxT.size,hnx.grown (grownBy_sorted _) hnx.size (λj hj=>by cases hj;exact Nat.le_trans hxT.size hbase)⟩
  ·intro x c kl yd yp w2 cnt2 hkey hlk hv hat hrg2 hlt hg2 hs2 hen
   obtain⟨x',ex,rfl,_⟩:=Maps.keyOf_str Tryz.underlying9 hkey
   obtain rfl:x=x':=encStr_inj ex
   have hrow2:=hrow.kept hg2 (Or.inr (row_ne_iter hrow hrg).symm)
   clear hs2
   go_wp2_with (first
    | (at_builtin;refine wpList_append_own _ rfl _ _ 32 rfl w1.heap.size 9 i0 (.string ⟨#[]⟩) 1 16 Tryz.underlying32 hi hz0 hz1 hz2 rfl (by decide) _ _ _ rfl (hrow2.alloc _) ⟨w2.heap.size,0,none⟩ 1 1 [encStr x] rfl rfl (cell_one_new _ _ _) (by simp[Value.oneCell',encStr]) (by unfold maxLen at *;omega) (by omega) (by have:=hnx.size;have:=hg2.size;simp;omega) ?_;intro v' w3 hown' hg3 hnil3;go_frame)
    | go_in)
   have hrg3:=(hrg2.alloc _).kept hg3 (row_ne_low hrow2 hbl) (row_ne_iter hrow2 hrg2)
   go_roundw
   case rel=>
    refine⟨_,cnt2,ss++[x],hrg3,by simp;omega,by simpa using hown',hC.step hlk hat,by have:=hg3.size;have:=hg2.size;simp at *;omega,?_⟩
    exact((hnx.grown hg2 hnx.size (λj hj=>by cases hj;exact hxT.size)).alloc (by have:=hnx.size;have:=hg2.size;omega) _).grown hg3 (by have:=hnx.size;have:=hg2.size;simp;omega) (λj hj=>Nat.le_trans hxT.size (hrow2.lt j hj).1)
   case measure=>rw[hrg3.left_eq,hrg.left_eq];exact hlt
theorem names19_sorted:names19.mergeSort leB=names19:=by
 refine List.mergeSort_of_pairwise ?_
 unfold names19 takesT leB
 decide
theorem kkeys_perm:(strKeys (zik (zfg λ_=>0))).Perm names19:=by
 refine List.isPerm_iff.1 ?_
 kernel_rfl
theorem ksorted_names {ss:List (List UInt8)} (h:ss.Perm (strKeys (zik (zfg λ_=>0)))):ss.mergeSort (λx y=>decide (x<=y))=names19∧ss.length=19:=
 ⟨(mergeSort_of_perm (h.trans kkeys_perm)).trans names19_sorted,by rw[(h.trans kkeys_perm).length_eq];rfl⟩
theorem knames_row {w:World} {base:Nat} {v:Value} {l:List (List UInt8)} {n:Nat} (h:w.ownsRow base 9 1 v n (l.map encStr)) (hn:0<n):∃ b off c,v = .slice (some ⟨b,off,none⟩) n c∧n<=c∧∀ k s,l[k]? = some s->w.cell? ⟨b,off+k,none⟩=some (.string ⟨s.toArray⟩):=by
 have hl:=h.1
 obtain⟨A,c,rfl,hrd,hc⟩:=Rd.of_own h
 have hl':l.length=n:=by have:=hl;simp only[List.length_map] at this;omega
 obtain⟨b,off,rfl,_,_⟩:=hrd 0 (encStr l[0]) (by simp)
 refine⟨b,off,c,rfl,hc,λk s hs=>?_⟩
 obtain⟨b',off',he,_,h1⟩:=hrd k (encStr s) (by simp[hs])
 obtain⟨rfl,rfl⟩:=aI he
 exact h1
theorem dnames_any (w:World):Calls prog 10 #[] w λe w'=>∃ b,e = .returned (.slice (some ⟨b,0,none⟩) 19 19)∧(∀ k s,names19[k]? = some s->w'.cell? ⟨b,0+k,none⟩=some (.string ⟨s.toArray⟩))∧Ext w w':=by
 go_enter func10,ntmps10
 go_wp2_with fail
 go_ret
 refine⟨_,rfl,λk s hs=>?_,by simp[go_sem]⟩
 have hrd:=Rd.of_row (w:=w.alloc (.cells (names19.map encStr).toArray 9)) (b:=w.heap.size) (cs:=names19.map encStr) (t:=9) (zaU _ _) 0 (Nat.zero_le _)
 obtain⟨b',off',he,_,h1⟩:=hrd k (encStr s) (by simp[hs])
 obtain⟨rfl,rfl⟩:=aI he
 exact h1
theorem fmathAlls_any (A:Option Addr) (n cap:Nat) (gs:List GA) (w:World) (htab:Tab w) (hft:zbT w) (h:ArgsG w A n cap gs) :
  Tl prog 4 #[.slice A n cap] w (.bool true):=by
 have HT:=Lib.hid htab
 have HF:=Lib.hid hft
 have H:=Lib.hid h
 have hcs:=λs hs=>zo4 s hs A n cap gs w htab hft h
 have HCS:=Lib.hid hcs
 clear htab hft h hcs
 go_enter func4,ntmps4
 go_upto_region 3 with(first | (go_at_call 5;with_reducible refine aM (zfY _ (HT.out.ext (by simp[go_sem])) (HF.out.ext (by simp[go_sem]))) λos1 d1=>?_) | (go_at_call 6;(with_reducible refine(zfZ _ _ _ _ _ (H.out.ext (by simp[go_sem]))).mono ?_);rintro e w' ⟨b,rfl,hgr,hb⟩;obtain⟨os9,d9,rfl⟩:=hb.more;clear hb;have HGR:=Lib.hid hgr;clear hgr;cases b))
 rotate_left
 focus
  go_ret
  exact⟨rfl,by simp[go_sem]⟩
 have hB:=HGR.out (by simp)
 clear HGR
 have hcs:=λs hs=>(HCS.out s hs).imp λX h=>And.intro (h.1 hB) h.2
 replace HCS:=Lib.hid hcs
 clear hcs hB
 go_upto_region 7 with(first | (go_at_call 11;(with_reducible refine(knames_any _).mono ?_);rintro e w' ⟨v,ss,rfl,hS,hrow,hb⟩;rw[(ksorted_names hS).1,(ksorted_names hS).2] at hrow;obtain⟨b1,off1,c1,rfl,hc1,hat1⟩:=knames_row hrow (by omega);replace hat2:=λk s hs=>hb.cell_some (hat2 k s hs);obtain⟨os1,d1,rfl⟩:=hb.more;clear hb hrow hS;(try simp only[zc,Array.append_assoc] at hat1);(try simp only[zc,Array.append_assoc] at hat2)) | (go_at_call 10;(with_reducible refine(dnames_any _).mono ?_);rintro e w' ⟨b2,rfl,hat2,hb⟩;obtain⟨os2,d2,rfl⟩:=hb.more;clear hb;(try simp only[zc,Array.append_assoc] at hat2)))
 refine zH λU hU=>?_
 have hx0:Ext w U:=by rw[hU];exact(by simp[go_sem])
 rw[<-hU] at hat1 hat2
 clear hU
 go_wp2_with fail
 go_loopw [5] (λi wr=>∃ k:Nat,k<=19∧i = .int .i64 (k:Int)∧Ext U wr) (λi _=>19-(intOf i).toNat)
 case atStart=>exact⟨0,Nat.zero_le _,rfl,Ext.refl _⟩
 case round=>
  obtain⟨k,hk,rfl,hxr⟩:=hrel
  have hxw:=hx0.trans hxr
  by_cases hlt:k<19
  ·have hn:names19[k]? = some (names19[k]'(by simpa[names19,takesT] using hlt)):=List.getElem?_eq_getElem _
   generalize names19[k]'(by simpa[names19,takesT] using hlt)=nm at hn
   have q1:=hxr.cell_some (hat1 k nm hn)
   have q2:=hxr.cell_some (hat2 k nm hn)
   rw[Nat.zero_add] at q2
   have l1:=za q1
   have l2:=za q2
   obtain⟨X,hp,hd⟩:=HCS.out ⟨nm.toArray⟩ (by simpa using List.mem_of_getElem? hn)
   have hs0:zdw X.R X.C X.l X.R X.C X.l=true:=by simp[zdw]
   have HP:=Lib.hid hp
   have HD:=Lib.hid hd
   clear hn hat1 hat2 hp hd
   go_upto_region 12 with(first | (go_at_call 7;(with_reducible refine(HP.out _ (hxw.trans (by simp[go_sem]))).mono ?_);rintro e w' ⟨D,m,cc,rfl,hD,hb⟩;obtain⟨os4,d4,rfl⟩:=hb.more;clear hb;have HD4:=Lib.hid hD.arr;clear hD) | (go_at_call 8;(with_reducible refine(HD.out _ (hxw.trans (by simp[go_sem]))).mono ?_);rintro e w' ⟨D',m',cc',rfl,hD',hb⟩;obtain⟨os5,d5,rfl⟩:=hb.more;clear hb;have HD5:=Lib.hid hD';clear hD'))
   refine plP [(0,0),(1,0),(2,0),(3,0),(4,0),(5,0),(6,0),(7,0),(8,0),(9,0),(10,0),(11,0),(12,0),(13,0),(14,0),(15,0),(16,1),(17,0),(18,0)] [] (by kernel_rfl) (λ_ _ d _ _ h=>by cases d <;> exact h) ?_
   iterate 16((first | refine zaM rfl rfl ?_ | refine zaZ rfl rfl rfl rfl rfl rfl ?_ | refine zbb rfl rfl rfl rfl rfl rfl ?_ | (apply rdP rfl rfl;(intros;go_simp;first | done | rfl)) | (refine zaA (v:=?_) (c:=?_) rfl rfl rfl rfl ?_ (λhc w1 h1=>?_) ?_;rotate_left 2;(first | exact zaO _ | exact zaP _ | exact zaq _ _ | exact zar _ _);(obtain⟨os1,d1,rfl⟩:=h1.more;(try simp only[zv hc]);(try(have hc1:=zO hc;(try simp only[zv hc1]);(try(have hc2:=zO hc1;(try simp only[zv hc2])))));go_simp;first | done | rfl)));try simp only[zq])
   (refine zg rfl ?_ (λK hK=>?_);(first | with_reducible rfl | rfl | (go_simp;done));go_simp;(refine(zeu _ _ _ _ _ _ _ _ _ _ X.l X.l _ (HD4.out.ext (by simp[go_sem])) (HD5.out.ext (by simp[go_sem]))).mono ?_;rw[hs0];rintro e w' ⟨rfl,hb⟩;obtain⟨os6,d6,rfl⟩:=hb.more;clear hb);refine hK _ _ ?_ ?_;(simp[go_sem]))
   try simp only[zq]
   iterate 2((first | refine zaM rfl rfl ?_ | refine zaZ rfl rfl rfl rfl rfl rfl ?_ | refine zbb rfl rfl rfl rfl rfl rfl ?_ | (apply rdP rfl rfl;(intros;go_simp;first | done | rfl)) | (refine zaA (v:=?_) (c:=?_) rfl rfl rfl rfl ?_ (λhc w1 h1=>?_) ?_;rotate_left 2;(first | exact zaO _ | exact zaP _ | exact zaq _ _ | exact zar _ _);(obtain⟨os1,d1,rfl⟩:=h1.more;(try simp only[zv hc]);(try(have hc1:=zO hc;(try simp only[zv hc1]);(try(have hc2:=zO hc1;(try simp only[zv hc2])))));go_simp;first | done | rfl)));try simp only[zq])
   refine zi ?_
   go_wp2_with fail
   exact⟨⟨k+1,by omega,by go_num,hxr.trans (by simp[go_sem])⟩,by simp[intOf];omega⟩
  ·obtain rfl:k=19:=by omega
   clear hat1 hat2
   go_wp2_with fail
   go_ret
   exact⟨rfl,hxw.trans (by simp[go_sem])⟩
end Go.Proofs.YtinjdacijiohiaaGreatDoor
