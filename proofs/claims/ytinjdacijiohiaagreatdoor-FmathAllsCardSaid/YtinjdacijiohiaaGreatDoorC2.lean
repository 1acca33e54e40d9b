/- What the rows' proofs lean on: the contracts of the functions that they reach, and plain facts (part C2). -/
import Derived.Lib.AppendZeros
import Derived.Test.YtinjdacijiohiaaGreatDoorC1
set_option linter.unusedSimpArgs false
set_option linter.unusedVariables false
set_option maxRecDepth 100000
set_option maxHeartbeats 4000000
namespace Go.Proofs.YtinjdacijiohiaaGreatDoor
open _root_.Go.Proofs.Tryz
open Go.RowKit NM
theorem zgP (z n):Builtin.zeroCells #[z] n=(List.replicate n z).toArray:=by
 apply Array.ext_getElem?
 intro j;unfold Builtin.zeroCells;by_cases h:j<n
 ·rw[Array.getElem?_eq_getElem (by simpa using h),Array.getElem?_eq_getElem (by simpa using h)];simp[Nat.mod_one]
 ·rw[Array.getElem?_eq_none (by simp;omega),Array.getElem?_eq_none (by simp;omega)]
theorem zk8 {P} (w base t tn ty e i z) (kn:IntKind) (bytes) (ht:P.underlying t=some (.slice e)) (htn:P.underlying tn=some (.int kn)) (hi:P.info? e=some i) (hz:i.zero=some z) (hsize:i.size=1) (hby:i.bytes=bytes) (hzc:z.cells=#[z]) (h1:z.oneCell'=true) (v n xs) (hown:w.ownsRow base e 1 v n xs) (hn0:0<n) (m:Nat) (h63:n+m<=1000000) (hbytes:bytes<=1000) (hbase:base<=w.heap.size) :
  ∃ v' w',(Builtin.append_ #[t,tn] ty #[v,.int .i64 (m:Int)]).run P w = .ok v' w'∧w'.ownsRow base e 1 v' (n+m) (xs++List.replicate m z)∧w.grownBy w' v.ownBlock:=by
 have hw:IntKind.i64.wrap (m:Int)=m:=by rw[IntKind.wrap_i64];omega
 have hneg:¬ ((m:Int)<0):=by omega
 have hmb:m*i.bytes<=1000000*1000:=Nat.mul_le_mul (by omega) (by omega);have h48i:¬ (281474976710656<(m:Int)*(i.bytes:Int)):=by rw[<-Int.natCast_mul];omega
 rcases hown.2 with⟨_,h0⟩ | ⟨g,cap,cur,rfl,hbg,hg,hnc,hcm,hcs,htake⟩
 ·omega
 have hlen:(xs++List.replicate m z).length=(n+m)*1:=by rw[List.length_append,hown.1,List.length_replicate];omega
 by_cases hm:m=0
 ·subst hm;have hw0:IntKind.i64.wrap 0=0:=by decide
  refine⟨.slice (some ⟨g,0,none⟩) n cap,w,?_,by simpa using hown,⟨rfl,rfl,rfl,Nat.le_refl _,λ_ _ _=>rfl⟩⟩;simp[Builtin.append_,run_underlying ht,run_underlying htn,sizeOf,typeInfo,hi,asInt,asIntOf,hw0,hnc,storeCells]
 ·have hms:¬ (m*i.size=0):=by rw[hsize];omega
  have hms1:¬ (m=0):=hm;by_cases hroom:n+m<=cap
  ·have hst:=run_storeCells_at P g n e (List.replicate m z) 0 cur w hg (by rw[List.length_replicate];omega) (λu hu=>by rw[List.eq_of_mem_replicate hu];exact h1);simp only[Nat.add_zero] at hst;refine⟨.slice (some ⟨g,0,none⟩) (n+m) cap,_,?_,⟨hlen,.inr ⟨g,cap,(cur.toList.take n++List.replicate m z++cur.toList.drop (n+(List.replicate m z).length)).toArray,rfl,hbg,setRow_heap w g cur _ e _ hg,hroom,hcm,?_,?_⟩⟩,⟨rfl,rfl,rfl,by simp,λk _ hk=>setRow_other w g k _ (λe=>hk (by simp[Value.ownBlock,e]))⟩⟩
   ·simp[Builtin.append_,run_underlying ht,run_underlying htn,sizeOf,typeInfo,zeroValue,hi,hz,asInt,asIntOf,hw,hneg,h48i,hms1,hroom,hsize,hzc,zgP,Addr.add_lit]
    rw[hst];simp
   ·simp only[List.size_toArray,List.length_append,List.length_take,List.length_drop,Array.length_toList,List.length_replicate];omega
   ·rw[Nat.mul_one] at htake;rw[htake,<-hlen];exact List.take_left
  ·have holds:∀ j u,xs[j]? = some u->w.cell? ((⟨g,0,none⟩:Addr).add j)=some u:=hown.cells (g:=g) rfl;have hf:=run_firstCells_some (P:=P) w.drew i.size n ⟨g,0,none⟩ n cap xs (by rw[hsize];exact hown.1) (by simpa using holds);rw[hsize] at hf;have h63':¬ (9223372036854775807<((n:Int)+(m:Int))):=by omega
   have hfit:=growslice_fits (need:=n+m) (old:=cap) (bytes:=i.bytes) (by omega) (Nat.le_trans (Nat.mul_le_mul (show n+m<=1000000 by omega) (show i.bytes<=1000 by omega)) (by decide));have h48':¬ (281474976710656<Builtin.nextslicecap (n+m) cap*i.bytes):=by omega
   have hge:=grownCap_ge w (n+m) cap e;have hcm':grownCap w (n+m) cap e<=maxLen:=grownCap_le_maxLen w (n+m) cap e (by simp[maxLen];omega);refine⟨.slice (some ⟨w.heap.size,0,none⟩) (n+m) (grownCap w (n+m) cap e),w.drew.alloc (.cells (xs.toArray++(List.replicate m z).toArray++Builtin.zeroCells z.cells (grownCap w (n+m) cap e-(n+m))) e),?_,⟨hlen,.inr ⟨w.heap.size,_,_,rfl,hbase,heap_alloc_new w.drew _,hge,hcm',?_,?_⟩⟩,⟨rfl,rfl,rfl,by simp,λj hj _=>RowKit.Below.heap_alloc w.drew _ j hj⟩⟩
   ·simp[Builtin.append_,run_underlying ht,run_underlying htn,sizeOf,typeInfo,zeroValue,hi,hz,asInt,asIntOf,hw,hneg,h48i,hms1,hroom,hsize,hzc,zgP,h63',h48',Question.forced,hf,newRow,grownCap]
   ·simp only[Array.size_append,List.size_toArray,size_zeroCells,hzc,hown.1,List.length_replicate];simp;omega
   ·simp only[Array.toList_append,List.append_assoc];rw[<-List.append_assoc,<-hlen];exact List.take_left
theorem zk9 {w:World} {base base' e v n xs} (h:w.ownsRow base e 1 v n xs) (hb:base'<=base):w.ownsRow base' e 1 v n xs:=by
 refine⟨h.1,?_⟩;rcases h.2 with h2 | ⟨g,cap,cur,h3,h4,h5⟩
 ·exact Or.inl h2
 ·exact Or.inr ⟨g,cap,cur,h3,by omega,h5⟩
theorem zrk (l k):b8 l++List.replicate k (Value.int .u8 0)=b8 (l++List.replicate k 0):=by unfold b8;simp
theorem zsK:Tryz.prog.underlying 3=some (.int .i64):=Tryz.underlying3
def zdE (m:Int) (k:Nat):List Nat:=zaE m.natAbs++List.replicate k 0
theorem ziH (m ex low) (k:Nat) (w) (htab:Tab w) (hm:I64 m) (hk:ex-low=(k:Int)) (hkb:k<=1000) :
  Calls prog 162 #[NV m ex,.int .i64 low] w λe w'=>∃ v,e = .returned v∧w'.ownsRow w.heap.size 5 1 v (zdE m k).length (b8 (zdE m k))∧Ext w w':=by
 have hu:m.natAbs<18446744073709551616:=by obtain⟨h1,h2⟩:=hm;omega
 have hl20:(zaE m.natAbs).length<=20:=by rw[zbc];have:=(nd_le_iff m.natAbs 20).2 (Nat.lt_of_lt_of_le hu (by decide));omega
 have hl1:1<=(zaE m.natAbs).length:=by rw[zbc];omega
 have hdg:=λW hW=>zdb m.natAbs hu W hW;have hsz:=λW=>za4 m W hm;have hsp:zdE m k=zaE m.natAbs++List.replicate k 0:=rfl;obtain⟨i0,hi,hz0,hz1,hz2⟩:=info_parts zda;generalize zaE m.natAbs=D at *;generalize zdE m k=R at *;generalize m.natAbs=N at *;have HT:=Lib.hid htab;have HSP:=Lib.hid hsp;have w1:IntKind.i64.wrap (ex-low)=(k:Int):=by rw[hk];exact zaD (by omega) (by omega)
 have w2:wrap64 (ex-low)=(k:Int):=by rw[hk];exact IntWalk.wrap64_in _ (by omega)
 have w3:IntKind.i64.wrap (k:Int)=(k:Int):=zaD (by omega) (by omega);clear htab hsp;go_enter func162,ntmps162;go_wp2;refine zH λW hW=>?_;have c0:W.cell? ⟨w.heap.size,0,none⟩=some (.int .i64 m):=by rw[hW];go_simp
 have c1:W.cell? ⟨w.heap.size,1,none⟩=some (.int .i64 ex):=by rw[hW];go_simp
 have hz:w.heap.size<W.heap.size:=by rw[hW];simp
 have hxW:Ext w W:=by rw[hW];exact by simp[go_sem]
 clear hW;have hdgW:=hdg W.drew (HT.out.ext hxW.drew);clear hdg;refine plP [(0,0),(1,0),(4,0),(5,0),(6,0),(7,0),(2,1),(3,1),(8,1),(9,0)] [] (by kernel_rfl) (λ_ _ d _ _ h=>by cases d <;> exact h) ?_;iterate 6(apply rdP rfl rfl;(intros;go_simp;first | done | rfl);try simp only[zq])
 (refine zg rfl ?_ (λK hK=>?_);rfl;go_simp;(go_at_call 113;(with_reducible refine(hsz _).mono ?_);rintro e w' ⟨rfl,rfl⟩);refine hK _ _ ?_ ?_;(simp[go_sem]))
 try simp only[zq]
 (refine zg rfl ?_ (λK hK=>?_);rfl;go_simp;(go_at_call 159;(with_reducible refine hdgW.mono ?_);rintro e w' ⟨v,rfl,ho,hx⟩;obtain⟨os,d,rfl⟩:=hx.more);refine hK _ _ ?_ ?_;(simp[go_sem]))
 try simp only[zq]
 (refine zg rfl ?_ (λK hK=>?_);rfl;obtain⟨v2,w2,hr,ho2,hg2⟩:=zk8 (P:=prog) _ W.heap.size 141 3 141 5 i0 (.int .u8 0) .i64 1 Tryz.underlying141 zsK hi hz0 hz1 hz2 rfl rfl _ _ _ ho hl1 k (by omega) (by omega) (by simp);refine Lib.wp_append_run _ _ _ _ _ rfl _ _ rfl rfl _ _ hr ?_;have hx2:Ext W _:=zde (Ext.trans (Ext.drew (Ext.refl W)) hx) ho hg2;refine hK _ _ hx2 ?_)
 try simp only[zq]
 (apply rdP rfl rfl;(intros;go_simp;first | done | rfl))
 try simp only[zq]
 refine zi ?_;go_wp2;go_ret;rw[zrk] at ho2;have hl2:D.length+k=R.length:=by rw[HSP.out];simp
 rw[hl2,<-HSP.out] at ho2;exact⟨_,rfl,zk9 ho2 (by omega),hxW.trans hx2⟩
end Go.Proofs.YtinjdacijiohiaaGreatDoor
namespace Go.Proofs.YtinjdacijiohiaaGreatDoor.NM
def rndI (x:Int) (e:Int):Option (Int×Int):=rnd (decide (x<0)) x.natAbs false e
theorem rnd_nought (neg more e):rnd neg 0 more e=some (0,0):=rnd_of_zero (n2_zero _ _)
theorem rnd_sg (neg N e):rnd neg N false e=rndI (sg neg N) e:=by
 unfold rndI;rw[sg_natAbs];by_cases h:N=0
 ·subst h;rw[rnd_nought,rnd_nought]
 ·congr 1
  cases neg <;> simp[sg] <;> omega
theorem rndI_neg (x e):rndI (-x) e=(rndI x e).map λr=>(-r.1,r.2):=by
 have h:=rnd_neg (decide (x<0)) x.natAbs false e;have h1:sg (!decide (x<0)) x.natAbs=-x:=by unfold sg;by_cases hx:x<0 <;> simp[hx] <;> omega
 rw[rnd_sg,h1] at h;exact h
theorem sg_nat (x):sg (decide (x<0)) x.natAbs=x:=by unfold sg;by_cases hx:x<0 <;> simp[hx] <;> omega
def sumI (ma ea mb eb:Int):Int:=ma*(T (ea-min ea eb).toNat:Nat)+mb*(T (eb-min ea eb).toNat:Nat)
def addS (ma ea mb eb:Int):Option (Int×Int):=if Rt ma ea∧Rt mb eb then rndI (sumI ma ea mb eb) (min ea eb) else none
def mulS (ma ea mb eb:Int):Option (Int×Int):=if Rt ma ea∧Rt mb eb then rndI (ma*mb) (ea+eb) else none
def plusN (na nb:Bool) (Na Nb:Nat):Bool×Nat:=if na=nb then(na,Na+Nb) else if Na<Nb then(nb,Nb-Na) else(na,Na-Nb)
theorem plusN_sg (na nb Na Nb):sg (plusN na nb Na Nb).1 (plusN na nb Na Nb).2=sg na Na+sg nb Nb:=by
 unfold plusN;cases na <;> cases nb <;> simp[sg]
 ·split <;> simp <;> omega
 ·split <;> simp <;> omega
 ·omega
theorem sg_mul_nat (neg N k):sg neg (N*k)=sg neg N*(k:Int):=by
 cases neg <;> simp[sg,Int.neg_mul]
theorem rnd_plus (ma ea mb eb):rnd (plusN (decide (ma<0)) (decide (mb<0)) (ma.natAbs*T (ea-min ea eb).toNat) (mb.natAbs*T (eb-min ea eb).toNat)).1 (plusN (decide (ma<0)) (decide (mb<0)) (ma.natAbs*T (ea-min ea eb).toNat) (mb.natAbs*T (eb-min ea eb).toNat)).2 false (min ea eb)=rndI (sumI ma ea mb eb) (min ea eb):=by
 rw[rnd_sg,plusN_sg,sg_mul_nat,sg_mul_nat,sg_nat,sg_nat];rfl
def valI (l:List Int):Int:=l.foldl (λa d=>10*a+d) 0
theorem foldl_valI (l):∀ a:Int,l.foldl (λa d=>10*a+d) a=a*(T l.length:Nat)+valI l:=by
 induction l with
 | nil=>intro a;simp[valI,T]
 | cons d l ih=>
  intro a;have h1:=ih (10*a+d);have h2:=ih (10*0+d);simp only[valI,List.foldl_cons,List.length_cons] at *;rw[h1,h2,T_succ,Int.natCast_mul,Int.add_mul,Int.add_mul,Int.mul_comm 10 a,Int.mul_assoc];simp;omega
theorem valI_cons (d l):valI (d::l)=d*(T l.length:Nat)+valI l:=by
 have:=foldl_valI l (10*0+d);simp only[valI,List.foldl_cons] at *;rw[this];simp
theorem valI_nil:valI []=0:=rfl
theorem valI_nat (l):valI (l.map λd:Nat=>(d:Int))=(val l:Int):=by
 induction l with
 | nil=>rfl
 | cons d l ih=>rw[List.map_cons,valI_cons,val_cons,ih,List.length_map,Int.natCast_add,Int.natCast_mul]
theorem valI_neg (l):valI (l.map λd=>-d)=- valI l:=by
 induction l with
 | nil=>rfl
 | cons d l ih=>rw[List.map_cons,valI_cons,valI_cons,ih,List.length_map,Int.neg_mul];omega
theorem valI_rep0 (n):valI (List.replicate n 0)=0:=by
 induction n with
 | zero=>rfl
 | succ n ih=>rw[List.replicate_succ,valI_cons,ih];omega
theorem valI_zip:∀ (a b:List Int),a.length=b.length->valI (List.zipWith (· + ·) a b)=valI a+valI b
 | [],[],_=>rfl
 | x::a,y::b,h=>by
  have h':a.length=b.length:=by simpa using h
  rw[List.zipWith_cons_cons,valI_cons,valI_cons,valI_cons,valI_zip a b h',List.length_zipWith,h',Nat.min_self,Int.add_mul];omega
theorem valI_small {l} (h:∀ d∈l,-9<=d∧d<=9):-((T l.length:Nat):Int)<valI l∧valI l<(T l.length:Nat):=by
 induction l with
 | nil=>simp[valI_nil,T]
 | cons d l ih=>
  have h1:=ih (λx hx=>h x (List.mem_cons_of_mem _ hx));have h2:=h d (List.mem_cons_self ..);rw[valI_cons,List.length_cons,T_succ,Int.natCast_mul];have a1:d*((T l.length:Nat):Int)<=9*((T l.length:Nat):Int):=Int.mul_le_mul_of_nonneg_right h2.2 (by omega);have a2:(-9)*((T l.length:Nat):Int)<=d*((T l.length:Nat):Int):=Int.mul_le_mul_of_nonneg_right h2.1 (by omega);generalize ((T l.length:Nat):Int)=t at *;omega
def DOk (l:List Int):Prop:=(∀ d∈l,-9<=d∧d<=9)∨(∀ d∈l,0<=d∧d<=18)∨(∀ d∈l,-18<=d∧d<=0)
theorem valI_nonneg {l} (h:∀ d∈l,0<=d):0<=valI l:=by
 induction l with
 | nil=>simp[valI_nil]
 | cons d l ih=>
  have h1:=ih (λx hx=>h x (List.mem_cons_of_mem _ hx));have h2:=Int.mul_nonneg (h d (List.mem_cons_self ..)) (show(0:Int)<=(T l.length:Nat) by omega);rw[valI_cons];omega
theorem valI_nonpos {l} (h:∀ d∈l,d<=0):valI l<=0:=by
 have:=valI_nonneg (l:=l.map λd=>-d) (by
  intro d hd
  obtain⟨x,hx,rfl⟩:=List.mem_map.1 hd
  have:=h x hx;omega)
 rw[valI_neg] at this;omega
theorem DOk.tail {d l} (h:DOk (d::l)):DOk l:=by
 rcases h with h | h | h
 ·exact Or.inl λx hx=>h x (List.mem_cons_of_mem _ hx)
 ·exact Or.inr (Or.inl λx hx=>h x (List.mem_cons_of_mem _ hx))
 ·exact Or.inr (Or.inr λx hx=>h x (List.mem_cons_of_mem _ hx))
def sgn:List Int->Bool
 | []=>false
 | d::l=>if d=0 then sgn l else decide (d<0)
theorem sgn_spec {l} (h:DOk l):sgn l=decide (valI l<0):=by
 induction l with
 | nil=>simp[sgn,valI_nil]
 | cons d l ih=>
  rw[sgn,valI_cons];by_cases h0:d=0
  ·rw[if_pos h0,ih h.tail,h0];simp
  ·rw[if_neg h0];have hT:=T_pos l.length;rcases h with h | h | h
   ·have h1:=valI_small (l:=l) (λx hx=>h x (List.mem_cons_of_mem _ hx));generalize ((T l.length:Nat):Int)=t at *;by_cases hd:d<0
    ·have:=Int.mul_le_mul_of_nonneg_right (show d<=-1 by omega) (show 0<=t by omega);simp[hd];omega
    ·have:=Int.mul_le_mul_of_nonneg_right (show 1<=d by omega) (show 0<=t by omega);simp[hd];omega
   ·have h1:=valI_nonneg (l:=l) (λx hx=>(h x (List.mem_cons_of_mem _ hx)).1);have h2:=(h d (List.mem_cons_self ..)).1;have:=Int.mul_nonneg h2 (show(0:Int)<=(T l.length:Nat) by omega);have e1:¬ d<0:=by omega
    simp only[e1,decide_false];symm
    rw[decide_eq_false_iff_not];omega
   ·have h1:=valI_nonpos (l:=l) (λx hx=>(h x (List.mem_cons_of_mem _ hx)).2);have h2:=(h d (List.mem_cons_self ..)).2;have:=Int.mul_le_mul_of_nonneg_right (show d<=-1 by omega) (show(0:Int)<=(T l.length:Nat) by omega);have e1:d<0:=by omega
    have hT':(0:Int)<((T l.length:Nat):Int):=by omega
    simp only[e1,decide_true];symm
    rw[decide_eq_true_eq];omega
theorem drop_at {l:List Nat} {j x} (h:l[j]? = some x):l.drop j=x::l.drop (j+1):=by
 have hj:j<l.length:=by
  rcases Nat.lt_or_ge j l.length with h1 | h1
  ·exact h1
  ·rw[List.getElem?_eq_none h1] at h;cases h
 rw[List.drop_eq_getElem_cons hj];rw[List.getElem?_eq_getElem hj] at h;rw[Option.some.inj h]
theorem lt_at {α:Type} {l:List α} {j} {x:α} (h:l[j]? = some x):j<l.length:=by
 rcases Nat.lt_or_ge j l.length with h1 | h1
 ·exact h1
 ·rw[List.getElem?_eq_none h1] at h;cases h
theorem add_step {X Y S:List Nat} {j x y c} (hx:X[j]? = some x) (hy:Y[j]? = some y) (hl:X.length=Y.length) (hs:S.length=X.length-(j+1)) (h:val (X.drop (j+1))+val (Y.drop (j+1))=c*T S.length+val S) :
  val (X.drop j)+val (Y.drop j)=(x+y+c)/10*T (S.length+1)+val ((x+y+c)%10::S):=by
 have l1:(X.drop (j+1)).length=S.length:=by simp;omega
 have l2:(Y.drop (j+1)).length=S.length:=by simp;omega
 rw[drop_at hx,drop_at hy,val_cons,val_cons,val_cons,l1,l2,T_succ];generalize T S.length=t at *;have h3:x*t+val (X.drop (j+1))+(y*t+val (Y.drop (j+1)))=(x+y+c)*t+val S:=by
  rw[Nat.add_mul,Nat.add_mul];omega
 rw[h3];have h4:=Nat.div_add_mod (x+y+c) 10;generalize (x+y+c)/10=q at *;generalize (x+y+c)%10=r at *;rw[<-h4,Nat.add_mul,Nat.mul_comm 10 q,Nat.mul_assoc];omega
theorem sub_step {X Y S:List Nat} {j x y c d c'} (hx:X[j]? = some x) (hy:Y[j]? = some y) (hl:X.length=Y.length) (hs:S.length=X.length-(j+1)) (h:val (X.drop (j+1))+c*T S.length=val (Y.drop (j+1))+val S) (hd:x+10*c'=y+c+d) :
  val (X.drop j)+c'*T (S.length+1)=val (Y.drop j)+val (d::S):=by
 have l1:(X.drop (j+1)).length=S.length:=by simp;omega
 have l2:(Y.drop (j+1)).length=S.length:=by simp;omega
 rw[drop_at hx,drop_at hy,val_cons,val_cons,val_cons,l1,l2,T_succ];generalize T S.length=t at *;have h1:x*t+10*c'*t=y*t+c*t+d*t:=by rw[<-Nat.add_mul,hd,Nat.add_mul,Nat.add_mul]
 rw[<-Nat.mul_assoc,Nat.mul_comm c' 10];omega
theorem val_set {l p d} (d') (h:l[p]? = some d):val (l.set p d')+d*T (l.length-1-p)=val l+d'*T (l.length-1-p):=by
 have hp:=lt_at h;have h1:l=l.take p++d::l.drop (p+1):=by rw[<-drop_at h,List.take_append_drop]
 have h2:l.set p d'=l.take p++d'::l.drop (p+1):=by
  conv=>lhs;rw[h1]
  rw[List.set_append_right _ _ (by simp;omega)];congr 1
  rw[show p-(l.take p).length=0 by simp;omega];rfl
 have h3:(l.drop (p+1)).length=l.length-1-p:=by simp;omega
 have e1:val (l.set p d')=val (l.take p)*T (l.drop (p+1)).length*10+d'*T (l.drop (p+1)).length+val (l.drop (p+1)):=by
  rw[h2,val_append,val_cons,List.length_cons,T_succ,Nat.mul_comm 10,<-Nat.mul_assoc,Nat.add_assoc]
 have e2:val l=val (l.take p)*T (l.drop (p+1)).length*10+d*T (l.drop (p+1)).length+val (l.drop (p+1)):=by
  conv=>lhs;rw[h1]
  rw[val_append,val_cons,List.length_cons,T_succ,Nat.mul_comm 10,<-Nat.mul_assoc,Nat.add_assoc]
 rw[e1,e2,h3];omega
theorem AllD.set {l} (h:AllD l) {p d} (hd:d<10):AllD (l.set p d):=λx hx=>by
 rcases List.mem_or_eq_of_mem_set hx with h1 | h1
 ·exact h x h1
 ·subst h1;exact hd
end Go.Proofs.YtinjdacijiohiaaGreatDoor.NM
namespace Go.Proofs.YtinjdacijiohiaaGreatDoor
open _root_.Go.Proofs.Tryz
open Go.RowKit NM
abbrev moreW:=@more
abbrev zc2 (neg:Bool) (A:Option Addr) (len cap:Nat) (ex:Int):Value:=.agg #[.bool neg,.slice A len cap,.int .i64 ex]
def NSt (base:Nat) (W0:World) (M:Nat) (E:Int) (s6 s7:Value) (wx:World):Prop:=
 ∃ A1 c1 E',s6 = .slice A1 (nd M) c1∧s7 = .int .i64 E'∧(M≠0->E'=E)∧-2000000<=E'∧E'<=2000000∧Rd base wx A1 (i6 (dig M))∧nd M<=c1∧Ext W0 wx
theorem zuX (N more):nd (n1 N more)<=16:=(nd_le_iff _ 16).2 (Nat.lt_of_le_of_lt (n1_le N more) (T_lt (by omega)))
theorem zuY (N more e):nd (n2 N more e)<=16:=(nd_le_iff _ 16).2 (Nat.lt_of_le_of_lt (n2_le N more e) (T_lt (by omega)))
theorem zgQ {N more e} (h:n1 N more=0):n2 N more e=0:=by
 unfold n2;rw[h];exact cutN_false_zero _
def zla (M2:Nat) (E2:Int) (M:Nat) (E':Int):Prop:=M=0∧M2=0∨M≠0∧M2≠0∧trim M E'=trim M2 E2∧(nd M:Int)+E'=nd M2+E2∧M<=M2
theorem zla.step {M2 E2 M E'} (h:zla M2 E2 M E') (h0:M≠0) (h1:M%10=0):zla M2 E2 (M/10) (E'+1):=by
 rcases h with⟨h2,_⟩ | ⟨_,h3,h4,h5,h6⟩
 ·exact absurd h2 h0
 ·right
  refine⟨by omega,h3,?_,?_,by omega⟩
  ·rw[<-h4,trim_ten E' h0 h1]
  ·rw[nd_pos h0] at h5;omega
theorem zrl {M} (h:M≠0):(dig M)[nd M-1]? = some (M%10):=by
 rw[dig_pos h,nd_pos h,Nat.add_sub_cancel,<-dig_length (M/10),List.getElem?_append_right (Nat.le_refl _),Nat.sub_self];rfl
theorem zrm {M} (h:M≠0):(dig M).take (nd M-1)=dig (M/10):=by
 rw[dig_pos h,nd_pos h,Nat.add_sub_cancel,<-dig_length (M/10),List.take_left]
theorem zcm (base neg A len cap l N ex more w) (hlen:l.length=len) (h:Rd base w A (i6 l)) (hcp:len<=cap) (hbig:len<=1000) (hall:AllD l) (hv:val l=N) (he:-1000000<=ex∧ex<=1000000) (hb:base<=w.heap.size) :
  Tl prog 143 #[zc2 neg A len cap ex,.bool more] w (rnV (rnd neg N more ex)):=by
 have hx0:Ext w ((w.alloc (.cells #[.bool neg,.slice A len cap,.int .i64 ex] 121)).alloc (.cells #[.int .i64 0,.int .i64 0] 36)):=by simp[go_sem]
 have hst:=zeJ base A cap len l N ((w.alloc (.cells #[.bool neg,.slice A len cap,.int .i64 ex] 121)).alloc (.cells #[.int .i64 0,.int .i64 0] 36)) hlen (h.ext hx0) (by omega) hcp hall hv;have hndN:nd N<=1000:=by
  rw[<-hv];have:=(nd_le_iff (val l) l.length).2 (val_lt hall);omega
 have hdl:=dig_length N;clear h hlen hv hall hx0;go_enter func143,ntmps143;go_upto_if 19 with(go_at_call 137;refine hst.mono ?_;rintro e w' ⟨⟨A',cap',rfl,hr,hcp'⟩,rfl⟩;rw[hdl])
 have HR:=Lib.hid hr;have HDL:=Lib.hid hdl;rw[hdl] at hcp';clear hr hdl hst;go_cut [6,7] (λs6 s7 wx=>NSt base ((w.alloc (.cells #[.bool neg,.slice A len cap,.int .i64 ex] 121)).alloc (.cells #[.int .i64 0,.int .i64 0] 36)) (n1 N more) (ex+(nd N-15:Nat)) s6 s7 wx)
 case first=>
  by_cases h15:15<nd N
  ·have e15:decide ((15:Int)<(nd N:Int))=true:=by simp;omega
   have hsub:(nd N:Int)-15=((nd N-15:Nat):Int):=by omega
   have hct:=zk7 base A' cap' (nd N) (nd N-15) N more ((w.alloc (.cells #[.bool neg,.slice A len cap,.int .i64 ex] 121)).alloc (.cells #[.int .i64 0,.int .i64 0] 36)) (by omega) rfl HR.out hcp' (by omega) (by simp;omega);go_wp2_with (go_at_call 192;refine hct.mono ?_;rintro e w' ⟨⟨A2,c2,rfl,hr2,hc2⟩,hb2⟩;rw[dig_length] at *);go_meet;exact⟨A2,c2,_,rfl,rfl,λ_=>rfl,by omega,by omega,hr2,hc2,hb2⟩
  ·have hn1:n1 N more=N:=by unfold n1;rw[show nd N-15=0 by omega,cutN_zero]
   have HN1:=Lib.hid hn1;clear hn1;go_wp2;go_meet;rw[HN1.out];exact⟨A',cap',_,rfl,rfl,λ_=>by rw[show nd N-15=0 by omega];simp,by omega,by omega,HR.out,hcp',Ext.refl _⟩
 case rest=>
  obtain⟨A1,c1,E1,rfl,rfl,hE1,hE1a,hE1b,hr1,hc1,hx1⟩:=hcut;obtain⟨os1,d1,rfl⟩:=hx1.more;have hnd1:=zuX N more;have HR1:=Lib.hid hr1;have HE1:=Lib.hid hE1;clear hr1 hE1 hx1 HR;go_upto_region 7 with(fail);refine wp_region_lit ?_;iterate 7((first | refine zaH rfl rfl rfl rfl rfl ?_ | refine zaY rfl rfl rfl rfl rfl ?_ | (refine zbE (v:=?_) rfl ?_ ?_;rotate_left 1;(go_simp;first | done | rfl)) | (refine zbk (v:=?_) (c:=?_) rfl rfl rfl ?_ (λhc=>?_) ?_;rotate_left 2;(first | exact zaO _ | exact zaP _ | exact zaq _ _ | exact zar _ _);((try simp only[zv hc]);(try(have hc1:=zO hc;(try simp only[zv hc1]);(try(have hc2:=zO hc1;(try simp only[zv hc2])))));go_simp;first | done | rfl)));try simp only[zq])
  refine wpList_nil ?_;try go_simp
  go_upto_if 36 with(fail)
  go_cut [6,7] (λs6 s7 wx=>NSt base ((w.alloc (.cells #[.bool neg,.slice A len cap,.int .i64 ex] 121)).alloc (.cells #[.int .i64 0,.int .i64 0] 36)) (n2 N more ex) (e2 N ex) s6 s7 wx)
  case first=>
   by_cases hlow:E1 < -40
   ·by_cases hpos:n1 N more=0
    ·have hz:nd (n1 N more)=0:=by rw[hpos,nd_zero]
     have e1:decide (E1 < -40)=true:=by simp;omega
     have e2':decide (0<nd (n1 N more))=false:=by simp;omega
     have e3':¬ (0<nd (n1 N more)):=by omega
     have HZ:=Lib.hid hpos;clear hpos hz;go_wp2_with fail;go_meet;have h20:=zgQ (e:=ex) HZ.out;refine⟨A1,c1,E1,?_,rfl,λh0=>absurd h20 h0,hE1a,hE1b,?_,?_,by simp[go_sem]⟩
     ·rw[h20,HZ.out]
     ·rw[h20,dig_zero];exact Rd.nil _ _ _
     ·rw[h20,nd_zero];exact Nat.zero_le _
    ·obtain⟨k,rfl⟩:∃ k:Nat,E1=-40-(k:Int):=⟨(-40-E1).toNat,by omega⟩;have hkk:-40-(-40-(k:Int))=k:=by omega
     have hk2:(-40-(ex+(nd N-15:Nat))).toNat=k:=by have:=HE1.out hpos;omega
     have he2:e2 N ex=-40:=by unfold e2;have:=HE1.out hpos;omega
     have hnp:0<nd (n1 N more):=by rw[nd_pos hpos];omega
     have e1:decide (-40-(k:Int) < -40)=true:=by simp;omega
     have e2':decide (0<nd (n1 N more))=true:=by simp;omega
     have HK:=Lib.hid hk2;have HE2:=Lib.hid he2;clear hk2 he2 hpos;have hct:=zk7 base A1 c1 (nd (n1 N more)) k (n1 N more) false _ (by omega) rfl HR1.out hc1 (by omega) (by simp;omega);go_wp2_with (go_at_call 192;refine hct.mono ?_;rintro e w' ⟨⟨A2,c2,rfl,hr2,hc2⟩,hb2⟩;rw[dig_length] at *);go_meet;have hn2:n2 N more ex=cutN (n1 N more) k false:=by unfold n2;rw[HK.out]
     rw[hn2,HE2.out];exact⟨A2,c2,_,rfl,rfl,λ_=>rfl,by omega,by omega,hr2,hc2,(zao _ _ _).trans hb2⟩
   ·have e1:decide (E1 < -40)=false:=by simp;omega
    go_wp2;go_meet;have hn2:n2 N more ex=n1 N more:=by
     by_cases h0:n1 N more=0
     ·rw[zgQ h0,h0]
     ·unfold n2;rw[<-HE1.out h0,show(-40-E1).toNat=0 by omega,cutN_zero]
    rw[hn2];exact⟨A1,c1,E1,rfl,rfl,λh0=>by unfold e2;rw[<-HE1.out h0];omega,hE1a,hE1b,HR1.out,hc1,zao _ _ _⟩
  case rest=>
   obtain⟨A2,c2,E2,rfl,rfl,hE2,hE2a,hE2b,hr2,hc2,hx2⟩:=hcut;obtain⟨os2,d2,rfl⟩:=hx2.more;have hnd2:=zuY N more ex;clear hx2 HR1 HE1;have HR2:=Lib.hid hr2;have HE2:=Lib.hid hE2;clear hr2 hE2;generalize hM2:n2 N more ex=M2 at *;have HM2:=Lib.hid hM2;clear hM2;go_wp2_with fail;go_loop [6,7] (λa b=>∃ (M:Nat) (E':Int) (A3:Option Addr) (c3:Nat),nd M<=16∧a = .slice A3 (nd M) c3∧b = .int .i64 E'∧nd M<=c3∧-2000000<=E'∧E'+nd M<=2000016∧Hid (Rd base (moreW ((w.alloc (.cells #[.bool neg,.slice A len cap,.int .i64 ex] 121)).alloc (.cells #[.int .i64 0,.int .i64 0] 36)) os2 d2) A3 (i6 (dig M)))∧Hid (zla M2 E2 M E')) (λa _=>zeB a)
   case atStart=>exact⟨M2,E2,A2,c2,hnd2,rfl,rfl,hc2,hE2a,by omega,HR2,by
    show zla _ _ _ _
    by_cases h0:M2=0
    ·exact Or.inl ⟨h0,h0⟩
    ·exact Or.inr ⟨h0,h0,rfl,rfl,Nat.le_refl _⟩⟩
   case round=>
    obtain⟨M,E',A3,c3,hndM,rfl,rfl,hc3,hEa,hEb,HR3,HN⟩:=hrel;by_cases hM:M=0
    ·have hz:nd M=0:=by rw[hM,nd_zero]
     have HZ:=Lib.hid hM;have HM0:Hid (rnd neg N more ex=some (0,0)):=by
      show _=_;apply rnd_of_zero
      rw[HM2.out];rcases HN.out with⟨_,h2⟩ | ⟨h2,_⟩
      ·exact h2
      ·exact absurd hM h2
     rw[hz];clear hM hz;go_wp2_with fail;exact rct (v:=NV 0 0) rfl rfl (by simp[go_sem]) ⟨by rw[HM0.out];rfl,by simp[go_sem]⟩
    ·have hnp:1<=nd M:=by rw[nd_pos hM];omega
     obtain⟨b3,o3,rfl,_,hcl⟩:=Rd.at_ HR3.out (zrl hM);have hnn:((nd M:Int)-1)=((nd M-1:Nat):Int):=by omega
     by_cases h10:M%10=0
     ·have HS:=Lib.hid (HN.out.step hM h10);have HRt:=Lib.hid (Rd.take HR3.out (nd M-1));have hnd10:nd (M/10)=nd M-1:=by rw[nd_pos hM];omega
      have HI:=Lib.hid (zrm hM);have e0:(((M%10:Nat):Int)==0)=true:=by simp;omega
      have HND:=Lib.hid hnd10;clear hnd10;go_wp2_with fail;refine⟨⟨M/10,E'+1,some ⟨b3,o3,none⟩,c3,?_,?_,rfl,?_,by omega,?_,?_,HS⟩,by simp[zeB];omega⟩
      ·rw[HND.out];omega
      ·rw[HND.out]
      ·rw[HND.out];omega
      ·rw[HND.out];omega
      ·show Rd _ _ _ _;have:=HRt.out;rw[<-List.map_take,HI.out] at this;exact this
     ·have e0:(((M%10:Nat):Int)==0)=false:=by simp;omega
      have e0b:(nd M==0)=false:=by simp;omega
      have e0c:((nd M:Int)==0)=false:=by simp;omega
      have hlt15:M<10000000000000000:=by
       have h1:=lt_T_nd M;have h2:=T_mono hndM;have h3:T 16=10000000000000000:=by decide
       omega
      have HF:Hid (rnd neg N more ex=if 40<(nd M:Int)+E' then none else some (sg neg M,E')):=by
       show _=_;rcases HN.out with⟨h2,_⟩ | ⟨_,h3,h4,h5,_⟩
       ·exact absurd h2 hM
       ·have hE:=HE2.out h3;rw[trim_done _ h10] at h4;unfold rnd;rw[HM2.out,if_neg h3,<-hE,<-h5,<-h4]
      have HALLM:=Lib.hid (dig_all M);have HVM:=Lib.hid (val_dig M);have HDM:=Lib.hid (dig_length M);have HB:Hid (∀ j,val ((dig M).take j)<10000000000000000):=by
       intro j;have h1:=val_lt ((dig_all M).take j);have h2:T ((dig M).take j).length<=T 16:=T_mono (by rw[List.length_take,dig_length];omega);have h3:T 16=10000000000000000:=by decide
       omega
      clear h10 hM;by_cases h40:40<(nd M:Int)+E'
      ·go_wp2_with fail;refine bodyPost_ret (v:=.tuple #[NV 0 0,.bool false]) (by simp[results,results143,go_sem]) rfl ⟨?_,by simp[go_sem]⟩;rw[HF.out,if_pos h40];(try rfl)
      ·go_wp2_with fail;go_loop [10,11] (λa b=>∃ j:Nat,j<=nd M∧b = .int .i64 (j:Int)∧a = .int .i64 ((val ((dig M).take j):Nat):Int)) (λ_ b=>nd M-(intOf b).toNat)
       case atStart=>exact⟨0,Nat.zero_le _,rfl,rfl⟩
       case round=>
        obtain⟨j,hj,rfl,rfl⟩:=hrel;have hVb:=HB.out j;by_cases hlt:j<nd M
        ·obtain⟨d,hd⟩:∃ d,(dig M)[j]? = some d:=⟨(dig M)[j]'(by have:=HDM.out;omega),by rw[List.getElem?_eq_getElem]⟩;obtain⟨b4,o4,hA4,_,hcj⟩:=Rd.at_ HR3.out hd;obtain⟨rfl,rfl⟩:=aI hA4;have hd10:=HALLM.out.at hd;have hV2:val ((dig M).take (j+1))=10*val ((dig M).take j)+d:=by rw[zaJ hd,val_snoc]
         have HV3:=Lib.hid hV2;clear hV2 hd;generalize hV:val ((dig M).take j)=V at *;have HV:=Lib.hid hV;clear hV;go_wp2;refine⟨⟨j+1,by omega,by go_num,?_⟩,by simp[intOf];omega⟩;rw[HV3.out];exact congrArg (Value.int .i64) (by omega)
        ·have hMv:val ((dig M).take j)=M:=by rw[List.take_of_length_le (by have:=HDM.out;omega)];exact HVM.out
         rw[hMv];clear hMv hVb;have w1:wrap64 (-(M:Int))=-(M:Int):=IntWalk.wrap64_in _ (by omega);have w2:IntKind.i64.wrap (-(M:Int))=-(M:Int):=zaD (by omega) (by omega);cases neg with
         | false=>
          go_wp2_with fail;refine bodyPost_ret (v:=.tuple #[NV (M:Int) E',.bool true]) (by simp[results,results143,go_sem]) rfl ⟨?_,by simp[go_sem]⟩;rw[HF.out,if_neg (by omega)];(try rfl)
         | true=>
          go_wp2_with fail;refine bodyPost_ret (v:=.tuple #[NV (-(M:Int)) E',.bool true]) (by simp[results,results143,go_sem]) rfl ⟨?_,by simp[go_sem]⟩;rw[HF.out,if_neg (by omega)];(try rfl)
theorem zhR {P} (w) {ops rest o a Q} (hgd:o.guard=none) (s x t) (ho:o.op = .call { callee:=.builtin .append,args:=#[s,x],argTypes:=#[t,t] }) (base e i z bytes) (ht:P.underlying t=some (.slice e)) (hi:P.info? e=some i) (hz:i.zero=some z) (hsize:i.size=1) (hby:i.bytes=bytes) (hzs:z.cells.size=1) (v n xs) (hs:a.eval s=v) (hown:w.ownsRow base e 1 v n xs) (B m c news) (hx:a.eval x = .slice B m c) (hl:news.length=m) (hB:Rd 0 w B news) (h1:∀ u∈news,u.oneCell'=true) (h63:n+m<=maxLen) (hbytes:(n+m)*bytes<=140737488355328) (hbase:base<=w.heap.size) (h:∀ v' w',w'.ownsRow base e 1 v' (n+m) (xs++news)->w.grownBy w' v.ownBlock->wpList P ops Q rest (a.put o.dst v') w'):wpList P ops Q (o::rest) a w:=by
 by_cases hm:m=0
 ·subst hm;obtain rfl:news=[]:=List.eq_nil_of_length_eq_zero hl;obtain⟨A,cap,hv,hcap⟩:∃ A cap,v = .slice A n cap∧n<=cap:=by
   rcases hown.2 with⟨h2,h3⟩ | ⟨g,cap,cur,h3,h4,h5,h6,_⟩
   ·exact⟨none,0,by rw[h2,h3],by omega⟩
   ·exact⟨_,cap,h3,h6⟩
  have hr:=zfJ (P:=P) w t o.type e i ht hi A n cap B c hcap;refine wpList_plain hgd λK hK=>?_;unfold Oper.wp execOp;simp only[ho,resolve,invoke,builtin,Sem.run_bind,Sem.run_pure,Result.andThen_ok,List.map_toArray,List.map_cons,List.map_nil,hs,hx,hv,hr];refine hK _ _ (h _ _ (by rw[<-hv];simpa using hown) ⟨rfl,rfl,rfl,Nat.le_refl _,λ_ _ _=>rfl⟩)
 ·have hpos:0<news.length:=by omega
  obtain⟨b,off,rfl,_,_⟩:=hB 0 news[0] (by simp[hpos]);exact wpList_append_own w hgd s x t ho base e i z 1 bytes ht hi hz hsize hby hzs (by decide) v n xs hs hown ⟨b,off,none⟩ m c news hx (by omega) hB.add h1 h63 hbytes hbase λv' w' h2 h3 _=>h v' w' h2 h3
theorem zeK {X wr:World} {ty v n xs} (ho:wr.ownsRow X.heap.size ty 1 v n xs) (o):(wr.alloc o).ownsRow X.heap.size ty 1 v n xs:=
 zbq ho λg cur hg=>RowKit.Below.heap_alloc _ o g (z7 hg)
theorem znb {w:World} {base n ty} (hn:n=w.heap.size) (hb:base<=n):(w.alloc (.cells #[] ty)).ownsRow base ty 1 (.slice (some ⟨n,0,none⟩) 0 0) 0 []:=by
 subst hn;exact⟨by simp,Or.inr ⟨w.heap.size,0,#[],rfl,hb,Array.getElem?_push_size,Nat.le_refl _,by decide,by simp,by simp⟩⟩
theorem zib (A len cap k) (l:List Nat) (w) (hlen:l.length=len) (h:Rd 0 w A (i6 l)) (hbig:len+k<=100000) :
  Calls prog 186 #[.slice A len cap,.int .i64 (k:Int)] w λe w'=>∃ v,e = .returned v∧w'.ownsRow w.heap.size 3 1 v (len+k) (i6 (l++List.replicate k 0))∧Ext w w':=by
 obtain⟨i0,hi,hz0,hz1,hz2⟩:=info_parts zdd;have HR:=Lib.hid h;have HL:=Lib.hid hlen;clear h hlen;go_enter func186,ntmps186;go_wp2_with (at_builtin;refine zhR _ rfl _ _ _ rfl w.heap.size 3 i0 (.int .i64 0) 8 Tryz.underlying118 hi hz0 hz1 hz2 rfl _ 0 [] rfl (znb rfl (Nat.le_refl _)) A len cap (i6 l) rfl (by simp[HL.out]) (HR.out.ext ((Ext.refl _).alloc _)) (ze7 _) (by simp[maxLen];omega) (by omega) (by simp) ?_;intro v3 w3 ho3 hg3);have hx3:=zde ((Ext.refl w).alloc _) (znb rfl (Nat.le_refl _)) hg3;have HO:Hid (w3.ownsRow w.heap.size 3 1 v3 (len+0) (i6 (l++List.replicate 0 0))):=by show World.ownsRow _ _ _ _ _ _ _;simpa using ho3
 clear ho3 hg3;go_loopw [5,6] (λv i wr=>∃ j:Nat,j<=k∧i = .int .i64 (j:Int)∧Hid (wr.ownsRow w.heap.size 3 1 v (len+j) (i6 (l++List.replicate j 0)))∧Ext w wr) (λ_ i _=>k-(intOf i).toNat)
 case atStart=>exact⟨0,Nat.zero_le _,rfl,HO,hx3⟩
 case round=>
  obtain⟨j,hj,rfl,HW,hxr⟩:=hrel;have hsz:=hxr.size;by_cases hlt:j<k
  ·go_wp2_with (at_builtin;refine wpList_append_own _ rfl _ _ _ rfl w.heap.size 3 i0 (.int .i64 0) 1 8 Tryz.underlying118 hi hz0 hz1 hz2 rfl (by decide) _ (len+j) (i6 (l++List.replicate j 0)) rfl (zeK HW.out _) _ 1 1 [.int .i64 0] rfl rfl (Rd.one_ _ _ rfl).add (ze7 [0]) (by simp[maxLen];omega) (by omega) (by simp;omega) ?_;intro v4 w4 ho4 hg4 _);have hx4:=zde (hxr.alloc _) (zeK HW.out _) hg4;refine⟨⟨j+1,by omega,by go_num,?_,hx4⟩,by simp[intOf];omega⟩;show World.ownsRow _ _ _ _ _ _ _;rw[List.replicate_succ',<-List.append_assoc];unfold i6;rw[List.map_append];exact ho4
  ·go_wp2_with fail;go_ret;obtain rfl:j=k:=by omega
   exact⟨_,rfl,HW.out,hxr⟩
def zca (w:World) (L N:Nat) (v:Value) (w':World):Prop:=∃ A c X,v = .slice A L c∧Rd w.heap.size w' A (i6 X)∧X.length=L∧AllD X∧val X=N∧L<=c
theorem zca.ext {w w' w'' L N v} (h:zca w L N v w') (hx:Ext w' w''):zca w L N v w'':=by
 obtain⟨A,c,X,h1,h2,h3⟩:=h;exact⟨A,c,X,h1,h2.ext hx,h3⟩
theorem zca.of_own_ {w w' base l v n} (h:w'.ownsRow base 3 1 v n (i6 l)) (ha:AllD l) (hb:w.heap.size<=base):zca w n (val l) v w':=by
 obtain⟨A,c,rfl,h1,rfl⟩:=Dg.of_own (l:=l) (k:=.i64) h;exact⟨A,c,l,rfl,h1.rd.mono hb,rfl,ha,rfl,h1.1⟩
theorem zdP (l k):val (l++List.replicate k 0)=val l*T k:=by rw[val_append,val_rep0,List.length_replicate];omega
theorem zgR (l):val (0::l)=val l:=by rw[val_cons];omega
theorem zj1 (na nb A B ca cb la lb ea eb) (e:Int) (ka kb:Nat) (w) (ha:Rd 0 w A (i6 la)) (hb:Rd 0 w B (i6 lb)) (hla:la.length<=1000) (hlb:lb.length<=1000) (hka:ea=e+ka) (hkb:eb=e+kb) (hk0:ka=0∨kb=0) (hkk:ka<=10000∧kb<=10000) (he:-1000000<=e∧e<=1000000) (hda:AllD la) (hdb:AllD lb) :
  Calls prog 190 #[zc2 na A la.length ca ea,zc2 nb B lb.length cb eb] w λr w'=>(∃ va vb,r = .returned (.tuple #[va,vb,.int .i64 e])∧zca w (max (la.length+ka) (lb.length+kb)) (val la*T ka) va w'∧zca w (max (la.length+ka) (lb.length+kb)) (val lb*T kb) vb w')∧Ext w w':=by
 subst hka hkb;have hwa:=λW hW=>zib A la.length ca ka la W rfl hW (by omega);have hwb:=λW hW=>zib B lb.length cb kb lb W rfl hW (by omega);obtain⟨i0,hi,hz0,hz1,hz2⟩:=info_parts zdd;have HA:=Lib.hid ha;have HB:=Lib.hid hb;have s1:e+(ka:Int)-e=ka:=by omega
 have s2:e+(kb:Int)-e=kb:=by omega
 clear ha hb;have hcmp:Hid (ka=0∨kb=0):=hk0;clear hk0;by_cases hlt:kb<ka
 focus
  have e1:decide (e+(kb:Int)<e+(ka:Int))=true:=by simp;omega
  have hkb0:kb=0:=by have:=hcmp.out;omega
  subst hkb0;simp only[show((0:Nat):Int)=0 from rfl,Int.add_zero] at hwb e1 s2;simp only[show((0:Nat):Int)=0 from rfl,Int.add_zero];go_enter func190,ntmps190;go_wp2_with (first | (go_at_call_of 186 (Value.slice A la.length ca);(with_reducible refine(hwa _ (HA.out.ext (by simp[go_sem]))).mono ?_);rintro r w' ⟨va,rfl,hva,hxa⟩;obtain⟨osa,da,rfl⟩:=hxa.more) | (go_at_call 186;(with_reducible refine(hwb _ (HB.out.ext (by simp[go_sem]))).mono ?_);rintro r w' ⟨vb,rfl,hvb,hxb⟩;obtain⟨osb,db,rfl⟩:=hxb.more));have hLa:=(zca.of_own_ (w:=w) hva (hda.append (AllD.rep _ _ (by omega))) (by simp;omega)).ext hxb;have hLb:=zca.of_own_ (w:=w) hvb (hdb.append (AllD.rep _ _ (by omega))) (by simp;omega);rw[zdP] at hLa hLb;generalize hNa:val la*T ka=Na at *;generalize hNb:val lb*T 0=Nb at *;generalize hLLa:la.length+ka=La at *;generalize hLLb:lb.length+0=Lb at *;have hxW:Ext w (more (more ((w.alloc (.cells #[.bool na,.slice A la.length ca,.int .i64 (e+(ka:Int))] 121)).alloc (.cells #[.bool nb,.slice B lb.length cb,.int .i64 e] 121)) osa da) osb db):=by simp[go_sem]
 rotate_left
 focus
  have e1:decide (e+(kb:Int)<e+(ka:Int))=false:=by simp;omega
  have hka0:ka=0:=by have:=hcmp.out;omega
  subst hka0;simp only[show((0:Nat):Int)=0 from rfl,Int.add_zero] at hwa e1 s1;simp only[show((0:Nat):Int)=0 from rfl,Int.add_zero];go_enter func190,ntmps190;go_wp2_with (first | (go_at_call_of 186 (Value.slice A la.length ca);(with_reducible refine(hwa _ (HA.out.ext (by simp[go_sem]))).mono ?_);rintro r w' ⟨va,rfl,hva,hxa⟩;obtain⟨osa,da,rfl⟩:=hxa.more) | (go_at_call 186;(with_reducible refine(hwb _ (HB.out.ext (by simp[go_sem]))).mono ?_);rintro r w' ⟨vb,rfl,hvb,hxb⟩;obtain⟨osb,db,rfl⟩:=hxb.more));have hLa:=(zca.of_own_ (w:=w) hva (hda.append (AllD.rep _ _ (by omega))) (by simp;omega)).ext hxb;have hLb:=zca.of_own_ (w:=w) hvb (hdb.append (AllD.rep _ _ (by omega))) (by simp;omega);rw[zdP] at hLa hLb;generalize hNa:val la*T 0=Na at *;generalize hNb:val lb*T kb=Nb at *;generalize hLLa:la.length+0=La at *;generalize hLLb:lb.length+kb=Lb at *;have hxW:Ext w (more (more ((w.alloc (.cells #[.bool na,.slice A la.length ca,.int .i64 e] 121)).alloc (.cells #[.bool nb,.slice B lb.length cb,.int .i64 (e+(kb:Int))] 121)) osa da) osb db):=by simp[go_sem]
 all_goals
  refine zH λW hW=>?_;rw[zc,<-hW] at hLa hLb hxW;clear hW hva hvb hxa hxb;obtain⟨Aa,cx,Xa,rfl,hra,hna,hala,hvala,hcx⟩:=hLa;obtain⟨Ab,cy,Xb,rfl,hrb,hnb,halb,hvalb,hcy⟩:=hLb;have HLa:Hid (zca w La Na (.slice Aa La cx) W):=⟨Aa,cx,Xa,rfl,hra,hna,hala,hvala,hcx⟩;have HLb:Hid (zca w Lb Nb (.slice Ab Lb cy) W):=⟨Ab,cy,Xb,rfl,hrb,hnb,halb,hvalb,hcy⟩;have HNa:=Lib.hid hNa;have HNb:=Lib.hid hNb;have HLLa:=Lib.hid hLLa;have HLLb:=Lib.hid hLLb;clear hra hna hala hvala hcx hrb hnb halb hvalb hcy hNa hNb;have hLab:La<=11000∧Lb<=11000:=by omega
  clear hLLa hLLb hwa hwb e1 s1 s2 hlt;go_loopw [8] (λx wr=>∃ L1,La<=L1∧L1<=max La Lb∧Hid (zca w L1 Na x wr)∧Hid (zca w Lb Nb (.slice Ab Lb cy) wr)∧Ext w wr) (λx _=>Lb-zeB x)
  case atStart=>exact⟨La,Nat.le_refl _,by omega,HLa,HLb,hxW⟩
  case round=>
   obtain⟨L1,hL1,hL2,HX,HY,hxr⟩:=hrel;obtain⟨A8,c8,X8,rfl,hrx,hnx,halx,hvx,hcx⟩:=HX.out;by_cases hll:L1<Lb
   ·have HNX:=Lib.hid hnx;have HVX:=Lib.hid hvx;clear hvx;go_wp2_with (at_builtin;refine zb9 _ rfl _ _ _ rfl 3 i0 (.int .i64 0) 1 8 Tryz.underlying118 hi hz0 hz1 hz2 rfl (by decide) w.heap.size _ 1 [.int .i64 0] rfl (by simp) rfl ((Rd.one _ _ _).mono hxr.size) (by have:=hxr.size;simp;omega) A8 L1 c8 (i6 X8) rfl (by simp;omega) ((Rd.alloc hrx _).mono (Nat.zero_le _)) (ze7 _) (by simp[maxLen];omega) (by omega) ?_;intro A9 c9 os9 d9 hr9 hn9 hc9);refine⟨⟨1+L1,by omega,by omega,?_,?_,?_⟩,by simp[zeB];omega⟩
    ·exact⟨A9,c9,0::X8,rfl,hr9,by simp;omega,AllD.cons (by omega) halx,by rw[zgR];exact HVX.out,hc9⟩
    ·exact HY.out.ext (by simp[go_sem])
    ·exact hxr.trans (by simp[go_sem])
   ·have HNX:=Lib.hid hnx;have HVX:=Lib.hid hvx;clear hvx;go_wp2_with fail;go_loopw [9] (λy wq=>∃ L2,Lb<=L2∧L2<=max La Lb∧Hid (zca w L2 Nb y wq)∧Hid (zca w L1 Na (.slice A8 L1 c8) wq)∧Ext w wq) (λy _=>La-zeB y)
    case atStart=>exact⟨Lb,Nat.le_refl _,by omega,HY,HX,hxr⟩
    case round=>
     clear hrx hnx halx hcx HNX HVX HX HY hxr;obtain⟨L2,hL3,hL4,HY,HX,hxr⟩:=hrel;obtain⟨A7,c7,X7,rfl,hrx,hnx,halx,hvx,hcx⟩:=HY.out;by_cases hll2:L2<L1
     ·have HNX:=Lib.hid hnx;have HVX:=Lib.hid hvx;clear hvx;go_wp2_with (at_builtin;refine zb9 _ rfl _ _ _ rfl 3 i0 (.int .i64 0) 1 8 Tryz.underlying118 hi hz0 hz1 hz2 rfl (by decide) w.heap.size _ 1 [.int .i64 0] rfl (by simp) rfl ((Rd.one _ _ _).mono hxr.size) (by have:=hxr.size;simp;omega) A7 L2 c7 (i6 X7) rfl (by simp;omega) ((Rd.alloc hrx _).mono (Nat.zero_le _)) (ze7 _) (by simp[maxLen];omega) (by omega) ?_;intro A9 c9 os9 d9 hr9 hn9 hc9);refine⟨⟨1+L2,by omega,by omega,?_,?_,?_⟩,by simp[zeB];omega⟩
      ·exact⟨A9,c9,0::X7,rfl,hr9,by simp;omega,AllD.cons (by omega) halx,by rw[zgR];exact HVX.out,hc9⟩
      ·exact HX.out.ext (by simp[go_sem])
      ·exact hxr.trans (by simp[go_sem])
     ·clear hvx;go_wp2_with fail;go_ret3
      rw[HNa.out,HNb.out,HLLa.out,HLLb.out];obtain rfl:L1=max La Lb:=by omega
      obtain rfl:L2=max La Lb:=by omega
      exact⟨⟨_,_,rfl,HX.out,HY.out⟩,hxr⟩
theorem zj2 {l} {j d:Nat} (h:l[j]? = some d):l=l.take j++d::l.drop (j+1):=by
 have hj:j<l.length:=by
  rcases Nat.lt_or_ge j l.length with h1 | h1
  ·exact h1
  ·rw[List.getElem?_eq_none h1] at h;cases h
 have h1:=List.take_append_drop j l;rw[List.drop_eq_getElem_cons hj] at h1;rw[List.getElem?_eq_getElem hj] at h;rw[<-Option.some.inj h];exact h1.symm
theorem zsL {X Y j x y} (hl:X.length=Y.length) (hX:AllD X) (hY:AllD Y) (he:X.take j=Y.take j) (hx:X[j]? = some x) (hy:Y[j]? = some y) (hne:x≠y):decide (x<y)=decide (val X<val Y):=by
 have h1:=zj2 hx;have h2:=zj2 hy;have h3:=val_lt (hX.drop (j+1));have h4:=val_lt (hY.drop (j+1));have h5:(X.drop (j+1)).length=(Y.drop (j+1)).length:=by simp;omega
 have e1:val X=val (X.take j)*T (X.drop (j+1)).length*10+x*T (X.drop (j+1)).length+val (X.drop (j+1)):=by
  conv=>lhs;rw[h1]
  rw[val_append,val_cons,List.length_cons,T_succ,Nat.mul_comm 10,<-Nat.mul_assoc,Nat.add_assoc]
 have e2:val Y=val (X.take j)*T (X.drop (j+1)).length*10+y*T (X.drop (j+1)).length+val (Y.drop (j+1)):=by
  conv=>lhs;rw[h2]
  rw[val_append,val_cons,List.length_cons,T_succ,Nat.mul_comm 10,<-Nat.mul_assoc,Nat.add_assoc,he,h5]
 rw[<-h5] at h4;rw[e1,e2];generalize T (X.drop (j+1)).length=t at *;generalize val (X.take j)*t*10=z at *;rw[Bool.eq_iff_iff,decide_eq_true_eq,decide_eq_true_eq];constructor
 ·intro h;have:=Nat.mul_le_mul_right t (show x+1<=y from h);rw[Nat.add_mul,Nat.one_mul] at this;omega
 ·intro h;rcases Nat.lt_or_ge x y with h6 | h6
  ·exact h6
  ·exfalso
   have:=Nat.mul_le_mul_right t (show y+1<=x by omega);rw[Nat.add_mul,Nat.one_mul] at this;omega
theorem zrn (A B ca cb L X Y w) (hA:Rd 0 w A (i6 X)) (hB:Rd 0 w B (i6 Y)) (hX:X.length=L) (hY:Y.length=L) (hXd:AllD X) (hYd:AllD Y) (hL:L<=1000000) :
  Tl prog 191 #[.slice A L ca,.slice B L cb] w (.bool (decide (val X<val Y))):=by
 have HA:=Lib.hid hA;have HB:=Lib.hid hB;have HX:=Lib.hid hX;have HY:=Lib.hid hY;generalize hR:decide (val X<val Y)=R;have HR:=Lib.hid hR;clear hA hB hX hY hR;go_enter func191,ntmps191;go_wp2;go_loopw [5] (λi wr=>∃ j:Nat,j<=L∧i = .int .i64 (j:Int)∧Hid (X.take j=Y.take j)∧Ext w wr) (λi _=>L-(intOf i).toNat)
 case atStart=>exact⟨0,Nat.zero_le _,rfl,by show _=_;rfl,Ext.refl _⟩
 case round=>
  obtain⟨j,hj,rfl,HE,hxr⟩:=hrel;by_cases hlt:j<L
  ·obtain⟨x,hx⟩:∃ x,X[j]? = some x:=⟨X[j]'(by have:=HX.out;omega),by rw[List.getElem?_eq_getElem]⟩;obtain⟨y,hy⟩:∃ y,Y[j]? = some y:=⟨Y[j]'(by have:=HY.out;omega),by rw[List.getElem?_eq_getElem]⟩;obtain⟨ba,oa,rfl,_,hcx⟩:=Rd.at_ (HA.out.ext hxr) hx;obtain⟨bb,ob,rfl,_,hcy⟩:=Rd.at_ (HB.out.ext hxr) hy;have hba:=za hcx;have hbb:=za hcy;simp only at hba hbb;by_cases hne:x=y
   ·subst hne;have HN:Hid (X.take (j+1)=Y.take (j+1)):=by show _=_;rw[zaJ hx,zaJ hy,HE.out]
    clear hx hy;go_wp2;refine plP [(0,0),(1,0),(2,0),(3,0),(4,0),(5,0),(6,0),(7,0),(8,0)] [] (by kernel_rfl) (λ_ _ d _ _ h=>by cases d <;> exact h) ?_;iterate 9(apply rdP rfl rfl;(intros;go_simp;first | done | rfl);try simp only[zq])
    refine zi ?_;go_wp2;refine⟨⟨j+1,by omega,by go_num,HN,?_⟩,by simp[intOf];omega⟩;exact hxr.trans (by simp[go_sem])
   ·have hRR:decide (x<y)=R:=by rw[zsL (by rw[HX.out,HY.out]) hXd hYd HE.out hx hy hne];exact HR.out
    have HRR:=Lib.hid hRR;have e1:((x:Int)==(y:Int))=false:=by simp;omega
    have e2:(x==y)=false:=by simp;omega
    clear hx hy hRR;go_wp2;refine plP [(0,0),(1,0),(2,0),(3,0),(4,0),(5,0),(6,0),(7,0),(8,0)] [] (by kernel_rfl) (λ_ _ d _ _ h=>by cases d <;> exact h) ?_;iterate 9(apply rdP rfl rfl;(intros;go_simp;first | done | rfl);try simp only[zq])
    refine zi ?_;go_wp2;refine plP [(0,0),(1,0),(2,0),(3,0),(4,0),(5,0),(6,0),(7,0),(8,0),(9,0)] [] (by kernel_rfl) (λ_ _ d _ _ h=>by cases d <;> exact h) ?_;iterate 10(apply rdP rfl rfl;(intros;go_simp;first | done | rfl);try simp only[zq])
    refine zi ?_;go_wp2;go_ret;exact⟨zbp HRR.out,hxr.trans (by simp[go_sem])⟩
  ·have hRR:R=false:=by
    rw[<-HR.out];have h1:=HE.out;rw[List.take_of_length_le (by have:=HX.out;omega),List.take_of_length_le (by have:=HY.out;omega)] at h1;rw[h1];simp
   subst hRR;go_wp2;go_ret;exact⟨rfl,hxr⟩
theorem zhB {k:IntKind} {ty base n} {w:World} (L) (hn:n=w.heap.size) (hb:base<=n):Dg k ty base (w.alloc (.cells (madeCells #[.int k 0] L) ty)) (some ⟨n,0,none⟩) L (List.replicate L 0):=by
 have hC:madeCells #[.int k 0] L=((List.replicate L 0).map λd:Nat=>Value.int k (d:Int)).toArray:=by
  apply Array.ext'
  rw[toList_madeCells_one];simp
 have:=Dg.new (k:=k) (ty:=ty) (base:=base) (List.replicate L 0) hC hn hb;rw[List.length_replicate] at this;exact this
theorem Rd.set_low {base w A cs p} (v) (h:Rd base w A cs) (hp:p.block<base):Rd base (w.setCell p v) A cs:=
 h.blocks λb hb=>RowKit.Below.heap_setCell _ _ _ _ (by omega)
def zg2 (w:World) (neg:Bool) (L N:Nat) (ex:Int) (e:Ending) (w':World):Prop:=∃ A c X,e = .returned (zc2 neg A L c ex)∧Rd w.heap.size w' A (i6 X)∧X.length=L∧AllD X∧val X=N∧L<=c
theorem zgk (n:Nat) (hn:n<=100000) (W):(Instr.makeSlice 118 (.int .i64 (n:Int)) (.int .i64 (n:Int))).run prog W = .ok (.slice (some ⟨W.heap.size,0,none⟩) n n) (W.alloc (.cells (madeCells #[.int .i64 0] n) 3)):=by
 obtain⟨i0,hi,hz0,hz1,hz2⟩:=info_parts zdd;have:=run_make (P:=prog) W 118 3 i0 _ Tryz.underlying118 hi hz0 .i64 .i64 (n:Int) (n:Int) (by omega) (by omega) (by rw[hz2];omega) (by omega);simpa[hz1,Value.cells] using this
structure PlusSt (W:World) (L j:Nat) (S:List Nat) (wr:World):Prop where
 out:Dg .i64 3 W.heap.size wr (some ⟨W.heap.size,0,none⟩) (L+1) (List.replicate (j+1) 0++S)
 len:S.length=L-j
 all:AllD S
 ext:Ext W wr
theorem PlusSt.step {W wr L j d S} (h:PlusSt W L (j+1) S wr) (hd:d<10) (hj:j+1<=L):PlusSt W L j (d::S) (wr.setCell ⟨W.heap.size,j+1,none⟩ (.int .i64 (d:Int))):=by
 refine⟨?_,by simp[h.len];omega,AllD.cons hd h.all,h.ext.set _ (Nat.le_refl _)⟩;have:=h.out.set (i:=j+1) (d:=d) (by simp;omega);rw[Nat.zero_add,List.set_append_left _ _ (by simp)] at this;have he:(List.replicate (j+1+1) 0).set (j+1) d=List.replicate (j+1) 0++[d]:=by
  rw[List.replicate_succ',List.set_append_right _ _ (by simp)];simp
 rw[he,List.append_assoc,List.singleton_append] at this;exact this
theorem PlusSt.at {W wr L j S} (h:PlusSt W L j S wr):wr.cell? ⟨W.heap.size,j,none⟩=some (.int .i64 0)∧wr.frozen? ⟨W.heap.size,j,none⟩=false:=by
 obtain⟨b,off,h1,_,h2,h3⟩:=h.out.at (i:=j) (d:=0) (by rw[List.getElem?_append_left (by simp)];simp[List.getElem?_replicate]);obtain⟨rfl,rfl⟩:=aI h1;rw[Nat.zero_add] at h2 h3;exact⟨h2,h3⟩
theorem PlusSt.drew {W wr L j S} (h:PlusSt W L j S wr):PlusSt W L j S wr.drew:=⟨h.out,h.len,h.all,h.ext.drew⟩
theorem PlusSt.ext_ {W wr wr' L j S} (h:PlusSt W L j S wr) (hx:Ext wr wr'):PlusSt W L j S wr':=⟨h.out.ext hx,h.len,h.all,h.ext.trans hx⟩
theorem PlusSt.last {W wr L S} (h:PlusSt W L 0 S wr) (d:Nat):Dg .i64 3 W.heap.size (wr.setCell ⟨W.heap.size,0,none⟩ (.int .i64 (d:Int))) (some ⟨W.heap.size,0,none⟩) (L+1) (d::S):=by
 have:=h.out.set (i:=0) (d:=d) (by simp);simpa using this
theorem zpd (neg A B ca cb la lb ea eb) (e:Int) (ka kb L:Nat) (w) (ha:Rd 0 w A (i6 la)) (hb:Rd 0 w B (i6 lb)) (hla:la.length<=1000) (hlb:lb.length<=1000) (hka:ea=e+ka) (hkb:eb=e+kb) (hk0:ka=0∨kb=0) (hkk:ka<=10000∧kb<=10000) (he:-1000000<=e∧e<=1000000) (hda:AllD la) (hdb:AllD lb) (hL:max (la.length+ka) (lb.length+kb)=L) :
  Calls prog 138 #[zc2 neg A la.length ca ea,zc2 neg B lb.length cb eb] w λr w'=>zg2 w neg (L+1) (val la*T ka+val lb*T kb) e r w'∧Ext w w':=by
 have hlv:=λW h1 h2=>zj1 neg neg A B ca cb la lb ea eb e ka kb W h1 h2 hla hlb hka hkb hk0 hkk he hda hdb;rw[hL] at hlv;have hLb:L<=11000:=by omega
 have hNa:val la*T ka<T L:=by
  rw[<-zdP];exact Nat.lt_of_lt_of_le (val_lt (hda.append (AllD.rep _ _ (by omega)))) (T_mono (by simp;omega))
 have hNb:val lb*T kb<T L:=by
  rw[<-zdP];exact Nat.lt_of_lt_of_le (val_lt (hdb.append (AllD.rep _ _ (by omega)))) (T_mono (by simp;omega))
 generalize val la*T ka=Na at *;generalize val lb*T kb=Nb at *;have HA:=Lib.hid ha;have HB:=Lib.hid hb;have HNa:=Lib.hid hNa;have HNb:=Lib.hid hNb;clear ha hb hka hkb hk0 hkk hL hNa hNb;have hmk:=zgk (L+1) (by omega);rw[show(((L+1:Nat)):Int)=(L:Int)+1 by omega] at hmk;go_enter func138,ntmps138;go_upto_region 2 with(go_at_call 190;(with_reducible refine(hlv _ (HA.out.ext (by simp[go_sem])) (HB.out.ext (by simp[go_sem]))).mono ?_);rintro r w' ⟨⟨va,vb,rfl,hva,hvb⟩,hx⟩;obtain⟨os,d,rfl⟩:=hx.more;obtain⟨Ax,cx,X,rfl,hrx,hnx,hax,hvx,hcx⟩:=hva;obtain⟨Ay,cy,Y,rfl,hry,hny,hay,hvy,hcy⟩:=hvb);refine zH λW hW=>?_;have c0:W.cell? ⟨w.heap.size,0,none⟩=some (.bool neg):=by rw[hW];go_simp
 have c1:W.cell? ⟨w.heap.size+1,0,none⟩=some (.bool neg):=by rw[hW];go_simp
 have r0:W.cell? ⟨w.heap.size+1+1,0,none⟩=some (.bool false):=by rw[hW];go_simp
 have r1:W.cell? ⟨w.heap.size+1+1,1,none⟩=some (.slice none 0 0):=by rw[hW];go_simp
 have r2:W.cell? ⟨w.heap.size+1+1,2,none⟩=some (.int .i64 0):=by rw[hW];go_simp
 have q0:W.frozen? ⟨w.heap.size+1+1,0,none⟩=false:=by rw[hW];go_simp
 have q1:W.frozen? ⟨w.heap.size+1+1,1,none⟩=false:=by rw[hW];go_simp
 have q2:W.frozen? ⟨w.heap.size+1+1,2,none⟩=false:=by rw[hW];go_simp
 have hz:w.heap.size+1+1<W.heap.size:=by rw[hW];simp;try omega
 have hz1:w.heap.size+1<W.heap.size:=by omega
 have hz0:w.heap.size<W.heap.size:=by omega
 have hxW:Ext w W:=by rw[hW];exact by simp[go_sem]
 have HX:Hid (Rd 0 W Ax (i6 X)):=by show Rd _ _ _ _;rw[hW];exact hrx.mono (Nat.zero_le _)
 have HY:Hid (Rd 0 W Ay (i6 Y)):=by show Rd _ _ _ _;rw[hW];exact hry.mono (Nat.zero_le _)
 clear hW hrx hry hx;have HS:Hid (PlusSt W L L [] (W.alloc (.cells (madeCells #[.int .i64 0] (L+1)) 3))):=⟨by have:=zhB (k:=.i64) (ty:=3) (w:=W) (L+1) rfl (Nat.le_refl _);simpa using this,by simp,AllD.nil,(Ext.refl _).alloc _⟩;have HNX:=Lib.hid hnx;have HNY:=Lib.hid hny;have HVX:=Lib.hid hvx;have HVY:=Lib.hid hvy;clear hnx hny hvx hvy;go_wp2;go_loopw [9,10] (λa i wr=>∃ (j c:Nat) (S:List Nat),j<=L∧c<=1∧i = .int .i64 ((j:Int)-1)∧a = .int .i64 (c:Int)∧Hid (PlusSt W L j S wr)∧Hid (val (X.drop j)+val (Y.drop j)=c*T S.length+val S)) (λ_ i _=>((intOf i)+1).toNat)
 case atStart=>
  exact⟨L,0,[],Nat.le_refl _,by omega,by go_num,rfl,HS,by show _=_;rw[List.drop_eq_nil_of_le (by rw[HNX.out];exact Nat.le_refl _),List.drop_eq_nil_of_le (by rw[HNY.out];exact Nat.le_refl _)];simp[val_nil]⟩
 case round=>
  obtain⟨j,c,S,hj,hc,rfl,rfl,H,HV⟩:=hrel;have hxr:=H.out.ext;have hsz:=hxr.size;cases j with
  | zero=>
   obtain⟨o0,o1⟩:=H.out.at;have c0':=hxr.cell_some c0;have r0':=hxr.cell_some r0;have r1':=hxr.cell_some r1;have r2':=hxr.cell_some r2;have q0':=(hxr.frozen (p:=⟨w.heap.size+1+1,0,none⟩) (by show w.heap.size+1+1<_;omega)).trans q0;have q1':=(hxr.frozen (p:=⟨w.heap.size+1+1,1,none⟩) (by show w.heap.size+1+1<_;omega)).trans q1;have q2':=(hxr.frozen (p:=⟨w.heap.size+1+1,2,none⟩) (by show w.heap.size+1+1<_;omega)).trans q2;have HLAST:=Lib.hid (H.out.last c);go_wp2;refine bodyPost_ret (v:=zc2 neg (some ⟨W.heap.size,0,none⟩) (L+1) (L+1) e) (by simp[results,results138,go_sem,hz,r0',r1',r2']) rfl ⟨⟨_,_,c::S,rfl,?_,by have:=H.out.len;simp;omega,AllD.cons (by omega) H.out.all,?_,Nat.le_refl _⟩,?_⟩
   ·exact(((HLAST.out.rd.set_low _ hz).set_low _ hz).set_low _ hz).mono (by omega)
   ·rw[val_cons];have:=HV.out;rw[List.drop_zero,List.drop_zero,HVX.out,HVY.out] at this;omega
   ·exact(((((hxW.trans hxr).set _ (by show w.heap.size<=W.heap.size;omega)).set _ (by show w.heap.size<=w.heap.size+1+1;omega)).set _ (by show w.heap.size<=w.heap.size+1+1;omega)).set _ (by show w.heap.size<=w.heap.size+1+1;omega))
  | succ j=>
   have hjL:j<L:=by omega
   obtain⟨x,hxj⟩:∃ x,X[j]? = some x:=⟨X[j]'(by have:=HNX.out;omega),by rw[List.getElem?_eq_getElem]⟩;obtain⟨y,hyj⟩:∃ y,Y[j]? = some y:=⟨Y[j]'(by have:=HNY.out;omega),by rw[List.getElem?_eq_getElem]⟩;obtain⟨ba,oa,rfl,_,hcx'⟩:=Rd.at_ (HX.out.ext hxr) hxj;obtain⟨bb,ob,rfl,_,hcy'⟩:=Rd.at_ (HY.out.ext hxr) hyj;have hba:=za hcx';have hbb:=za hcy';simp only at hba hbb;have hx10:=hax.at hxj;have hy10:=hay.at hyj;have HST:=Lib.hid (add_step hxj hyj (by rw[HNX.out,HNY.out]) (by rw[H.out.len,HNX.out]) HV.out);obtain⟨o0,o1⟩:=H.out.at;have t1:((x:Int)+(y:Int)+(c:Int)).tmod 10=(((x+y+c)%10:Nat):Int):=rfl;have t3:((x:Int)+(y:Int)+(c:Int))%10=(((x+y+c)%10:Nat):Int):=rfl;have t2:((x:Int)+(y:Int)+(c:Int)).tdiv 10=(((x+y+c)/10:Nat):Int):=rfl;have hd1:(x+y+c)%10<10:=by omega
   have hd2:(x+y+c)/10<=1:=by omega
   have hji:(((j+1:Nat):Int)-1)=(j:Int):=by omega
   rw[hji];have HSP:=Lib.hid (H.out.step hd1 hj);clear hxj hyj;generalize (x+y+c)%10=dg at *;generalize (x+y+c)/10=cc at *;go_wp2;refine plP [(0,0),(1,0),(2,0),(3,0),(4,0),(5,0),(6,0),(7,0),(8,0),(9,0),(10,0),(11,0)] [] (by kernel_rfl) (λ_ _ d _ _ h=>by cases d <;> exact h) ?_;iterate 12(apply rdP rfl rfl;(intros;go_simp;first | done | rfl);try simp only[zq])
   refine zi ?_;go_wp2;refine⟨⟨j,cc,dg::S,by omega,hd2,by go_num,by rw[t2],?_,?_⟩,by simp[intOf]⟩
   ·exact HSP.out.drew
   ·exact HST
theorem zpe (na nb A B ca cb la lb ea eb) (e:Int) (ka kb L:Nat) (w) (ha:Rd 0 w A (i6 la)) (hb:Rd 0 w B (i6 lb)) (hla:la.length<=1000) (hlb:lb.length<=1000) (hka:ea=e+ka) (hkb:eb=e+kb) (hk0:ka=0∨kb=0) (hkk:ka<=10000∧kb<=10000) (he:-1000000<=e∧e<=1000000) (hda:AllD la) (hdb:AllD lb) (hne:na≠nb) (hL:max (la.length+ka) (lb.length+kb)=L) :
  Calls prog 138 #[zc2 na A la.length ca ea,zc2 nb B lb.length cb eb] w λr w'=>zg2 w (if val la*T ka<val lb*T kb then nb else na) (L+1) (if val la*T ka<val lb*T kb then val lb*T kb-val la*T ka else val la*T ka-val lb*T kb) e r w'∧Ext w w':=by
 have hlv:=λW h1 h2=>zj1 na nb A B ca cb la lb ea eb e ka kb W h1 h2 hla hlb hka hkb hk0 hkk he hda hdb;rw[hL] at hlv;have hLb:L<=11000:=by omega
 generalize val la*T ka=Na at *;generalize val lb*T kb=Nb at *;generalize hNG:(if Na<Nb then nb else na)=NG;generalize hVV:(if Na<Nb then Nb-Na else Na-Nb)=VV;have HNG:=Lib.hid hNG;have HVV:=Lib.hid hVV;clear hNG hVV;have HA:=Lib.hid ha;have HB:=Lib.hid hb;clear ha hb hka hkb hk0 hkk hL;have hmk:=zgk (L+1) (by omega);rw[show(((L+1:Nat)):Int)=(L:Int)+1 by omega] at hmk;go_enter func138,ntmps138;go_upto_region 2 with(go_at_call 190;(with_reducible refine(hlv _ (HA.out.ext (by simp[go_sem])) (HB.out.ext (by simp[go_sem]))).mono ?_);rintro r w' ⟨⟨va,vb,rfl,hva,hvb⟩,hx⟩;obtain⟨os,d,rfl⟩:=hx.more;obtain⟨Ax,cx,X,rfl,hrx,hnx,hax,hvx,hcx⟩:=hva;obtain⟨Ay,cy,Y,rfl,hry,hny,hay,hvy,hcy⟩:=hvb);refine zH λW hW=>?_;have c0:W.cell? ⟨w.heap.size,0,none⟩=some (.bool na):=by rw[hW];go_simp
 have c1:W.cell? ⟨w.heap.size+1,0,none⟩=some (.bool nb):=by rw[hW];go_simp
 have r0:W.cell? ⟨w.heap.size+1+1,0,none⟩=some (.bool false):=by rw[hW];go_simp
 have r1:W.cell? ⟨w.heap.size+1+1,1,none⟩=some (.slice none 0 0):=by rw[hW];go_simp
 have r2:W.cell? ⟨w.heap.size+1+1,2,none⟩=some (.int .i64 0):=by rw[hW];go_simp
 have q0:W.frozen? ⟨w.heap.size+1+1,0,none⟩=false:=by rw[hW];go_simp
 have q1:W.frozen? ⟨w.heap.size+1+1,1,none⟩=false:=by rw[hW];go_simp
 have q2:W.frozen? ⟨w.heap.size+1+1,2,none⟩=false:=by rw[hW];go_simp
 have hz:w.heap.size+1+1<W.heap.size:=by rw[hW];simp;try omega
 have hz1:w.heap.size+1<W.heap.size:=by omega
 have hz0:w.heap.size<W.heap.size:=by omega
 have hxW:Ext w W:=by rw[hW];exact by simp[go_sem]
 have HX:Hid (Rd 0 W Ax (i6 X)):=by show Rd _ _ _ _;rw[hW];exact hrx.mono (Nat.zero_le _)
 have HY:Hid (Rd 0 W Ay (i6 Y)):=by show Rd _ _ _ _;rw[hW];exact hry.mono (Nat.zero_le _)
 clear hW hrx hry hx;have HS:Hid (PlusSt W L L [] (W.alloc (.cells (madeCells #[.int .i64 0] (L+1)) 3))):=⟨by have:=zhB (k:=.i64) (ty:=3) (w:=W) (L+1) rfl (Nat.le_refl _);simpa using this,by simp,AllD.nil,(Ext.refl _).alloc _⟩;have HNX:=Lib.hid hnx;have HNY:=Lib.hid hny;have HVX:=Lib.hid hvx;have HVY:=Lib.hid hvy;clear hnx hny hvx hvy;have hne':(na==nb)=false:=by simpa using hne
 have hls:=λW' (hx':Ext W W')=>zrn Ax Ay cx cy L X Y W' (HX.out.ext hx') (HY.out.ext hx') HNX.out HNY.out hax hay (by omega);go_upto_if 70 with(go_at_call 191;(with_reducible refine(hls _ (by simp[go_sem])).mono ?_);rintro r w' ⟨rfl,hx⟩;obtain⟨os2,d2,rfl⟩:=hx.more)
 have HS2:=HS.out.ext_ (zao _ os2 d2);have HS2:=Lib.hid HS2;refine zH λW2 hW2=>?_;rw[<-hW2] at HS2;clear hW2 HS hls hx;have hx2:=HS2.out.ext;have hz2:=hx2.size;have c1':=hx2.cell_some c1;go_cut [5,6,12] (λs5 s6 s12 wx=>∃ (Ap Aq:Option Addr) (cp cq:Nat) (P Q:List Nat) (n:Bool),s5 = .slice Ap L cp∧s6 = .slice Aq L cq∧s12 = .bool n∧wx=W2∧Hid (Rd 0 W Ap (i6 P))∧Hid (Rd 0 W Aq (i6 Q))∧Hid (P.length=L)∧Hid (Q.length=L)∧AllD P∧AllD Q∧L<=cp∧L<=cq∧Hid (val Q<=val P∧n=NG∧val P-val Q=VV))
 case first=>
  by_cases hlt:val X<val Y
  ·have e1:decide (val X<val Y)=true:=by simp[hlt]
   have hN:Na<Nb:=by rw[<-HVX.out,<-HVY.out];exact hlt
   have HN:=Lib.hid hN;have HLT:=Lib.hid hlt;clear hlt hN;go_wp2;go_meet;exact⟨Ay,Ax,cy,cx,Y,X,nb,rfl,rfl,rfl,rfl,HY,HX,HNY,HNX,hay,hax,hcy,hcx,Nat.le_of_lt HLT.out,by rw[<-HNG.out,if_pos HN.out],by rw[<-HVV.out,if_pos HN.out,HVX.out,HVY.out]⟩
  ·have e1:decide (val X<val Y)=false:=by simp[hlt]
   have hN:¬ Na<Nb:=by rw[<-HVX.out,<-HVY.out];exact hlt
   have HN:=Lib.hid hN;have HLT:=Lib.hid hlt;clear hlt hN;go_wp2;go_meet;exact⟨Ax,Ay,cx,cy,X,Y,na,rfl,rfl,rfl,rfl,HX,HY,HNX,HNY,hax,hay,hcx,hcy,Nat.le_of_not_lt HLT.out,by rw[<-HNG.out,if_neg HN.out],by rw[<-HVV.out,if_neg HN.out,HVX.out,HVY.out]⟩
 case rest=>
 clear HX HY HNX HNY HVX HVY hax hay hcx hcy c1';obtain⟨Ap,Aq,cp,cq,X,Y,n,rfl,rfl,rfl,rfl,HX,HY,HNX,HNY,hax,hay,hcx,hcy,HFIN⟩:=hcut;go_wp2;go_loopw [13,14] (λa i wr=>∃ (j c:Nat) (S:List Nat),j<=L∧c<=1∧i = .int .i64 ((j:Int)-1)∧a = .int .i64 (c:Int)∧Hid (PlusSt W L j S wr)∧Hid (val (X.drop j)+c*T S.length=val (Y.drop j)+val S)) (λ_ i _=>((intOf i)+1).toNat)
 case atStart=>
  exact⟨L,0,[],Nat.le_refl _,by omega,by go_num,rfl,HS2,by show _=_;rw[List.drop_eq_nil_of_le (by rw[HNX.out];exact Nat.le_refl _),List.drop_eq_nil_of_le (by rw[HNY.out];exact Nat.le_refl _)];simp[val_nil]⟩
 case round=>
  obtain⟨j,c,S,hj,hc,rfl,rfl,H,HV⟩:=hrel;have hxr:=H.out.ext;have hsz:=hxr.size;cases j with
  | zero=>
   have r0':=hxr.cell_some r0;have r1':=hxr.cell_some r1;have r2':=hxr.cell_some r2;have q0':=(hxr.frozen (p:=⟨w.heap.size+1+1,0,none⟩) (by show w.heap.size+1+1<_;omega)).trans q0;have q1':=(hxr.frozen (p:=⟨w.heap.size+1+1,1,none⟩) (by show w.heap.size+1+1<_;omega)).trans q1;have q2':=(hxr.frozen (p:=⟨w.heap.size+1+1,2,none⟩) (by show w.heap.size+1+1<_;omega)).trans q2;have hz':w.heap.size+1+1<wr.heap.size:=by omega
   go_wp2;obtain⟨f1,f2,f3⟩:=HFIN.out;refine bodyPost_ret (v:=zc2 n (some ⟨W.heap.size,0,none⟩) (L+1) (L+1) e) (by simp[results,results138,go_sem,hz',r0',r1',r2']) rfl ⟨⟨_,_,0::S,by rw[f2],?_,by have:=H.out.len;simp;omega,AllD.cons (by omega) H.out.all,?_,Nat.le_refl _⟩,?_⟩
   ·have hrd:=H.out.out.rd;exact(((hrd.set_low _ hz).set_low _ hz).set_low _ hz).mono (by omega)
   ·rw[<-f3,val_cons];have h1:=HV.out;rw[List.drop_zero,List.drop_zero] at h1;have hS:=val_lt H.out.all;have hc0:c=0:=by
     rcases Nat.eq_zero_or_pos c with h0 | h0
     ·exact h0
     ·exfalso
      have h2:=Nat.mul_le_mul_right (T S.length) h0;rw[Nat.one_mul] at h2;omega
    rw[hc0] at h1;omega
   ·exact((((hxW.trans hxr).set _ (by show w.heap.size<=w.heap.size+1+1;omega)).set _ (by show w.heap.size<=w.heap.size+1+1;omega)).set _ (by show w.heap.size<=w.heap.size+1+1;omega))
  | succ j=>
   have hjL:j<L:=by omega
   obtain⟨x,hxj⟩:∃ x,X[j]? = some x:=⟨X[j]'(by have:=HNX.out;omega),by rw[List.getElem?_eq_getElem]⟩;obtain⟨y,hyj⟩:∃ y,Y[j]? = some y:=⟨Y[j]'(by have:=HNY.out;omega),by rw[List.getElem?_eq_getElem]⟩;obtain⟨ba,oa,rfl,_,hcx'⟩:=Rd.at_ (HX.out.ext hxr) hxj;obtain⟨bb,ob,rfl,_,hcy'⟩:=Rd.at_ (HY.out.ext hxr) hyj;have hba:=za hcx';have hbb:=za hcy';simp only at hba hbb;have hx10:=hax.at hxj;have hy10:=hay.at hyj;have HST:=Lib.hid (λd c'=>sub_step (d:=d) (c':=c') hxj hyj (by rw[HNX.out,HNY.out]) (by rw[H.out.len,HNX.out]) HV.out);obtain⟨o0,o1⟩:=H.out.at;have hji:(((j+1:Nat):Int)-1)=(j:Int):=by omega
   rw[hji];have HSP:=Lib.hid (λd (hd1:d<10)=>H.out.step hd1 hj);clear hxj hyj;by_cases hneg:x<y+c
   ·have e1:(x:Int)-(y:Int)-(c:Int)<0:=by omega
    have e2:(x:Int)-(y:Int)-(c:Int)+10=((x+10-y-c:Nat):Int):=by omega
    go_wp2;refine plP [(0,0),(1,0),(2,0),(3,0),(4,0),(5,0),(6,0),(7,0),(8,0),(9,0),(10,0),(11,0)] [] (by kernel_rfl) (λ_ _ d _ _ h=>by cases d <;> exact h) ?_;iterate 12(apply rdP rfl rfl;(intros;go_simp;first | done | rfl);try simp only[zq])
    refine zi ?_;go_wp2;refine⟨⟨j,1,(x+10-y-c)::S,by omega,by omega,by go_num,rfl,?_,HST.out _ _ (by omega)⟩,by simp[intOf]⟩;have:=(HSP.out (x+10-y-c) (by omega)).drew;exact this
   ·have e1:¬ (x:Int)-(y:Int)-(c:Int)<0:=by omega
    have e2:(x:Int)-(y:Int)-(c:Int)=((x-y-c:Nat):Int):=by omega
    go_wp2;refine plP [(0,0),(1,0),(2,0),(3,0),(4,0),(5,0),(6,0),(7,0),(8,0),(9,0),(10,0),(11,0)] [] (by kernel_rfl) (λ_ _ d _ _ h=>by cases d <;> exact h) ?_;iterate 12(apply rdP rfl rfl;(intros;go_simp;first | done | rfl);try simp only[zq])
    refine zi ?_;go_wp2;refine⟨⟨j,0,(x-y-c)::S,by omega,by omega,by go_num,rfl,?_,HST.out _ _ (by omega)⟩,by simp[intOf]⟩;have:=(HSP.out (x-y-c) (by omega)).drew;exact this
theorem zic (na nb A B ca cb la lb ea eb) (e:Int) (ka kb L:Nat) (w) (ha:Rd 0 w A (i6 la)) (hb:Rd 0 w B (i6 lb)) (hla:la.length<=1000) (hlb:lb.length<=1000) (hka:ea=e+ka) (hkb:eb=e+kb) (hk0:ka=0∨kb=0) (hkk:ka<=10000∧kb<=10000) (he:-1000000<=e∧e<=1000000) (hda:AllD la) (hdb:AllD lb) (hL:max (la.length+ka) (lb.length+kb)=L) :
  Calls prog 138 #[zc2 na A la.length ca ea,zc2 nb B lb.length cb eb] w λr w'=>zg2 w (plusN na nb (val la*T ka) (val lb*T kb)).1 (L+1) (plusN na nb (val la*T ka) (val lb*T kb)).2 e r w'∧Ext w w':=by
 unfold plusN;by_cases h:na=nb
 ·rw[if_pos h];subst h;exact zpd na A B ca cb la lb ea eb e ka kb L w ha hb hla hlb hka hkb hk0 hkk he hda hdb hL
 ·rw[if_neg h];have:=zpe na nb A B ca cb la lb ea eb e ka kb L w ha hb hla hlb hka hkb hk0 hkk he hda hdb h hL;split
  ·rename_i hlt;rw[if_pos hlt,if_pos hlt] at this;exact this
  ·rename_i hlt;rw[if_neg hlt,if_neg hlt] at this;exact this
def zc3 (w:World) (b:Nat) (l:List Int):Prop:=w.heap[b]? = some (.cells (l.map (Value.int .i64)).toArray 3 (0,0))
structure Only (b:Nat) (w w':World):Prop where
 os:w'.os=w.os
 tape:w'.tape=w.tape
 output:w'.output=w.output
 size:w'.heap.size=w.heap.size
 block:∀ j,j≠b->w'.heap[j]? = w.heap[j]?
theorem Only.refl (b w):Only b w w:=⟨rfl,rfl,rfl,rfl,λ_ _=>rfl⟩
theorem Only.trans {b w w' w''} (h:Only b w w') (k:Only b w' w''):Only b w w'':=⟨k.os.trans h.os,k.tape.trans h.tape,k.output.trans h.output,k.size.trans h.size,λj hj=>(k.block j hj).trans (h.block j hj)⟩
theorem Only.set {b w w'} (h:Only b w w') (o v):Only b w (w'.setCell ⟨b,o,none⟩ v):=
 h.trans ⟨rfl,rfl,rfl,by simp,λj hj=>RowKit.Below.heap_setCell _ _ _ _ hj⟩
theorem Only.cell {b w w'} (h:Only b w w') {p} (hp:p.block≠b):w'.cell? p=w.cell? p:=World.cell?_of_block (h.block _ hp)
theorem Only.ext {b W w w'} (h:Only b w w') (hx:Ext W w) (hb:W.heap.size<=b):Ext W w':=
 ⟨h.os.trans hx.os,h.tape.trans hx.tape,h.output.trans hx.output,by rw[h.size];exact hx.size,λj hj=>(h.block j (by omega)).trans (hx.block hj)⟩
theorem zc3.at {w b l} (h:zc3 w b l) {j x} (hx:l[j]? = some x):w.cell? ⟨b,j,none⟩=some (.int .i64 x)∧w.frozen? ⟨b,j,none⟩=false:=by
 refine⟨?_,frozen_of_row w b j _ _ h⟩;rw[cell_of_row w b j _ _ (0,0) h];simp[hx]
theorem zc3.set {w b l} (h:zc3 w b l) (j x):zc3 (w.setCell ⟨b,j,none⟩ (.int .i64 x)) b (l.set j x):=by
 unfold zc3 at *;rw[heap_setCell_same w b j _ _ _ h];congr 2
 apply Array.ext'
 simp
def pad (neg:Bool) (n i:Nat) (D:List Nat):List Int:=List.replicate (n-D.length) 0++((D.take i).map (λd=>sg neg d)++List.replicate (D.length-i) 0)
theorem zcE {neg n i D} (h:D.length<=n) (hi:i<=D.length):(pad neg n i D).length=n:=by unfold pad;simp;omega
theorem ztP {a b} {j:Nat} {x y:Int} (hx:a[j]? = some x) (hy:b[j]? = some y):(List.zipWith (· + ·) a b)[j]? = some (x+y):=by
 rw[List.getElem?_zipWith,hx,hy]
theorem ztQ {neg n i D} (h:D.length<=n) (hi:i<D.length):(pad neg n i D)[n-D.length+i]? = some 0:=by
 unfold pad;rw[List.getElem?_append_right (by simp),List.getElem?_append_right (by simp;omega),List.getElem?_replicate,if_pos (by simp;omega)]
theorem zro {neg n i d D} (h:D.length<=n) (hd:D[i]? = some d):(pad neg n i D).set (n-D.length+i) (sg neg d)=pad neg n (i+1) D:=by
 have hi:=lt_at hd;unfold pad;rw[List.set_append_right _ _ (by simp)];congr 1
 rw[List.set_append_right _ _ (by simp;omega),zaJ hd,List.map_append,List.append_assoc];congr 1
 rw[show D.length-i=D.length-(i+1)+1 by omega,List.replicate_succ];have:n-D.length+i-(List.replicate (n-D.length) (0:Int)).length-((D.take i).map λd=>sg neg d).length=0:=by simp;omega
 rw[this];rfl
theorem zsM {a b j} {x y:Int} (hx:a[j]? = some x) (hj:j<b.length):(List.zipWith (· + ·) a b).set j (x+y)=List.zipWith (· + ·) a (b.set j y):=by
 apply List.ext_getElem?
 intro k;by_cases hk:j=k
 ·subst hk;rw[List.getElem?_set_self (by rw[List.length_zipWith];have:=lt_at hx;omega),List.getElem?_zipWith,hx,List.getElem?_set_self hj]
 ·rw[List.getElem?_set_ne hk,List.getElem?_zipWith,List.getElem?_zipWith,List.getElem?_set_ne hk]
theorem zsN {neg n i D} (hD:AllD D):∀ x∈pad neg n i D,-9<=x∧x<=9:=by
 intro x hx;unfold pad at hx;rcases List.mem_append.1 hx with h | h
 ·rw[List.eq_of_mem_replicate h];omega
 ·rcases List.mem_append.1 h with h | h
  ·obtain⟨d,hd,rfl⟩:=List.mem_map.1 h;have:=hD d (List.mem_of_mem_take hd);unfold sg;split <;> omega
  ·rw[List.eq_of_mem_replicate h];omega
theorem ziI (b n l A c D neg w) (hl:l.length=n) (h:zc3 w b l) (hD:Rd 0 w A (b8 D)) (hne:∀ p,A=some p->D≠[]->p.block≠b) (hn:D.length<=n) (hbig:n<=1000000) (hall:AllD D) (hlb:∀ x∈l,-1000<=x∧x<=1000) :
  Calls prog 163 #[.slice (some ⟨b,0,none⟩) n n,.slice A D.length c,.bool neg] w λe w'=>e = .returned (.tuple #[])∧zc3 w' b (List.zipWith (· + ·) l (pad neg n D.length D))∧Only b w w':=by
 generalize hR:List.zipWith (· + ·) l (pad neg n D.length D)=R;have HR:=Lib.hid hR;clear hR;have HH:Hid (zc3 w b (List.zipWith (· + ·) l (pad neg n 0 D))):=by
  show zc3 _ _ _;have:List.zipWith (· + ·) l (pad neg n 0 D)=l:=by
   apply List.ext_getElem?
   intro k;unfold pad;rw[List.getElem?_zipWith];simp
   rw[show n-D.length+D.length=n by omega,List.getElem?_replicate];by_cases hk:k<n
   ·rw[if_pos hk];cases hlk:l[k]? <;> simp
   ·rw[if_neg hk,List.getElem?_eq_none (by omega)]
  rw[this];exact h
 have HD:=Lib.hid hD;have HL:=Lib.hid hl;have HLB:=Lib.hid hlb;have HNE:=Lib.hid hne;have hsub:(n:Int)-(D.length:Int)=((n-D.length:Nat):Int):=by omega
 clear h hD hl hlb hne;go_enter func163,ntmps163;go_wp2;go_loopw [16] (λi wr=>∃ j:Nat,j<=D.length∧i = .int .i64 (j:Int)∧Hid (zc3 wr b (List.zipWith (· + ·) l (pad neg n j D)))∧Hid (Only b w wr)) (λi _=>D.length-(intOf i).toNat)
 case atStart=>exact⟨0,Nat.zero_le _,rfl,HH,Only.refl _ _⟩
 case round=>
  obtain⟨j,hj,rfl,HI,HO⟩:=hrel;by_cases hlt:j<D.length
  ·obtain⟨d,hd⟩:∃ d,D[j]? = some d:=⟨D[j],by rw[List.getElem?_eq_getElem]⟩;obtain⟨ba,oa,rfl,_,hcd⟩:=HD.out j (.int .u8 (d:Int)) (by unfold b8;rw[List.getElem?_map,hd];rfl);have hcd':=(HO.out.cell (p:=⟨ba,oa+j,none⟩) (by show ba≠b;exact HNE.out ⟨ba,oa,none⟩ rfl (λh0=>by rw[h0] at hd;simp at hd))).trans hcd;obtain⟨x,hx⟩:∃ x,l[n-D.length+j]? = some x:=⟨l[n-D.length+j]'(by have:=HL.out;omega),by rw[List.getElem?_eq_getElem]⟩;have hxb:=HLB.out x (List.mem_of_getElem? hx);have hd10:=hall.at hd;have hz:=ztP hx (ztQ (neg:=neg) hn hlt);rw[Int.add_zero] at hz;obtain⟨hc1,hc2⟩:=HI.out.at hz;have HN:Hid (zc3 (wr.setCell ⟨b,n-D.length+j,none⟩ (.int .i64 (x+sg neg d))) b (List.zipWith (· + ·) l (pad neg n (j+1) D))):=by
    show zc3 _ _ _;have:=HI.out.set (n-D.length+j) (x+sg neg d);rw[zsM hx (by rw[zcE hn hj];omega),zro hn hd] at this;exact this
   have hidx:((n-D.length:Nat):Int)+(j:Int)=((n-D.length+j:Nat):Int):=by omega
   have hin:n-D.length+j<n:=by omega
   generalize n-D.length+j=q at *;clear hx hd hz hcd;cases neg with
   | true=>
    have e1:x+sg true d=x-(d:Int):=by simp[sg];omega
    rw[e1] at HN;go_wp2;exact⟨⟨j+1,by omega,by go_num,HN,HO.out.set _ _⟩,by simp[intOf];omega⟩
   | false=>
    have e1:x+sg false d=x+(d:Int):=by simp[sg]
    rw[e1] at HN;go_wp2;exact⟨⟨j+1,by omega,by go_num,HN,HO.out.set _ _⟩,by simp[intOf];omega⟩
  ·go_wp2;refine bodyPost_end (v:=.tuple #[]) (by simp[results,results163]) rfl ⟨rfl,?_,HO.out⟩;rw[<-HR.out,show D.length=j by omega];exact HI.out
theorem zn1 (n:Nat) (hn:n<=100000) (W):(Instr.makeSlice 141 (.int .i64 (n:Int)) (.int .i64 (n:Int))).run prog W = .ok (.slice (some ⟨W.heap.size,0,none⟩) n n) (W.alloc (.cells (madeCells #[.int .u8 0] n) 5)):=by
 obtain⟨i0,hi,hz0,hz1,hz2⟩:=info_parts zda;have:=run_make (P:=prog) W 141 5 i0 _ Tryz.underlying141 hi hz0 .i64 .i64 (n:Int) (n:Int) (by omega) (by omega) (by rw[hz2];omega) (by omega);simpa[hz1,Value.cells] using this
theorem zid {l:List Int} {j x} (h:l[j]? = some x):l.drop j=x::l.drop (j+1):=by
 have hj:=lt_at h;rw[List.drop_eq_getElem_cons hj];rw[List.getElem?_eq_getElem hj] at h;rw[Option.some.inj h]
theorem ztR {l} (h:DOk l) {x} (hx:x∈l):if sgn l then -18<=x∧x<=9 else -9<=x∧x<=18:=by
 rcases h with h | h | h
 ·have:=h x hx;split <;> omega
 ·have h1:=h x hx;have h2:sgn l=false:=by
   have:=sgn_spec (l:=l) (Or.inr (Or.inl h));rw[this];have h3:=valI_nonneg (l:=l) (λd hd=>(h d hd).1);simp;omega
  rw[h2];simp;omega
 ·have h1:=h x hx;cases hs:sgn l with
  | true=>simp;omega
  | false=>
   have h0:∀ (m:List Int),(∀ d∈m,-18<=d∧d<=0)->sgn m=false->∀ d∈m,d=0:=by
    intro m;induction m with
    | nil=>intro _ _ d hd;cases hd
    | cons y m ih=>
     intro hm hs d hd;rw[sgn] at hs;by_cases hy:y=0
     ·rw[if_pos hy] at hs;rcases List.mem_cons.1 hd with rfl | hd
      ·exact hy
      ·exact ih (λd hd=>hm d (List.mem_cons_of_mem _ hd)) hs d hd
     ·rw[if_neg hy] at hs;have:=hm y (List.mem_cons_self ..);simp at hs;omega
   have:=h0 l h hs x hx;simp;omega
structure SetSt (W:World) (L j:Nat) (S:List Nat) (wr:World):Prop where
 out:Dg .u8 5 W.heap.size wr (some ⟨W.heap.size,0,none⟩) L (List.replicate j 0++S)
 len:S.length=L-j
 all:AllD S
 ext:Ext W wr
theorem SetSt.step {W wr L j d S} (h:SetSt W L (j+1) S wr) (hd:d<10) (hj:j+1<=L):SetSt W L j (d::S) (wr.setCell ⟨W.heap.size,j,none⟩ (.int .u8 (d:Int))):=by
 refine⟨?_,by simp[h.len];omega,AllD.cons hd h.all,h.ext.set _ (Nat.le_refl _)⟩;have:=h.out.set (i:=j) (d:=d) (by simp;omega);rw[Nat.zero_add,List.set_append_left _ _ (by simp)] at this;have he:(List.replicate (j+1) 0).set j d=List.replicate j 0++[d]:=by
  rw[List.replicate_succ',List.set_append_right _ _ (by simp)];simp
 rw[he,List.append_assoc,List.singleton_append] at this;exact this
theorem SetSt.at {W wr L j S} (h:SetSt W L (j+1) S wr):wr.cell? ⟨W.heap.size,j,none⟩=some (.int .u8 0)∧wr.frozen? ⟨W.heap.size,j,none⟩=false:=by
 obtain⟨b,off,h1,_,h2,h3⟩:=h.out.at (i:=j) (d:=0) (by rw[List.getElem?_append_left (by simp)];simp[List.getElem?_replicate]);obtain⟨rfl,rfl⟩:=aI h1;rw[Nat.zero_add] at h2 h3;exact⟨h2,h3⟩
theorem zmx {l:List Int} {j x c c'} {d:Nat} {S} (s) (hx:l[j]? = some x) (hS:S.length=l.length-(j+1)) (h:s*valI (l.drop (j+1))=c*(T S.length:Nat)+(val S:Int)) (hd:(d:Int)+10*c'=s*x+c) :
  s*valI (l.drop j)=c'*(T (S.length+1):Nat)+(val (d::S):Int):=by
 have hj:=lt_at hx;have hl:(l.drop (j+1)).length=S.length:=by simp;omega
 rw[zid hx,valI_cons,val_cons,hl,T_succ,Int.mul_add,h,Int.natCast_add,Int.natCast_mul,Int.natCast_mul,<-Int.mul_assoc s x];generalize ((T S.length:Nat):Int)=t at *;have h1:(d:Int)*t+10*c'*t=s*x*t+c*t:=by rw[<-Int.add_mul,hd,Int.add_mul]
 have h2:c'*(10*t)=10*c'*t:=by rw[<-Int.mul_assoc,Int.mul_comm c' 10]
 show _=c'*(10*t)+_;rw[h2];omega
theorem zrp {l:List Int} {x j} (hx:l[j]? = some x) (h0:x=0):sgn (l.drop j)=sgn (l.drop (j+1)):=by rw[zid hx,sgn,if_pos h0]
theorem zsO {l:List Int} {x j} (hx:l[j]? = some x) (h0:x≠0):sgn (l.drop j)=decide (x<0):=by rw[zid hx,sgn,if_neg h0]
theorem zn2 (b L l w) (hl : l.length = L) (h : zc3 w b l) (hok : DOk l) (hbig : L ≤ 10000) (hT : (valI l).natAbs < T L) :
    Calls prog 164 #[.slice (some ⟨b, 0, none⟩) L L] w fun e w' => e = .returned (.tuple #[.slice (some ⟨w.heap.size, 0, none⟩) L L, .bool (decide (valI l < 0))]) ∧ (∃ D, Dg .u8 5 w.heap.size w' (some ⟨w.heap.size, 0, none⟩) L D ∧ D.length = L ∧ AllD D ∧ val D = (valI l).natAbs) ∧ Ext w w' := by
  have hs := sgn_spec hok
  have hbd := fun x hx => ztR hok (x := x) hx
  have hmk := zn1 L (by omega)
  have hb := z7 h
  rw [← hs]
  have HS := Lib.hid hs
  have HBD := Lib.hid hbd
  have HI := Lib.hid h
  have HL := Lib.hid hl
  have HT := Lib.hid hT
  clear hs hbd h hl hT hok
  generalize hG : sgn l = G at *
  have HG := Lib.hid hG
  clear hG
  go_enter func164, ntmps164
  go_upto_block 0 with fail
  go_cut [4] (fun s4 wx => s4 = .bool G ∧ wx = w)
  case first =>
    go_wp2_with fail
    go_loop [4, 13] (fun a i => ∃ j : Nat, j ≤ L ∧ i = .int .i64 (j : Int) ∧ a = .bool false ∧ Hid (sgn (l.drop j) = G)) (fun _ i => L - (intOf i).toNat)
    case atStart => exact ⟨0, Nat.zero_le _, rfl, rfl, HG⟩
    case round =>
      obtain ⟨j, hj, rfl, rfl, HJ⟩ := hrel
      by_cases hlt : j < L
      · obtain ⟨x, hx⟩ : ∃ x, l[j]? = some x := ⟨l[j]'(by have := HL.out; omega), by rw [List.getElem?_eq_getElem]⟩
        obtain ⟨hc1, hc2⟩ := HI.out.at hx
        by_cases h0 : x = 0
        · have e0 : (x == 0) = true := by simp [h0]
          have HJ2 : Hid (sgn (l.drop (j + 1)) = G) := by show _ = _; rw [← zrp hx h0]; exact HJ.out
          clear hx h0
          go_wp2
          exact ⟨⟨j + 1, by omega, by go_num, rfl, HJ2⟩, by simp [intOf]; omega⟩
        · have e0 : (x == 0) = false := by simp [h0]
          have HJ2 : Hid (decide (x < 0) = G) := by show _ = _; rw [← zsO hx h0]; exact HJ.out
          clear hx h0
          go_wp2
          go_meet
          exact ⟨by rw [← HJ2.out], rfl⟩
      · go_wp2
        go_meet
        refine ⟨?_, rfl⟩
        have := HJ.out
        rw [List.drop_eq_nil_of_le (by have := HL.out; omega)] at this
        rw [← this]; rfl
  case rest =>
  obtain ⟨rfl, rfl⟩ := hcut
  have HST : Hid (SetSt wc L L [] (wc.alloc (.cells (madeCells #[.int .u8 0] L) 5))) := ⟨by have := zhB (k := .u8) (ty := 5) (w := wc) L rfl (Nat.le_refl _); simpa using this, by simp, AllD.nil, (Ext.refl _).alloc _⟩
  go_wp2
  go_loopw [8, 9] (fun a i wr => ∃ (j : Nat) (c : Int) (S : List Nat), j ≤ L ∧ -1 ≤ c ∧ c ≤ 1 ∧ i = .int .i64 ((j : Int) - 1) ∧ a = .int .i64 c ∧ Hid (SetSt wc L j S wr) ∧ Hid ((if G then -1 else 1) * valI (l.drop j) = c * (T S.length : Nat) + (val S : Int))) (fun _ i _ => ((intOf i) + 1).toNat)
  case atStart =>
    exact ⟨L, 0, [], Nat.le_refl _, by omega, by omega, by go_num, rfl, HST, by show _ = _; rw [List.drop_eq_nil_of_le (by rw [HL.out]; exact Nat.le_refl _)]; simp [val_nil, valI_nil]⟩
  case round =>
    obtain ⟨j, c, S, hj, hca, hcb, rfl, rfl, H, HV⟩ := hrel
    have hxr := H.out.ext
    have hsz := hxr.size
    cases j with
    | zero =>
      have HF : Hid (val S = (valI l).natAbs) := by
        show _ = _
        have h1 := HV.out
        have h2 := val_lt H.out.all
        have h3 := H.out.len
        have h4 := HT.out
        have h5 := HS.out
        rw [List.drop_zero] at h1
        rw [h3, Nat.sub_zero] at h1 h2
        have hTp := T_pos L
        have hGV : (if G = true then (-1 : Int) else 1) * valI l = ((valI l).natAbs : Int) := by
          cases G with
          | true => simp at h5 ⊢; omega
          | false => simp at h5 ⊢; omega
        rw [hGV] at h1
        have h6 : c = -1 ∨ c = 0 ∨ c = 1 := by omega
        generalize ((valI l).natAbs) = V at *
        generalize T L = t at *
        rcases h6 with h6 | h6 | h6 <;> rw [h6] at h1 <;> omega
      go_wp2
      go_ret2
      exact ⟨rfl, ⟨S, by simpa using H.out.out, by have := H.out.len; omega, H.out.all, HF.out⟩, hxr⟩
    | succ j =>
      have hjL : j < L := by omega
      obtain ⟨x, hx⟩ : ∃ x, l[j]? = some x := ⟨l[j]'(by have := HL.out; omega), by rw [List.getElem?_eq_getElem]⟩
      obtain ⟨hc1, hc2⟩ := HI.out.at hx
      have hc1' := hxr.cell_some hc1
      have hxb := HBD.out x (List.mem_of_getElem? hx)
      obtain ⟨o0, o1⟩ := H.out.at
      have hji : (((j + 1 : Nat) : Int) - 1) = (j : Int) := by omega
      rw [hji]
      have HSP := Lib.hid (fun d (hd1 : d < 10) => H.out.step hd1 hj)
      have HSTEP := Lib.hid (fun (d : Nat) (c' : Int) => zmx (d := d) (c' := c') (if G then -1 else 1) hx (by rw [H.out.len, HL.out]) HV.out)
      clear hx HV hc1 hc2
      cases G with
      | true =>
        have hxb1 : -9 ≤ -x ∧ -x ≤ 18 := by have : -18 ≤ x ∧ x ≤ 9 := by simpa using hxb
                                            omega
        clear hxb
        by_cases h9 : 9 < -x + c
        · obtain ⟨d, hd⟩ : ∃ d : Nat, -x + c - 10 = (d : Int) := ⟨(-x + c - 10).toNat, by omega⟩
          have w1 : IntKind.u8.wrap (d : Int) = d := by rw [IntKind.wrap_u8]; omega
          go_wp2
          refine ⟨⟨j, 1, d :: S, by omega, by omega, by omega, by go_num, rfl, HSP.out d (by omega), HSTEP.out d 1 (by simp; omega)⟩, by simp [intOf]⟩
        · by_cases h0 : -x + c < 0
          · obtain ⟨d, hd⟩ : ∃ d : Nat, -x + c + 10 = (d : Int) := ⟨(-x + c + 10).toNat, by omega⟩
            have w1 : IntKind.u8.wrap (d : Int) = d := by rw [IntKind.wrap_u8]; omega
            go_wp2
            refine ⟨⟨j, -1, d :: S, by omega, by omega, by omega, by go_num, rfl, HSP.out d (by omega), HSTEP.out d (-1) (by simp; omega)⟩, by simp [intOf]⟩
          · obtain ⟨d, hd⟩ : ∃ d : Nat, -x + c = (d : Int) := ⟨(-x + c).toNat, by omega⟩
            have w1 : IntKind.u8.wrap (d : Int) = d := by rw [IntKind.wrap_u8]; omega
            go_wp2
            refine ⟨⟨j, 0, d :: S, by omega, by omega, by omega, by go_num, rfl, HSP.out d (by omega), HSTEP.out d 0 (by simp; omega)⟩, by simp [intOf]⟩
      | false =>
        have hxb1 : -9 ≤ x ∧ x ≤ 18 := by simpa using hxb
        clear hxb
        by_cases h9 : 9 < x + c
        · obtain ⟨d, hd⟩ : ∃ d : Nat, x + c - 10 = (d : Int) := ⟨(x + c - 10).toNat, by omega⟩
          have w1 : IntKind.u8.wrap (d : Int) = d := by rw [IntKind.wrap_u8]; omega
          go_wp2
          refine ⟨⟨j, 1, d :: S, by omega, by omega, by omega, by go_num, rfl, HSP.out d (by omega), HSTEP.out d 1 (by simp; omega)⟩, by simp [intOf]⟩
        · by_cases h0 : x + c < 0
          · obtain ⟨d, hd⟩ : ∃ d : Nat, x + c + 10 = (d : Int) := ⟨(x + c + 10).toNat, by omega⟩
            have w1 : IntKind.u8.wrap (d : Int) = d := by rw [IntKind.wrap_u8]; omega
            go_wp2
            refine ⟨⟨j, -1, d :: S, by omega, by omega, by omega, by go_num, rfl, HSP.out d (by omega), HSTEP.out d (-1) (by simp; omega)⟩, by simp [intOf]⟩
          · obtain ⟨d, hd⟩ : ∃ d : Nat, x + c = (d : Int) := ⟨(x + c).toNat, by omega⟩
            have w1 : IntKind.u8.wrap (d : Int) = d := by rw [IntKind.wrap_u8]; omega
            go_wp2
            refine ⟨⟨j, 0, d :: S, by omega, by omega, by omega, by go_num, rfl, HSP.out d (by omega), HSTEP.out d 0 (by simp; omega)⟩, by simp [intOf]⟩
structure DivSt (X:World) (P Q j:Nat) (v:Value) (r:Nat) (wr:World) (l:List Nat):Prop where
 own:wr.ownsRow X.heap.size 5 1 v l.length (b8 l)
 all:AllD l
 len:l.length<=20+j
 value:val l=P*T j/Q
 rest:r=P*T j%Q
 ext:Ext X wr
theorem zrq {P Q j} (hQ:0<Q):P*T (j+1)/Q=10*(P*T j/Q)+10*(P*T j%Q)/Q∧P*T (j+1)%Q=10*(P*T j%Q)%Q∧10*(P*T j%Q)/Q<10:=by
 have h1:P*T (j+1)=10*(P*T j):=by rw[T_succ,Nat.mul_left_comm]
 have h2:=Nat.div_add_mod (P*T j) Q;have h3:=Nat.mod_lt (P*T j) hQ;generalize P*T j/Q=q at *;generalize P*T j%Q=r at *;have h4:P*T (j+1)=Q*(10*q)+10*r:=by rw[h1,<-h2,Nat.mul_add,Nat.mul_left_comm]
 refine⟨by rw[h4,Nat.mul_add_div hQ],by rw[h4,Nat.mul_add_mod],?_⟩;rw[Nat.div_lt_iff_lt_mul hQ];omega
theorem zsP (ma ea mb eb w) (htab : Tab w) (h1 : Rt ma ea) (h2 : Rt mb eb) (h3 : mb ≠ 0) :
    Tl prog 97 #[NV ma ea, NV mb eb] w (rnV (divR (ngB ma mb) ma.natAbs mb.natAbs (ea - eb))) := by
  obtain ⟨b1, b2, b3⟩ := zac h1
  obtain ⟨b4, b5, b6⟩ := zac h2
  have r1 := zD h1
  have r2 := zD h2
  have hma : I64 ma := by unfold I64; omega
  have hmb : I64 mb := by unfold I64; omega
  have h3' : (mb == 0) = false := by simp [h3]
  have hQ : 0 < mb.natAbs := by omega
  have HT := Lib.hid htab
  have HR := Lib.hid h3
  clear h1 h2 h3 htab
  go_enter func97, ntmps97
  go_wp2_with (go_at_call 104; with_reducible refine aM (zw _ _ _ (by assumption)) fun osr dr => ?_)
  refine plP [(0, 0), (1, 0), (3, 0), (4, 0), (2, 1), (5, 1), (6, 0), (7, 0)] [] (by kernel_rfl) (fun _ _ d _ _ h => by cases d <;> exact h) ?_
  iterate 4 (apply rdP rfl rfl; (intros; go_simp; first | done | rfl); try simp only [zq])
  (refine zg rfl ?_ (fun K hK => ?_); rfl; go_simp; (go_at_call 113; (with_reducible refine (za4 _ _ (by assumption)).mono ?_); rintro e w' ⟨rfl, rfl⟩); refine hK _ _ ?_ ?_; (simp [go_sem]))
  try simp only [zq]
  (refine zg rfl ?_ (fun K hK => ?_); rfl; go_simp; (go_at_call 113; (with_reducible refine (za4 _ _ (by assumption)).mono ?_); rintro e w' ⟨rfl, rfl⟩); refine hK _ _ ?_ ?_; (simp [go_sem]))
  try simp only [zq]
  iterate 2 (apply rdP rfl rfl; (intros; go_simp; first | done | rfl); try simp only [zq])
  refine zi ?_
  go_wp2_with fail
  refine zH fun W hW => ?_
  have c0 : W.cell? ⟨w.heap.size, 0, none⟩ = some (.int .i64 ma) := by rw [hW]; go_simp
  have c1 : W.cell? ⟨w.heap.size, 1, none⟩ = some (.int .i64 ea) := by rw [hW]; go_simp
  have c2 : W.cell? ⟨w.heap.size + 1, 0, none⟩ = some (.int .i64 mb) := by rw [hW]; go_simp
  have c3 : W.cell? ⟨w.heap.size + 1, 1, none⟩ = some (.int .i64 eb) := by rw [hW]; go_simp
  have c4 : W.cell? ⟨w.heap.size + 1 + 1, 0, none⟩ = some (.int .i64 0) := by rw [hW]; go_simp
  have c5 : W.cell? ⟨w.heap.size + 1 + 1, 1, none⟩ = some (.int .i64 0) := by rw [hW]; go_simp
  have f4 : W.frozen? ⟨w.heap.size + 1 + 1, 0, none⟩ = false := by rw [hW]; go_simp
  have f5 : W.frozen? ⟨w.heap.size + 1 + 1, 1, none⟩ = false := by rw [hW]; go_simp
  have hz : w.heap.size + 1 + 1 < W.heap.size := by rw [hW]; simp; try omega
  have hz1 : w.heap.size + 1 < W.heap.size := by omega
  have hz0 : w.heap.size < W.heap.size := by omega
  have hxW : Ext w W := by rw [hW]; exact by simp [go_sem]
  clear hW
  generalize hP : ma.natAbs = P at *
  generalize hQQ : mb.natAbs = Q at *
  have hQ0 : ((Q : Int) == 0) = false := by simp; omega
  have hQ1 : (Q == 0) = false := by simp; omega
  have hq : (P : Int) / (Q : Int) = ((P / Q : Nat) : Int) := by omega
  have hqm : (P : Int) % (Q : Int) = ((P % Q : Nat) : Int) := by omega
  have hQne : ¬ Q = 0 := by omega
  have hdg := fun W hW => zdb (P / Q) (Nat.lt_of_le_of_lt (Nat.div_le_self _ _) (by omega)) W hW
  generalize hq0 : P / Q = q0 at *
  generalize hr0 : P % Q = r0 at *
  have hq0b : q0 < 1000000000000000 := by rw [← hq0]; exact Nat.lt_of_le_of_lt (Nat.div_le_self _ _) (by omega)
  have hr0b : r0 < Q := by rw [← hr0]; exact Nat.mod_lt _ hQ
  have hqw : IntKind.u64.wrap (q0 : Int) = q0 := by rw [IntKind.wrap_u64]; omega
  have hrw : IntKind.u64.wrap (r0 : Int) = r0 := by rw [IntKind.wrap_u64]; omega
  have HQ0 := Lib.hid hq0
  have HR0 := Lib.hid hr0
  have HPQ := Lib.hid hP
  have HQQ := Lib.hid hQQ
  clear hq0 hr0 hP hQQ
  have hwr : IntKind.i64.wrap (ea - eb) = ea - eb := zaD (by omega) (by omega)
  have HTW : Hid (Tab W) := HT.out.ext hxW
  have hdgW := hdg W.drew (HTW.out.ext ((Ext.refl _).drew))
  clear hdg
  refine plP [(0, 0), (1, 0), (2, 0), (4, 0), (5, 0), (6, 0), (7, 0), (8, 0), (3, 1), (9, 0), (10, 0)] [] (by kernel_rfl) (fun _ _ d _ _ h => by cases d <;> exact h) ?_
  iterate 8 (apply rdP rfl rfl; (intros; go_simp; first | done | rfl); try simp only [zq])
  (refine zg rfl ?_ (fun K hK => ?_); rfl; go_simp; (go_at_call 159; (with_reducible refine hdgW.mono ?_); rintro e w' ⟨v, rfl, ho, hx⟩; obtain ⟨os4, d4, rfl⟩ := hx.more); refine hK _ _ ?_ ?_; (simp [go_sem]))
  try simp only [zq]
  iterate 2 (apply rdP rfl rfl; (intros; go_simp; first | done | rfl); try simp only [zq])
  refine zi ?_
  have hl0 : (zaE q0).length ≤ 20 := by
    rw [zbc]
    have := (nd_le_iff q0 20).2 (Nat.lt_of_le_of_lt (by rw [← HQ0.out]; exact Nat.div_le_self _ _) (Nat.lt_trans (show P < 1000000000000000 by omega) (by decide)))
    omega
  have hst0 : DivSt W P Q 0 v r0 (more W os4 d4) (zaE q0) := ⟨ho, zc9 _, by omega, by rw [ze6, ← HQ0.out]; simp [T], by rw [← HR0.out]; simp [T], zao _ _ _⟩
  obtain ⟨i0, hi, hz0', hz1', hz2'⟩ := info_parts zda
  have HS0 := Lib.hid hst0
  have HQM := Lib.hid hqm
  clear hst0 ho hx hq hqm hqw hrw
  go_wp2_with fail
  go_loopw [8, 9, 10, 43] (fun v x r i wr => ∃ (j rr : Nat) (l : List Nat), j ≤ 32 ∧ rr < Q ∧ i = .int .i64 (j : Int) ∧ r = .int .u64 (rr : Int) ∧ x = .int .i64 (ea - eb - (j : Int)) ∧ Hid (DivSt W P Q j v rr wr l)) (fun _ _ _ i _ => 32 - (intOf i).toNat)
  case atStart => exact ⟨0, r0, zaE q0, by omega, hr0b, rfl, by rw [HQM.out], by simp, HS0⟩
  case round =>
    obtain ⟨j, rr, l, hj, hrb, rfl, rfl, rfl, H⟩ := hrel
    have hX := H.out.ext
    obtain ⟨os, d, rfl⟩ := hX.more
    clear hX
    have hlen : l.length ≤ 60 := by have := H.out.len; omega
    by_cases hr0 : rr = 0
    · have e0 : ((rr : Int) == 0) = true := by simp [hr0]
      have e0b : (rr == 0) = true := by simp [hr0]
      have e1 : ((rr : Int) != 0) = false := by simp [hr0]
      have e1b : (rr != 0) = false := by simp [hr0]
      have HF : Hid (∀ neg, rnd neg (val l) false (ea - eb - (j : Int)) = divR neg P Q (ea - eb)) := by
        intro neg
        rw [H.out.value]
        exact divR_done _ _ hQ (by omega) (by rw [← H.out.rest]; exact hr0)
      clear hr0
      by_cases hj32 : j < 32
      · go_wp2_with (go_at_call 160; refine (zdc W _ _ l _ _ _ H.out.ext H.out.own H.out.all (by omega) (by omega)).mono ?_; rintro e w2' ⟨rfl, os2, d2, rfl⟩; rw [HF.out])
        exact bodyPost_ret (v := rnV (divR (!(decide (ma < 0) == decide (mb < 0))) P Q (ea - eb))) (by simp [results, results97, go_sem, c4, c5, hz]) rfl ⟨(by rw [HPQ.out, HQQ.out]; rfl), ((hxW.set _ (by show w.heap.size ≤ w.heap.size + 1 + 1; omega)).set _ (by show w.heap.size ≤ w.heap.size + 1 + 1; omega)).more_ _ _⟩
      · go_wp2_with (go_at_call 160; refine (zdc W _ _ l _ _ _ H.out.ext H.out.own H.out.all (by omega) (by omega)).mono ?_; rintro e w2' ⟨rfl, os2, d2, rfl⟩; rw [HF.out])
        exact bodyPost_ret (v := rnV (divR (!(decide (ma < 0) == decide (mb < 0))) P Q (ea - eb))) (by simp [results, results97, go_sem, c4, c5, hz]) rfl ⟨(by rw [HPQ.out, HQQ.out]; rfl), ((hxW.set _ (by show w.heap.size ≤ w.heap.size + 1 + 1; omega)).set _ (by show w.heap.size ≤ w.heap.size + 1 + 1; omega)).more_ _ _⟩
    · have e0 : ((rr : Int) == 0) = false := by simp [hr0]
      have e0b : (rr == 0) = false := by simp [hr0]
      have e1 : ((rr : Int) != 0) = true := by simp [hr0]
      have e1b : (rr != 0) = true := by simp [hr0]
      by_cases hj32 : j < 32
      · have HSTEP := Lib.hid (zrq (P := P) (j := j) hQ)
        rw [← H.out.rest] at HSTEP
        have w1 : IntKind.u64.wrap ((rr : Int) * 10) = (rr : Int) * 10 := by rw [IntKind.wrap_u64]; omega
        have w2 : (rr : Int) * 10 / (Q : Int) = ((10 * rr / Q : Nat) : Int) := by rw [Int.natCast_ediv, Int.natCast_mul, Int.mul_comm]; rfl
        have w3 : (rr : Int) * 10 % (Q : Int) = ((10 * rr % Q : Nat) : Int) := by rw [Int.natCast_emod, Int.natCast_mul, Int.mul_comm]; rfl
        have hd10 : 10 * rr / Q < 10 := HSTEP.out.2.2
        have hr2b : 10 * rr % Q < Q := Nat.mod_lt _ hQ
        generalize 10 * rr / Q = dd at *
        generalize 10 * rr % Q = r2 at *
        have w4 : IntKind.u64.wrap (dd : Int) = dd := by rw [IntKind.wrap_u64]; omega
        have w5 : IntKind.u8.wrap (dd : Int) = dd := by rw [IntKind.wrap_u8]; omega
        have w6 : IntKind.u64.wrap (r2 : Int) = r2 := by rw [IntKind.wrap_u64]; omega
        go_wp2_with (at_builtin; refine wpList_append_own _ rfl _ _ _ rfl W.heap.size 5 i0 (.int .u8 0) 1 1 Tryz.underlying141 hi hz0' hz1' hz2' rfl (by decide) _ l.length (b8 l) rfl (zjY H.out.own _) _ 1 1 [.int .u8 (dd : Int)] rfl rfl (Rd.one_ _ _ (by simp)).add (zey _) (by simp [maxLen]; omega) (by omega) (by simp; omega) ?_; intro v3 w3' ho3 hg3 _)
        go_roundw
        case measure => simp [intOf]; omega
        case rel =>
          refine ⟨j + 1, r2, l ++ [dd], by omega, hr2b, by go_num, by rw [w3], by congr 1; omega, ?_⟩
          refine ⟨?_, H.out.all.append (AllD.cons hd10 AllD.nil), by have := H.out.len; simp; omega, ?_, ?_, zk2 H.out.ext H.out.own hg3⟩
          · rw [b8, List.map_append]; simpa using ho3
          · rw [val_snoc, H.out.value]; exact HSTEP.out.1.symm
          · exact HSTEP.out.2.1.symm
      · have HF : Hid (∀ neg, rnd neg (val (l ++ [1])) false (ea - eb - (j : Int) - 1) = divR neg P Q (ea - eb)) := by
          intro neg
          obtain rfl : j = 32 := by omega
          have hr1 : P * T 32 % Q ≠ 0 := by rw [← H.out.rest]; exact hr0
          have hP0 : 0 < P := by
            rcases Nat.eq_zero_or_pos P with h0 | h0
            · rw [h0, Nat.zero_mul, Nat.zero_mod] at hr1; exact absurd rfl hr1
            · exact h0
          have hT15 : Q < T 15 := by have : T 15 = 1000000000000000 := by decide
                                     omega
          rw [val_snoc, H.out.value, ← divR_more neg (ea - eb) hP0 hQ hT15 hr1]
          congr 1
          omega
        clear hr0
        go_wp2_with (first | (at_builtin; refine wpList_append_own _ rfl _ _ _ rfl W.heap.size 5 i0 (.int .u8 0) 1 1 Tryz.underlying141 hi hz0' hz1' hz2' rfl (by decide) _ l.length (b8 l) rfl (zjY H.out.own _) _ 1 1 [.int .u8 1] rfl rfl (Rd.one_ _ _ (by simp)).add (zey _) (by simp [maxLen]; omega) (by omega) (by simp; omega) ?_; intro v3 w3' ho3 hg3 _; have hx3 := zk2 H.out.ext H.out.own hg3; obtain ⟨os3, d3, rfl⟩ := hx3.more; clear hg3) | (go_at_call 160; refine (zdc W _ _ (l ++ [1]) _ _ _ hx3 (by rw [b8, List.map_append]; exact ho3) (H.out.all.append (AllD.cons (by omega) AllD.nil)) (by simp; omega) (by omega)).mono ?_; rintro e w2' ⟨rfl, os2, d2, rfl⟩; rw [HF.out]))
        exact bodyPost_ret (v := rnV (divR (!(decide (ma < 0) == decide (mb < 0))) P Q (ea - eb))) (by simp [results, results97, go_sem, c4, c5, hz]) rfl ⟨(by rw [HPQ.out, HQQ.out]; rfl), ((hxW.set _ (by show w.heap.size ≤ w.heap.size + 1 + 1; omega)).set _ (by show w.heap.size ≤ w.heap.size + 1 + 1; omega)).more_ _ _⟩
def divS (ma ea mb eb:Int):Option (Int×Int):=if Rt ma ea∧Rt mb eb∧mb≠0 then divR (ngB ma mb) ma.natAbs mb.natAbs (ea-eb) else none
theorem zf3 (ma ea mb eb w) (htab:Tab w) (hma:I64 ma) (hmb:I64 mb) :
  Tl prog 97 #[NV ma ea,NV mb eb] w (rnV (divS ma ea mb eb)):=by
 unfold divS;split
 ·rename_i h;exact zsP ma ea mb eb w htab h.1 h.2.1 h.2.2
 ·rename_i h;exact ztN ma ea mb eb w hma hmb h
def zg3 (n:Nat):ByteArray:=⟨(Lib.decDigits n).toArray⟩
theorem zj3 (n):(zg3 n).size=max 1 (nd n):=by
 show(Lib.decDigits n).toArray.size=_;rw[zf0];simp[zbc]
theorem zvl (u:Nat) (hu64:u<18446744073709551616) (w) (htab:Tab w) :
  Tl prog 200 #[.int .u64 u,.int .i64 10] w (.string (zg3 u)):=zm7 u hu64 w htab
theorem zsQ (m ex w) (hm:I64 m) (h:¬ Rt m ex) :
  Tl prog 249 #[NV m ex] w (.string ⟨#[]⟩):=by
 have r1:=zae h;clear h;go_enter func249,ntmps249;go_wp2_with (go_at_call 104;with_reducible refine aM (zw _ _ _ (by assumption)) λosr dr=>?_);go_ret;exact⟨rfl,by simp[go_sem]⟩
def zcO (n:Nat):ByteArray:=⟨(List.replicate n 48).toArray⟩
theorem zes (n):(zcO n).size=n:=by simp[zcO,ByteArray.size]
theorem zeZ (n:Nat) (w) (hn:n<=1000) :
  Tl prog 255 #[.string ⟨#[48]⟩,.int .i64 (n:Int)] w (.string (zcO n)):=
 (Tryz.strings_Repeat ⟨#[48]⟩ n w (by omega) (by show 1*n<=_;omega)).mono λe w' ⟨h1,h2⟩=>⟨by
  rw[h1]
  have:=Lib.repeatL_replicate 48 1 n
  rw[Nat.mul_one] at this
  unfold zcO
  rw[<-this];rfl,h2⟩
def zct (m e:Int):List UInt8:=
 (if m<0 then[45] else[]) ++
 if 0<=e then Lib.decDigits m.natAbs++List.replicate e.toNat 48
 else if 0<((Lib.decDigits m.natAbs).length:Int)+e then(Lib.decDigits m.natAbs).take ((Lib.decDigits m.natAbs).length+e).toNat++46::(Lib.decDigits m.natAbs).drop ((Lib.decDigits m.natAbs).length+e).toNat
 else 48::46::(List.replicate (-((Lib.decDigits m.natAbs).length+e)).toNat 48++Lib.decDigits m.natAbs)
def ziJ (m e:Int):ByteArray:=⟨(zct m e).toArray⟩
theorem zdF {a:ByteArray} {l} (h:a.data.toList=l):a=⟨l.toArray⟩:=by
 subst h;cases a;simp
theorem zcW {a b} (h:a=b):Ending.returned (.string a) = .returned (.string b):=by rw[h]
theorem zrr (m ex w) (htab : Tab w) (h : Rt m ex) :
    Tl prog 249 #[NV m ex] w (.string (ziJ m ex)) := by
  obtain ⟨b1, b2, b3⟩ := zac h
  have hm : I64 m := by unfold I64; omega
  have r1 := zD h
  have HT := Lib.hid htab
  clear h htab
  have hsz := zj3 m.natAbs
  have hnd : nd m.natAbs ≤ 15 := (nd_le_iff _ _).2 (by have : T 15 = 1000000000000000 := by decide
                                                       omega)
  have hs1 : 1 ≤ (zg3 m.natAbs).size ∧ (zg3 m.natAbs).size ≤ 15 := by omega
  have hfm := fun W hW => zvl m.natAbs (by omega) W hW
  have hS : (zg3 m.natAbs).data.toList = Lib.decDigits m.natAbs := by simp [zg3]
  generalize zg3 m.natAbs = S at *
  have hSl : (Lib.decDigits m.natAbs).length = S.size := by rw [← hS]; exact Array.length_toList
  have HS := Lib.hid hS
  have HL := Lib.hid hSl
  clear hsz hnd hS hSl
  by_cases hneg : m < 0
  · by_cases he : 0 ≤ ex
    · obtain ⟨n, rfl⟩ := Int.eq_ofNat_of_zero_le he
      have hzz : (zcO n).size ≤ 100 := by rw [zes]; omega
      go_enter func249, ntmps249
      go_wp2_with (first | (go_at_call 104; with_reducible refine aM (zw _ _ _ (by assumption)) fun osr dr => ?_) | (go_at_call 113; (with_reducible refine (za4 _ _ (by assumption)).mono ?_); rintro e w' ⟨rfl, rfl⟩) | (go_at_call 200; refine aM (hfm _ (HT.out.ext (by simp [go_sem]))) fun osf df => ?_) | (go_at_call 255; refine (zeZ n _ (by omega)).mono ?_; rintro e w' ⟨rfl, hbp⟩; obtain ⟨osp, dp, rfl⟩ := Ext.more hbp))
      go_ret
      refine ⟨zcW (zdF ?_), by simp [go_sem]⟩
      unfold zct
      rw [if_pos hneg, if_pos he]
      simp [zcO, HS.out]
    · by_cases hw : 0 < (S.size : Int) + ex
      · obtain ⟨n, hn⟩ : ∃ n : Nat, (S.size : Int) + ex = n := ⟨((S.size : Int) + ex).toNat, by omega⟩
        have hn1 : n ≤ S.size := by omega
        have hn2 : decide (0 < (n : Int)) = true := by simp; omega
        have hn2b : decide (0 < n) = true := by simp; omega
        have k1 : ¬ 9223372036854775807 < 1 + n := by omega
        have k2 : ¬ 9223372036854775807 < 1 + n + 1 := by omega
        have k3 : ¬ 9223372036854775807 < 1 + n + 1 + (S.size - n) := by omega
        have HN := Lib.hid hn
        go_enter func249, ntmps249
        go_wp2_with (first | (go_at_call 104; with_reducible refine aM (zw _ _ _ (by assumption)) fun osr dr => ?_) | (go_at_call 113; (with_reducible refine (za4 _ _ (by assumption)).mono ?_); rintro e w' ⟨rfl, rfl⟩) | (go_at_call 200; refine aM (hfm _ (HT.out.ext (by simp [go_sem]))) fun osf df => ?_) | (go_at_call 255; refine (zeZ n _ (by omega)).mono ?_; rintro e w' ⟨rfl, hbp⟩; obtain ⟨osp, dp, rfl⟩ := Ext.more hbp))
        refine plP [(0, 0), (1, 0), (2, 0), (3, 0), (4, 0), (5, 0), (6, 0), (7, 0), (8, 0), (9, 0), (10, 0)] [] (by kernel_rfl) (fun _ _ d _ _ h => by cases d <;> exact h) ?_
        iterate 11 (apply rdP rfl rfl; (intros; go_simp; first | done | rfl); try simp only [zq])
        refine zi ?_
        clear hn k1 k2 k3
        go_wp2
        go_ret
        refine ⟨zcW (zdF ?_), by simp [go_sem]⟩
        unfold zct
        rw [if_pos hneg, if_neg (by omega), HL.out, if_pos (by have := HN.out; have := HL.out; omega), HN.out, Int.toNat_natCast]
        have hle : (Lib.decDigits m.natAbs).length = S.size := HL.out
        simp [HS.out]
        exact List.take_of_length_le (by rw [List.length_drop, hle]; exact Nat.le_refl _)
      · obtain ⟨n, hn⟩ : ∃ n : Nat, -((S.size : Int) + ex) = n := ⟨(-((S.size : Int) + ex)).toNat, by omega⟩
        have hzz : (zcO n).size ≤ 100 := by rw [zes]; omega
        have HN := Lib.hid hn
        go_enter func249, ntmps249
        go_wp2_with (first | (go_at_call 104; with_reducible refine aM (zw _ _ _ (by assumption)) fun osr dr => ?_) | (go_at_call 113; (with_reducible refine (za4 _ _ (by assumption)).mono ?_); rintro e w' ⟨rfl, rfl⟩) | (go_at_call 200; refine aM (hfm _ (HT.out.ext (by simp [go_sem]))) fun osf df => ?_) | (go_at_call 255; refine (zeZ n _ (by omega)).mono ?_; rintro e w' ⟨rfl, hbp⟩; obtain ⟨osp, dp, rfl⟩ := Ext.more hbp))
        go_ret
        refine ⟨zcW (zdF ?_), by simp [go_sem]⟩
        unfold zct
        rw [if_pos hneg, if_neg (by omega), HL.out, if_neg (by have := HN.out; have := HL.out; omega), HN.out, Int.toNat_natCast]
        simp [zcO, HS.out]
  · by_cases he : 0 ≤ ex
    · obtain ⟨n, rfl⟩ := Int.eq_ofNat_of_zero_le he
      have hzz : (zcO n).size ≤ 100 := by rw [zes]; omega
      go_enter func249, ntmps249
      go_wp2_with (first | (go_at_call 104; with_reducible refine aM (zw _ _ _ (by assumption)) fun osr dr => ?_) | (go_at_call 113; (with_reducible refine (za4 _ _ (by assumption)).mono ?_); rintro e w' ⟨rfl, rfl⟩) | (go_at_call 200; refine aM (hfm _ (HT.out.ext (by simp [go_sem]))) fun osf df => ?_) | (go_at_call 255; refine (zeZ n _ (by omega)).mono ?_; rintro e w' ⟨rfl, hbp⟩; obtain ⟨osp, dp, rfl⟩ := Ext.more hbp))
      go_ret
      refine ⟨zcW (zdF ?_), by simp [go_sem]⟩
      unfold zct
      rw [if_neg (by omega), if_pos he]
      simp [zcO, HS.out]
    · by_cases hw : 0 < (S.size : Int) + ex
      · obtain ⟨n, hn⟩ : ∃ n : Nat, (S.size : Int) + ex = n := ⟨((S.size : Int) + ex).toNat, by omega⟩
        have hn1 : n ≤ S.size := by omega
        have hn2 : decide (0 < (n : Int)) = true := by simp; omega
        have hn2b : decide (0 < n) = true := by simp; omega
        have k1 : ¬ 9223372036854775807 < n := by omega
        have k2 : ¬ 9223372036854775807 < n + 1 := by omega
        have k3 : ¬ 9223372036854775807 < n + 1 + (S.size - n) := by omega
        have HN := Lib.hid hn
        go_enter func249, ntmps249
        go_wp2_with (first | (go_at_call 104; with_reducible refine aM (zw _ _ _ (by assumption)) fun osr dr => ?_) | (go_at_call 113; (with_reducible refine (za4 _ _ (by assumption)).mono ?_); rintro e w' ⟨rfl, rfl⟩) | (go_at_call 200; refine aM (hfm _ (HT.out.ext (by simp [go_sem]))) fun osf df => ?_) | (go_at_call 255; refine (zeZ n _ (by omega)).mono ?_; rintro e w' ⟨rfl, hbp⟩; obtain ⟨osp, dp, rfl⟩ := Ext.more hbp))
        refine plP [(0, 0), (1, 0), (2, 0), (3, 0), (4, 0), (5, 0), (6, 0), (7, 0), (8, 0), (9, 0), (10, 0)] [] (by kernel_rfl) (fun _ _ d _ _ h => by cases d <;> exact h) ?_
        iterate 11 (apply rdP rfl rfl; (intros; go_simp; first | done | rfl); try simp only [zq])
        refine zi ?_
        clear hn k1 k2 k3
        go_wp2
        go_ret
        refine ⟨zcW (zdF ?_), by simp [go_sem]⟩
        unfold zct
        rw [if_neg (by omega), if_neg (by omega), HL.out, if_pos (by have := HN.out; have := HL.out; omega), HN.out, Int.toNat_natCast]
        have hle : (Lib.decDigits m.natAbs).length = S.size := HL.out
        simp [HS.out]
        exact List.take_of_length_le (by rw [List.length_drop, hle]; exact Nat.le_refl _)
      · obtain ⟨n, hn⟩ : ∃ n : Nat, -((S.size : Int) + ex) = n := ⟨(-((S.size : Int) + ex)).toNat, by omega⟩
        have hzz : (zcO n).size ≤ 100 := by rw [zes]; omega
        have HN := Lib.hid hn
        go_enter func249, ntmps249
        go_wp2_with (first | (go_at_call 104; with_reducible refine aM (zw _ _ _ (by assumption)) fun osr dr => ?_) | (go_at_call 113; (with_reducible refine (za4 _ _ (by assumption)).mono ?_); rintro e w' ⟨rfl, rfl⟩) | (go_at_call 200; refine aM (hfm _ (HT.out.ext (by simp [go_sem]))) fun osf df => ?_) | (go_at_call 255; refine (zeZ n _ (by omega)).mono ?_; rintro e w' ⟨rfl, hbp⟩; obtain ⟨osp, dp, rfl⟩ := Ext.more hbp))
        go_ret
        refine ⟨zcW (zdF ?_), by simp [go_sem]⟩
        unfold zct
        rw [if_neg (by omega), if_neg (by omega), HL.out, if_neg (by have := HN.out; have := HL.out; omega), HN.out, Int.toNat_natCast]
        simp [zcO, HS.out]
def zd4 (m e:Int):ByteArray:=if Rt m e then ziJ m e else⟨#[]⟩
theorem zpf (m ex w) (htab:Tab w) (hm:I64 m) :
  Tl prog 249 #[NV m ex] w (.string (zd4 m ex)):=by
 unfold zd4;split
 ·rename_i h;exact zrr m ex w htab h
 ·rename_i h;exact zsQ m ex w hm h
theorem zcP:Rt 1 0:=Or.inr ⟨by decide,by decide,by decide,by decide,by
 have:nd (1:Int).natAbs=1:=nd_eq (k:=0) (by decide) (by decide)
 rw[this];decide⟩
theorem zie (n):zfK n=dig n:=by
 induction n using Nat.strongRecOn with
 | ind n ih=>
  by_cases h:n=0
  ·subst h;rw[zfr,dig_zero]
  ·rw[zh7 h,dig_pos h,ih (n/10) (by omega)]
theorem SlI.i6_ {base w A n} (h:SlI base w A (zaW n)):Rd base w A (i6 (dig n.natAbs)):=by
 unfold SlI zaW at h;rw[zie,List.map_map] at h;exact h
theorem zju (n w) (h:I64 n) :
  Calls prog 187 #[.int .i64 n] w λe w'=>∃ A c,e = .returned (.slice A (nd n.natAbs) c)∧Rd w.heap.size w' A (i6 (dig n.natAbs))∧nd n.natAbs<=c∧Ext w w':=by
 have hl:(zaW n).length=nd n.natAbs:=by unfold zaW;rw[List.length_map,zie,dig_length]
 refine(ziG n w h).mono λe w' ⟨A,c,h1,h2,h3,h4⟩=>⟨A,c,?_,h2.i6_,by omega,h3⟩;rw[<-hl];exact h1
theorem zlb {neg N e} (h:(nd N:Int)+e < -41):rnd neg N false e=some (0,0):=by
 apply rnd_of_zero
 unfold n2;apply cutN_far
 by_cases h15:nd N<=15
 ·have:n1 N false=N:=by unfold n1;rw[show nd N-15=0 by omega,cutN_zero]
  rw[this,show nd N-15=0 by omega];omega
 ·have:=(nd_le_iff (n1 N false) 16).2 (Nat.lt_of_le_of_lt (n1_le N false) (T_lt (by omega)));omega
theorem zj4 (m ex w) (hm:I64 m) :
  Tl prog 141 #[.int .i64 m,.int .i64 ex] w (rnV (rnd (decide (m<0)) m.natAbs false ex)):=by
 by_cases h0:m=0
 ·subst h0;have hr:rnd (decide ((0:Int)<0)) (0:Int).natAbs false ex=some (0,0):=rnd_of_zero (n2_zero _ _);rw[hr];go_enter func141,ntmps141;go_wp2;exact rct (v:=NV 0 0) rfl rfl (by simp[go_sem]) ⟨rfl,by simp[go_sem]⟩
 ·have h0':(m==0)=false:=by simp[h0]
  by_cases h1:100<ex
  ·rw[rnd_far_up (by omega) (by omega)];clear h0;go_enter func141,ntmps141;go_wp2;exact rct (v:=NV 0 0) rfl rfl (by simp[go_sem]) ⟨rfl,by simp[go_sem]⟩
  ·have hnd:nd m.natAbs<=20:=(nd_le_iff _ _).2 (Nat.lt_of_lt_of_le (show m.natAbs<18446744073709551616 by obtain⟨h1,h2⟩:=hm;omega) (by decide));by_cases h2:ex < -100
   ·rw[zlb (by omega)];clear h0;go_enter func141,ntmps141;go_wp2;exact rct (v:=NV 0 0) rfl rfl (by simp[go_sem]) ⟨rfl,by simp[go_sem]⟩
   ·clear h0;have HA:=Lib.hid (dig_all m.natAbs);have HL:=Lib.hid (dig_length m.natAbs);have HV:=Lib.hid (val_dig m.natAbs);go_enter func141,ntmps141;go_wp2_with (first | (go_at_call 187;refine(zju m _ hm).mono ?_;rintro e w' ⟨A,c,rfl,hr,hc,hx⟩;obtain⟨os,d,rfl⟩:=hx.more) | (go_at_call 143;refine aM (zcm _ _ _ _ _ (dig m.natAbs) m.natAbs _ _ _ HL.out hr hc (by omega) HA.out HV.out (by omega) (by simp)) λos2 d2=>?_));exact rct rfl rfl (by simp[go_sem]) ⟨rfl,by simp[go_sem]⟩
theorem zy (m ex w) (h:I64 m) :
  Tl prog 125 #[NV m ex] w (.bool (rtB m ex)):=by
 have:=zft m ex w h;rw[<-zhT m ex h,zcV] at this;exact this
theorem zfu (n:Nat) (w) (hn:n<=15) :
  Calls prog 114 #[.int .i64 (n:Int)] w λe w'=>e = .returned (.int .u64 ((T n:Nat):Int))∧w=w':=by
 have hT:∀ j,j<=n->T j<=1000000000000000:=λj hj=>by
  have h1:T j<=T 15:=T_mono (by omega);have h2:T 15=1000000000000000:=by decide
  omega
 generalize hR:T n=R;have HR:=Lib.hid hR;have HT:=Lib.hid hT;clear hR hT;go_enter func114,ntmps114;go_wp2;go_loop [3,5] (λa i=>∃ (j V:Nat),j<=n∧i = .int .i64 (j:Int)∧a = .int .u64 (V:Int)∧V<=1000000000000000∧Hid (V=T j)) (λ_ i=>n-(intOf i).toNat)
 case atStart=>exact⟨0,1,Nat.zero_le _,rfl,rfl,by omega,by show _=_;rfl⟩
 case round=>
  obtain⟨j,V,hj,rfl,rfl,hV,HV⟩:=hrel;by_cases hlt:j<n
  ·have w1:IntKind.u64.wrap ((V:Int)*10)=(V:Int)*10:=by rw[IntKind.wrap_u64];omega
   go_wp2;refine⟨⟨j+1,V*10,by omega,by go_num,by go_num,?_,?_⟩,by simp[intOf];omega⟩
   ·have h1:=HT.out (j+1) (by omega);rw[T_succ,<-HV.out] at h1;omega
   ·show _=_;rw[T_succ,<-HV.out];omega
  ·have hVR:V=R:=by rw[HV.out,<-HR.out,show j=n by omega]
   subst hVR;go_wp2;go_ret;exact⟨rfl,rfl⟩
def zg4 (m e:Int):Int:=if Rt m e then -m else 0
def zfv (m e:Int):Int:=if Rt m e then e else 0
theorem znc (m ex w) (hm:I64 m) :
  Tl prog 112 #[NV m ex] w (NV (zg4 m ex) (zfv m ex)):=by
 unfold zg4 zfv;by_cases h:Rt m ex
 ·have hb:=zac h;have r1:=zD h;rw[if_pos h,if_pos h];clear h;have w1:wrap64 (-m)=-m:=IntWalk.wrap64_in _ (by omega);go_enter func112,ntmps112;go_wp2_with (go_at_call 104;with_reducible refine aM (zw _ _ _ (by assumption)) λosr dr=>?_);exact rc1 rfl rfl (by simp[go_sem]) ⟨rfl,by simp[go_sem]⟩
 ·have r1:=zae h;rw[if_neg h,if_neg h];clear h;go_enter func112,ntmps112;go_wp2_with (go_at_call 104;with_reducible refine aM (zw _ _ _ (by assumption)) λosr dr=>?_);exact rc1 rfl rfl (by simp[go_sem]) ⟨rfl,by simp[go_sem]⟩
theorem ztS {m e} : Rt (zg4 m e) (zfv m e):=by
 unfold zg4 zfv;split
 ·rename_i h;rcases h with⟨h1,h2⟩ | ⟨h1,h2,h3,h4,h5⟩
  ·exact Or.inl ⟨by omega,h2⟩
  ·right
   rw[Int.natAbs_neg];exact⟨by omega,h2,h3,h4,h5⟩
 ·exact Or.inl ⟨rfl,rfl⟩
def zbm (N k:Nat):Nat:=if T k<=2*(N%T k) then N/T k+1 else N/T k
def z8 (m e p:Int):Int×Int:=
 if ¬ Rt m e∨p < -40 then(0,0)
 else if 40<=p∨-p<=e then(m,e)
 else(fin (decide (m<0)) (zbm m.natAbs (-p-e).toNat) (-p)).getD (m,e)
theorem zj5 {neg N E} (h0:N≠0) (hN:N<=T 15) (hE:-40<=E):Rt (sg neg (trim N E).1) (trim N E).2↔nd N+E<=40:=by
 have h2:=trim_nd E h0;obtain⟨k,a,b,c⟩:=trim_spec N E h0;have hn:(trim N E).1≠0:=by omega
 have hT:T 15=1000000000000000:=by decide
 constructor
 ·rintro(⟨hr,_⟩ | ⟨_,_,_,_,h5⟩)
  ·exact absurd (sg_zero.1 hr) hn
  ·rw[sg_natAbs] at h5;omega
 ·intro h;refine Or.inr ⟨λhh=>hn (sg_zero.1 hh),?_,?_,?_,?_⟩ <;> (try simp only[sg_natAbs])
  ·rcases Nat.eq_zero_or_pos k with rfl | hk
   ·have a':N=(trim N E).1:=by simpa[T] using a
    rw[<-a'];rcases Nat.lt_or_ge N (T 15) with h5 | h5
    ·exact h5
    ·exfalso
     rw[<-a',show N=1000000000000000 by omega] at c;omega
   ·have h3:T 1<=T k:=T_mono hk;have h4:=Nat.mul_le_mul_left (trim N E).1 h3;rw[<-a] at h4;simp only[T,Nat.pow_one] at h4;omega
  ·exact c
  ·omega
  ·omega
theorem zj6 {N k} (h:nd N<k):zbm N k=0:=by
 have h1:=lt_T_nd N;have h2:T (nd N+1)<=T k:=T_mono h;rw[T_succ] at h2;have h3:N<T k:=by omega
 unfold zbm;rw[Nat.mod_eq_of_lt h3,Nat.div_eq_of_lt h3,if_neg (by omega)]
theorem zlc {N k} (hN:N<T 15) (hk:0<k):zbm N k<=T 15:=by
 have h1:N/T k<=N:=Nat.div_le_self _ _;unfold zbm;split <;> omega
theorem zif (neg E):fin neg 0 E=some (0,0):=by unfold fin;rw[if_pos rfl]
theorem zpg (m ex p w) (h:Rt m ex) (hp1:-40<=p) (hp2:p<40) (hp3:ex < -p) (hk:-p-ex<=15) :
  Tl prog 118 #[NV m ex,.int .i64 p] w (NV ((fin (decide (m<0)) (zbm m.natAbs (-p-ex).toNat) (-p)).getD (m,ex)).1 ((fin (decide (m<0)) (zbm m.natAbs (-p-ex).toNat) (-p)).getD (m,ex)).2):=by
 obtain⟨b1,b2,b3⟩:=zac h;have hm:I64 m:=by unfold I64;omega
 have r1:=zD h;obtain⟨k,hkk⟩:∃ k:Nat,-p-ex=(k:Int):=⟨(-p-ex).toNat,by omega⟩;have hk1:0<k:=by omega
 have hk15:k<=15:=by omega
 have hT15:T 15=1000000000000000:=by decide
 have hCle:=zlc (N:=m.natAbs) (by omega) hk1;rw[hkk,Int.toNat_natCast];have hfr:=λh0=>zj5 (neg:=decide (m<0)) (N:=zbm m.natAbs k) (E:=-p) h0 hCle (by omega);have hTk:0<T k∧T k<=1000000000000000:=⟨T_pos k,by have:=T_mono hk15;omega⟩;have hpw:=λW=>zfu k W hk15;have hcu:zbm m.natAbs k=if T k<=2*(m.natAbs%T k) then m.natAbs/T k+1 else m.natAbs/T k:=rfl
 generalize zbm m.natAbs k=C at *;generalize T k=U at *;generalize hN:m.natAbs=N at *;have hsz:=λW=>za4 m W hm;rw[hN] at hsz;have HU:=Lib.hid hTk;have hU0:¬ U=0:=by omega
 have q1:(N:Int)%(U:Int)=((N%U:Nat):Int):=by omega
 have q2:(N:Int)/(U:Int)=((N/U:Nat):Int):=by omega
 have hr:=Nat.mod_lt N hTk.1;have hq:=Nat.div_le_self N U;generalize N%U=r at *;generalize N/U=q at *;have w1:IntKind.u64.wrap (r:Int)=r:=by rw[IntKind.wrap_u64];omega
 have w2:IntKind.u64.wrap (q:Int)=q:=by rw[IntKind.wrap_u64];omega
 have w3:IntKind.u64.wrap ((r:Int)*2)=(r:Int)*2:=by rw[IntKind.wrap_u64];omega
 have w4:IntKind.u64.wrap ((q:Int)+1)=(q:Int)+1:=by rw[IntKind.wrap_u64];omega
 have w5:wrap64 (-p)=-p:=IntWalk.wrap64_in _ (by omega);have w6:IntKind.i64.wrap (-p)=-p:=zaD (by omega) (by omega);have w7:IntKind.i64.wrap (-p-ex)=-p-ex:=zaD (by omega) (by omega);have htr:=λW=>zfN (decide (m<0)) C (-p) W (by omega) (by omega);have hkey:(fin (decide (m<0)) C (-p)).getD (m,ex)=if rtB (sg (decide (m<0)) (trim C (-p)).1) (trim C (-p)).2=true then(sg (decide (m<0)) (trim C (-p)).1,(trim C (-p)).2) else(m,ex):=by
  by_cases h0:C=0
  ·rw[h0,zif,trim_zero];have hs0:sg (decide (m<0)) 0=0:=by unfold sg;split <;> rfl
   rw[hs0,if_pos (zD (Or.inl ⟨rfl,rfl⟩))];rfl
  ·by_cases h40:(nd C:Int)+-p<=40
   ·rw[if_pos (zD ((hfr h0).2 h40))];unfold fin;rw[if_neg h0,if_neg (by omega)];rfl
   ·rw[if_neg (by rw[zae (λhh=>h40 ((hfr h0).1 hh))];simp)];unfold fin;rw[if_neg h0,if_pos (by omega)];rfl
 have htm:(trim C (-p)).1<=C:=by
  by_cases h0:C=0
  ·rw[h0,trim_zero];exact Nat.le_refl _
  ·obtain⟨k,ha,_,_⟩:=trim_spec C (-p) h0;have h1:=Nat.mul_le_mul_left (trim C (-p)).1 (T_pos k);omega
 have hI:I64 (sg (decide (m<0)) (trim C (-p)).1):=by unfold sg I64;split <;> omega
 clear hfr htm;generalize sg (decide (m<0)) (trim C (-p)).1=m' at *;generalize (trim C (-p)).2=e' at *;rw[hkey];clear hkey;have HCU:=Lib.hid hcu;clear hcu hTk h hT15 hCle;by_cases h5:U<=r*2
 focus
  have hC:(C:Int)=(q:Int)+1:=by have:=HCU.out;rw[if_pos (by omega)] at this;omega
  have g1:decide ((U:Int)<=(r:Int)*2)=true:=by simp;omega
  have g2:decide (U<=r*2)=true:=by simp;omega
 rotate_left
 focus
  have hC:(C:Int)=(q:Int):=by have:=HCU.out;rw[if_neg (by omega)] at this;omega
  have g1:decide ((U:Int)<=(r:Int)*2)=false:=by simp;omega
  have g2:decide (U<=r*2)=false:=by simp;omega
 rotate_left
 all_goals
  rw[hC] at htr;by_cases hR:rtB m' e'=true
  focus
   rw[if_pos hR]
  rotate_left
  focus
   have hR':rtB m' e'=false:=by simpa using hR
   rw[if_neg hR];clear hR
  rotate_left
  all_goals
   go_enter func118,ntmps118;go_wp2_with (go_at_call 104;with_reducible refine aM (zw _ _ _ (by assumption)) λosr dr=>?_);refine plP [(0,0),(2,0),(3,0),(1,1),(4,1),(5,0),(6,0)] [] (by kernel_rfl) (λ_ _ d _ _ h=>by cases d <;> exact h) ?_;iterate 3(apply rdP rfl rfl;(intros;go_simp;first | done | rfl);try simp only[zq])
   (refine zg rfl ?_ (λK hK=>?_);rfl;go_simp;(go_at_call 114;(with_reducible refine(hpw _).mono ?_);rintro e w' ⟨rfl,rfl⟩);refine hK _ _ ?_ ?_;(simp[go_sem]))
   try simp only[zq]
   (refine zg rfl ?_ (λK hK=>?_);rfl;go_simp;(go_at_call 113;(with_reducible refine(hsz _).mono ?_);rintro e w' ⟨rfl,rfl⟩);refine hK _ _ ?_ ?_;(simp[go_sem]))
   try simp only[zq]
   iterate 2(apply rdP rfl rfl;(intros;go_simp;first | done | rfl);try simp only[zq])
   refine zi ?_;go_wp2_with (first | (go_at_call 104;with_reducible refine aM (zw _ _ _ (by assumption)) λosr dr=>?_) | (go_at_call 115;with_reducible refine aM (htr _) λost dt=>?_));exact bodyPost_ret (by simp[results,results118,go_sem]) rfl ⟨rfl,by simp[go_sem]⟩
theorem zph (m ex p w) (hm : I64 m) (hp : I64 p) :
    Tl prog 118 #[NV m ex, .int .i64 p] w (NV (z8 m ex p).1 (z8 m ex p).2) := by
  by_cases h : Rt m ex
  · have r1 := zD h
    obtain ⟨b1, b2, b3⟩ := zac h
    by_cases h1 : p < -40
    · have hs : z8 m ex p = (0, 0) := by unfold z8; rw [if_pos (Or.inr h1)]
      rw [hs]
      clear h hs
      go_enter func118, ntmps118
      go_wp2_with (go_at_call 104; with_reducible refine aM (zw _ _ _ (by assumption)) fun osr dr => ?_)
      exact rc1 rfl rfl (by simp [go_sem]) ⟨rfl, by simp [go_sem]⟩
    · by_cases h2 : 40 ≤ p
      · have hs : z8 m ex p = (m, ex) := by unfold z8; rw [if_neg (by rintro (h3 | h3); exact h3 h; omega), if_pos (Or.inl h2)]
        rw [hs]
        clear h hs
        go_enter func118, ntmps118
        go_wp2_with (go_at_call 104; with_reducible refine aM (zw _ _ _ (by assumption)) fun osr dr => ?_)
        exact rc1 rfl rfl (by simp [go_sem]) ⟨rfl, by simp [go_sem]⟩
      · have w5 : wrap64 (-p) = -p := IntWalk.wrap64_in _ (by omega)
        have w6 : IntKind.i64.wrap (-p) = -p := zaD (by omega) (by omega)
        by_cases h3 : -p ≤ ex
        · have hs : z8 m ex p = (m, ex) := by unfold z8; rw [if_neg (by rintro (h4 | h4); exact h4 h; omega), if_pos (Or.inr h3)]
          rw [hs]
          clear h hs
          go_enter func118, ntmps118
          go_wp2_with (go_at_call 104; with_reducible refine aM (zw _ _ _ (by assumption)) fun osr dr => ?_)
          exact rc1 rfl rfl (by simp [go_sem]) ⟨rfl, by simp [go_sem]⟩
        · have hs : z8 m ex p = (fin (decide (m < 0)) (zbm m.natAbs (-p - ex).toNat) (-p)).getD (m, ex) := by unfold z8; rw [if_neg (by rintro (h4 | h4); exact h4 h; omega), if_neg (by omega)]
          rw [hs]
          by_cases h4 : -p - ex ≤ 15
          · exact zpg m ex p w h (by omega) (by omega) (by omega) h4
          · have hnd : nd m.natAbs ≤ 15 := (nd_le_iff _ _).2 (by have : T 15 = 1000000000000000 := by decide
                                                                 omega)
            rw [zj6 (by omega), zif]
            have w7 : IntKind.i64.wrap (-p - ex) = -p - ex := zaD (by omega) (by omega)
            clear h hs
            go_enter func118, ntmps118
            go_wp2_with (go_at_call 104; with_reducible refine aM (zw _ _ _ (by assumption)) fun osr dr => ?_)
            exact rc1 rfl rfl (by simp [go_sem]) ⟨rfl, by simp [go_sem]⟩
  · have r1 := zae h
    have hs : z8 m ex p = (0, 0) := by unfold z8; rw [if_pos (Or.inl h)]
    rw [hs]
    clear h hs
    go_enter func118, ntmps118
    go_wp2_with (go_at_call 104; with_reducible refine aM (zw _ _ _ (by assumption)) fun osr dr => ?_)
    exact rc1 rfl rfl (by simp [go_sem]) ⟨rfl, by simp [go_sem]⟩
def zau (m:Int) (k:Nat):Nat:=if m<0 then m.natAbs/T k+1 else m.natAbs/T k
def zB (m e:Int):Int×Int:=
 if ¬ Rt m e then(0,0) else if 0<=e then(m,e) else(sg (decide (m<0)) (trim (zau m (-e).toNat) 0).1,(trim (zau m (-e).toNat) 0).2)
theorem zld {N k} (h:N%10≠0) (hk:0<k):N%T k≠0:=by
 obtain⟨j,rfl⟩:∃ j,k=j+1:=⟨k-1,by omega⟩;intro h0;have h1:10 ∣ T (j+1):=⟨T j,T_succ j⟩;have h2:=Nat.dvd_trans h1 (Nat.dvd_of_mod_eq_zero h0);omega
theorem zpi (m ex w) (h:Rt m ex) (he:ex<0) :
  Tl prog 51 #[NV m ex] w (NV (sg (decide (m<0)) (trim (zau m (-ex).toNat) 0).1) (trim (zau m (-ex).toNat) 0).2):=by
 obtain⟨b1,b2,b3⟩:=zac h;have hm:I64 m:=by unfold I64;omega
 have r1:=zD h;obtain⟨k,hkk⟩:∃ k:Nat,ex=-(k:Int):=⟨(-ex).toNat,by omega⟩;subst hkk;have hk1:0<k:=by omega
 have hm0:m≠0∧m.natAbs%10≠0:=by
  rcases h with⟨_,h2⟩ | ⟨h1,_,h3,_⟩
  ·omega
  ·exact⟨h1,h3⟩
 have hr0:=zld hm0.2 hk1;have hT15:T 15=1000000000000000:=by decide
 rw[show(- -(k:Int)).toNat=k by omega];have hfl:zau m k=if m<0 then m.natAbs/T k+1 else m.natAbs/T k:=rfl
 have hdle:=Nat.div_le_self m.natAbs (T k);have htr:=λW=>zfN (decide (m<0)) (zau m k) 0 W (by rw[hfl];split <;> omega) (by omega);generalize sg (decide (m<0)) (trim (zau m k) 0).1=m' at *;generalize (trim (zau m k) 0).2=e' at *;generalize zau m k=F at *;have hsz:=λW=>za4 m W hm;have w5:wrap64 (- -(k:Int))=k:=by rw[show - -(k:Int)=k by omega];exact IntWalk.wrap64_in _ (by omega)
 have w6:IntKind.i64.wrap (- -(k:Int))=k:=by rw[show - -(k:Int)=k by omega];exact zaD (by omega) (by omega)
 by_cases hk15:k<=15
 ·have hTk:0<T k∧T k<=1000000000000000:=⟨T_pos k,by have:=T_mono hk15;omega⟩;have hpw:=λW=>zfu k W hk15;generalize T k=U at *;generalize hN:m.natAbs=N at *;have hU0:¬ U=0:=by omega
  have q1:(N:Int)%(U:Int)=((N%U:Nat):Int):=by omega
  have q2:(N:Int)/(U:Int)=((N/U:Nat):Int):=by omega
  have hrl:=Nat.mod_lt N hTk.1;generalize N%U=r at *;generalize N/U=q at *;have w1:IntKind.u64.wrap (r:Int)=r:=by rw[IntKind.wrap_u64];omega
  have w2:IntKind.u64.wrap (q:Int)=q:=by rw[IntKind.wrap_u64];omega
  have w4:IntKind.u64.wrap ((q:Int)+1)=(q:Int)+1:=by rw[IntKind.wrap_u64];omega
  have g1:((r:Int) != 0)=true:=by simp;omega
  have g2:(r != 0)=true:=by simp;omega
  by_cases hneg:m<0
  ·rw[if_pos hneg] at hfl;subst hfl;have htr':=htr;rw[show((q+1:Nat):Int)=(q:Int)+1 by omega,decide_eq_true hneg] at htr';clear htr hN hr0 hm0 h;have htr:=htr';clear htr';go_enter func51,ntmps51;go_wp2_with (first | (go_at_call 104;with_reducible refine aM (zw _ _ _ (by assumption)) λosr dr=>?_) | (go_at_call 113;(with_reducible refine(hsz _).mono ?_);rintro e w' ⟨rfl,rfl⟩) | (go_at_call 114;(with_reducible refine(hpw _).mono ?_);rintro e w' ⟨rfl,rfl⟩) | (go_at_call 115;with_reducible refine aM (htr _) λost dt=>?_));refine plP [(0,0),(1,0),(2,0),(3,0),(4,0),(5,0),(6,0),(7,0)] [] (by kernel_rfl) (λ_ _ d _ _ h=>by cases d <;> exact h) ?_;iterate 8(apply rdP rfl rfl;(intros;go_simp;first | done | rfl);try simp only[zq])
   refine zi ?_;go_wp2_with (first | (go_at_call 104;with_reducible refine aM (zw _ _ _ (by assumption)) λosr dr=>?_) | (go_at_call 113;(with_reducible refine(hsz _).mono ?_);rintro e w' ⟨rfl,rfl⟩) | (go_at_call 114;(with_reducible refine(hpw _).mono ?_);rintro e w' ⟨rfl,rfl⟩) | (go_at_call 115;with_reducible refine aM (htr _) λost dt=>?_));exact rc1 rfl rfl (by simp[go_sem]) ⟨rfl,by simp[go_sem]⟩
  ·rw[if_neg hneg] at hfl;subst hfl;rw[decide_eq_false hneg] at htr;clear hN hr0 hm0 h;go_enter func51,ntmps51;go_wp2_with (first | (go_at_call 104;with_reducible refine aM (zw _ _ _ (by assumption)) λosr dr=>?_) | (go_at_call 113;(with_reducible refine(hsz _).mono ?_);rintro e w' ⟨rfl,rfl⟩) | (go_at_call 114;(with_reducible refine(hpw _).mono ?_);rintro e w' ⟨rfl,rfl⟩) | (go_at_call 115;with_reducible refine aM (htr _) λost dt=>?_));refine plP [(0,0),(1,0),(2,0),(3,0),(4,0),(5,0),(6,0),(7,0)] [] (by kernel_rfl) (λ_ _ d _ _ h=>by cases d <;> exact h) ?_;iterate 8(apply rdP rfl rfl;(intros;go_simp;first | done | rfl);try simp only[zq])
   refine zi ?_;go_wp2_with (first | (go_at_call 104;with_reducible refine aM (zw _ _ _ (by assumption)) λosr dr=>?_) | (go_at_call 113;(with_reducible refine(hsz _).mono ?_);rintro e w' ⟨rfl,rfl⟩) | (go_at_call 114;(with_reducible refine(hpw _).mono ?_);rintro e w' ⟨rfl,rfl⟩) | (go_at_call 115;with_reducible refine aM (htr _) λost dt=>?_));exact rc1 rfl rfl (by simp[go_sem]) ⟨rfl,by simp[go_sem]⟩
 ·have hT1:T 15<=T k:=T_mono (by omega);have hq0:m.natAbs/T k=0:=Nat.div_eq_of_lt (by omega);rw[hq0] at hfl;have hpw:True:=trivial;generalize hN:m.natAbs=N at *;have g1:((N:Int) != 0)=true:=by simp;omega
  have g2:(N != 0)=true:=by simp;omega
  by_cases hneg:m<0
  ·rw[if_pos hneg] at hfl;subst hfl;rw[decide_eq_true hneg,show((0+1:Nat):Int)=1 from rfl] at htr;clear hN hr0 hm0 h hT1 hq0 hdle;go_enter func51,ntmps51;go_wp2_with (first | (go_at_call 104;with_reducible refine aM (zw _ _ _ (by assumption)) λosr dr=>?_) | (go_at_call 113;(with_reducible refine(hsz _).mono ?_);rintro e w' ⟨rfl,rfl⟩) | (go_at_call 114;(with_reducible refine(hpw _).mono ?_);rintro e w' ⟨rfl,rfl⟩) | (go_at_call 115;with_reducible refine aM (htr _) λost dt=>?_));exact rc1 rfl rfl (by simp[go_sem]) ⟨rfl,by simp[go_sem]⟩
  ·rw[if_neg hneg] at hfl;subst hfl;rw[decide_eq_false hneg,show((0:Nat):Int)=0 from rfl] at htr;clear hN hr0 hm0 h hT1 hq0 hdle;go_enter func51,ntmps51;go_wp2_with (first | (go_at_call 104;with_reducible refine aM (zw _ _ _ (by assumption)) λosr dr=>?_) | (go_at_call 113;(with_reducible refine(hsz _).mono ?_);rintro e w' ⟨rfl,rfl⟩) | (go_at_call 114;(with_reducible refine(hpw _).mono ?_);rintro e w' ⟨rfl,rfl⟩) | (go_at_call 115;with_reducible refine aM (htr _) λost dt=>?_));exact rc1 rfl rfl (by simp[go_sem]) ⟨rfl,by simp[go_sem]⟩
theorem zfw (m ex w) (hm:I64 m) :
  Tl prog 51 #[NV m ex] w (NV (zB m ex).1 (zB m ex).2):=by
 by_cases h:Rt m ex
 ·have r1:=zD h;by_cases h1:0<=ex
  ·have hs:zB m ex=(m,ex):=by unfold zB;rw[if_neg (λhh=>hh h),if_pos h1]
   rw[hs];clear h hs;go_enter func51,ntmps51;go_wp2_with (go_at_call 104;with_reducible refine aM (zw _ _ _ (by assumption)) λosr dr=>?_);exact rc1 rfl rfl (by simp[go_sem]) ⟨rfl,by simp[go_sem]⟩
  ·have hs:zB m ex=(sg (decide (m<0)) (trim (zau m (-ex).toNat) 0).1,(trim (zau m (-ex).toNat) 0).2):=by unfold zB;rw[if_neg (λhh=>hh h),if_neg h1]
   rw[hs];exact zpi m ex w h (by omega)
 ·have r1:=zae h;have hs:zB m ex=(0,0):=by unfold zB;rw[if_pos h]
  rw[hs];clear h hs;go_enter func51,ntmps51;go_wp2_with (go_at_call 104;with_reducible refine aM (zw _ _ _ (by assumption)) λosr dr=>?_);exact rc1 rfl rfl (by simp[go_sem]) ⟨rfl,by simp[go_sem]⟩
theorem zdn (m ex w) (h:I64 m) :
  Calls prog 139 #[NV m ex] w λe w'=>∃ A c,e = .returned (zc2 (decide (m<0)) A (nd m.natAbs) c ex)∧Rd w.heap.size w' A (i6 (dig m.natAbs))∧nd m.natAbs<=c∧Ext w w':=by
 have hl:(zaW m).length=nd m.natAbs:=by unfold zaW;rw[List.length_map,zie,dig_length]
 refine(zj0 m ex w h).mono λe w' ⟨A,c,h1,h2,h3,h4⟩=>⟨A,c,?_,h2.i6_,by omega,h3⟩;rw[<-hl];exact h1
theorem zrs (m ex w) (hm:I64 m) :
  Tl prog 142 #[NV m ex] w (NV (if Rt m ex then m else 0) (if Rt m ex then ex else 0)):=by
 by_cases h:Rt m ex
 ·have r1:=zD h;rw[if_pos h,if_pos h];clear h;go_enter func142,ntmps142;go_wp2_with (go_at_call 125;with_reducible refine aM (zy _ _ _ (by assumption)) λosr dr=>?_);exact rc1 rfl rfl (by simp[go_sem]) ⟨rfl,by simp[go_sem]⟩
 ·have r1:=zae h;rw[if_neg h,if_neg h];clear h;go_enter func142,ntmps142;go_wp2_with (go_at_call 125;with_reducible refine aM (zy _ _ _ (by assumption)) λosr dr=>?_);exact rc1 rfl rfl (by simp[go_sem]) ⟨rfl,by simp[go_sem]⟩
theorem zpj {N k r0} (hk:0<k) (hkn:k<=nd N) (hr:(dig N)[nd N-k]? = some r0):zbm N k=val ((dig N).take (nd N-k))+if 5<=r0 then 1 else 0:=by
 have hd:=dig_all N;obtain⟨h1,h2⟩:=take_val hd (nd N-k);rw[val_dig,dig_length,show nd N-(nd N-k)=k by omega] at h1 h2;rw[drop_at hr,val_cons] at h2;have hlen:((dig N).drop (nd N-k+1)).length=k-1:=by rw[List.length_drop,dig_length];omega
 have hv:=val_lt (hd.drop (nd N-k+1));rw[hlen] at h2 hv;have hT:T k=10*T (k-1):=by rw[<-T_succ];congr 1;omega
 unfold zbm;rw[<-h1,<-h2,hT];generalize val ((dig N).take (nd N-k))=q at *;generalize val ((dig N).drop (nd N-k+1))=v at *;generalize T (k-1)=t at *;by_cases h5:5<=r0
 ·have:=Nat.mul_le_mul_right t h5;rw[if_pos h5,if_pos (by omega)]
 ·have:=Nat.mul_le_mul_right t (show r0+1<=5 by omega);rw[Nat.add_mul,Nat.one_mul] at this;rw[if_neg h5,if_neg (by omega)];rfl
theorem zj7 {neg N E} (h:nd N<=15) (hE:-40<=E):rnd neg N false E=fin neg N E:=by
 rw[rnd_fin];unfold n2 n1 e2;rw[show nd N-15=0 by omega,cutN_zero,show(-40-(E+((0:Nat):Int))).toNat=0 by omega,cutN_zero,show max (E+((0:Nat):Int)) (-40)=E by omega]
theorem zn3 (m ex p) (k:Nat) (w) (h:Rt m ex) (hp1:-40<=p) (hp2:p<=40) (hp3:ex < -p) (hkk:-p-ex=(k:Int)) (hkn:k<=nd m.natAbs) :
  Tl prog 85 #[NV m ex,.int .i64 p] w (NV ((fin (decide (m<0)) (zbm m.natAbs k) (-p)).getD (m,ex)).1 ((fin (decide (m<0)) (zbm m.natAbs k) (-p)).getD (m,ex)).2):=by
 obtain⟨b1,b2,b3⟩:=zac h;have hm:I64 m:=by unfold I64;omega
 have r1:=zD h;have hk1:0<k:=by omega
 have hT15:T 15=1000000000000000:=by decide
 have hnd:nd m.natAbs<=15:=(nd_le_iff _ _).2 (by omega);obtain⟨r0,hr0⟩:∃ r0,(dig m.natAbs)[nd m.natAbs-k]? = some r0:=⟨(dig m.natAbs)[nd m.natAbs-k]'(by rw[dig_length];omega),by rw[List.getElem?_eq_getElem]⟩;have hcd:=zpj hk1 hkn hr0;have hof:=λW=>zdn m ex W hm;have hfin:fin (decide (m<0)) (zbm m.natAbs k) (-p)=rnd (decide (m<0)) (zbm m.natAbs k) false (-p):=by
  rw[zj7 ?_ (by omega)];rw[nd_le_iff];have h1:m.natAbs/T k<=m.natAbs/T 1:=Nat.div_le_div_left (T_mono hk1) (T_pos 1);have h2:T 1=10:=by decide
  rw[h2] at h1;have h3:zbm m.natAbs k<=m.natAbs/T k+1:=by unfold zbm;split <;> omega
  omega
 rw[hfin];have hdl:=dig_length m.natAbs;have hdall:=dig_all m.natAbs;obtain⟨n,hn⟩:∃ n,nd m.natAbs-k=n:=⟨_,rfl⟩;rw[hn] at hr0 hcd;have hnk:n+k=nd m.natAbs:=by omega
 have hr10:r0<10:=hdall.at hr0;have hnl:=lt_at hr0;generalize zbm m.natAbs k=C at *;generalize hN:m.natAbs=N at *;generalize hD:dig N=D at *;have hhd:(D.take n).length=n:=by rw[List.length_take];omega
 have hal:AllD (0::D.take n):=AllD.cons (by omega) (hdall.take n);generalize hHD:D.take n=hd at *;have w5:wrap64 (-p)=-p:=IntWalk.wrap64_in _ (by omega);have w6:IntKind.i64.wrap (-p)=-p:=zaD (by omega) (by omega);have w7:IntKind.i64.wrap (-p-ex)=-p-ex:=zaD (by omega) (by omega);obtain⟨i0,hi,hz0,hz1,hz2⟩:=info_parts zdd;have HM:=Lib.hid hhd;have HCD:=Lib.hid hcd;have HR0:=Lib.hid hr0;have HHD:=Lib.hid hHD;have HAL:=Lib.hid hal;clear hcd hfin hhd hr0 hHD hal hT15;generalize hRR:rnd (decide (m<0)) C false (-p)=R;have HRR:=Lib.hid hRR;clear hRR;go_enter func85,ntmps85;go_upto_region 9 with(first | (go_at_call 125;with_reducible refine aM (zy _ _ _ (by assumption)) λosr dr=>?_) | (go_at_call 139;(with_reducible refine(hof _).mono ?_);rintro e w' ⟨A,c,rfl,hrd,hcp,hx⟩;obtain⟨os,d,rfl⟩:=hx.more));refine zH λX hX=>?_;have hrd2:Rd 0 X A (i6 D):=by rw[hX];exact(Rd.ext hrd (by rw[zc];exact by simp[go_sem])).mono (Nat.zero_le _)
 have hxX:Ext w X:=by rw[hX];exact by simp[go_sem]
 have hsX:X.heap.size=w.heap.size+1+1+(osr.size+os.size)+1:=by rw[hX];simp
 have a0:X.cell? ⟨w.heap.size,0,none⟩=some (.int .i64 m):=by rw[hX];go_simp
 have a1:X.cell? ⟨w.heap.size,1,none⟩=some (.int .i64 ex):=by rw[hX];go_simp
 have q0:X.cell? ⟨w.heap.size+1,0,none⟩=some (.int .i64 0):=by rw[hX];go_simp
 have q1:X.cell? ⟨w.heap.size+1,1,none⟩=some (.int .i64 0):=by rw[hX];go_simp
 have f0:X.frozen? ⟨w.heap.size+1,0,none⟩=false:=by rw[hX];go_simp
 have f1:X.frozen? ⟨w.heap.size+1,1,none⟩=false:=by rw[hX];go_simp
 have v0:X.cell? ⟨w.heap.size+1+1+(osr.size+os.size),0,none⟩=some (.bool (decide (m<0))):=by rw[hX];go_simp
 have v1:X.cell? ⟨w.heap.size+1+1+(osr.size+os.size),1,none⟩=some (.slice A (nd N) c):=by rw[hX];go_simp
 have hVX:w.heap.size+1+1+(osr.size+os.size)<X.heap.size:=by omega
 have hA1:w.heap.size+1<X.heap.size:=by omega
 have hA0:w.heap.size<X.heap.size:=by omega
 clear hX hrd hx hsX;generalize w.heap.size+1+1+(osr.size+os.size)=V at *;obtain⟨b,off,rfl,_,hcr0⟩:=Rd.at_ hrd2 HR0.out;have HRD:=Lib.hid hrd2;clear hrd2;go_upto_if 61 with(at_builtin;refine wpList_append_own _ rfl _ _ _ rfl X.heap.size 3 i0 (.int .i64 0) 1 8 Tryz.underlying118 hi hz0 hz1 hz2 rfl (by decide) _ 1 [.int .i64 0] rfl (zhA _ rfl (Nat.le_refl _)) _ n c (i6 hd) rfl (by simp[HM.out]) (Rd.add (Rd.mono (Rd.ext (by have:=Rd.take HRD.out n;rw[<-List.map_take,HHD.out] at this;exact this) ((Ext.refl _).alloc _)) (Nat.zero_le _))) (ze7 _) (by simp[maxLen];omega) (by omega) (by simp) ?_;intro v3 w3 ho3 hg3 hiff;clear hiff;have hx3:=zde ((Ext.refl X).alloc _) (zhA _ rfl (Nat.le_refl _)) hg3;obtain⟨A3,c3,rfl,hk3⟩:=zk6 HM.out ho3;clear ho3 hg3;have v1':=hx3.cell_some v1;have cr':=hx3.cell_some hcr0)
 have HK3:=Lib.hid hk3;clear hk3 v1' cr';go_cut [7] (λs7 wx=>s7 = .slice A3 (1+n) c3∧Ext X wx∧Hid (∃ l',Dg .i64 3 X.heap.size wx A3 c3 l'∧l'.length=1+n∧AllD l'∧val l'=C))
 case first=>
  by_cases h5:5<=r0
  ·have HC:Hid (C=val hd+1):=by show _=_;rw[HCD.out,if_pos h5]
   obtain⟨b3,o3,rfl,hb3,_,_⟩:=HK3.out.at (i:=0) (d:=0) rfl;clear HCD;go_wp2_with fail;go_loopw [8] (λi wr=>∃ j:Nat,j<=n∧i = .int .i64 (j:Int)∧Hid (0::hd=(0::hd).take (j+1)++List.replicate (n-j) 9)∧Hid (Dg .i64 3 X.heap.size wr (some ⟨b3,o3,none⟩) c3 ((0::hd).take (j+1)++List.replicate (n-j) 0))∧Ext X wr) (λi _=>(intOf i).toNat)
   case atStart=>exact⟨n,Nat.le_refl _,by go_num,by show _=_;rw[<-HM.out];simp,by show Dg _ _ _ _ _ _ _;rw[Nat.sub_self,<-HM.out];simpa using HK3.out,hx3⟩
   case round=>
    obtain⟨j,hj,rfl,HE,HW,hxr⟩:=hrel;obtain⟨dd,hdj⟩:∃ d,(0::hd)[j]? = some d:=⟨(0::hd)[j]'(by have:=HM.out;simp;omega),by rw[List.getElem?_eq_getElem]⟩;have hd10:dd<10:=HAL.out.at hdj;obtain⟨b',off',hA',_,hcj,hfj⟩:=HW.out.at (i:=j) (d:=dd) (by rw[List.getElem?_append_left (by have:=HM.out;simp;omega),List.getElem?_take_of_lt (by omega)];exact hdj);simp only[Option.some.injEq,Addr.mk.injEq,and_true] at hA';obtain⟨rfl,rfl⟩:=hA';have HJ:=Lib.hid hdj;clear hdj;by_cases h9:dd=9
    ·have e9:((dd:Int)==9)=true:=by simp;omega
     have hj0:1<=j:=by
      rcases Nat.eq_zero_or_pos j with h0 | h0
      ·have:=HJ.out;rw[h0] at this;simp at this;omega
      ·exact h0
     have HD9:=Lib.hid h9;clear h9;go_wp2_with fail;have hst:=HW.out.set (i:=j) (d:=0) (by have:=HM.out;simp;omega);rw[zf1 _ HJ.out] at hst;have hj1:j-1+1=j:=by omega
     have hnj:n-(j-1)=n-j+1:=by omega
     refine⟨⟨j-1,by omega,by congr 1;omega,?_,?_,hxr.set _ hb3⟩,by simp[intOf];omega⟩
     ·show _=_;rw[hj1,hnj,List.replicate_succ];have he:=HE.out;rw[zaJ HJ.out,List.append_assoc,List.singleton_append,HD9.out] at he;exact he
     ·show Dg _ _ _ _ _ _ _;rw[hj1,hnj,List.replicate_succ];exact hst
    ·have e9:((dd:Int)==9)=false:=by simp;omega
     have hst:=HW.out.set (i:=j) (d:=dd+1) (by have:=HM.out;simp;omega);rw[zf1 _ HJ.out,show((dd+1:Nat):Int)=(dd:Int)+1 by omega] at hst;have HST:=Lib.hid hst;clear hst;go_wp2_with fail;go_meet;refine⟨rfl,hxr.set _ hb3,_,HST.out,by have:=HM.out;simp;omega,(HAL.out.take j).append (AllD.cons (by omega) (AllD.rep _ _ (by omega))),?_⟩;rw[HC.out,val_incr];have he:=HE.out;rw[zaJ HJ.out,List.append_assoc,List.singleton_append] at he;rw[<-he,val_cons];omega
  ·have HC:Hid (C=val hd):=by show _=_;rw[HCD.out,if_neg h5];rfl
   clear HCD;go_wp2_with fail;go_meet;exact⟨rfl,hx3,0::hd,HK3.out,by have:=HM.out;simp;omega,HAL.out,by rw[HC.out,val_cons];omega⟩
 case rest=>
  obtain⟨rfl,hxc,HL⟩:=hcut;obtain⟨l',hdg,hll,hla,hlv⟩:=HL.out;have hnr:=zcm X.heap.size (decide (m<0)) A3 (1+n) c3 l' C (-p) false wc hll hdg.rd (by have:=hdg.1;omega) (by omega) hla hlv (by omega) hxc.size;have v0':=hxc.cell_some v0;have a0':=hxc.cell_some a0;have a1':=hxc.cell_some a1;have q0':=hxc.cell_some q0;have q1':=hxc.cell_some q1;have f0':=(hxc.frozen (p:=⟨w.heap.size+1,0,none⟩) hA1).trans f0;have f1':=(hxc.frozen (p:=⟨w.heap.size+1,1,none⟩) hA1).trans f1;have hsc:=hxc.size;have hz1':w.heap.size+1<wc.heap.size:=by omega
  have hz0':w.heap.size<wc.heap.size:=by omega
  have hxw:Ext w wc:=hxX.trans hxc;clear hdg hll hla hlv hx3 HK3;rw[HRR.out] at hnr;clear HRR;cases R with
  | none=>
   go_wp2_with (go_at_call 143;(with_reducible refine hnr.mono ?_);rintro e w' ⟨rfl,hx⟩;obtain⟨os2,d2,rfl⟩:=hx.more);exact bodyPost_ret (v:=NV m ex) (by simp[results,results85,go_sem,hz1',q0',q1']) rfl ⟨rfl,(((hxw.set _ (Nat.le_succ _)).set _ (Nat.le_succ _)).more_ _ _).alloc _⟩
  | some r=>
   go_wp2_with (go_at_call 143;(with_reducible refine hnr.mono ?_);rintro e w' ⟨rfl,hx⟩;obtain⟨os2,d2,rfl⟩:=hx.more);exact bodyPost_ret (v:=NV r.1 r.2) (by simp[results,results85,go_sem,hz1',q0',q1',rm,re]) rfl ⟨rfl,(((hxw.set _ (Nat.le_succ _)).set _ (Nat.le_succ _)).more_ _ _).alloc _⟩
theorem zn4 (m ex p w) (hm : I64 m) (hp : I64 p) :
    Tl prog 85 #[NV m ex, .int .i64 p] w (NV (z8 m ex p).1 (z8 m ex p).2) := by
  by_cases h : Rt m ex
  · have r1 := zD h
    obtain ⟨b1, b2, b3⟩ := zac h
    by_cases h1 : p < -100
    · have hs : z8 m ex p = (0, 0) := by unfold z8; rw [if_pos (Or.inr (by omega))]
      rw [hs]
      clear h hs
      go_enter func85, ntmps85
      go_wp2_with (go_at_call 125; with_reducible refine aM (zy _ _ _ (by assumption)) fun osr dr => ?_)
      exact rc1 rfl rfl (by simp [go_sem]) ⟨rfl, by simp [go_sem]⟩
    · by_cases h2 : 40 < p
      · have hs : z8 m ex p = (m, ex) := by unfold z8; rw [if_neg (by rintro (h3 | h3); exact h3 h; omega), if_pos (Or.inl (by omega))]
        rw [hs]
        clear h hs
        go_enter func85, ntmps85
        go_wp2_with (go_at_call 125; with_reducible refine aM (zy _ _ _ (by assumption)) fun osr dr => ?_)
        exact rc1 rfl rfl (by simp [go_sem]) ⟨rfl, by simp [go_sem]⟩
      · have w5 : wrap64 (-p) = -p := IntWalk.wrap64_in _ (by omega)
        have w6 : IntKind.i64.wrap (-p) = -p := zaD (by omega) (by omega)
        by_cases h3 : -p ≤ ex
        · have hs : z8 m ex p = (m, ex) := by unfold z8; rw [if_neg (by rintro (h4 | h4); exact h4 h; omega), if_pos (Or.inr h3)]
          rw [hs]
          clear h hs
          go_enter func85, ntmps85
          go_wp2_with (go_at_call 125; with_reducible refine aM (zy _ _ _ (by assumption)) fun osr dr => ?_)
          exact rc1 rfl rfl (by simp [go_sem]) ⟨rfl, by simp [go_sem]⟩
        · obtain ⟨k, hk⟩ : ∃ k : Nat, -p - ex = (k : Int) := ⟨(-p - ex).toNat, by omega⟩
          have hnd : nd m.natAbs ≤ 15 := (nd_le_iff _ _).2 (by have : T 15 = 1000000000000000 := by decide
                                                               omega)
          by_cases hkn : k ≤ nd m.natAbs
          · have hp40 : -40 ≤ p := by
              rcases h with ⟨h5, h6⟩ | ⟨_, _, _, _, h6⟩
              · rw [h5, show (0 : Int).natAbs = 0 from rfl, nd_zero] at hkn; omega
              · omega
            have hs : z8 m ex p = (fin (decide (m < 0)) (zbm m.natAbs k) (-p)).getD (m, ex) := by
              unfold z8
              rw [if_neg (by rintro (h4 | h4); exact h4 h; omega), if_neg (by omega), hk]; rfl
            rw [hs]
            exact zn3 m ex p k w h hp40 (by omega) (by omega) hk hkn
          · have hs : z8 m ex p = (0, 0) := by
              unfold z8
              by_cases h40 : p < -40
              · rw [if_pos (Or.inr h40)]
              · rw [if_neg (by rintro (h4 | h4); exact h4 h; omega), if_neg (by omega), hk, Int.toNat_natCast, zj6 (by omega), zif]; rfl
            rw [hs]
            have hof := fun W => zdn m ex W hm
            have w7 : IntKind.i64.wrap (-p - ex) = -p - ex := zaD (by omega) (by omega)
            clear h hs
            go_enter func85, ntmps85
            go_wp2_with (first | (go_at_call 125; with_reducible refine aM (zy _ _ _ (by assumption)) fun osr dr => ?_) | (go_at_call 139; (with_reducible refine (hof _).mono ?_); rintro e w' ⟨A, c, rfl, hrd, hcp, hx⟩; obtain ⟨os, d, rfl⟩ := hx.more))
            exact rc1 rfl rfl (by simp [go_sem]) ⟨rfl, by simp [go_sem]⟩
  · have r1 := zae h
    have hs : z8 m ex p = (0, 0) := by unfold z8; rw [if_pos (Or.inl h)]
    rw [hs]
    clear h hs
    go_enter func85, ntmps85
    go_wp2_with (go_at_call 125; with_reducible refine aM (zy _ _ _ (by assumption)) fun osr dr => ?_)
    exact rc1 rfl rfl (by simp [go_sem]) ⟨rfl, by simp [go_sem]⟩
theorem zsR (ma ea mb eb w) (hma:I64 ma) (hmb:I64 mb) (h:¬ (Rt ma ea∧Rt mb eb)) :
  Tl prog 130 #[NV ma ea,NV mb eb] w (rnV none):=by
 by_cases h1:Rt ma ea
 ·have r1:=zD h1;have r2:=zae (λh2=>h ⟨h1,h2⟩);clear h h1;go_enter func130,ntmps130;go_wp2_with (go_at_call 125;with_reducible refine aM (zy _ _ _ (by assumption)) λosr dr=>?_);exact rct (v:=NV 0 0) rfl rfl (by simp[go_sem]) ⟨rfl,by simp[go_sem]⟩
 ·have r1:=zae h1;clear h h1;go_enter func130,ntmps130;go_wp2_with (go_at_call 125;with_reducible refine aM (zy _ _ _ (by assumption)) λosr dr=>?_);exact rct (v:=NV 0 0) rfl rfl (by simp[go_sem]) ⟨rfl,by simp[go_sem]⟩
theorem znd (ma ea mb eb) (h1:Rt ma ea) (h2:Rt mb eb) (A B ca cb w) (ha:Rd 0 w A (i6 (dig ma.natAbs))) (hb:Rd 0 w B (i6 (dig mb.natAbs))) :
  Calls prog 138 #[zc2 (decide (ma<0)) A (nd ma.natAbs) ca ea,zc2 (decide (mb<0)) B (nd mb.natAbs) cb eb] w λr w'=>zg2 w (plusN (decide (ma<0)) (decide (mb<0)) (ma.natAbs*T (ea-min ea eb).toNat) (mb.natAbs*T (eb-min ea eb).toNat)).1 (max (nd ma.natAbs+(ea-min ea eb).toNat) (nd mb.natAbs+(eb-min ea eb).toNat)+1) (plusN (decide (ma<0)) (decide (mb<0)) (ma.natAbs*T (ea-min ea eb).toNat) (mb.natAbs*T (eb-min ea eb).toNat)).2 (min ea eb) r w'∧Ext w w':=by
 obtain⟨b1,b2,b3⟩:=zac h1;obtain⟨b4,b5,b6⟩:=zac h2;have hT15:T 15=1000000000000000:=by decide
 have n1:nd ma.natAbs<=15:=(nd_le_iff _ _).2 (by omega);have n2:nd mb.natAbs<=15:=(nd_le_iff _ _).2 (by omega);have:=zic (decide (ma<0)) (decide (mb<0)) A B ca cb (dig ma.natAbs) (dig mb.natAbs) ea eb (min ea eb) (ea-min ea eb).toNat (eb-min ea eb).toNat _ w ha hb (by rw[dig_length];omega) (by rw[dig_length];omega) (by omega) (by omega) (by omega) (by omega) (by omega) (dig_all _) (dig_all _) rfl;rw[val_dig,val_dig,dig_length,dig_length] at this;exact this
theorem zrt (ma ea mb eb w) (h1:Rt ma ea) (h2:Rt mb eb) :
  Tl prog 130 #[NV ma ea,NV mb eb] w (rnV (rndI (sumI ma ea mb eb) (min ea eb))):=by
 obtain⟨b1,b2,b3⟩:=zac h1;obtain⟨b4,b5,b6⟩:=zac h2;have hma:I64 ma:=by unfold I64;omega
 have hmb:I64 mb:=by unfold I64;omega
 have r1:=zD h1;have r2:=zD h2;have hT15:T 15=1000000000000000:=by decide
 have n1:nd ma.natAbs<=15:=(nd_le_iff _ _).2 (by omega);have n2:nd mb.natAbs<=15:=(nd_le_iff _ _).2 (by omega);have hof1:=λW=>zdn ma ea W hma;have hof2:=λW=>zdn mb eb W hmb;have hpl:=λA B ca cb W h3 h4=>znd ma ea mb eb h1 h2 A B ca cb W h3 h4;have hL:max (nd ma.natAbs+(ea-min ea eb).toNat) (nd mb.natAbs+(eb-min ea eb).toNat)+1<=1000:=by omega
 have hE:-1000000<=min ea eb∧min ea eb<=1000000:=by omega
 rw[<-rnd_plus];generalize max (nd ma.natAbs+(ea-min ea eb).toNat) (nd mb.natAbs+(eb-min ea eb).toNat)+1=L at *;generalize plusN (decide (ma<0)) (decide (mb<0)) (ma.natAbs*T (ea-min ea eb).toNat) (mb.natAbs*T (eb-min ea eb).toNat)=PN at *;generalize min ea eb=E at *;have hnr:=fun(A:Option Addr) (cap:Nat) (l:List Nat) (W:World) (a1:l.length=L) (a2:Rd 0 W A (i6 l)) (a3:L<=cap) (a4:AllD l) (a5:val l=PN.2)=>zcm 0 PN.1 A L cap l PN.2 E false W a1 a2 a3 hL a4 a5 hE (Nat.zero_le _);generalize rnd PN.1 PN.2 false E=R at *;clear h1 h2 n1 n2 hT15;generalize ma.natAbs=Na at *;generalize mb.natAbs=Nb at *;go_enter func130,ntmps130;go_wp2_with (go_at_call 125;with_reducible refine aM (zy _ _ _ (by assumption)) λosr dr=>?_);refine plP [(0,0),(2,0),(1,1),(3,1),(4,1),(5,1),(6,0),(7,0),(8,2),(9,2)] [8,9] (by kernel_rfl) (λ_ _ d _ _ h=>by cases d <;> exact h) ?_;iterate 2(apply rdP rfl rfl;(intros;go_simp;first | done | rfl);try simp only[zq])
 (refine zg rfl ?_ (λK hK=>?_);rfl;go_simp;(go_at_call 139;(with_reducible refine(hof1 _).mono ?_);rintro e w' ⟨A1,c1,rfl,hrd1,hcp1,hx⟩;obtain⟨os1,d1,rfl⟩:=hx.more;have hrd1:=hrd1.mono (Nat.zero_le _);(try simp only[zc,zh,zj,Array.append_assoc] at hrd1));refine hK _ _ ?_ ?_;(simp[go_sem]))
 try simp only[zq]
 (refine zg rfl ?_ (λK hK=>?_);rfl;go_simp;(go_at_call 139;(with_reducible refine(hof2 _).mono ?_);rintro e w' ⟨A2,c2,rfl,hrd2,hcp2,hx⟩;obtain⟨os2,d2,rfl⟩:=hx.more;have hrd2:=hrd2.mono (Nat.zero_le _);(try simp only[zc,zh,zj,Array.append_assoc] at hrd2));refine hK _ _ ?_ ?_;(simp[go_sem]))
 try simp only[zq]
 (refine zg rfl ?_ (λK hK=>?_);rfl;go_simp;(go_at_call 138;(with_reducible refine(hpl _ _ _ _ _ (Rd.ext hrd1 (by(try simp only[zc,zh,zj,Array.append_assoc]);repeat(first | (with_reducible (first | exact Ext.refl _ | exact zcD _ _ _ _ | exact za9 _ _ _ _ _ | exact zck _ _ _ _ _ _ | exact zcl _ _ _ _ _ _ _)) | ((with_reducible refine zaF ⟨_,?_⟩);(try simp only[Array.append_assoc]);rfl) | (with_reducible (first | apply Ext.drew | apply Ext.alloc | apply Ext.more_))))) (Rd.ext hrd2 (by(try simp only[zc,zh,zj,Array.append_assoc]);repeat(first | (with_reducible (first | exact Ext.refl _ | exact zcD _ _ _ _ | exact za9 _ _ _ _ _ | exact zck _ _ _ _ _ _ | exact zcl _ _ _ _ _ _ _)) | ((with_reducible refine zaF ⟨_,?_⟩);(try simp only[Array.append_assoc]);rfl) | (with_reducible (first | apply Ext.drew | apply Ext.alloc | apply Ext.more_)))))).mono ?_);rintro e w' ⟨⟨A3,c3,X3,rfl,hrx3,hn3,ha3,hv3,hc3⟩,hx⟩;obtain⟨os3,d3,rfl⟩:=hx.more;(try simp only[zc,zh,zj,Array.append_assoc] at hrx3));refine hK _ _ ?_ ?_;(simp[go_sem]))
 try simp only[zq]
 (refine zg rfl ?_ (λK hK=>?_);rfl;go_simp;(go_at_call 143;with_reducible refine aM (hnr _ _ _ _ hn3 (Rd.mono hrx3 (Nat.zero_le _)) hc3 ha3 hv3) λos4 d4=>?_);refine hK _ _ ?_ ?_;(simp[go_sem]))
 try simp only[zq]
 iterate 2(apply rdP rfl rfl;(intros;go_simp;first | done | rfl);try simp only[zq])
 (refine zU rfl ?_ (λK hK=>?_);rfl;go_simp;refine hK _ _ ?_)
 try simp only[Act.put]
 (refine zU rfl ?_ (λK hK=>?_);rfl;go_simp;refine hK _ _ ?_)
 try simp only[zq]
 refine zi ?_;go_wp2;exact rct rfl rfl (by simp[go_sem]) ⟨rfl,by simp[go_sem]⟩
theorem ze8 (ma ea mb eb w) (hma:I64 ma) (hmb:I64 mb) :
  Tl prog 130 #[NV ma ea,NV mb eb] w (rnV (addS ma ea mb eb)):=by
 unfold addS;split
 ·rename_i h;exact zrt ma ea mb eb w h.1 h.2
 ·rename_i h;exact zsR ma ea mb eb w hma hmb h
theorem zle (m ex w) (hm:I64 m) :
  Tl prog 140 #[NV m ex] w (NV (zg4 m ex) (zfv m ex)):=by
 unfold zg4 zfv;by_cases h:Rt m ex
 ·have hb:=zac h;have r1:=zD h;rw[if_pos h,if_pos h];clear h;have w1:wrap64 (-m)=-m:=IntWalk.wrap64_in _ (by omega);go_enter func140,ntmps140;go_wp2_with (go_at_call 125;with_reducible refine aM (zy _ _ _ (by assumption)) λosr dr=>?_);exact rc1 rfl rfl (by simp[go_sem]) ⟨rfl,by simp[go_sem]⟩
 ·have r1:=zae h;rw[if_neg h,if_neg h];clear h;go_enter func140,ntmps140;go_wp2_with (go_at_call 125;with_reducible refine aM (zy _ _ _ (by assumption)) λosr dr=>?_);exact rc1 rfl rfl (by simp[go_sem]) ⟨rfl,by simp[go_sem]⟩
theorem zcX {m e} (h:Rt m e):zg4 m e=-m∧zfv m e=e:=by unfold zg4 zfv;rw[if_pos h,if_pos h];exact⟨rfl,rfl⟩
theorem ziK {m e} (h:Rt m e):Rt (-m) e:=by
 have:=ztS (m:=m) (e:=e);rw[(zcX h).1,(zcX h).2] at this;exact this
def subS (ma ea mb eb:Int):Option (Int×Int):=if Rt ma ea∧Rt mb eb then rndI (sumI ma ea (-mb) eb) (min ea eb) else none
theorem zlf (ma ea mb eb w) (hma:I64 ma) (hmb:I64 mb) :
  Tl prog 131 #[NV ma ea,NV mb eb] w (rnV (subS ma ea mb eb)):=by
 by_cases h1:Rt ma ea
 ·have r1:=zD h1;by_cases h2:Rt mb eb
  ·have r2:=zD h2;have hb:=zac h2;have hng:=λW=>zle mb eb W hmb;rw[(zcX h2).1,(zcX h2).2] at hng;have had:=λW=>ze8 ma ea (-mb) eb W hma (by unfold I64;omega);have hs:addS ma ea (-mb) eb=subS ma ea mb eb:=by unfold addS subS;rw[if_pos ⟨h1,ziK h2⟩,if_pos ⟨h1,h2⟩]
   rw[hs] at had;generalize subS ma ea mb eb=R at *;clear h1 h2 hs;go_enter func131,ntmps131;go_wp2_with (go_at_call 125;with_reducible refine aM (zy _ _ _ (by assumption)) λosr dr=>?_);refine plP [(0,0),(1,0),(2,1),(3,1),(4,0),(5,0),(6,2),(7,2)] [6,7] (by kernel_rfl) (λ_ _ d _ _ h=>by cases d <;> exact h) ?_;iterate 2(apply rdP rfl rfl;(intros;go_simp;first | done | rfl);try simp only[zq])
   (refine zg rfl ?_ (λK hK=>?_);rfl;go_simp;(go_at_call 140;with_reducible refine aM (hng _) λos4 d4=>?_);refine hK _ _ ?_ ?_;(simp[go_sem]))
   try simp only[zq]
   (refine zg rfl ?_ (λK hK=>?_);rfl;go_simp;(go_at_call 130;with_reducible refine aM (had _) λos5 d5=>?_);refine hK _ _ ?_ ?_;(simp[go_sem]))
   try simp only[zq]
   iterate 2(apply rdP rfl rfl;(intros;go_simp;first | done | rfl);try simp only[zq])
   (refine zU rfl ?_ (λK hK=>?_);rfl;go_simp;refine hK _ _ ?_)
   try simp only[Act.put]
   (refine zU rfl ?_ (λK hK=>?_);rfl;go_simp;refine hK _ _ ?_)
   try simp only[zq]
   refine zi ?_;go_wp2;exact rct rfl rfl (by simp[go_sem]) ⟨rfl,by simp[go_sem]⟩
  ·have r2:=zae h2;have hs:subS ma ea mb eb=none:=by unfold subS;rw[if_neg (λh=>h2 h.2)]
   rw[hs];clear h1 h2 hs;go_enter func131,ntmps131;go_wp2_with (go_at_call 125;with_reducible refine aM (zy _ _ _ (by assumption)) λosr dr=>?_);exact rct (v:=NV 0 0) rfl rfl (by simp[go_sem]) ⟨rfl,by simp[go_sem]⟩
 ·have r1:=zae h1;have hs:subS ma ea mb eb=none:=by unfold subS;rw[if_neg (λh=>h1 h.1)]
  rw[hs];clear h1 hs;go_enter func131,ntmps131;go_wp2_with (go_at_call 125;with_reducible refine aM (zy _ _ _ (by assumption)) λosr dr=>?_);exact rct (v:=NV 0 0) rfl rfl (by simp[go_sem]) ⟨rfl,by simp[go_sem]⟩
def zat (ma ea mb eb:Int):Int:=if Rt ma ea∧Rt mb eb then(sumI ma ea (-mb) eb).sign else 0
theorem zpk (na nb Na Nb):(sg na Na+sg nb Nb).sign=if(plusN na nb Na Nb).2=0 then 0 else if(plusN na nb Na Nb).1=true then -1 else 1:=by
 rw[<-plusN_sg];generalize plusN na nb Na Nb=p;obtain⟨n,N⟩:=p;simp only;by_cases h:N=0
 ·rw[if_pos h,h];cases n <;> rfl
 ·rw[if_neg h];have hp:(0:Int)<(N:Int):=by omega
  cases n with
  | false=>simp[sg];omega
  | true=>simp[sg];omega
theorem zru (ma ea mb eb w) (h1:Rt ma ea) (h2:Rt mb eb) :
  Tl prog 65 #[NV ma ea,NV mb eb] w (.int .i64 (sumI ma ea (-mb) eb).sign):=by
 obtain⟨b1,b2,b3⟩:=zac h1;obtain⟨b4,b5,b6⟩:=zac h2;have hma:I64 ma:=by unfold I64;omega
 have hmb:I64 mb:=by unfold I64;omega
 have r1:=zD h1;have r2:=zD h2;have hng:=λW=>zle mb eb W hmb;rw[(zcX h2).1,(zcX h2).2] at hng;have hof1:=λW=>zdn ma ea W hma;have hof2:=λW=>zdn (-mb) eb W (by unfold I64;omega);have hpl:=λA B ca cb W h3 h4=>znd ma ea (-mb) eb h1 (ziK h2) A B ca cb W h3 h4;have hT15:T 15=1000000000000000:=by decide
 have n1:nd ma.natAbs<=15:=(nd_le_iff _ _).2 (by omega);have n2:nd (-mb).natAbs<=15:=(nd_le_iff _ _).2 (by omega);have hL:max (nd ma.natAbs+(ea-min ea eb).toNat) (nd (-mb).natAbs+(eb-min ea eb).toNat)+1<=1000:=by omega
 have hs:sumI ma ea (-mb) eb=sg (decide (ma<0)) (ma.natAbs*T (ea-min ea eb).toNat)+sg (decide (-mb<0)) ((-mb).natAbs*T (eb-min ea eb).toNat):=by
  rw[sg_mul_nat,sg_mul_nat,sg_nat,sg_nat];rfl
 rw[hs,zpk];generalize max (nd ma.natAbs+(ea-min ea eb).toNat) (nd (-mb).natAbs+(eb-min ea eb).toNat)+1=L at *;generalize plusN (decide (ma<0)) (decide (-mb<0)) (ma.natAbs*T (ea-min ea eb).toNat) ((-mb).natAbs*T (eb-min ea eb).toNat)=PN at *;generalize min ea eb=E at *;obtain⟨n,N⟩:=PN;simp only at hpl⊢;have hst:=fun(A:Option Addr) (cap:Nat) (l:List Nat) (W:World) (a1:l.length=L) (a2:Rd 0 W A (i6 l)) (a3:L<=cap) (a4:AllD l) (a5:val l=N)=>zeJ 0 A cap L l N W a1 a2 (by omega) a3 a4 a5;simp only[zk5,dig_length] at hst;clear h1 h2 n1 n2 hT15 hs;generalize decide (-mb<0)=nb at *;generalize ma.natAbs=Na at *;generalize (-mb).natAbs=Nb at *;obtain⟨Z,hZ⟩:∃ Z,(if N=0 then(0:Int) else if n=true then -1 else 1)=Z:=⟨_,rfl⟩;rw[hZ];have HZ:=Lib.hid hZ;obtain⟨k,hk⟩:∃ k,nd N=k:=⟨_,rfl⟩;rw[hk] at hst;have HK:=Lib.hid hk;clear hZ hk;go_enter func65,ntmps65;go_wp2_with (go_at_call 125;with_reducible refine aM (zy _ _ _ (by assumption)) λosr dr=>?_);refine plP [(0,0),(2,0),(1,1),(3,1),(4,1),(5,1),(6,0),(7,1),(8,0)] [] (by kernel_rfl) (λ_ _ d _ _ h=>by cases d <;> exact h) ?_;iterate 2(apply rdP rfl rfl;(intros;go_simp;first | done | rfl);try simp only[zq])
 (refine zg rfl ?_ (λK hK=>?_);rfl;go_simp;(go_at_call 139;(with_reducible refine(hof1 _).mono ?_);rintro e w' ⟨A1,c1,rfl,hrd1,hcp1,hx⟩;obtain⟨os1,d1,rfl⟩:=hx.more;have hrd1:=hrd1.mono (Nat.zero_le _);(try simp only[zc,zh,zj,Array.append_assoc] at hrd1));refine hK _ _ ?_ ?_;(simp[go_sem]))
 try simp only[zq]
 (refine zg rfl ?_ (λK hK=>?_);rfl;go_simp;(go_at_call 140;with_reducible refine aM (hng _) λosn dn=>?_);refine hK _ _ ?_ ?_;(simp[go_sem]))
 try simp only[zq]
 (refine zg rfl ?_ (λK hK=>?_);rfl;go_simp;(go_at_call 139;(with_reducible refine(hof2 _).mono ?_);rintro e w' ⟨A2,c2,rfl,hrd2,hcp2,hx⟩;obtain⟨os2,d2,rfl⟩:=hx.more;have hrd2:=hrd2.mono (Nat.zero_le _);(try simp only[zc,zh,zj,Array.append_assoc] at hrd2));refine hK _ _ ?_ ?_;(simp[go_sem]))
 try simp only[zq]
 (refine zg rfl ?_ (λK hK=>?_);rfl;go_simp;(go_at_call 138;(with_reducible refine(hpl _ _ _ _ _ (Rd.ext hrd1 (by(try simp only[zc,zh,zj,Array.append_assoc]);repeat(first | (with_reducible (first | exact Ext.refl _ | exact zcD _ _ _ _ | exact za9 _ _ _ _ _ | exact zck _ _ _ _ _ _ | exact zcl _ _ _ _ _ _ _)) | ((with_reducible refine zaF ⟨_,?_⟩);(try simp only[Array.append_assoc]);rfl) | (with_reducible (first | apply Ext.drew | apply Ext.alloc | apply Ext.more_))))) (Rd.ext hrd2 (by(try simp only[zc,zh,zj,Array.append_assoc]);repeat(first | (with_reducible (first | exact Ext.refl _ | exact zcD _ _ _ _ | exact za9 _ _ _ _ _ | exact zck _ _ _ _ _ _ | exact zcl _ _ _ _ _ _ _)) | ((with_reducible refine zaF ⟨_,?_⟩);(try simp only[Array.append_assoc]);rfl) | (with_reducible (first | apply Ext.drew | apply Ext.alloc | apply Ext.more_)))))).mono ?_);rintro e w' ⟨⟨A3,c3,X3,rfl,hrx3,hn3,ha3,hv3,hc3⟩,hx⟩;obtain⟨os3,d3,rfl⟩:=hx.more;(try simp only[zc,zh,zj,Array.append_assoc] at hrx3));refine hK _ _ ?_ ?_;(simp[go_sem]))
 try simp only[zq]
 (apply rdP rfl rfl;(intros;go_simp;first | done | rfl))
 try simp only[zq]
 (refine zg rfl ?_ (λK hK=>?_);rfl;go_simp;(go_at_call 137;(with_reducible refine(hst _ _ _ _ hn3 (Rd.mono hrx3 (Nat.zero_le _)) hc3 ha3 hv3).mono ?_);rintro e w' ⟨⟨A4,c4,rfl,_,_⟩,rfl⟩);refine hK _ _ ?_ ?_;(simp[go_sem]))
 try simp only[zq]
 (apply rdP rfl rfl;(intros;go_simp;first | done | rfl))
 try simp only[zq]
 refine zi ?_;clear hrd1 hrd2 hrx3 ha3 hv3 hn3 hst;by_cases h0:N=0
 ·obtain rfl:0=k:=by rw[<-HK.out,h0,nd_zero]
  obtain rfl:0=Z:=by rw[<-HZ.out,if_pos h0]
  clear h0 HK HZ;go_wp2;go_ret;exact⟨rfl,by simp[go_sem]⟩
 ·have hz:(k==0)=false:=by rw[<-HK.out,nd_pos h0];simp
  have hz':((k:Int)==0)=false:=by rw[<-HK.out,nd_pos h0];simp;omega
  have HR:Hid ((if n=true then(-1:Int) else 1)=Z):=by show _=_;rw[<-HZ.out,if_neg h0]
  clear h0 HK HZ;go_wp2;refine zH λW hW=>?_;have c0:W.cell? ⟨w.heap.size,0,none⟩=some (.int .i64 ma):=by rw[hW];go_simp
  have c1:W.cell? ⟨w.heap.size,1,none⟩=some (.int .i64 ea):=by rw[hW];go_simp
  have c2:W.cell? ⟨w.heap.size+1,0,none⟩=some (.int .i64 mb):=by rw[hW];go_simp
  have c3:W.cell? ⟨w.heap.size+1,1,none⟩=some (.int .i64 eb):=by rw[hW];go_simp
  have hz1:w.heap.size+1<W.heap.size:=by rw[hW];simp;try omega
  have hz0:w.heap.size<W.heap.size:=by omega
  have hxW:Ext w W:=by rw[hW];exact by simp[go_sem]
  clear hW;refine plP [(0,0),(2,0),(1,1),(3,1),(4,1),(5,1),(6,0)] [] (by kernel_rfl) (λ_ _ d _ _ h=>by cases d <;> exact h) ?_;iterate 2(apply rdP rfl rfl;(intros;go_simp;first | done | rfl);try simp only[zq])
  (refine zg rfl ?_ (λK hK=>?_);rfl;go_simp;(go_at_call 139;(with_reducible refine(hof1 _).mono ?_);rintro e w' ⟨A1,c1,rfl,hrd1,hcp1,hx⟩;obtain⟨os1,d1,rfl⟩:=hx.more;have hrd1:=hrd1.mono (Nat.zero_le _);(try simp only[zc,zh,zj,Array.append_assoc] at hrd1));refine hK _ _ ?_ ?_;(simp[go_sem]))
  try simp only[zq]
  (refine zg rfl ?_ (λK hK=>?_);rfl;go_simp;(go_at_call 140;with_reducible refine aM (hng _) λosn dn=>?_);refine hK _ _ ?_ ?_;(simp[go_sem]))
  try simp only[zq]
  (refine zg rfl ?_ (λK hK=>?_);rfl;go_simp;(go_at_call 139;(with_reducible refine(hof2 _).mono ?_);rintro e w' ⟨A2,c2,rfl,hrd2,hcp2,hx⟩;obtain⟨os2,d2,rfl⟩:=hx.more;have hrd2:=hrd2.mono (Nat.zero_le _);(try simp only[zc,zh,zj,Array.append_assoc] at hrd2));refine hK _ _ ?_ ?_;(simp[go_sem]))
  try simp only[zq]
  (refine zg rfl ?_ (λK hK=>?_);rfl;go_simp;(go_at_call 138;(with_reducible refine(hpl _ _ _ _ _ (Rd.ext hrd1 (by(try simp only[zc,zh,zj,Array.append_assoc]);repeat(first | (with_reducible (first | exact Ext.refl _ | exact zcD _ _ _ _ | exact za9 _ _ _ _ _ | exact zck _ _ _ _ _ _ | exact zcl _ _ _ _ _ _ _)) | ((with_reducible refine zaF ⟨_,?_⟩);(try simp only[Array.append_assoc]);rfl) | (with_reducible (first | apply Ext.drew | apply Ext.alloc | apply Ext.more_))))) (Rd.ext hrd2 (by(try simp only[zc,zh,zj,Array.append_assoc]);repeat(first | (with_reducible (first | exact Ext.refl _ | exact zcD _ _ _ _ | exact za9 _ _ _ _ _ | exact zck _ _ _ _ _ _ | exact zcl _ _ _ _ _ _ _)) | ((with_reducible refine zaF ⟨_,?_⟩);(try simp only[Array.append_assoc]);rfl) | (with_reducible (first | apply Ext.drew | apply Ext.alloc | apply Ext.more_)))))).mono ?_);rintro e w' ⟨⟨A3,c3,X3,rfl,hrx3,hn3,ha3,hv3,hc3⟩,hx⟩;obtain⟨os3,d3,rfl⟩:=hx.more;(try simp only[zc,zh,zj,Array.append_assoc] at hrx3));refine hK _ _ ?_ ?_;(simp[go_sem]))
  try simp only[zq]
  (apply rdP rfl rfl;(intros;go_simp;first | done | rfl))
  try simp only[zq]
  refine zi ?_;cases n <;> (go_wp2;go_ret;exact⟨by rw[<-HR.out];rfl,hxW.trans (by simp[go_sem])⟩)
theorem ze9 (ma ea mb eb w) (hma:I64 ma) (hmb:I64 mb) :
  Tl prog 65 #[NV ma ea,NV mb eb] w (.int .i64 (zat ma ea mb eb)):=by
 unfold zat;by_cases h1:Rt ma ea
 ·have r1:=zD h1;by_cases h2:Rt mb eb
  ·rw[if_pos ⟨h1,h2⟩];exact zru ma ea mb eb w h1 h2
  ·have r2:=zae h2;rw[if_neg (λh=>h2 h.2)];clear h1 h2;go_enter func65,ntmps65;go_wp2_with (go_at_call 125;with_reducible refine aM (zy _ _ _ (by assumption)) λosr dr=>?_);go_ret;exact⟨rfl,by simp[go_sem]⟩
 ·have r1:=zae h1;rw[if_neg (λh=>h1 h.1)];clear h1;go_enter func65,ntmps65;go_wp2_with (go_at_call 125;with_reducible refine aM (zy _ _ _ (by assumption)) λosr dr=>?_);go_ret;exact⟨rfl,by simp[go_sem]⟩
theorem Ext.trans_below {W w3 w4 base} (h:Ext W w3) (hb:Below base w3 w4) (hs:W.heap.size<=base):Ext W w4:=Below.trans h (Below.mono hb hs)
theorem zne {neg n D} : valI (pad neg n D.length D)=sg neg (val D):=by
 unfold pad;have h0:∀ (k:Nat) (l:List Int),valI (List.replicate k 0++l)=valI l:=by
  intro k l;induction k with
  | zero=>rfl
  | succ k ih=>rw[List.replicate_succ,List.cons_append,valI_cons,ih];omega
 rw[h0,Nat.sub_self,List.replicate_zero,List.append_nil,List.take_length];cases neg with
 | false=>exact valI_nat D
 | true=>
  have:(D.map λd=>sg true d)=(D.map λd:Nat=>(d:Int)).map λx=>-x:=by rw[List.map_map];rfl
  rw[this,valI_neg,valI_nat];rfl
theorem zlg {neg n i D} (hD:AllD D):∀ x∈pad neg n i D,if neg then -9<=x∧x<=0 else 0<=x∧x<=9:=by
 intro x hx;unfold pad at hx;rcases List.mem_append.1 hx with h | h
 ·rw[List.eq_of_mem_replicate h];split <;> omega
 ·rcases List.mem_append.1 h with h | h
  ·obtain⟨d,hd,rfl⟩:=List.mem_map.1 h;have:=hD d (List.mem_of_mem_take hd);cases neg <;> simp[sg] <;> omega
  ·rw[List.eq_of_mem_replicate h];split <;> omega
def zfP (na nb:Bool) (n:Nat) (X Y:List Nat):List Int:=List.zipWith (· + ·) (List.zipWith (· + ·) (List.replicate n 0) (pad na n X.length X)) (pad nb n Y.length Y)
theorem zjv {a b} {z:Int} (h:z∈List.zipWith (· + ·) a b):∃ x∈a,∃ y∈b,z=x+y:=by
 obtain⟨j,hj⟩:=List.getElem?_of_mem h;rw[List.getElem?_zipWith] at hj;cases ha:a[j]? with
 | none=>rw[ha] at hj;simp at hj
 | some x=>
  cases hb:b[j]? with
  | none=>rw[ha,hb] at hj;simp at hj
  | some y=>
   rw[ha,hb] at hj;simp at hj
   exact⟨x,List.mem_of_getElem? ha,y,List.mem_of_getElem? hb,hj.symm⟩
theorem zrv {na nb n X Y z} (h:z∈zfP na nb n X Y):∃ x∈pad na n X.length X,∃ y∈pad nb n Y.length Y,z=x+y:=by
 obtain⟨u,hu,y,hy,rfl⟩:=zjv h;obtain⟨v,hv,x,hx,rfl⟩:=zjv hu;rw[List.eq_of_mem_replicate hv];exact⟨x,hx,y,hy,by omega⟩
theorem zsS {na nb n X Y} (hX:AllD X) (hY:AllD Y):DOk (zfP na nb n X Y):=by
 cases na <;> cases nb
 focus
  refine Or.inr (Or.inl λz hz=>?_)
 rotate_left
 focus
  refine Or.inl λz hz=>?_
 rotate_left
 focus
  refine Or.inl λz hz=>?_
 rotate_left
 focus
  refine Or.inr (Or.inr λz hz=>?_)
 rotate_left
 all_goals
  obtain⟨x,hx,y,hy,rfl⟩:=zrv hz;have h1:=zlg hX x hx;have h2:=zlg hY y hy;simp at h1 h2;omega
theorem zmy {na nb n X Y} (hX:X.length<=n) (hY:Y.length<=n):(zfP na nb n X Y).length=n:=by
 unfold zfP;rw[List.length_zipWith,List.length_zipWith,zcE hX (Nat.le_refl _),zcE hY (Nat.le_refl _),List.length_replicate];omega
theorem zlh {na nb n X Y} (hX:X.length<=n) (hY:Y.length<=n):valI (zfP na nb n X Y)=sg na (val X)+sg nb (val Y):=by
 unfold zfP;rw[valI_zip _ _ (by rw[List.length_zipWith,zcE hX (Nat.le_refl _),zcE hY (Nat.le_refl _),List.length_replicate];omega),valI_zip _ _ (by rw[zcE hX (Nat.le_refl _),List.length_replicate]),valI_rep0,zne,zne];omega
theorem zsT {na nb n X Y} (hX:AllD X) (hY:AllD Y) (h:max X.length Y.length+1=n):(valI (zfP na nb n X Y)).natAbs<T n:=by
 rw[zlh (by omega) (by omega)];have h1:=Nat.lt_of_lt_of_le (val_lt hX) (T_mono (show X.length<=n-1 by omega));have h2:=Nat.lt_of_lt_of_le (val_lt hY) (T_mono (show Y.length<=n-1 by omega));have h3:T n=10*T (n-1):=by rw[<-T_succ];congr 1;omega
 rw[h3];generalize T (n-1)=t at *;cases na <;> cases nb <;> simp[sg] <;> omega
theorem zli (m k):val (zdE m k)=m.natAbs*T k:=by unfold zdE;rw[zdP,ze6]
theorem zlj (m k):AllD (zdE m k):=(zc9 _).append (AllD.rep _ _ (by omega))
theorem ztT (ma ea mb eb w) (hma:I64 ma) (hmb:I64 mb) (h:¬ (Rt ma ea∧Rt mb eb)) :
  Tl prog 100 #[NV ma ea,NV mb eb] w (rnV none):=by
 by_cases h1:Rt ma ea
 ·have r1:=zD h1;have r2:=zae (λh2=>h ⟨h1,h2⟩);clear h h1;go_enter func100,ntmps100;go_wp2_with (go_at_call 104;with_reducible refine aM (zw _ _ _ (by assumption)) λosr dr=>?_);exact rct (v:=NV 0 0) rfl rfl (by simp[go_sem]) ⟨rfl,by simp[go_sem]⟩
 ·have r1:=zae h1;clear h h1;go_enter func100,ntmps100;go_wp2_with (go_at_call 104;with_reducible refine aM (zw _ _ _ (by assumption)) λosr dr=>?_);exact rct (v:=NV 0 0) rfl rfl (by simp[go_sem]) ⟨rfl,by simp[go_sem]⟩
theorem zsU (ma ea mb eb w) (htab:Tab w) (h1:Rt ma ea) (h2:Rt mb eb) :
  Tl prog 100 #[NV ma ea,NV mb eb] w (rnV (rndI (sumI ma ea mb eb) (min ea eb))):=by
 obtain⟨b1,b2,b3⟩:=zac h1;obtain⟨b4,b5,b6⟩:=zac h2;have hma:I64 ma:=by unfold I64;omega
 have hmb:I64 mb:=by unfold I64;omega
 have r1:=zD h1;have r2:=zD h2;have hT15:T 15=1000000000000000:=by decide
 have n1:nd ma.natAbs<=15:=(nd_le_iff _ _).2 (by omega);have n2:nd mb.natAbs<=15:=(nd_le_iff _ _).2 (by omega);have hsp1:=λW hW=>ziH ma ea (min ea eb) (ea-min ea eb).toNat W hW hma (by omega) (by omega);have hsp2:=λW hW=>ziH mb eb (min ea eb) (eb-min ea eb).toNat W hW hmb (by omega) (by omega);have hlx:(zdE ma (ea-min ea eb).toNat).length<=200:=by unfold zdE;rw[List.length_append,zbc,List.length_replicate];omega
 have hly:(zdE mb (eb-min ea eb).toNat).length<=200:=by unfold zdE;rw[List.length_append,zbc,List.length_replicate];omega
 have hax:=zlj ma (ea-min ea eb).toNat;have hay:=zlj mb (eb-min ea eb).toNat;have hsum:sumI ma ea mb eb=sg (decide (ma<0)) (val (zdE ma (ea-min ea eb).toNat))+sg (decide (mb<0)) (val (zdE mb (eb-min ea eb).toNat)):=by
  rw[zli,zli,sg_mul_nat,sg_mul_nat,sg_nat,sg_nat];rfl
 rw[hsum];generalize zdE ma (ea-min ea eb).toNat=X at *;generalize zdE mb (eb-min ea eb).toNat=Y at *;have hlen:=zmy (na:=decide (ma<0)) (nb:=decide (mb<0)) (n:=max X.length Y.length+1) (X:=X) (Y:=Y) (by omega) (by omega);have hok:=zsS (na:=decide (ma<0)) (nb:=decide (mb<0)) (n:=max X.length Y.length+1) hax hay;have hval:=zlh (na:=decide (ma<0)) (nb:=decide (mb<0)) (n:=max X.length Y.length+1) (X:=X) (Y:=Y) (by omega) (by omega);have hlt:=zsT (na:=decide (ma<0)) (nb:=decide (mb<0)) hax hay rfl;rw[<-hval];generalize hRR:rndI (valI (zfP (decide (ma<0)) (decide (mb<0)) (max X.length Y.length+1) X Y)) (min ea eb)=R;have HRR:=Lib.hid hRR;have HLEN:=Lib.hid hlen;have HOK:=Lib.hid hok;have HLT:=Lib.hid hlt;have HT:=Lib.hid htab;have HAX:=Lib.hid hax;have HAY:=Lib.hid hay;clear h1 h2 hRR hlen hok hlt hval hsum htab hax hay n1 n2 hT15;go_enter func100,ntmps100;go_wp2_with (go_at_call 104;with_reducible refine aM (zw _ _ _ (by assumption)) λosr dr=>?_);refine plP [(0,0),(1,0),(3,0),(4,0),(2,1),(5,1),(6,0),(7,0)] [] (by kernel_rfl) (λ_ _ d _ _ h=>by cases d <;> exact h) ?_;iterate 4(apply rdP rfl rfl;(intros;go_simp;first | done | rfl);try simp only[zq])
 (refine zg rfl ?_ (λK hK=>?_);rfl;go_simp;(go_at_call 162;(with_reducible refine(hsp1 _ (HT.out.ext (by simp[go_sem]))).mono ?_);rintro e w' ⟨v1,rfl,ho1,hx1⟩;obtain⟨os1,d1,rfl⟩:=hx1.more;obtain⟨A1,p1,rfl,hg1,_⟩:=Dg.of_own (l:=X) (k:=.u8) ho1;clear ho1);refine hK _ _ ?_ ?_;(simp[go_sem]))
 try simp only[zq]
 (refine zg rfl ?_ (λK hK=>?_);rfl;go_simp;(go_at_call 162;(with_reducible refine(hsp2 _ (HT.out.ext (by simp[go_sem]))).mono ?_);rintro e w' ⟨v2,rfl,ho2,hx2⟩;obtain⟨os2,d2,rfl⟩:=hx2.more;obtain⟨A2,p2,rfl,hg2,_⟩:=Dg.of_own (l:=Y) (k:=.u8) ho2;clear ho2);refine hK _ _ ?_ ?_;(simp[go_sem]))
 try simp only[zq]
 iterate 2(apply rdP rfl rfl;(intros;go_simp;first | done | rfl);try simp only[zq])
 refine zi ?_;go_upto_region 5 with fail;refine zH λW hW=>?_;have c0:W.cell? ⟨w.heap.size,0,none⟩=some (.int .i64 ma):=by rw[hW];go_simp
 have c2:W.cell? ⟨w.heap.size+1,0,none⟩=some (.int .i64 mb):=by rw[hW];go_simp
 have c4:W.cell? ⟨w.heap.size+1+1,0,none⟩=some (.int .i64 0):=by rw[hW];go_simp
 have c5:W.cell? ⟨w.heap.size+1+1,1,none⟩=some (.int .i64 0):=by rw[hW];go_simp
 have f4:W.frozen? ⟨w.heap.size+1+1,0,none⟩=false:=by rw[hW];go_simp
 have f5:W.frozen? ⟨w.heap.size+1+1,1,none⟩=false:=by rw[hW];go_simp
 have hz:w.heap.size+1+1<W.heap.size:=by rw[hW];simp;try omega
 have hz1:w.heap.size+1<W.heap.size:=by omega
 have hz0:w.heap.size<W.heap.size:=by omega
 have hxW:Ext w W:=by rw[hW];exact by simp[go_sem]
 have HRX:Hid (Rd 0 W A1 (b8 X)∧∀ p,A1=some p->X≠[]->p.block<W.heap.size):=by
  have h3:Rd 0 W A1 (b8 X):=by rw[hW];exact Rd.ext (hg1.rd.mono (Nat.zero_le _)) (by(try simp only[zc,zh,zj,Array.append_assoc]);repeat(first | (with_reducible (first | exact Ext.refl _ | exact zcD _ _ _ _ | exact za9 _ _ _ _ _ | exact zck _ _ _ _ _ _ | exact zcl _ _ _ _ _ _ _)) | ((with_reducible refine zaF ⟨_,?_⟩);(try simp only[Array.append_assoc]);rfl) | (with_reducible (first | apply Ext.drew | apply Ext.alloc | apply Ext.more_))))
  refine⟨h3,λp hp hne=>?_⟩;obtain⟨x,X',rfl⟩:=List.exists_cons_of_ne_nil hne;obtain⟨b',o',hA,_,hc⟩:=h3 0 _ rfl;rw[hp] at hA;obtain rfl:p=⟨b',o',none⟩:=Option.some.inj hA;exact za hc
 have HRY:Hid (Rd 0 W A2 (b8 Y)∧∀ p,A2=some p->Y≠[]->p.block<W.heap.size):=by
  have h3:Rd 0 W A2 (b8 Y):=by rw[hW];exact Rd.ext (hg2.rd.mono (Nat.zero_le _)) (by(try simp only[zc,zh,zj,Array.append_assoc]);repeat(first | (with_reducible (first | exact Ext.refl _ | exact zcD _ _ _ _ | exact za9 _ _ _ _ _ | exact zck _ _ _ _ _ _ | exact zcl _ _ _ _ _ _ _)) | ((with_reducible refine zaF ⟨_,?_⟩);(try simp only[Array.append_assoc]);rfl) | (with_reducible (first | apply Ext.drew | apply Ext.alloc | apply Ext.more_))))
  refine⟨h3,λp hp hne=>?_⟩;obtain⟨x,X',rfl⟩:=List.exists_cons_of_ne_nil hne;obtain⟨b',o',hA,_,hc⟩:=h3 0 _ rfl;rw[hp] at hA;obtain rfl:p=⟨b',o',none⟩:=Option.some.inj hA;exact za hc
 clear hW hg1 hg2 hx1 hx2 hsp1 hsp2;have hmk:=zgk (max X.length Y.length+1) (by omega);rw[show(((max X.length Y.length+1:Nat)):Int)=max (X.length:Int) (Y.length:Int)+1 by omega] at hmk;obtain⟨n,hn⟩:∃ n,n=max X.length Y.length+1:=⟨_,rfl⟩;have hnb:n<=1000:=by omega
 have hnx:X.length<=n:=by omega
 have hny:Y.length<=n:=by omega
 rw[<-hn] at hmk HRR HLEN HOK HLT;have HI0:Hid (zc3 (W.alloc (.cells (madeCells #[.int .i64 0] n) 3)) W.heap.size (List.replicate n 0)):=by
  show _=_;have hC:madeCells #[.int .i64 0] n=((List.replicate n (0:Int)).map (Value.int .i64)).toArray:=by
   apply Array.ext'
   rw[toList_madeCells_one];simp
  rw[hC];exact Array.getElem?_push_size
 have hga1:=λW' (hx:Ext W W') (hi:zc3 W' W.heap.size (List.replicate n 0))=>ziI W.heap.size n (List.replicate n 0) A1 p1 X (decide (ma<0)) W' (by simp) hi (HRX.out.1.ext hx) (λp hp h0=>by have:=HRX.out.2 p hp h0;omega) hnx (by omega) HAX.out (λx hx=>by rw[List.eq_of_mem_replicate hx];omega);have hga2:=λW' (hx:Ext W W') (hi:zc3 W' W.heap.size (List.zipWith (· + ·) (List.replicate n 0) (pad (decide (ma<0)) n X.length X)))=>ziI W.heap.size n _ A2 p2 Y (decide (mb<0)) W' (by rw[List.length_zipWith,zcE hnx (Nat.le_refl _),List.length_replicate];omega) hi (HRY.out.1.ext hx) (λp hp h0=>by have:=HRY.out.2 p hp h0;omega) hny (by omega) HAY.out (λx hx=>by
  obtain⟨u,hu,v,hv,rfl⟩:=zjv hx
  rw[List.eq_of_mem_replicate hu]
  have:=zsN HAX.out v hv
  omega)
 have hse:=λW' (hi:zc3 W' W.heap.size (zfP (decide (ma<0)) (decide (mb<0)) n X Y))=>zn2 W.heap.size n _ W' HLEN.out hi HOK.out (by omega) HLT.out;have hx0:Ext W (W.alloc (.cells (madeCells #[.int .i64 0] n) 3)):=(Ext.refl _).alloc _;clear hn;go_upto_region 7 with(go_at_call 163;(with_reducible refine(hga1 _ hx0 HI0.out).mono ?_);rintro e w1 ⟨rfl,hi1,ho1⟩;have hx1:=ho1.ext hx0 (Nat.le_refl _));have c2':=hx1.cell_some c2;go_upto_region 8 with(go_at_call 163;(with_reducible refine(hga2 _ hx1 hi1).mono ?_);rintro e w2 ⟨rfl,hi2,ho2⟩;have hx2:=ho2.ext hx1 (Nat.le_refl _));have hse2:=hse w2 hi2;clear hse hga1 hga2 hi1 hi2 HLEN HOK HLT HRX HRY HI0 hmk ho1 ho2 c2';generalize valI (zfP (decide (ma<0)) (decide (mb<0)) n X Y)=V at *;go_upto_region 9 with(go_at_call 164;(with_reducible refine hse2.mono ?_);rintro e w3 ⟨rfl,⟨D,hdg,hdl,hda,hdv⟩,hx3⟩);have hrd:=zjX w2.heap.size (decide (V<0)) (some ⟨w2.heap.size,0,none⟩) n D (min ea eb) w3 hdg hda (by omega) hx3.size (by omega);rw[hdl,hdv,show rnd (decide (V<0)) V.natAbs false (min ea eb)=R from HRR.out] at hrd;clear hdg hda hdv hdl HRR hse2;go_wp2_with (go_at_call 160;(with_reducible refine hrd.mono ?_);rintro e w4 ⟨rfl,hb4⟩;have hx4:Ext W w4:=(hx2.trans hx3).trans_below hb4 hx2.size;obtain⟨os4,d4,rfl⟩:=hx4.more);exact bodyPost_ret (v:=rnV R) (by simp[results,results100,go_sem,c4,c5,hz]) rfl ⟨rfl,((hxW.set _ (by show w.heap.size<=w.heap.size+1+1;omega)).set _ (by show w.heap.size<=w.heap.size+1+1;omega)).more_ _ _⟩
theorem zhC (ma ea mb eb w) (htab:Tab w) (hma:I64 ma) (hmb:I64 mb) :
  Tl prog 100 #[NV ma ea,NV mb eb] w (rnV (addS ma ea mb eb)):=by
 unfold addS;split
 ·rename_i h;exact zsU ma ea mb eb w htab h.1 h.2
 ·rename_i h;exact ztT ma ea mb eb w hma hmb h
theorem znf (ma ea mb eb w) (htab:Tab w) (hma:I64 ma) (hmb:I64 mb) :
  Tl prog 120 #[NV ma ea,NV mb eb] w (rnV (subS ma ea mb eb)):=by
 by_cases h1:Rt ma ea
 ·have r1:=zD h1;by_cases h2:Rt mb eb
  ·have r2:=zD h2;have hb:=zac h2;have hng:=λW=>znc mb eb W hmb;rw[(zcX h2).1,(zcX h2).2] at hng;have had:=λW hW=>zhC ma ea (-mb) eb W hW hma (by unfold I64;omega);have hs:addS ma ea (-mb) eb=subS ma ea mb eb:=by unfold addS subS;rw[if_pos ⟨h1,ziK h2⟩,if_pos ⟨h1,h2⟩]
   rw[hs] at had;generalize subS ma ea mb eb=R at *;have HT:=Lib.hid htab;clear h1 h2 hs htab;go_enter func120,ntmps120;go_wp2_with (go_at_call 104;with_reducible refine aM (zw _ _ _ (by assumption)) λosr dr=>?_);refine plP [(0,0),(1,0),(2,1),(3,1),(4,0),(5,0),(6,2),(7,2)] [6,7] (by kernel_rfl) (λ_ _ d _ _ h=>by cases d <;> exact h) ?_;iterate 2(apply rdP rfl rfl;(intros;go_simp;first | done | rfl);try simp only[zq])
   (refine zg rfl ?_ (λK hK=>?_);rfl;go_simp;(go_at_call 112;with_reducible refine aM (hng _) λos4 d4=>?_);refine hK _ _ ?_ ?_;(simp[go_sem]))
   try simp only[zq]
   (refine zg rfl ?_ (λK hK=>?_);rfl;go_simp;(go_at_call 100;with_reducible refine aM (had _ (HT.out.ext (by simp[go_sem]))) λos5 d5=>?_);refine hK _ _ ?_ ?_;(simp[go_sem]))
   try simp only[zq]
   iterate 2(apply rdP rfl rfl;(intros;go_simp;first | done | rfl);try simp only[zq])
   (refine zU rfl ?_ (λK hK=>?_);rfl;go_simp;refine hK _ _ ?_)
   try simp only[Act.put]
   (refine zU rfl ?_ (λK hK=>?_);rfl;go_simp;refine hK _ _ ?_)
   try simp only[zq]
   refine zi ?_;go_wp2;exact rct rfl rfl (by simp[go_sem]) ⟨rfl,by simp[go_sem]⟩
  ·have r2:=zae h2;have hs:subS ma ea mb eb=none:=by unfold subS;rw[if_neg (λh=>h2 h.2)]
   rw[hs];clear h1 h2 hs;go_enter func120,ntmps120;go_wp2_with (go_at_call 104;with_reducible refine aM (zw _ _ _ (by assumption)) λosr dr=>?_);exact rct (v:=NV 0 0) rfl rfl (by simp[go_sem]) ⟨rfl,by simp[go_sem]⟩
 ·have r1:=zae h1;have hs:subS ma ea mb eb=none:=by unfold subS;rw[if_neg (λh=>h1 h.1)]
  rw[hs];clear h1 hs;go_enter func120,ntmps120;go_wp2_with (go_at_call 104;with_reducible refine aM (zw _ _ _ (by assumption)) λosr dr=>?_);exact rct (v:=NV 0 0) rfl rfl (by simp[go_sem]) ⟨rfl,by simp[go_sem]⟩
theorem zfa {w w' base ty v n xs} (h:w.ownsRow base ty 1 v n xs) (hx:Ext w w'):w'.ownsRow base ty 1 v n xs:=by
 refine⟨h.1,?_⟩;rcases h.2 with h2 | ⟨g,cap,cur,h3,h4,h5,h6⟩
 ·exact Or.inl h2
 ·exact Or.inr ⟨g,cap,cur,h3,h4,by rw[hx.block (z7 h5)];exact h5,h6⟩
theorem ztU (l):∀ u∈b8 l,u.oneCell'=true:=by
 intro u hu;obtain⟨x,_,rfl⟩:=List.mem_map.1 hu;rfl
theorem zsV {up lw} (h:lw<1000000000000000):val (zaE up++(zaE (1000000000000000+lw)).drop 1)=up*1000000000000000+lw∧(zaE (1000000000000000+lw)).length=16∧AllD (zaE up++(zaE (1000000000000000+lw)).drop 1):=by
 have hT15:T 15=1000000000000000:=by decide
 have hT16:T 16=10000000000000000:=by decide
 have hnd:nd (1000000000000000+lw)=16:=nd_eq (k:=15) (by omega) (by rw[show 15+1=16 from rfl];omega);have hl:(zaE (1000000000000000+lw)).length=16:=by rw[zbc,hnd];rfl
 have ht:=(take_val (zc9 (1000000000000000+lw)) 1).2;rw[ze6,hl,hT15] at ht;refine⟨?_,hl,(zc9 _).append ((zc9 _).drop 1)⟩;rw[val_append,ze6,ht,List.length_drop,hl,hT15];omega
theorem ztV (ma ea mb eb w) (hma:I64 ma) (hmb:I64 mb) (h:¬ (Rt ma ea∧Rt mb eb)) :
  Tl prog 119 #[NV ma ea,NV mb eb] w (rnV none):=by
 by_cases h1:Rt ma ea
 ·have r1:=zD h1;have r2:=zae (λh2=>h ⟨h1,h2⟩);clear h h1;go_enter func119,ntmps119;go_wp2_with (go_at_call 104;with_reducible refine aM (zw _ _ _ (by assumption)) λosr dr=>?_);exact rct (v:=NV 0 0) rfl rfl (by simp[go_sem]) ⟨rfl,by simp[go_sem]⟩
 ·have r1:=zae h1;clear h h1;go_enter func119,ntmps119;go_wp2_with (go_at_call 104;with_reducible refine aM (zw _ _ _ (by assumption)) λosr dr=>?_);exact rct (v:=NV 0 0) rfl rfl (by simp[go_sem]) ⟨rfl,by simp[go_sem]⟩
theorem zuZ (ma mb):sg (ngB ma mb) (ma.natAbs*mb.natAbs)=ma*mb:=by
 unfold ngB;have h:=sg_nat ma;have h':=sg_nat mb;cases ha:decide (ma<0) <;> cases hb:decide (mb<0) <;> rw[ha] at h <;> rw[hb] at h' <;> simp only[sg] at * <;> (conv=>rhs;rw[<-h,<-h']) <;> simp[Int.neg_mul,Int.mul_neg]
theorem zsW (ma ea mb eb w) (htab:Tab w) (h1:Rt ma ea) (h2:Rt mb eb) :
  Tl prog 119 #[NV ma ea,NV mb eb] w (rnV (rndI (ma*mb) (ea+eb))):=by
 obtain⟨b1,b2,b3⟩:=zac h1;obtain⟨b4,b5,b6⟩:=zac h2;have hma:I64 ma:=by unfold I64;omega
 have hmb:I64 mb:=by unfold I64;omega
 have r1:=zD h1;have r2:=zD h2;have hsa:=λW=>za4 ma W hma;have hsb:=λW=>za4 mb W hmb;rw[<-zuZ,<-rnd_sg];unfold ngB;have hPb:ma.natAbs*mb.natAbs<1000000000000000000000000000000:=Nat.lt_of_le_of_lt (Nat.mul_le_mul (Nat.le_of_lt_succ (show ma.natAbs<999999999999999+1 from b1)) (Nat.le_of_lt_succ (show mb.natAbs<999999999999999+1 from b4))) (by decide);have hmu:=λW=>Tryz.bits_Mul64 ma.natAbs mb.natAbs (by omega) (by omega) W;generalize ma.natAbs=Na at *;generalize mb.natAbs=Nb at *;have hdiv:=λW=>zpc (Na*Nb/18446744073709551616) (Na*Nb%18446744073709551616) W (Nat.mod_lt _ (by decide)) (by rw[Nat.div_add_mod'];exact hPb);rw[Nat.div_add_mod'] at hdiv;have hup:Na*Nb/1000000000000000<1000000000000000:=Nat.div_lt_of_lt_mul (Nat.lt_of_lt_of_le hPb (by decide));have hlw:Na*Nb%1000000000000000<1000000000000000:=Nat.mod_lt _ (by decide);have hPQ:Na*Nb/1000000000000000*1000000000000000+Na*Nb%1000000000000000=Na*Nb:=Nat.div_add_mod' _ _;generalize Na*Nb/18446744073709551616=hh at *;generalize Na*Nb%18446744073709551616=ll at *;generalize Na*Nb/1000000000000000=up at *;generalize Na*Nb%1000000000000000=lw at *;generalize Na*Nb=P at *;obtain⟨hmv,hml,hmd⟩:=zsV (up:=up) hlw;rw[hPQ] at hmv;have hdg1:=λW hW=>zdb up (by omega) W hW;have hdg2:=λW hW=>zdb (1000000000000000+lw) (by omega) W hW;have hl1:(zaE up).length<=20:=by rw[zbc];have:=(nd_le_iff up 20).2 (Nat.lt_trans hup (by decide));omega
 have g1:(1000000000000000:Int)+(lw:Int)=((1000000000000000+lw:Nat):Int):=by omega
 have g2:IntKind.u64.wrap ((1000000000000000+lw:Nat):Int)=((1000000000000000+lw:Nat):Int):=by rw[IntKind.wrap_u64];omega
 generalize 1000000000000000+lw=sm at *;generalize zaE up=D1 at *;generalize zaE sm=D2 at *;obtain⟨i0,hi,hz0',hz1',hz2'⟩:=info_parts zda;generalize hRR:rnd (!(decide (ma<0)==decide (mb<0))) P false (ea+eb)=R;have HRR:=Lib.hid hRR;have HT:=Lib.hid htab;have HMV:=Lib.hid hmv;have HMD:=Lib.hid hmd;clear h1 h2 htab hPb hup hlw hPQ hmv hmd hRR;go_enter func119,ntmps119;go_wp2_with (go_at_call 104;with_reducible refine aM (zw _ _ _ (by assumption)) λosr dr=>?_);refine plP [(0,0),(1,0),(3,0),(4,0),(2,1),(5,1),(6,1),(7,0),(8,0),(9,0),(10,0),(11,0)] [] (by kernel_rfl) (λ_ _ d _ _ h=>by cases d <;> exact h) ?_;iterate 4(apply rdP rfl rfl;(intros;go_simp;first | done | rfl);try simp only[zq])
 (refine zg rfl ?_ (λK hK=>?_);rfl;go_simp;(go_at_call 113;(with_reducible refine(hsa _).mono ?_);rintro e w' ⟨rfl,rfl⟩);refine hK _ _ ?_ ?_;(simp[go_sem]))
 try simp only[zq]
 (refine zg rfl ?_ (λK hK=>?_);rfl;go_simp;(go_at_call 113;(with_reducible refine(hsb _).mono ?_);rintro e w' ⟨rfl,rfl⟩);refine hK _ _ ?_ ?_;(simp[go_sem]))
 try simp only[zq]
 (refine zg rfl ?_ (λK hK=>?_);rfl;go_simp;(go_at_call 179;(with_reducible refine(hmu _).mono ?_);rintro e w' ⟨rfl,rfl⟩);refine hK _ _ ?_ ?_;(simp[go_sem]))
 try simp only[zq]
 iterate 5(apply rdP rfl rfl;(intros;go_simp;first | done | rfl);try simp only[zq])
 refine zi ?_;go_upto_region 4 with fail;refine zH λW hW=>?_;have c0:W.cell? ⟨w.heap.size,0,none⟩=some (.int .i64 ma):=by rw[hW];go_simp
 have c1:W.cell? ⟨w.heap.size,1,none⟩=some (.int .i64 ea):=by rw[hW];go_simp
 have c2:W.cell? ⟨w.heap.size+1,0,none⟩=some (.int .i64 mb):=by rw[hW];go_simp
 have c3:W.cell? ⟨w.heap.size+1,1,none⟩=some (.int .i64 eb):=by rw[hW];go_simp
 have c4:W.cell? ⟨w.heap.size+1+1,0,none⟩=some (.int .i64 0):=by rw[hW];go_simp
 have c5:W.cell? ⟨w.heap.size+1+1,1,none⟩=some (.int .i64 0):=by rw[hW];go_simp
 have f4:W.frozen? ⟨w.heap.size+1+1,0,none⟩=false:=by rw[hW];go_simp
 have f5:W.frozen? ⟨w.heap.size+1+1,1,none⟩=false:=by rw[hW];go_simp
 have hz:w.heap.size+1+1<W.heap.size:=by rw[hW];simp;try omega
 have hz1:w.heap.size+1<W.heap.size:=by omega
 have hz0:w.heap.size<W.heap.size:=by omega
 have hxW:Ext w W:=by rw[hW];exact by simp[go_sem]
 have HTW:Hid (Tab W):=HT.out.ext hxW;clear hW;go_upto_region 6 with(first | (go_at_call 180;(with_reducible refine(hdiv _).mono ?_);rintro e w' ⟨rfl,hx⟩;obtain⟨os1,d1,rfl⟩:=hx.more) | (go_at_call 159;(with_reducible refine(hdg1 _ (HTW.out.ext (by simp[go_sem]))).mono ?_);rintro e w' ⟨v1,rfl,ho1,hx1⟩;obtain⟨os2,d2,rfl⟩:=hx1.more));refine zH λW2 hW2=>?_;have hxW2:Ext W W2:=by rw[hW2];exact by simp[go_sem]
 have HO1:Hid (W2.ownsRow W.heap.size 5 1 v1 D1.length (b8 D1)):=by
  show World.ownsRow _ _ _ _ _ _ _;rw[hW2,<-zc];exact zk9 ho1 (by simp)
 clear hW2 ho1 hx1 hx hdg1 hdiv;have hsz2:=hxW2.size;obtain⟨x2,t2,hD2⟩:∃ x t,D2=x::t:=by cases D2 with | nil=>simp at hml | cons x t=>exact⟨x,t,rfl⟩
 have HD2:=Lib.hid hD2;clear hD2;go_upto_region 7 with(first | (go_at_call 159;(with_reducible refine(hdg2 _ (HTW.out.ext hxW2)).mono ?_);rintro e w' ⟨v2,rfl,ho2,hx2⟩;obtain⟨os3,d3,rfl⟩:=hx2.more;obtain⟨A2,cap2,rfl,hdg,_⟩:=Dg.of_own (l:=D2) (k:=.u8) ho2;have hcap:=hdg.1;rw[hml] at hcap⊢;obtain⟨b,off,rfl,_,_⟩:=Dg.cons (by rw[HD2.out] at hdg;exact hdg);clear ho2;have hc1:¬ cap2=1:=by omega) | (at_builtin;refine wpList_append_own _ rfl _ _ _ rfl W.heap.size 5 i0 (.int .u8 0) 1 1 Tryz.underlying141 hi hz0' hz1' hz2' rfl (by decide) _ D1.length (b8 D1) rfl (zfa HO1.out hx2) _ 15 (cap2-1) (b8 (D2.drop 1)) rfl (by simp[b8,hml]) (Rd.add (Rd.mono (hdg.drop 1).rd (Nat.zero_le _))) (ztU _) (by simp[maxLen];omega) (by omega) (by simp;omega) ?_;intro v3 w3 ho3 hg3 _;have hx3:=zde (hxW2.trans hx2) (zfa HO1.out hx2) hg3;obtain⟨os4,d4,rfl⟩:=hx3.more;clear hg3 hdg hcap hc1 hx2));have hrd:=zdc W (!(decide (ma<0)==decide (mb<0))) v3 (D1++D2.drop 1) (ea+eb) (more W os4 d4) _ hx3 (by unfold b8;rw[List.map_append];exact ho3) HMD.out (by simp;omega) (by omega);rw[HMV.out,HRR.out] at hrd;have w1:IntKind.i64.wrap (ea+eb)=ea+eb:=zaD (by omega) (by omega);clear ho3 hx3;go_wp2_with (go_at_call 160;(with_reducible refine hrd.mono ?_);rintro e w4 ⟨rfl,os5,d5,rfl⟩);exact bodyPost_ret (v:=rnV R) (by simp[results,results119,go_sem,c4,c5,hz]) rfl ⟨rfl,((hxW.set _ (by show w.heap.size<=w.heap.size+1+1;omega)).set _ (by show w.heap.size<=w.heap.size+1+1;omega)).more_ _ _⟩
theorem zhD (ma ea mb eb w) (htab:Tab w) (hma:I64 ma) (hmb:I64 mb) :
  Tl prog 119 #[NV ma ea,NV mb eb] w (rnV (mulS ma ea mb eb)):=by
 unfold mulS;split
 ·rename_i h;exact zsW ma ea mb eb w htab h.1 h.2
 ·rename_i h;exact ztV ma ea mb eb w hma hmb h
structure TSt (W:World) (L z:Nat) (O:List Nat) (wr:World):Prop where
 out:Dg .i64 3 W.heap.size wr (some ⟨W.heap.size,0,none⟩) L O
 len:O.length=L
 all:AllD O
 zer:∀ p,p<=z->p<L->O[p]? = some 0
 ext:Ext W wr
theorem TSt.at {W wr} {L z p d:Nat} {O} (h:TSt W L z O wr) (hd:O[p]? = some d):wr.cell? ⟨W.heap.size,p,none⟩=some (.int .i64 (d:Int))∧wr.frozen? ⟨W.heap.size,p,none⟩=false:=by
 obtain⟨b,off,h1,_,h2,h3⟩:=h.out.at hd;obtain⟨rfl,rfl⟩:=aI h1;rw[Nat.zero_add] at h2 h3;exact⟨h2,h3⟩
theorem TSt.set {W wr L z p d O} (h:TSt W L z O wr) (hd:d<10) (hp:p<L) (z') (hz:z'<=z) (hzp:z'<p):TSt W L z' (O.set p d) (wr.setCell ⟨W.heap.size,p,none⟩ (.int .i64 (d:Int))):=by
 have:=h.out.set (i:=p) (d:=d) (by rw[h.len];exact hp);rw[Nat.zero_add] at this;exact⟨this,by rw[List.length_set];exact h.len,h.all.set hd,λq hq hL=>by rw[List.getElem?_set_ne (by omega)];exact h.zer q (by omega) hL,h.ext.set _ (Nat.le_refl _)⟩
theorem TSt.drew {W wr L z O} (h:TSt W L z O wr):TSt W L z O wr.drew:=⟨h.out,h.len,h.all,h.zer,h.ext.drew⟩
theorem zn5 {O lb:List Nat} {V A s n q p o b c} (hL:O.length-1-p=s+(n-(q+1))) (ho:O[p]? = some o) (hb:lb[q]? = some b) (hn:lb.length=n) (h:val O+c*T (s+(n-(q+1)))=V+A*val (lb.drop (q+1))*T s) :
  val (O.set p ((o+A*b+c)%10))+(o+A*b+c)/10*T (s+(n-q))=V+A*val (lb.drop q)*T s:=by
 have hq:=lt_at hb;have h1:=val_set ((o+A*b+c)%10) ho;rw[hL] at h1;have h2:val (lb.drop q)=b*T (n-(q+1))+val (lb.drop (q+1)):=by
  rw[drop_at hb,val_cons,List.length_drop,hn]
 have h3:T (s+(n-q))=10*T (s+(n-(q+1))):=by rw[<-T_succ];congr 1;omega
 have h4:A*val (lb.drop q)*T s=A*b*T (s+(n-(q+1)))+A*val (lb.drop (q+1))*T s:=by
  rw[h2,Nat.mul_add,Nat.add_mul,T_add,Nat.mul_comm (T s) (T (n-(q+1))),Nat.mul_assoc A b,Nat.mul_assoc,Nat.mul_assoc,Nat.mul_assoc]
 rw[h3,h4];generalize T (s+(n-(q+1)))=t at *;generalize val O=vO at *;generalize val (O.set p ((o+A*b+c)%10))=vN at *;generalize A*val (lb.drop (q+1))*T s=R at *;have h5:=Nat.div_add_mod (o+A*b+c) 10;generalize (o+A*b+c)/10=dq at *;generalize (o+A*b+c)%10=dr at *;generalize A*b=ab at *;have h6:(10*dq+dr)*t=(o+ab+c)*t:=by rw[h5]
 rw[Nat.add_mul,Nat.add_mul,Nat.add_mul] at h6;have h7:dq*(10*t)=10*dq*t:=by rw[<-Nat.mul_assoc,Nat.mul_comm dq 10]
 rw[h7];omega
theorem zpl (na nb A B ca cb m n la lb ea eb w) (ha:Rd 0 w A (i6 la)) (hb:Rd 0 w B (i6 lb)) (hm:la.length=m) (hn:lb.length=n) (hmb:m<=1000) (hnb:n<=1000) (hda:AllD la) (hdb:AllD lb) (hea:-1000<=ea∧ea<=1000) (heb:-1000<=eb∧eb<=1000) :
  Calls prog 185 #[zc2 na A m ca ea,zc2 nb B n cb eb] w λr w'=>zg2 w (!(na==nb)) (m+n+1) (val la*val lb) (ea+eb) r w'∧Ext w w':=by
 have HA:=Lib.hid ha;have HB:=Lib.hid hb;have HM:=Lib.hid hm;have HN:=Lib.hid hn;clear ha hb hm hn;have hmk:=zgk (m+n+1) (by omega);rw[show(((m+n+1:Nat)):Int)=(m:Int)+(n:Int)+1 by omega] at hmk;go_enter func185,ntmps185;go_upto_region 1 with fail;refine zH λW hW=>?_;have a0:W.cell? ⟨w.heap.size,0,none⟩=some (.bool na):=by rw[hW];go_simp
 have a1:W.cell? ⟨w.heap.size,1,none⟩=some (.slice A m ca):=by rw[hW];go_simp
 have a2:W.cell? ⟨w.heap.size,2,none⟩=some (.int .i64 ea):=by rw[hW];go_simp
 have b0:W.cell? ⟨w.heap.size+1,0,none⟩=some (.bool nb):=by rw[hW];go_simp
 have b1:W.cell? ⟨w.heap.size+1,1,none⟩=some (.slice B n cb):=by rw[hW];go_simp
 have b2:W.cell? ⟨w.heap.size+1,2,none⟩=some (.int .i64 eb):=by rw[hW];go_simp
 have r0:W.cell? ⟨w.heap.size+1+1,0,none⟩=some (.bool false):=by rw[hW];go_simp
 have r1:W.cell? ⟨w.heap.size+1+1,1,none⟩=some (.slice none 0 0):=by rw[hW];go_simp
 have r2:W.cell? ⟨w.heap.size+1+1,2,none⟩=some (.int .i64 0):=by rw[hW];go_simp
 have q0:W.frozen? ⟨w.heap.size+1+1,0,none⟩=false:=by rw[hW];go_simp
 have q1:W.frozen? ⟨w.heap.size+1+1,1,none⟩=false:=by rw[hW];go_simp
 have q2:W.frozen? ⟨w.heap.size+1+1,2,none⟩=false:=by rw[hW];go_simp
 have hz:w.heap.size+1+1<W.heap.size:=by rw[hW];simp;try omega
 have hz1:w.heap.size+1<W.heap.size:=by omega
 have hz0:w.heap.size<W.heap.size:=by omega
 have hxW:Ext w W:=by rw[hW];exact by simp[go_sem]
 clear hW;have HX:Hid (Rd 0 W A (i6 la)):=HA.out.ext hxW;have HY:Hid (Rd 0 W B (i6 lb)):=HB.out.ext hxW;have HS:Hid (TSt W (m+n+1) (m+n) (List.replicate (m+n+1) 0) (W.alloc (.cells (madeCells #[.int .i64 0] (m+n+1)) 3))):=⟨zhB (k:=.i64) (ty:=3) (w:=W) (m+n+1) rfl (Nat.le_refl _),by simp,AllD.rep _ _ (by omega),λp h1 h2=>by rw[List.getElem?_replicate,if_pos h2],(Ext.refl _).alloc _⟩;go_wp2;go_loopw [6] (λi wr=>∃ (j:Nat) (O:List Nat),j<=m∧i = .int .i64 ((j:Int)-1)∧Hid (TSt W (m+n+1) j O wr)∧Hid (val O=val (la.drop j)*val lb)) (λi _=>((intOf i)+1).toNat)
 case atStart=>
  refine⟨m,_,Nat.le_refl _,by go_num,⟨HS.out.out,HS.out.len,HS.out.all,λp h1 h2=>HS.out.zer p (by omega) h2,HS.out.ext⟩,?_⟩;show _=_;rw[val_rep0,List.drop_eq_nil_of_le (by rw[HM.out];exact Nat.le_refl _),val_nil,Nat.zero_mul]
 case round=>
  obtain⟨j,O,hj,rfl,H,HV⟩:=hrel;have hxr:=H.out.ext;have hsz:=hxr.size;have a0':=hxr.cell_some a0;have a1':=hxr.cell_some a1;have a2':=hxr.cell_some a2;have b0':=hxr.cell_some b0;have b1':=hxr.cell_some b1;have b2':=hxr.cell_some b2;cases j with
  | zero=>
   have r0':=hxr.cell_some r0;have r1':=hxr.cell_some r1;have r2':=hxr.cell_some r2;have q0':=(hxr.frozen (p:=⟨w.heap.size+1+1,0,none⟩) (by show w.heap.size+1+1<_;omega)).trans q0;have q1':=(hxr.frozen (p:=⟨w.heap.size+1+1,1,none⟩) (by show w.heap.size+1+1<_;omega)).trans q1;have q2':=(hxr.frozen (p:=⟨w.heap.size+1+1,2,none⟩) (by show w.heap.size+1+1<_;omega)).trans q2;have hz':w.heap.size+1+1<wr.heap.size:=by omega
   go_wp2;refine bodyPost_ret (v:=zc2 (!(na==nb)) (some ⟨W.heap.size,0,none⟩) (m+n+1) (m+n+1) (ea+eb)) (by simp[results,results185,go_sem,hz',r0',r1',r2']) rfl ⟨⟨_,_,O,rfl,?_,H.out.len,H.out.all,?_,Nat.le_refl _⟩,?_⟩
   ·exact(((H.out.out.rd.set_low _ hz).set_low _ hz).set_low _ hz).mono (by omega)
   ·have:=HV.out;rw[List.drop_zero] at this;exact this
   ·exact((((hxW.trans hxr).set _ (by show w.heap.size<=w.heap.size+1+1;omega)).set _ (by show w.heap.size<=w.heap.size+1+1;omega)).set _ (by show w.heap.size<=w.heap.size+1+1;omega))
  | succ i=>
   have hiM:i<m:=by omega
   obtain⟨x,hxi⟩:∃ x,la[i]? = some x:=⟨la[i]'(by have:=HM.out;omega),by rw[List.getElem?_eq_getElem]⟩;have hx10:=hda.at hxi;have hji:(((i+1:Nat):Int)-1)=(i:Int):=by omega
   rw[hji];obtain⟨ba,oa,hAe,_,hcx⟩:=Rd.at_ HX.out hxi;have HXI:=Lib.hid hxi;clear hxi;go_wp2;go_loopw [7,8] (λc k wq=>∃ (q cc:Nat) (O':List Nat),q<=n∧cc<=9∧k = .int .i64 ((q:Int)-1)∧c = .int .i64 (cc:Int)∧Hid (TSt W (m+n+1) (i+1) O' wq)∧Hid (val O'+cc*T (m-(i+1)+(n-q))=val O+x*val (lb.drop q)*T (m-(i+1)))) (λ_ k _=>((intOf k)+1).toNat)
   case atStart=>
    refine⟨n,0,O,Nat.le_refl _,by omega,by go_num,rfl,H,?_⟩;show _=_;rw[List.drop_eq_nil_of_le (by rw[HN.out];exact Nat.le_refl _),val_nil];simp
   case round=>
    obtain⟨q,cc,O',hq,hcc,rfl,rfl,H',HV'⟩:=hrel;have hxq:=H'.out.ext;have hszq:=hxq.size;have a1q:=hxq.cell_some a1;have b1q:=hxq.cell_some b1;clear a0' a1' a2' b0' b1' b2';cases q with
    | zero=>
     obtain⟨o0,o1⟩:=H'.out.at (H'.out.zer (i+1) (Nat.le_refl _) (by omega));have HN2:=Lib.hid (H'.out.set (d:=cc) (p:=i+1) (by omega) (by omega) i (by omega) (by omega));have hvs:=val_set cc (H'.out.zer (i+1) (Nat.le_refl _) (by omega));have HVN:Hid (val (O'.set (i+1) cc)=val (la.drop i)*val lb):=by
      show _=_;have h1:=HV'.out;rw[List.drop_zero,Nat.sub_zero,HV.out] at h1;rw[H'.out.len,show m+n+1-1-(i+1)=m-(i+1)+n by omega] at hvs;rw[drop_at HXI.out,val_cons,List.length_drop,HM.out,Nat.add_mul];have h2:x*T (m-(i+1))*val lb=x*val lb*T (m-(i+1)):=by rw[Nat.mul_assoc,Nat.mul_comm (T _),<-Nat.mul_assoc]
      omega
     go_wp2;exact⟨⟨i,_,by omega,by go_num,HN2,HVN⟩,by simp[intOf]⟩
    | succ k=>
     have hkN:k<n:=by omega
     obtain⟨y,hyk⟩:∃ y,lb[k]? = some y:=⟨lb[k]'(by have:=HN.out;omega),by rw[List.getElem?_eq_getElem]⟩;have hy10:=hdb.at hyk;obtain⟨bb,ob,hBe,_,hcy⟩:=Rd.at_ HY.out hyk;obtain⟨o,hok⟩:∃ o,O'[i+k+2]? = some o:=⟨O'[i+k+2]'(by have:=H'.out.len;omega),by rw[List.getElem?_eq_getElem]⟩;have ho10:=H'.out.all.at hok;obtain⟨o0,o1⟩:=H'.out.at hok;have HST:=Lib.hid (zn5 (V:=val O) (A:=x) (s:=m-(i+1)) (n:=n) (q:=k) (c:=cc) (by rw[H'.out.len];omega) hok hyk HN.out HV'.out);have hxy:x*y<=81:=Nat.mul_le_mul (show x<=9 by omega) (show y<=9 by omega);have HSE:=Lib.hid (λd (hd:d<10)=>H'.out.set (d:=d) (p:=i+k+2) hd (by omega) (i+1) (Nat.le_refl _) (by omega));have hcxq:=hxq.cell_some hcx;have hcyq:=hxq.cell_some hcy;rw[hAe] at a1q;rw[hBe] at b1q;have hki:(((k+1:Nat):Int)-1)=(k:Int):=by omega
     rw[hki];obtain⟨ik,hik⟩:∃ ik:Nat,(i:Int)+(k:Int)=(ik:Int):=⟨i+k,by omega⟩;have hpp:((ik:Int)+2)=((i+k+2:Nat):Int):=by omega
     have hikw:IntKind.i64.wrap (ik:Int)=(ik:Int):=zaD (by omega) (by omega);have hppw:IntKind.i64.wrap ((i+k+2:Nat):Int)=((i+k+2:Nat):Int):=zaD (by omega) (by omega);have hxyw:IntKind.i64.wrap ((x*y:Nat):Int)=((x*y:Nat):Int):=zaD (by omega) (by omega);have hpL:i+k+2<m+n+1:=by omega
     have hpLi:((i+k+2:Nat):Int)<(m:Int)+(n:Int)+1:=by omega
     have hxyi:(x:Int)*(y:Int)=((x*y:Nat):Int):=by rw[Int.natCast_mul]
     generalize hXY:x*y=xy at *;have t1:((o:Int)+(xy:Int)+(cc:Int))%10=(((o+xy+cc)%10:Nat):Int):=rfl;have t3:((o:Int)+(xy:Int)+(cc:Int)).tmod 10=(((o+xy+cc)%10:Nat):Int):=rfl;have t2:((o:Int)+(xy:Int)+(cc:Int)).tdiv 10=(((o+xy+cc)/10:Nat):Int):=rfl;have hd1:(o+xy+cc)%10<10:=by omega
     have hd2:(o+xy+cc)/10<=9:=by omega
     have HSD:=Lib.hid (HSE.out _ hd1);have l1:=za hcxq;have l2:=za hcyq;have l3:=za o0;simp only at l1 l2 l3;have l4:w.heap.size<wr.heap.size:=by omega
     have l5:w.heap.size+1<wr.heap.size:=by omega
     clear hok hyk HSE;generalize i+k+2=p at *;generalize (o+xy+cc)%10=dg at *;generalize (o+xy+cc)/10=c2 at *;go_wp2;refine plP [(0,0),(1,0),(2,0),(3,0),(4,0),(5,0),(6,0),(7,0),(8,0),(9,0),(10,0),(11,0),(12,0),(13,0),(14,0),(15,0),(16,0),(17,0),(18,0),(19,0),(20,0),(21,0)] [] (by kernel_rfl) (λ_ _ d _ _ h=>by cases d <;> exact h) ?_;iterate 22(apply rdP rfl rfl;(intros;go_simp;first | done | rfl);try simp only[zq])
     refine zi ?_;go_wp2;refine⟨⟨k,c2,_,by omega,hd2,by go_num,by rw[t2],HSD.out.drew,HST⟩,by simp[intOf]⟩
theorem ztW (ma mb):sg (ngB ma mb) (ma.natAbs*mb.natAbs)=ma*mb:=by
 unfold ngB;have h:=sg_nat ma;have h':=sg_nat mb;cases ha:decide (ma<0) <;> cases hb:decide (mb<0) <;> rw[ha] at h <;> rw[hb] at h' <;> simp only[sg] at * <;> (conv=>rhs;rw[<-h,<-h']) <;> simp[Int.neg_mul,Int.mul_neg]
theorem zgl (ma ea mb eb w) (hma:I64 ma) (hmb:I64 mb) :
  Tl prog 132 #[NV ma ea,NV mb eb] w (rnV (mulS ma ea mb eb)):=by
 by_cases h1:Rt ma ea
 ·have r1:=zD h1;by_cases h2:Rt mb eb
  ·have r2:=zD h2;have hs:mulS ma ea mb eb=rnd (!(decide (ma<0)==decide (mb<0))) (ma.natAbs*mb.natAbs) false (ea+eb):=by
    unfold mulS;rw[if_pos ⟨h1,h2⟩,<-ztW,<-rnd_sg];rfl
   rw[hs];obtain⟨b1,b2,b3⟩:=zac h1;obtain⟨b4,b5,b6⟩:=zac h2;have hT15:T 15=1000000000000000:=by decide
   have n1:nd ma.natAbs<=15:=(nd_le_iff _ _).2 (by omega);have n2:nd mb.natAbs<=15:=(nd_le_iff _ _).2 (by omega);have hof1:=λW=>zdn ma ea W hma;have hof2:=λW=>zdn mb eb W hmb;have hpl:=λA B ca cb W h3 h4=>zpl (decide (ma<0)) (decide (mb<0)) A B ca cb (nd ma.natAbs) (nd mb.natAbs) (dig ma.natAbs) (dig mb.natAbs) ea eb W h3 h4 (dig_length _) (dig_length _) (by omega) (by omega) (dig_all _) (dig_all _) (by omega) (by omega);simp only[val_dig] at hpl;have hL:nd ma.natAbs+nd mb.natAbs+1<=1000:=by omega
   have hnr:=fun(A:Option Addr) (cap:Nat) (l:List Nat) (W:World) (a1:l.length=nd ma.natAbs+nd mb.natAbs+1) (a2:Rd 0 W A (i6 l)) (a3:nd ma.natAbs+nd mb.natAbs+1<=cap) (a4:AllD l) (a5:val l=ma.natAbs*mb.natAbs)=>zcm 0 (!(decide (ma<0)==decide (mb<0))) A (nd ma.natAbs+nd mb.natAbs+1) cap l (ma.natAbs*mb.natAbs) (ea+eb) false W a1 a2 a3 hL a4 a5 (by omega) (Nat.zero_le _);generalize rnd (!(decide (ma<0)==decide (mb<0))) (ma.natAbs*mb.natAbs) false (ea+eb)=R at *;generalize nd ma.natAbs+nd mb.natAbs+1=L at *;generalize ma.natAbs*mb.natAbs=P at *;clear h1 h2 n1 n2 hT15 hs;generalize ma.natAbs=Na at *;generalize mb.natAbs=Nb at *;go_enter func132,ntmps132;go_wp2_with (go_at_call 125;with_reducible refine aM (zy _ _ _ (by assumption)) λosr dr=>?_);refine plP [(0,0),(2,0),(1,1),(3,1),(4,1),(5,1),(6,0),(7,0),(8,2),(9,2)] [8,9] (by kernel_rfl) (λ_ _ d _ _ h=>by cases d <;> exact h) ?_;iterate 2(apply rdP rfl rfl;(intros;go_simp;first | done | rfl);try simp only[zq])
   (refine zg rfl ?_ (λK hK=>?_);rfl;go_simp;(go_at_call 139;(with_reducible refine(hof1 _).mono ?_);rintro e w' ⟨A1,c1,rfl,hrd1,hcp1,hx⟩;obtain⟨os1,d1,rfl⟩:=hx.more;have hrd1:=hrd1.mono (Nat.zero_le _);(try simp only[zc,zh,zj,Array.append_assoc] at hrd1));refine hK _ _ ?_ ?_;(simp[go_sem]))
   try simp only[zq]
   (refine zg rfl ?_ (λK hK=>?_);rfl;go_simp;(go_at_call 139;(with_reducible refine(hof2 _).mono ?_);rintro e w' ⟨A2,c2,rfl,hrd2,hcp2,hx⟩;obtain⟨os2,d2,rfl⟩:=hx.more;have hrd2:=hrd2.mono (Nat.zero_le _);(try simp only[zc,zh,zj,Array.append_assoc] at hrd2));refine hK _ _ ?_ ?_;(simp[go_sem]))
   try simp only[zq]
   (refine zg rfl ?_ (λK hK=>?_);rfl;go_simp;(go_at_call 185;(with_reducible refine(hpl _ _ _ _ _ (Rd.ext hrd1 (by(try simp only[zc,zh,zj,Array.append_assoc]);repeat(first | (with_reducible (first | exact Ext.refl _ | exact zcD _ _ _ _ | exact za9 _ _ _ _ _ | exact zck _ _ _ _ _ _ | exact zcl _ _ _ _ _ _ _)) | ((with_reducible refine zaF ⟨_,?_⟩);(try simp only[Array.append_assoc]);rfl) | (with_reducible (first | apply Ext.drew | apply Ext.alloc | apply Ext.more_))))) (Rd.ext hrd2 (by(try simp only[zc,zh,zj,Array.append_assoc]);repeat(first | (with_reducible (first | exact Ext.refl _ | exact zcD _ _ _ _ | exact za9 _ _ _ _ _ | exact zck _ _ _ _ _ _ | exact zcl _ _ _ _ _ _ _)) | ((with_reducible refine zaF ⟨_,?_⟩);(try simp only[Array.append_assoc]);rfl) | (with_reducible (first | apply Ext.drew | apply Ext.alloc | apply Ext.more_)))))).mono ?_);rintro e w' ⟨⟨A3,c3,X3,rfl,hrx3,hn3,ha3,hv3,hc3⟩,hx⟩;obtain⟨os3,d3,rfl⟩:=hx.more;(try simp only[zc,zh,zj,Array.append_assoc] at hrx3));refine hK _ _ ?_ ?_;(simp[go_sem]))
   try simp only[zq]
   (refine zg rfl ?_ (λK hK=>?_);rfl;go_simp;(go_at_call 143;with_reducible refine aM (hnr _ _ _ _ hn3 (Rd.mono hrx3 (Nat.zero_le _)) hc3 ha3 hv3) λos4 d4=>?_);refine hK _ _ ?_ ?_;(simp[go_sem]))
   try simp only[zq]
   iterate 2(apply rdP rfl rfl;(intros;go_simp;first | done | rfl);try simp only[zq])
   (refine zU rfl ?_ (λK hK=>?_);rfl;go_simp;refine hK _ _ ?_)
   try simp only[Act.put]
   (refine zU rfl ?_ (λK hK=>?_);rfl;go_simp;refine hK _ _ ?_)
   try simp only[zq]
   refine zi ?_;go_wp2;exact rct rfl rfl (by simp[go_sem]) ⟨rfl,by simp[go_sem]⟩
  ·have r2:=zae h2;have hs:mulS ma ea mb eb=none:=by unfold mulS;rw[if_neg (λh=>h2 h.2)]
   rw[hs];clear h1 h2 hs;go_enter func132,ntmps132;go_wp2_with (go_at_call 125;with_reducible refine aM (zy _ _ _ (by assumption)) λosr dr=>?_);exact rct (v:=NV 0 0) rfl rfl (by simp[go_sem]) ⟨rfl,by simp[go_sem]⟩
 ·have r1:=zae h1;have hs:mulS ma ea mb eb=none:=by unfold mulS;rw[if_neg (λh=>h1 h.1)]
  rw[hs];clear h1 hs;go_enter func132,ntmps132;go_wp2_with (go_at_call 125;with_reducible refine aM (zy _ _ _ (by assumption)) λosr dr=>?_);exact rct (v:=NV 0 0) rfl rfl (by simp[go_sem]) ⟨rfl,by simp[go_sem]⟩
theorem zpm {v x Q} (hQ:0<Q) (hx:x<10):(10*v+x)/Q=10*(v/Q)+(10*(v%Q)+x)/Q∧(10*v+x)%Q=(10*(v%Q)+x)%Q∧(10*(v%Q)+x)/Q<10:=by
 have h2:=Nat.div_add_mod v Q;have h3:=Nat.mod_lt v hQ;generalize v/Q=q at *;generalize v%Q=r at *;have h4:10*v+x=Q*(10*q)+(10*r+x):=by rw[<-h2,Nat.mul_add,Nat.mul_left_comm];omega
 refine⟨by rw[h4,Nat.mul_add_div hQ],by rw[h4,Nat.mul_add_mod],?_⟩;rw[Nat.div_lt_iff_lt_mul hQ];omega
def zlk:Value->Option Addr
 | .slice A _ _=>A
 | _=>none
def zpn:Value->Nat
 | .slice _ _ c=>c
 | _=>0
structure LSt (W:World) (X:List Nat) (Q i r:Nat) (v:Value) (O:List Nat) (wr:World):Prop where
 own:wr.ownsRow W.heap.size 3 1 v O.length (i6 O)
 all:AllD O
 len:O.length=i
 value:val O=val (X.take i)/Q
 rest:r=val (X.take i)%Q
 ext:Ext W wr
theorem zrw (ma ea mb eb w) (h1:Rt ma ea) (h2:Rt mb eb) (h3:mb≠0) :
  Tl prog 133 #[NV ma ea,NV mb eb] w (rnV (divR (ngB ma mb) ma.natAbs mb.natAbs (ea-eb))):=by
 obtain⟨b1,b2,b3⟩:=zac h1;obtain⟨b4,b5,b6⟩:=zac h2;have r1:=zD h1;have r2:=zD h2;have hma:I64 ma:=by unfold I64;omega
 have hmb:I64 mb:=by unfold I64;omega
 have h3':(mb==0)=false:=by simp[h3]
 have hQ:0<mb.natAbs:=by omega
 have hT15:T 15=1000000000000000:=by decide
 have n1:nd ma.natAbs<=15:=(nd_le_iff _ _).2 (by omega);have hdi:=λW=>zju ma W hma;have hwi:=λA c W h=>zib A (nd ma.natAbs) c 40 (dig ma.natAbs) W (dig_length _) h (by omega);simp only[show((40:Nat):Int)=40 from rfl] at hwi;have hXl:(dig ma.natAbs++List.replicate 40 0).length=nd ma.natAbs+40:=by simp[dig_length]
 have hXv:val (dig ma.natAbs++List.replicate 40 0)=ma.natAbs*T 40:=by rw[zdP,val_dig]
 have hXa:AllD (dig ma.natAbs++List.replicate 40 0):=(dig_all _).append (AllD.rep _ _ (by omega));generalize dig ma.natAbs++List.replicate 40 0=X at *;unfold divR ngB;have hpq:∀ Q:Nat,mb.natAbs=Q->(mb<0->-mb=(Q:Int))∧(0<=mb->mb=(Q:Int)):=by intro Q hq;omega
 generalize ma.natAbs*T 40=PT at *;generalize hLn:nd ma.natAbs+40=Ln at *;have hLn2:Ln<=100:=by omega
 obtain⟨hp1,hp2⟩:=hpq _ rfl;generalize mb.natAbs=Q at *;clear hpq h1 h2 h3 hT15 hLn;generalize hRR:rnd (!(decide (ma<0)==decide (mb<0))) (PT/Q) (decide (PT%Q≠0)) (ea-eb-40)=R;have HRR:=Lib.hid hRR;have HXL:=Lib.hid hXl;have HXV:=Lib.hid hXv;have HXA:=Lib.hid hXa;have HP1:=Lib.hid hp1;have HP2:=Lib.hid hp2;clear hRR hXl hXv hXa hp1 hp2;have hQ0:((Q:Int)==0)=false:=by simp;omega
 have hQ1:(Q==0)=false:=by simp;omega
 have hQne:¬ Q=0:=by omega
 obtain⟨i0,hi,hz0',hz1',hz2'⟩:=info_parts zdd;go_enter func133,ntmps133;go_upto_region 3 with(go_at_call 125;with_reducible refine aM (zy _ _ _ (by assumption)) λosr dr=>?_);refine zH λW hW=>?_;have c0:W.cell? ⟨w.heap.size,0,none⟩=some (.int .i64 ma):=by rw[hW];go_simp
 have c1:W.cell? ⟨w.heap.size,1,none⟩=some (.int .i64 ea):=by rw[hW];go_simp
 have c2:W.cell? ⟨w.heap.size+1,0,none⟩=some (.int .i64 mb):=by rw[hW];go_simp
 have c3:W.cell? ⟨w.heap.size+1,1,none⟩=some (.int .i64 eb):=by rw[hW];go_simp
 have c4:W.cell? ⟨w.heap.size+1+1,0,none⟩=some (.int .i64 0):=by rw[hW];go_simp
 have c5:W.cell? ⟨w.heap.size+1+1,1,none⟩=some (.int .i64 0):=by rw[hW];go_simp
 have f4:W.frozen? ⟨w.heap.size+1+1,0,none⟩=false:=by rw[hW];go_simp
 have f5:W.frozen? ⟨w.heap.size+1+1,1,none⟩=false:=by rw[hW];go_simp
 have hz:w.heap.size+1+1<W.heap.size:=by rw[hW];simp;try omega
 have hz1:w.heap.size+1<W.heap.size:=by omega
 have hz0:w.heap.size<W.heap.size:=by omega
 have hxW:Ext w W:=by rw[hW];exact by simp[go_sem]
 clear hW;go_upto_if 28 with fail
 go_cut [6] (λs6 wx=>s6 = .int .i64 (Q:Int)∧wx=W)
 case first=>
  by_cases hng:mb<0
  ·have HE:=Lib.hid (HP1.out hng);have w1:wrap64 (-mb)=-mb:=by have:=HP1.out hng;exact IntWalk.wrap64_in _ (by omega)
   go_wp2;go_meet;exact⟨by first | rw[w1,HE.out] | rw[HE.out],rfl⟩
  ·have HE:=Lib.hid (HP2.out (by omega));go_wp2;go_meet;exact⟨by rw[<-HE.out],rfl⟩
 case rest=>
 obtain⟨rfl,rfl⟩:=hcut;go_upto_region 9 with(first | (go_at_call 187;(with_reducible refine(hdi _).mono ?_);rintro e w' ⟨A1,k1,rfl,hr1,hk1,hx1⟩;obtain⟨os1,d1,rfl⟩:=hx1.more) | (go_at_call 186;(with_reducible refine(hwi _ _ _ (Rd.mono hr1 (Nat.zero_le _))).mono ?_);rintro e w' ⟨v2,rfl,ho2,hx2⟩;obtain⟨os2,d2,rfl⟩:=hx2.more));refine zH λW2 hW2=>?_;have hx12:Ext wc W2:=by rw[hW2];exact by simp[go_sem]
 have hrx:Rd 0 W2 (zlk v2) (i6 X)∧v2 = .slice (zlk v2) Ln (zpn v2):=by
  obtain⟨A,c,rfl,hd,_⟩:=Dg.of_own (l:=X) (k:=.i64) ho2;refine⟨by rw[hW2,<-zc];exact hd.rd.mono (Nat.zero_le _),by rw[HXL.out];rfl⟩
 clear hW2 ho2 hx1 hx2 hr1 hdi hwi;obtain⟨hrx,hv2⟩:=hrx;generalize zlk v2=AX at *;generalize zpn v2=CX at *;subst hv2;have HRX:=Lib.hid hrx;clear hrx;have HL0:Hid (LSt W2 X Q 0 0 (.slice none 0 0) [] W2):=⟨World.ownsRow_nil _ _ _ _,AllD.nil,rfl,by simp[val_nil],by simp[val_nil],Ext.refl _⟩;have c0:=hx12.cell_some c0;have c1:=hx12.cell_some c1;have c2:=hx12.cell_some c2;have c3:=hx12.cell_some c3;have c4:=hx12.cell_some c4;have c5:=hx12.cell_some c5;have f4:=(hx12.frozen (p:=⟨w.heap.size+1+1,0,none⟩) hz).trans f4;have f5:=(hx12.frozen (p:=⟨w.heap.size+1+1,1,none⟩) hz).trans f5;have hs12:=hx12.size;have hz:w.heap.size+1+1<W2.heap.size:=by omega
 have hz1:w.heap.size+1<W2.heap.size:=by omega
 have hz0:w.heap.size<W2.heap.size:=by omega
 have hxW:=hxW.trans hx12;go_wp2;go_loopw [8,9,10] (λa v i wr=>∃ (j r:Nat) (O:List Nat),j<=Ln∧r<Q∧i = .int .i64 (j:Int)∧a = .int .i64 (r:Int)∧Hid (LSt W2 X Q j r v O wr)) (λ_ _ i _=>Ln-(intOf i).toNat)
 case atStart=>exact⟨0,0,[],Nat.zero_le _,hQ,rfl,rfl,HL0⟩
 case round=>
  obtain⟨j,r,O,hj,hr,rfl,rfl,H⟩:=hrel;have hxr:=H.out.ext;have hsz:=hxr.size;have hOl:=H.out.len;by_cases hlt:j<Ln
  ·obtain⟨x,hxj⟩:∃ x,X[j]? = some x:=⟨X[j]'(by have:=HXL.out;omega),by rw[List.getElem?_eq_getElem]⟩;have hx10:=HXA.out.at hxj;obtain⟨bx,ox,rfl,_,hcx⟩:=Rd.at_ (HRX.out.ext hxr) hxj;have hst:=zpm (v:=val (X.take j)) (x:=x) hQ hx10;rw[<-H.out.rest,<-H.out.value,<-val_snoc,<-zaJ hxj] at hst;have HST:=Lib.hid hst;clear hst hxj;have t1:(10:Int)*(r:Int)+(x:Int)=((10*r+x:Nat):Int):=by omega
   have hnb:10*r+x<100000000000000000:=by omega
   have hd10:(10*r+x)/Q<10:=HST.out.2.2;have hr2:(10*r+x)%Q<Q:=Nat.mod_lt _ hQ;generalize 10*r+x=nn at *;have t2:(nn:Int).tdiv (Q:Int)=((nn/Q:Nat):Int):=rfl;have t3:(nn:Int).tmod (Q:Int)=((nn%Q:Nat):Int):=rfl;have t2':(nn:Int)/(Q:Int)=((nn/Q:Nat):Int):=rfl;have t3':(nn:Int)%(Q:Int)=((nn%Q:Nat):Int):=rfl;generalize nn/Q=dd at *;generalize nn%Q=rr at *;have w1:IntKind.i64.wrap (nn:Int)=nn:=zaD (by omega) (by omega);have w2:IntKind.i64.wrap (dd:Int)=dd:=zaD (by omega) (by omega);have w3:IntKind.i64.wrap (rr:Int)=rr:=zaD (by omega) (by omega);go_wp2_with (at_builtin;refine wpList_append_own _ rfl _ _ _ rfl W2.heap.size 3 i0 (.int .i64 0) 1 8 Tryz.underlying118 hi hz0' hz1' hz2' rfl (by decide) _ O.length (i6 O) rfl (zeK H.out.own _) _ 1 1 [.int .i64 (dd:Int)] rfl rfl (Rd.one_ _ _ (by simp)).add (ze7 [dd]) (by simp[maxLen];omega) (by omega) (by simp;omega) ?_;intro v3 w3' ho3 hg3 _);have hx3:=zde (hxr.alloc _) (zeK H.out.own _) hg3;refine⟨⟨j+1,rr,O++[dd],by omega,hr2,by go_num,rfl,⟨?_,H.out.all.append (AllD.cons hd10 AllD.nil),by simp;omega,?_,?_,hx3⟩⟩,by simp[intOf];omega⟩
   ·unfold i6;rw[List.map_append];simpa using ho3
   ·rw[val_snoc];exact HST.out.1.symm
   ·exact HST.out.2.1.symm
  ·obtain rfl:j=Ln:=by omega
   obtain⟨os,d,rfl⟩:=hxr.more;obtain⟨Ao,co,rfl,hdo,_⟩:=Dg.of_own (l:=O) (k:=.i64) H.out.own;have hNv:val O=PT/Q:=by
    have:=H.out.value;rw[List.take_of_length_le (by have:=HXL.out;omega),HXV.out] at this;exact this
   have hNr:r=PT%Q:=by
    have:=H.out.rest;rw[List.take_of_length_le (by have:=HXL.out;omega),HXV.out] at this;exact this
   have hnr:=zcm 0 (!(decide (ma<0)==decide (mb<0))) Ao O.length co O (PT/Q) (ea-eb-40) (decide (PT%Q≠0)) (more W2 os d) rfl (hdo.rd.mono (Nat.zero_le _)) hdo.1 (by omega) H.out.all hNv (by omega) (Nat.zero_le _);rw[HRR.out,<-hNr,hOl] at hnr;have hb1:(!((r:Int)==0))=decide (r≠0):=by by_cases h0:r=0 <;> simp[h0]
   have hb2:((r:Int) != 0)=decide (r≠0):=by by_cases h0:r=0 <;> simp[h0]
   have hb3:(!(r==0))=decide (r≠0):=by by_cases h0:r=0 <;> simp[h0]
   generalize decide (r≠0)=mm at *;have w1:IntKind.i64.wrap (ea-eb)=ea-eb:=zaD (by omega) (by omega);have w2:IntKind.i64.wrap (ea-eb-40)=ea-eb-40:=zaD (by omega) (by omega);clear hNv hNr hdo H;go_wp2_with (go_at_call 143;(with_reducible refine hnr.mono ?_);rintro e w' ⟨rfl,hx⟩;obtain⟨os9,d9,rfl⟩:=hx.more);exact bodyPost_ret (v:=rnV R) (by simp[results,results133,go_sem,c4,c5,hz]) rfl ⟨rfl,((hxW.set _ (by show w.heap.size<=w.heap.size+1+1;omega)).set _ (by show w.heap.size<=w.heap.size+1+1;omega)).more_ _ _⟩
theorem zfb (ma ea mb eb w) (hma:I64 ma) (hmb:I64 mb) :
  Tl prog 133 #[NV ma ea,NV mb eb] w (rnV (divS ma ea mb eb)):=by
 unfold divS;by_cases h1:Rt ma ea
 ·have r1:=zD h1;by_cases h2:Rt mb eb
  ·have r2:=zD h2;by_cases h3:mb=0
   ·rw[if_neg (λh=>h.2.2 h3)];have h4:(mb==0)=true:=by simp[h3]
    clear h1 h2 h3;go_enter func133,ntmps133;go_wp2_with (go_at_call 125;with_reducible refine aM (zy _ _ _ (by assumption)) λosr dr=>?_);exact rct (v:=NV 0 0) rfl rfl (by simp[go_sem]) ⟨rfl,by simp[go_sem]⟩
   ·rw[if_pos ⟨h1,h2,h3⟩];exact zrw ma ea mb eb w h1 h2 h3
  ·have r2:=zae h2;rw[if_neg (λh=>h2 h.2.1)];clear h1 h2;go_enter func133,ntmps133;go_wp2_with (go_at_call 125;with_reducible refine aM (zy _ _ _ (by assumption)) λosr dr=>?_);exact rct (v:=NV 0 0) rfl rfl (by simp[go_sem]) ⟨rfl,by simp[go_sem]⟩
 ·have r1:=zae h1;rw[if_neg (λh=>h1 h.1)];clear h1;go_enter func133,ntmps133;go_wp2_with (go_at_call 125;with_reducible refine aM (zy _ _ _ (by assumption)) λosr dr=>?_);exact rct (v:=NV 0 0) rfl rfl (by simp[go_sem]) ⟨rfl,by simp[go_sem]⟩
end Go.Proofs.YtinjdacijiohiaaGreatDoor
