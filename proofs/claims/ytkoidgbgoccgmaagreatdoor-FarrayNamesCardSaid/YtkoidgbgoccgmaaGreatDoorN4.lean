/- What the rows' proofs lean on: the contracts of the functions that they reach, and plain facts (part N4). -/
import Derived.RegionTactic
import Derived.Test.YtkoidgbgoccgmaaGreatDoorN3
set_option linter.unusedSimpArgs false
set_option linter.unusedVariables false
set_option maxRecDepth 100000
set_option maxHeartbeats 4000000
namespace Go.Proofs.YtkoidgbgoccgmaaGreatDoor
open Tryz
open Go.RowKit
structure FX where
 i:Nat
 t:Nat
 ob:Obj
 yv:Nat→Value
def zbt:List FX→(Nat→Option Nat)→Act→Act
 | [],_,a=>a
 | x::fs,β,a=>match β x.i with
  | none=>zbt fs β a
  | some b=>(zbt fs β a).put (some x.t) (x.yv b)
def nx (fs:List FX) (β:Nat→Option Nat):Nat:=fs.countP fun x=>(β x.i).isNone
theorem zhL {β β':Nat→Option Nat} {a:Act} : ∀ {fs:List FX},(∀ x∈fs,β x.i=β' x.i)→zbt fs β a=zbt fs β' a
 | [],_=>rfl
 | x::fs,h=>by
  unfold zbt
  rw [h x (by simp),zhL (fs:=fs) fun y hy=>h y (by simp [hy])]
theorem zfy {β:Nat→Option Nat} {a:Act} {d:Option Tmp} {v:Value} : ∀ {fs:List FX},(∀ x∈fs,d≠some x.t)→zbt fs β (a.put d v)=(zbt fs β a).put d v
 | [],_=>rfl
 | x::fs,h=>by
  unfold zbt
  rw [zfy (fs:=fs) fun y hy=>h y (by simp [hy])]
  cases β x.i with
  | none=>rfl
  | some b=>exact Act.put_comm _ _ _ fun e he hx=>h x (by simp) (by rw [he,hx])
theorem zkn {β:Nat→Option Nat} {a:Act} {x:FX} {b:Nat} : ∀ {fs:List FX},x∈fs→(fs.map (·.i)).Nodup→(fs.map (·.t)).Nodup→β x.i=none→zbt fs (zbL β x.i b) a=(zbt fs β a).put (some x.t) (x.yv b)
 | [],h,_,_,_=>by cases h
 | y::fs,h,hn,hs,hb=>by
  simp only [List.map_cons,List.nodup_cons,List.mem_map,not_exists,not_and] at hn hs
  unfold zbt
  by_cases hxy:y.i=x.i
  ·have hyx:y=x:=by
    rcases List.mem_cons.1 h with rfl | h'
    ·rfl
    ·exact absurd hxy.symm (hn.1 x h')
   subst hyx
   have e:zbt fs (zbL β y.i b) a=zbt fs β a:=zhL fun z hz=>by
    unfold zbL;rw [if_neg (fun e=>hn.1 z hz e)]
   simp only [zbL,if_true,hb] at e ⊢
   rw [e]
  ·have hx:x∈fs:=by
    rcases List.mem_cons.1 h with rfl | h'
    ·exact absurd rfl hxy
    ·exact h'
   have e:zbL β x.i b y.i=β y.i:=by unfold zbL;rw [if_neg hxy]
   rw [e,zkn hx hn.2 hs.2 hb]
   cases β y.i with
   | none=>rfl
   | some b'=>exact Act.put_comm _ _ _ fun d hd hd'=>hs.1 x hx (by simp_all)
theorem zod {β:Nat→Option Nat} {x:FX} {b:Nat} : ∀ {fs:List FX},x∈fs→(fs.map (·.i)).Nodup→β x.i=none→nx fs (zbL β x.i b)+1=nx fs β
 | [],h,_,_=>by cases h
 | y::fs,h,hn,hb=>by
  simp only [List.map_cons,List.nodup_cons,List.mem_map,not_exists,not_and] at hn
  unfold nx
  rw [List.countP_cons,List.countP_cons]
  by_cases hxy:y.i=x.i
  ·have e:fs.countP (fun z=>(zbL β x.i b z.i).isNone)=fs.countP (fun z=>(β z.i).isNone):=by
    refine List.countP_congr fun z hz=>?_
    rw [show zbL β x.i b z.i=β z.i by unfold zbL;rw [if_neg (fun e=>hn.1 z hz (e.trans hxy.symm))]]
   rw [e,show zbL β x.i b y.i=some b by unfold zbL;rw [if_pos hxy],show β y.i=none by rw [hxy];exact hb]
   simp
  ·have hx:x∈fs:=by
    rcases List.mem_cons.1 h with rfl | h'
    ·exact absurd rfl hxy
    ·exact h'
   have ih:=zod (b:=b) hx hn.2 hb
   unfold nx at ih
   rw [show zbL β x.i b y.i=β y.i by unfold zbL;rw [if_neg hxy]]
   omega
theorem zhM {x y:FX} : ∀ {fs:List FX},(fs.map (·.i)).Nodup→x∈fs→y∈fs→x.i=y.i→x=y
 | [],_,h,_,_=>by cases h
 | z::fs,hn,hx,hy,e=>by
  simp only [List.map_cons,List.nodup_cons,List.mem_map,not_exists,not_and] at hn
  rcases List.mem_cons.1 hx with rfl | hx'
  ·rcases List.mem_cons.1 hy with rfl | hy'
   ·rfl
   ·exact absurd e.symm (hn.1 y hy')
  ·rcases List.mem_cons.1 hy with rfl | hy'
   ·exact absurd e (hn.1 x hx')
   ·exact zhM hn.2 hx' hy' e
section
variable {P:Program} {ops:Array Oper} {Q:Exit→Act→World→Prop} {tl:List Nat}
theorem zgh {j:Nat} {oj:Oper} {β:Nat→Option Nat} (hj:ops[j]? = some oj) (hsj:∀ cs b,oj.op ≠ .select cs b) (hQ:∀ c a d v w,Q (.panic c) a w→Q (.panic c) (a.put d v) w)
  {K:Act→World→Prop} {a:Act} {w:World} (h:wpOp P ops Q j K a w):∀ {fs:List FX},(∀ x∈fs,x.t ∉ oj.looksAt ops∧oj.dst≠some x.t) →
  wpOp P ops Q j (fun a' w'=>∃ a'',a'=zbt fs β a''∧K a'' w') (zbt fs β a) w
 | [],_=>wpOp_mono (fun a' w' h'=>⟨a',rfl,h'⟩) h
 | x::fs,hx=>by
  have ih:=zgh (β:=β) hj hsj hQ h (fs:=fs) fun y hy=>hx y (by simp [hy])
  unfold zbt
  cases β x.i with
  | none=>exact ih
  | some b =>
   refine wpOp_mono ?_ (zob (v:=x.yv b) hj hsj (hx x (by simp)).1 (hx x (by simp)).2 (fun c a w=>hQ c a _ _ w) ih)
   rintro a' w' ⟨a1,rfl,a2,rfl,hk⟩
   exact ⟨a2,rfl,hk⟩
theorem zeZ {S:World→Prop} {o:Oper} {v:Value} {a:Act} {β:Nat→Option Nat} (hs:∀ cs b,o.op ≠ .select cs b) (hy:YieldsIf P ops S o v a):∀ {fs:List FX},(∀ x∈fs,x.t ∉ o.looksAt ops)→YieldsIf P ops S o v (zbt fs β a)
 | [],_=>hy
 | x::fs,hx=>by
  have ih:=zeZ (β:=β) hs hy (fs:=fs) fun y hy=>hx y (by simp [hy])
  unfold zbt
  cases β x.i with
  | none=>exact ih
  | some b =>
   have h1:∀ e,(some x.t:Option Tmp)=some e→e ∉ o.looksAt ops:=fun e he=>by obtain rfl:=Option.some.inj he;exact hx x (by simp)
   exact ih.of_same (execOp_put o hs _ _ _ h1) (wanted_put o _ _ _ h1)
theorem zgW {o:Oper} {a:Act} {β:Nat→Option Nat} : ∀ {fs:List FX},(∀ x∈fs,x.t ∉ o.looksAt ops)→Region.wanted o (yielded ops (zbt fs β a).tmps)=Region.wanted o (yielded ops a.tmps)
 | [],_=>rfl
 | x::fs,hx=>by
  have ih:=zgW (a:=a) (β:=β) (fs:=fs) fun y hy=>hx y (by simp [hy])
  unfold zbt
  cases β x.i with
  | none=>exact ih
  | some b=>exact (wanted_put o _ _ _ (fun e he=>by obtain rfl:=Option.some.inj he;exact hx x (by simp))).trans ih
theorem zi2 {o:Oper} {a:Act} {β:Nat→Option Nat} (hs:∀ cs b,o.op ≠ .select cs b):∀ {fs:List FX},(∀ x∈fs,x.t ∉ o.looksAt ops)→execOp (zbt fs β a).eval o=execOp a.eval o
 | [],_=>rfl
 | x::fs,hx=>by
  have ih:=zi2 (a:=a) (β:=β) hs (fs:=fs) fun y hy=>hx y (by simp [hy])
  unfold zbt
  cases β x.i with
  | none=>exact ih
  | some b =>
   have h1:∀ e,(some x.t:Option Tmp)=some e→e ∉ o.looksAt ops:=fun e he=>by obtain rfl:=Option.some.inj he;exact hx x (by simp)
   exact (execOp_put o hs _ _ _ h1).trans ih
def ziC (ops:Array Oper) (d:Option Tmp) (a a':Act):Prop:=∀ o:Oper,(∀ cs b,o.op ≠ .select cs b)→(∀ e,d=some e→e ∉ o.looksAt ops)→execOp a'.eval o=execOp a.eval o∧Region.wanted o (yielded ops a'.tmps)=Region.wanted o (yielded ops a.tmps)
theorem zb3 {d:Option Tmp} {a:Act} {v:Value} : ziC ops d a (a.put d v):=fun o hs h=>⟨execOp_put o hs _ _ _ h,wanted_put o _ _ _ h⟩
theorem zi3 {j:Nat} {oj:Oper} (hj:ops[j]? = some oj) {K:Act→World→Prop} {a:Act} {w:World} (h:wpOp P ops Q j K a w):wpOp P ops Q j (fun a' w'=>ziC ops oj.dst a a'∧K a' w') a w:=by
 unfold wpOp at *
 simp only [hj] at *
 split
 ·rename_i hw
  simp only [hw,if_true] at h
  rcases h with h | ⟨hasks,hlets⟩
  case inr=>exact .inr ⟨hasks,hlets⟩
  refine .inl ?_
  unfold Oper.wp at *
  generalize (execOp a.eval oj).run P w=r at *
  cases r with
  | ok n w' =>
   cases n <;> simp only [Oper.upon] at h ⊢
   case value u=>exact ⟨zb3,h⟩
   case skip=>exact ⟨zb3,h⟩
   case defer f=>exact ⟨fun o hs ho=>⟨execOp_put o hs { a with defers:=f::a.defers } _ _ ho,wanted_put o { a with defers:=f::a.defers } _ _ ho⟩,h⟩
   case enter f args =>
    refine Calls.mono h fun e w'' he=>?_
    cases e with
    | returned u=>exact ⟨zb3,he⟩
    | panicked c=>exact he
    | outgrown=>exact he
   case row row args=>exact Rows.mono h fun u w'' he=>⟨zb3,he⟩
  | halt x w' =>
   cases x <;> simp only [Oper.upon] at h ⊢
   case panic u=>exact h
   all_goals exact h
 ·rename_i hw
  simp only [hw] at h
  exact ⟨zb3,h⟩
def zbz (P:Program) (ops:Array Oper) (Q:Exit→Act→World→Prop) (W0:World) (tp:List Nat):List (Nat×Nat)→List FX→List Nat→Act→(World→Prop)→Prop
 | [],_,_,a,E=>∀ w,Ext W0 w→E w→zgg P ops Q tp a w
 | (i,0)::rest,fs,bs,a,E=>∃ o v,ops[i]? = some o∧YieldsIf P ops (Ext W0) o v a∧zbz P ops Q W0 tp rest fs bs (a.put o.dst v) E
 | (i,2)::rest,fs,bs,a,E=>∃ o v,ops[i]? = some o∧YieldsIf P ops (fun _=>True) o v a∧zbz P ops Q W0 tp rest fs bs (a.put o.dst v) E
 | (_,3)::rest,fs,bs,a,E=>∃ x fs',fs=x::fs'∧∀ b,W0.heap.size≤b→b ∉ bs→(∀ w1 w2,Ext w1 w2→E w1→E w2)→∃ E':World→Prop,(∀ w1 w2,Ext w1 w2→E' w1→E' w2)∧(∀ w,Ext W0 w→E w→w.heap[b]? = some x.ob→E' w)∧zbz P ops Q W0 tp rest fs' (b::bs) (a.put (some x.t) (x.yv b)) E'
 | (i,4)::rest,fs,bs,a,E=>∃ x o,x.i=i∧ops[i]? = some o∧o.dst=some x.t∧Region.wanted o (yielded ops a.tmps)=true∧(∀ w,(execOp a.eval o).run P w = .ok (.value (x.yv w.heap.size)) (w.alloc x.ob))∧zbz P ops Q W0 tp rest (x::fs) bs a E
 | (i,5)::rest,fs,bs,a,E=>∀ w,Ext W0 w→E w→wpOp P ops Q i (fun a' w'=>Ext W0 w'∧w.heap.size≤w'.heap.size∧∃ E':World→Prop,(∀ w1 w2,Ext w1 w2→E' w1→E' w2)∧E' w'∧zbz P ops Q W0 tp rest fs bs a' E') a w
 | (i,_)::rest,fs,bs,a,E=>∀ w,Ext W0 w→E w→wpOp P ops Q i (fun a' w'=>Ext w w'∧∃ E':World→Prop,(∀ w1 w2,Ext w1 w2→E' w1→E' w2)∧E' w'∧zbz P ops Q W0 tp rest fs bs a' E') a w
def zet (ops:Array Oper) (o:Oper) (F:List Nat):Bool :=
 o.after.all (fun e=>!Region.binds .any e || !F.contains e.on) && F.all (fun k=>match ops[k]? with
  | some ok=>(match ok.dst with | some t=>!(o.looksAt ops).contains t && o.dst != some t | none=>false) && (match o.dst with | some d=>!(ok.looksAt ops).contains d | none=>true) && o.apart ops ok
  | none=>false)
def zb7 (ops:Array Oper) (tl pu:List Nat):Array Bool→List Nat→List (Nat×Nat)→Bool
 | lF,F,[]=>F.isEmpty
 | lF,F,(i,0)::rest=>Region.free .any ops lF i && (Region.ready .any ops lF).contains i && !tl.contains i && !F.contains i &&
   tl.all (fun j=>lF.getD j true || match ops[j]? with | some oj=>oj.after.any (fun e=>Region.binds .any e && zkm ops F lF i 4 e.on) | none=>true) &&
   (match ops[i]? with | some o=>zet ops o F | none=>false) && zb7 ops tl pu (lF.setIfInBounds i true) F rest
 | lF,F,(i,2)::rest=>Region.free .any ops lF i && (Region.ready .any ops lF).contains i && !tl.contains i && !F.contains i && pu.contains i &&
   (match ops[i]? with | some o=>zet ops o F | none=>false) && zb7 ops tl pu (lF.setIfInBounds i true) F rest
 | lF,F,(i,3)::rest=>(F.head? == some i) && (Region.ready .any ops lF).all (fun j=>match ops[j]? with | some oj=>oj.after.any (fun e=>Region.binds .any e && e.on == i) | none=>false) && zb7 ops tl pu lF F.tail rest
 | lF,F,(i,4)::rest=>(lF[i]? == some false) && !tl.contains i && !F.contains i &&
   (match ops[i]? with | some o=>o.after.all (fun e=>!Region.binds .any e || lF.getD e.on false) && (match o.dst with | some t=>!(o.looksAt ops).contains t | none=>false) && zet ops o F | none=>false) && zb7 ops tl pu (lF.setIfInBounds i true) (i::F) rest
 | lF,F,(i,5)::rest=>F.isEmpty && (Region.ready .any ops lF == [i]) && !tl.contains i && !pu.contains i &&
   (match ops[i]? with | some o=>zet ops o F | none=>false) && zb7 ops tl pu (lF.setIfInBounds i true) F rest
 | lF,F,(i,_)::rest=>(Region.ready .any ops lF == [i]) && !tl.contains i && !F.contains i && !pu.contains i &&
   (match ops[i]? with | some o=>zet ops o F | none=>false) && zb7 ops tl pu (lF.setIfInBounds i true) F rest
def zqv (listed:Array Bool) (pl:List (Nat×Nat)):Array Bool:=pl.foldl (fun l x=>if x.2=3 then l else l.setIfInBounds x.1 true) listed
def za9 (pl:List (Nat×Nat)):Nat:=pl.countP fun x=>x.2 != 3
theorem zfg {i k:Nat} {rest:List (Nat×Nat)} (h:k≠3):za9 ((i,k)::rest)=za9 rest+1:=by
 unfold za9;rw [List.countP_cons,if_pos (by simpa using h)]
theorem zrc {i:Nat} {rest:List (Nat×Nat)} : za9 ((i,3)::rest)=za9 rest:=by
 unfold za9;rw [List.countP_cons,if_neg (by simp),Nat.add_zero]
structure RelX (fs:List FX) (listed lF:Array Bool) (β:Nat→Option Nat):Prop where
 size:listed.size=lF.size
 main:∀ j,j ∉ fs.map (·.i)→listed[j]? = lF[j]?
 done:∀ x∈fs,listed[x.i]? = some (β x.i).isSome∧lF[x.i]? = some true
theorem RelX.step {fs:List FX} {listed lF:Array Bool} {β:Nat→Option Nat} (h:RelX fs listed lF β) {i:Nat} (hi:i ∉ fs.map (·.i)):RelX fs (listed.setIfInBounds i true) (lF.setIfInBounds i true) β:=by
 refine ⟨by simp [h.size],fun j hj=>?_,fun x hx=>?_⟩
 ·rw [Array.getElem?_setIfInBounds,Array.getElem?_setIfInBounds,h.size,h.main j hj]
 ·have hne:i≠x.i:=fun e=>hi (by rw [e];exact List.mem_map.2 ⟨x,hx,rfl⟩)
  rw [Array.getElem?_setIfInBounds_ne hne,Array.getElem?_setIfInBounds_ne hne]
  exact h.done x hx
theorem RelX.float {fs:List FX} {listed lF:Array Bool} {β:Nat→Option Nat} (h:RelX fs listed lF β) {x:FX} (hx:x∈fs) (b:Nat):RelX fs (listed.setIfInBounds x.i true) lF (zbL β x.i b):=by
 refine ⟨by simp [h.size],fun j hj=>?_,fun y hy=>?_⟩
 ·rw [Array.getElem?_setIfInBounds_ne (fun e=>hj (by rw [← e];exact List.mem_map.2 ⟨x,hx,rfl⟩))];exact h.main j hj
 ·refine ⟨?_,(h.done y hy).2⟩
  have hl:=(h.done y hy).1
  by_cases hxy:x.i=y.i
  ·rw [← hxy,Array.getElem?_setIfInBounds_self]
   have:x.i < listed.size:=by rw [hxy];exact (Array.getElem?_eq_some_iff.1 hl).1
   simp [this,zbL]
  ·rw [Array.getElem?_setIfInBounds_ne hxy,hl]
   unfold zbL;rw [if_neg (fun e=>hxy e.symm)]
theorem RelX.wait {x:FX} {fs:List FX} {listed lF:Array Bool} {β:Nat→Option Nat} (h:RelX (x::fs) listed lF β) (hb:(β x.i).isSome=true):RelX fs listed lF β:=by
 refine ⟨h.size,fun j hj=>?_,fun y hy=>h.done y (by simp [hy])⟩
 by_cases e:j=x.i
 ·subst e;rw [(h.done x (by simp)).1,(h.done x (by simp)).2,hb]
 ·exact h.main j (by simp only [List.map_cons,List.mem_cons,not_or];exact ⟨e,hj⟩)
theorem RelX.launch {x:FX} {fs:List FX} {listed lF:Array Bool} {β:Nat→Option Nat} (h:RelX fs listed lF β) (hi:x.i ∉ fs.map (·.i)) (hl:lF[x.i]? = some false) (hb:β x.i=none):RelX (x::fs) listed (lF.setIfInBounds x.i true) β:=by
 refine ⟨by simp [h.size],fun j hj=>?_,fun y hy=>?_⟩
 ·simp only [List.map_cons,List.mem_cons,not_or] at hj
  rw [Array.getElem?_setIfInBounds_ne (fun e=>hj.1 e.symm)];exact h.main j hj.2
 ·rcases List.mem_cons.1 hy with rfl | hy
  ·refine ⟨by rw [h.main _ hi,hl,hb];rfl,?_⟩
   have:=(Array.getElem?_eq_some_iff.1 hl).1
   simp [this]
  ·have hne:x.i≠y.i:=fun e=>hi (by rw [e];exact List.mem_map.2 ⟨y,hy,rfl⟩)
   refine ⟨(h.done y hy).1,?_⟩
   rw [Array.getElem?_setIfInBounds_ne hne];exact (h.done y hy).2
theorem zme {fs:List FX} {listed lF:Array Bool} {β:Nat→Option Nat} (hR:RelX fs listed lF β) {i:Nat} : ∀ (n k:Nat),zkm ops (fs.map (·.i)) lF i n k=true→dep ops listed i n k
 | 0,k,h=>by show k=i;simpa [zkm] using h
 | n+1,k,h=>by
  simp only [zkm,Bool.or_eq_true,beq_iff_eq,Bool.and_eq_true,Bool.not_eq_true'] at h
  rcases h with h | ⟨⟨hF,hun⟩,h⟩
  ·exact .inl h
  ·right
   refine ⟨by rw [zbV (hR.main k (by simpa using hF))];exact hun,?_⟩
   cases hom:ops[k]? with
   | none=>rw [hom] at h;cases h
   | some om =>
    rw [hom] at h
    obtain ⟨e',he',hb'⟩:=Array.any_eq_true'.1 h
    simp only [Bool.and_eq_true] at hb'
    exact ⟨om,rfl,e',he',hb'.1,zme hR n _ hb'.2⟩
structure FgOk (P:Program) (ops:Array Oper) (tl:List Nat) (fs:List FX) (lF:Array Bool) (a:Act):Prop where
 fl:∀ x∈fs,∃ o,ops[x.i]? = some o∧Region.wanted o (yielded ops a.tmps)=true∧o.dst=some x.t∧tl.contains x.i=false∧(∀ e∈o.after,Region.binds .any e=true→lF[e.on]? = some true∧e.on ∉ fs.map (·.i)) ∧
  (∀ y∈fs,y.t ∉ o.looksAt ops)∧∀ w,(execOp a.eval o).run P w = .ok (.value (x.yv w.heap.size)) (w.alloc x.ob)
 n1:(fs.map (·.i)).Nodup
 n2:(fs.map (·.t)).Nodup
theorem zho {o:Oper} {F:List Nat} (h:zet ops o F=true):(∀ e∈o.after,Region.binds .any e=true→e.on ∉ F)∧∀ k∈F,∀ ok,ops[k]? = some ok→∃ t,ok.dst=some t∧t ∉ o.looksAt ops∧o.dst≠some t∧(∀ d,o.dst=some d→d ∉ ok.looksAt ops)∧o.apart ops ok=true:=by
 simp only [zet,Bool.and_eq_true,List.all_eq_true,Array.all_eq_true_iff_forall_mem] at h
 refine ⟨fun e he hb hin=>?_,fun k hk ok hok=>?_⟩
 ·have:=h.1 e he
  rw [hb] at this
  simp only [Bool.not_true,Bool.false_or,Bool.not_eq_true'] at this
  exact absurd hin (by simpa using this)
 ·have:=h.2 k hk
  rw [hok] at this
  simp only [Bool.and_eq_true] at this
  obtain ⟨⟨h1,h2⟩,h3⟩:=this
  cases hd:ok.dst with
  | none=>rw [hd] at h1;cases h1
  | some t =>
   rw [hd] at h1
   simp only [Bool.and_eq_true] at h1
   refine ⟨t,rfl,by simpa using h1.1,by simpa using h1.2,fun d hd'=>?_,h3⟩
   rw [hd'] at h2
   simpa using h2
theorem FgOk.step {fs:List FX} {lF:Array Bool} {a a':Act} {i:Nat} {o:Oper} (h:FgOk P ops tl fs lF a) (hsel:Region.noSelect ops=true) (haw:zet ops o (fs.map (·.i))=true) (hs:ziC ops o.dst a a'):FgOk P ops tl fs (lF.setIfInBounds i true) a':=by
 refine ⟨fun x hx=>?_,h.n1,h.n2⟩
 obtain ⟨ox,h1,h2,h3,h4,h5,h6,h7⟩:=h.fl x hx
 obtain ⟨t,_,_,_,hd,_⟩:=(zho haw).2 x.i (List.mem_map.2 ⟨x,hx,rfl⟩) ox h1
 have hsx:=hs ox (fun cs b=>Region.noSelect_spec hsel x.i ox cs b h1) hd
 refine ⟨ox,h1,hsx.2.trans h2,h3,h4,fun e he hb=>⟨?_,(h5 e he hb).2⟩,h6,fun w=>?_⟩
 ·have:=(h5 e he hb).1
  by_cases hie:i=e.on
  ·have hlt:=(Array.getElem?_eq_some_iff.1 this).1
   subst hie
   simp [hlt]
  ·rw [Array.getElem?_setIfInBounds_ne hie];exact this
 ·rw [hsx.1]
  exact h7 w
theorem zmT {W0:World} {tp pu:List Nat} (hsel:Region.noSelect ops=true) (hQ:∀ c a d v w,Q (.panic c) (a.put d v) w→Q (.panic c) a w) (hQ':∀ c a d v w,Q (.panic c) a w→Q (.panic c) (a.put d v) w) :
  ∀ (m:Nat) (pl:List (Nat×Nat)) (fs:List FX) (bs:List Nat) (listed lF:Array Bool) (β:Nat→Option Nat) (a:Act) (E:World→Prop) (w:World),2 * pl.length+nx fs β≤m→RelX fs listed lF β→FgOk P ops tl fs lF a →
   zb7 ops tl pu lF (fs.map (·.i)) pl=true→zfe ops tl (zqv lF pl) tp=true→Ext W0 w→(∀ w1 w2,Ext w1 w2→E w1→E w2)→E w →
   (∀ x∈fs,∀ b,β x.i=some b→w.heap[b]? = some x.ob∧W0.heap.size≤b∧b ∉ bs)→(∀ x∈fs,∀ y∈fs,∀ b,β x.i=some b→β y.i=some b→x.i=y.i)→(∀ b∈bs,b < w.heap.size)→(∀ j,(∃ b,β j=some b)→lF[j]? = some true) →
   zbz P ops Q W0 tp pl fs bs a E→zdd P ops Q (Ext W0) tl pu (za9 pl+nx fs β+tp.length) listed (zbt fs β a) w:=by
 intro m
 induction m with
 | zero =>
  intro pl fs bs listed lF β a E w hm hR hok hpl htp hX hst hE hbl hinj hbs hβ h
  obtain rfl:pl=[]:=List.eq_nil_of_length_eq_zero (by omega)
  obtain rfl:fs=[]:=by simpa [zb7] using hpl
  have hl:listed=lF:=Array.ext_getElem? fun j=>hR.main j (by simp)
  subst hl
  rw [show za9 []+nx [] β+tp.length=tp.length by simp [za9,nx]]
  exact zfx tp _ _ _ htp (h w hX hE)
 | succ m ih =>
  intro pl fs bs listed lF β a E w hm hR hok hpl htp hX hst hE hbl hinj hbs hβ h
  have hal:∀ x∈fs,β x.i=none→∀ f,za9 pl+nx fs β+tp.length=f+1→wpOp P ops Q x.i (fun a' w'=>(tl.contains x.i=false→(pu.contains x.i=true→Ext W0 w)→Ext W0 w')∧zdd P ops Q (Ext W0) tl pu f (listed.setIfInBounds x.i true) a' w') (zbt fs β a) w:=by
   intro x hx hb f hf
   obtain ⟨o,ho,hg,hd,_,_,hl,hrun⟩:=hok.fl x hx
   unfold wpOp
   simp only [ho]
   rw [if_pos ((zgW hl).trans hg)]
   refine .inl ?_
   unfold Oper.wp
   rw [zi2 (fun cs b=>Region.noSelect_spec hsel x.i o cs b ho) hl,hrun w]
   have hnp:=zod (b:=w.heap.size) hx hok.n1 hb
   have hXa:Ext w (w.alloc x.ob):=(Ext.refl w).alloc _
   have hlt:∀ u∈fs,∀ b,β u.i=some b→b < w.heap.size:=fun u hu b hub=>by
    obtain ⟨h1,_⟩:=hbl u hu b hub
    rcases Nat.lt_or_ge b w.heap.size with hl | hl
    ·exact hl
    ·rw [Array.getElem?_eq_none hl] at h1;cases h1
   have key:=ih pl fs bs (listed.setIfInBounds x.i true) lF (zbL β x.i w.heap.size) a E (w.alloc x.ob) (by omega) (hR.float hx _) hok hpl htp (hX.trans hXa) hst (hst _ _ hXa hE) ?_ ?_ (fun b hb'=>by have:=hbs b hb';have:=hXa.size;omega) ?_ h
   ·rw [zkn hx hok.n1 hok.n2 hb,show za9 pl+nx fs (zbL β x.i w.heap.size)+tp.length=f by omega] at key
    simp only [Oper.upon,hd]
    exact ⟨fun _ _=>hX.trans hXa,key⟩
   ·intro y hy b hyb
    by_cases hxy:y.i=x.i
    ·have hyx:y=x:=zhM hok.n1 hy hx hxy
     subst hyx
     simp only [zbL,if_true,Option.some.injEq] at hyb
     subst hyb
     exact ⟨heap_alloc_new _ _,hX.size,fun hin=>by have:=hbs _ hin;omega⟩
    ·simp only [zbL,hxy,if_false] at hyb
     obtain ⟨h1,h2,h3⟩:=hbl y hy b hyb
     exact ⟨by rw [hXa.block (hlt y hy b hyb)];exact h1,h2,h3⟩
   ·intro y hy z hz b hyb hzb
    unfold zbL at hyb hzb
    split at hyb
    ·rename_i e1
     split at hzb
     ·rename_i e2;rw [e1,e2]
     ·have:=hlt z hz b hzb
      simp only [Option.some.injEq] at hyb
      omega
    ·split at hzb
     ·have:=hlt y hy b hyb
      simp only [Option.some.injEq] at hzb
      omega
     ·exact hinj y hy z hz b hyb hzb
   ·rintro j ⟨b,hj⟩
    unfold zbL at hj
    split at hj
    ·rename_i e;subst e;exact (hR.done x hx).2
    ·exact hβ j ⟨b,hj⟩
  have hfr:∀ x∈fs,β x.i=none→x.i∈Region.ready .any ops listed:=by
   intro x hx hb
   obtain ⟨o,ho,_,_,_,ha,_⟩:=hok.fl x hx
   refine mem_ready.2 ⟨?_,o,ho,fun e he hbi=>?_⟩
   ·rw [zff (hR.done x hx).1,hb];rfl
   ·obtain ⟨h1,h2⟩:=ha e he hbi
    rw [zbV (hR.main _ h2),zff h1]
  have hfl:∀ x∈fs,x.i∈Region.ready .any ops listed→β x.i=none:=by
   intro x hx hr
   have h0:=(mem_ready.1 hr).1
   rw [zff (hR.done x hx).1] at h0
   cases hb:β x.i with
   | none=>rfl
   | some b=>rw [hb] at h0;cases h0
  have hto:∀ j,j ∉ fs.map (·.i)→j∈Region.ready .any ops listed→j∈Region.ready .any ops lF:=by
   intro j hj hr
   obtain ⟨h0,o,ho,ha⟩:=mem_ready.1 hr
   refine mem_ready.2 ⟨by rw [← zbV (hR.main j hj)];exact h0,o,ho,fun e he hb=>?_⟩
   have h1:=ha e he hb
   by_cases hin:e.on∈fs.map (·.i)
   ·obtain ⟨x,hx,hxe⟩:=List.mem_map.1 hin
    rw [← hxe,zff (hR.done x hx).2]
   ·rw [← zbV (hR.main _ hin)];exact h1
  have hfrom:∀ j oj,ops[j]? = some oj→j ∉ fs.map (·.i)→(∀ e∈oj.after,Region.binds .any e=true→e.on ∉ fs.map (·.i))→j∈Region.ready .any ops lF→j∈Region.ready .any ops listed:=by
   intro j oj hoj hj hno hr
   obtain ⟨h0,o,ho,ha⟩:=mem_ready.1 hr
   obtain rfl:oj=o:=by rw [hoj] at ho;exact Option.some.inj ho
   refine mem_ready.2 ⟨by rw [zbV (hR.main j hj)];exact h0,oj,hoj,fun e he hb=>?_⟩
   rw [zbV (hR.main _ (hno e he hb))]
   exact ha e he hb
  have hβ':∀ {i:Nat},∀ j,(∃ b,β j=some b)→(lF.setIfInBounds i true)[j]? = some true:=fun {i} j hj=>by
   have h1:=hβ j hj
   by_cases e:i=j
   ·subst e
    have:=(Array.getElem?_eq_some_iff.1 h1).1
    simp [this]
   ·rw [Array.getElem?_setIfInBounds_ne e];exact h1
  match pl,hm,hpl,htp,h,hal with
  | [],hm,hpl,htp,h,hal =>
   obtain rfl:fs=[]:=by simpa [zb7] using hpl
   have hl:listed=lF:=Array.ext_getElem? fun j=>hR.main j (by simp)
   subst hl
   rw [show za9 []+nx [] β+tp.length=tp.length by simp [za9,nx]]
   exact zfx tp _ _ _ htp (h w hX hE)
  | (i,0)::rest,hm,hpl,htp,h,hal =>
   obtain ⟨o,v,hi,hy,h⟩:=h
   simp only [zb7,hi,Bool.and_eq_true,Bool.not_eq_true'] at hpl
   obtain ⟨⟨⟨⟨⟨⟨h1,h2⟩,h3⟩,h3'⟩,h4⟩,haw⟩,h5⟩:=hpl
   have hiF:i ∉ fs.map (·.i):=by simpa using h3'
   have hA:=zho haw
   have hx2:∀ x∈fs,x.t ∉ o.looksAt ops∧o.dst≠some x.t∧∀ ox,ops[x.i]? = some ox→o.apart ops ox=true:=fun x hx=>by
    obtain ⟨ox,g1,_,g3,_⟩:=hok.fl x hx
    obtain ⟨t,e1,e2,e3,_,e5⟩:=hA.2 x.i (List.mem_map.2 ⟨x,hx,rfl⟩) ox g1
    rw [g3] at e1
    obtain rfl:=Option.some.inj e1
    exact ⟨e2,e3,fun ox' h'=>by rw [g1] at h';obtain rfl:=Option.some.inj h';exact e5⟩
   have key:=ih rest fs bs (listed.setIfInBounds i true) (lF.setIfInBounds i true) β (a.put o.dst v) E w (by simp only [List.length_cons] at hm;omega) (hR.step hiF) (hok.step hsel haw zb3) h5 htp hX hst hE hbl hinj hbs hβ' h
   rw [zfy fun x hx=>(hx2 x hx).2.1] at key
   rw [show za9 ((i,0)::rest)+nx fs β+tp.length=(za9 rest+nx fs β+tp.length)+1 by rw [zfg (by decide)];omega]
   refine zkl hi (Region.noSelect_spec hsel) (fun c a w=>hQ c a _ _ w) _ _ _ _ ?_ ?_ (hfrom i o hi hiF hA.1 (by simpa using h2)) (zeZ (Region.noSelect_spec hsel i o · · hi) hy fun x hx=>(hx2 x hx).1) hX key
   ·intro j oj hj hji hun hno
    by_cases hin:j∈fs.map (·.i)
    ·obtain ⟨x,hx,rfl⟩:=List.mem_map.1 hin
     exact (hx2 x hx).2.2 oj hj
    ·exact Region.free_spec hi h1 j oj hj hji (by rw [← zbV (hR.main j hin)];exact hun) hno
   ·intro j oj hj htj hun
    have hjF:j ∉ fs.map (·.i):=fun hin=>by
     obtain ⟨x,hx,rfl⟩:=List.mem_map.1 hin
     obtain ⟨_,_,_,_,ht,_⟩:=hok.fl x hx
     rw [ht] at htj;cases htj
    have h6:=List.all_eq_true.1 h4 j (by simpa using htj)
    rw [zbV (hR.main j hjF)] at hun
    rw [hj] at h6
    simp only [hun,Bool.false_or] at h6
    obtain ⟨e,he,hb⟩:=Array.any_eq_true'.1 h6
    simp only [Bool.and_eq_true] at hb
    exact ⟨e,he,hb.1,zme hR _ _ hb.2⟩
  | (i,2)::rest,hm,hpl,htp,h,hal =>
   obtain ⟨o,v,hi,hy,h⟩:=h
   simp only [zb7,hi,Bool.and_eq_true,Bool.not_eq_true'] at hpl
   obtain ⟨⟨⟨⟨⟨⟨h1,h2⟩,h3⟩,h3'⟩,h4⟩,haw⟩,h5⟩:=hpl
   have hiF:i ∉ fs.map (·.i):=by simpa using h3'
   have hA:=zho haw
   have hx2:∀ x∈fs,x.t ∉ o.looksAt ops∧o.dst≠some x.t∧∀ ox,ops[x.i]? = some ox→o.apart ops ox=true:=fun x hx=>by
    obtain ⟨ox,g1,_,g3,_⟩:=hok.fl x hx
    obtain ⟨t,e1,e2,e3,_,e5⟩:=hA.2 x.i (List.mem_map.2 ⟨x,hx,rfl⟩) ox g1
    rw [g3] at e1
    obtain rfl:=Option.some.inj e1
    exact ⟨e2,e3,fun ox' h'=>by rw [g1] at h';obtain rfl:=Option.some.inj h';exact e5⟩
   have key:=ih rest fs bs (listed.setIfInBounds i true) (lF.setIfInBounds i true) β (a.put o.dst v) E w (by simp only [List.length_cons] at hm;omega) (hR.step hiF) (hok.step hsel haw zb3) h5 htp hX hst hE hbl hinj hbs hβ' h
   rw [zfy fun x hx=>(hx2 x hx).2.1] at key
   rw [show za9 ((i,2)::rest)+nx fs β+tp.length=(za9 rest+nx fs β+tp.length)+1 by rw [zfg (by decide)];omega]
   refine zlf hi (Region.noSelect_spec hsel) h4 (fun c a w=>hQ c a _ _ w) _ _ _ _ ?_ (hfrom i o hi hiF hA.1 (by simpa using h2)) (zeZ (Region.noSelect_spec hsel i o · · hi) hy fun x hx=>(hx2 x hx).1) key
   intro j oj hj hji hun hno
   by_cases hin:j∈fs.map (·.i)
   ·obtain ⟨x,hx,rfl⟩:=List.mem_map.1 hin
    exact (hx2 x hx).2.2 oj hj
   ·exact Region.free_spec hi h1 j oj hj hji (by rw [← zbV (hR.main j hin)];exact hun) hno
  | (i,3)::rest,hm,hpl,htp,h,hal =>
   obtain ⟨x,fs',hfs,h9⟩:=h
   subst hfs
   simp only [zb7,List.map_cons,List.head?_cons,List.tail_cons,Bool.and_eq_true,beq_iff_eq,Option.some.injEq,List.all_eq_true] at hpl
   obtain ⟨⟨h1,h2⟩,h3⟩:=hpl
   cases hb:β x.i with
   | some b =>
    obtain ⟨g1,g2,g3⟩:=hbl x (by simp) b hb
    obtain ⟨E',hst',hE',hk⟩:=h9 b g2 g3 hst
    have hn:=hok.n1
    have hn2:=hok.n2
    simp only [List.map_cons,List.nodup_cons,List.mem_map,not_exists,not_and] at hn hn2
    have hlt:b < w.heap.size:=by
     rcases Nat.lt_or_ge b w.heap.size with hl | hl
     ·exact hl
     ·rw [Array.getElem?_eq_none hl] at g1;cases g1
    have hok':FgOk P ops tl fs' lF (a.put (some x.t) (x.yv b)):=by
     refine ⟨fun y hy=>?_,hn.2,hn2.2⟩
     obtain ⟨oy,k1,k2,k3,k4,k5,k6,k7⟩:=hok.fl y (by simp [hy])
     refine ⟨oy,k1,(wanted_put oy _ _ _ (fun e he=>by obtain rfl:=Option.some.inj he;exact k6 x (by simp))).trans k2,k3,k4,fun e he hb'=>⟨(k5 e he hb').1,fun hin=>(k5 e he hb').2 (by simp only [List.map_cons,List.mem_cons];exact .inr hin)⟩,fun z hz=>k6 z (by simp [hz]),fun w=>?_⟩
     rw [execOp_put oy (fun cs b=>Region.noSelect_spec hsel y.i oy cs b k1) _ _ _ (fun e he=>by obtain rfl:=Option.some.inj he;exact k6 x (by simp))]
     exact k7 w
    have key:=ih rest fs' (b::bs) listed lF β (a.put (some x.t) (x.yv b)) E' w (by
      have:nx fs' β≤nx (x::fs') β:=by unfold nx;rw [List.countP_cons];omega
      simp only [List.length_cons] at hm;omega) (hR.wait (by rw [hb];rfl)) hok' h3 htp hX hst' (hE' w hX hE g1)
     (fun y hy b' hyb=>by
      obtain ⟨k1,k2,k3⟩:=hbl y (by simp [hy]) b' hyb
      refine ⟨k1,k2,fun hin=>?_⟩
      rcases List.mem_cons.1 hin with rfl | hin
      ·exact hn.1 y hy (hinj y (by simp [hy]) x (by simp) _ hyb hb)
      ·exact k3 hin)
     (fun y hy z hz b' hyb hzb=>hinj y (by simp [hy]) z (by simp [hz]) b' hyb hzb)
     (fun b' hb'=>by
      rcases List.mem_cons.1 hb' with rfl | hb'
      ·exact hlt
      ·exact hbs b' hb') hβ hk
    rw [zfy fun y hy e=>hn2.1 y hy (Option.some.inj e).symm] at key
    rw [show za9 ((i,3)::rest)+nx (x::fs') β+tp.length=za9 rest+nx fs' β+tp.length by rw [zrc];unfold nx;rw [List.countP_cons,hb];rfl]
    unfold zbt
    rw [hb]
    exact key
   | none =>
    have hnp:1≤nx (x::fs') β:=by unfold nx;rw [List.countP_cons,hb];simp
    obtain ⟨f,hf⟩:∃ f,za9 ((i,3)::rest)+nx (x::fs') β+tp.length=f+1:=⟨za9 ((i,3)::rest)+nx (x::fs') β+tp.length - 1,by omega⟩
    rw [hf]
    refine ⟨fun h0=>(by have:=hfr x (by simp) hb;rw [h0] at this;cases this),fun j hj=>?_⟩
    by_cases hin:j∈(x::fs').map (·.i)
    ·obtain ⟨y,hy,rfl⟩:=List.mem_map.1 hin
     exact hal y hy (hfl y hy hj) f hf
    ·exfalso
     have h4:=h2 j (hto j hin hj)
     obtain ⟨_,oj,hoj,ha⟩:=mem_ready.1 hj
     rw [hoj] at h4
     obtain ⟨e,he,hb'⟩:=Array.any_eq_true'.1 h4
     simp only [Bool.and_eq_true,beq_iff_eq] at hb'
     have h5:=ha e he hb'.1
     rw [hb'.2,← h1,zff (hR.done x (by simp)).1,hb] at h5
     cases h5
  | (i,4)::rest,hm,hpl,htp,h,hal =>
   obtain ⟨x,o,rfl,hi,hd,hwa,hrun,h⟩:=h
   simp only [zb7,hi,Bool.and_eq_true,Bool.not_eq_true',beq_iff_eq,Array.all_eq_true_iff_forall_mem] at hpl
   obtain ⟨⟨⟨⟨h1,h2⟩,h3⟩,⟨h5,hself⟩,haw⟩,h6⟩:=hpl
   rw [hd] at hself
   have hself':x.t ∉ o.looksAt ops:=by simpa using hself
   have hiF:x.i ∉ fs.map (·.i):=by simpa using h3
   have hA:=zho haw
   have hbn:β x.i=none:=by
    cases hb:β x.i with
    | none=>rfl
    | some b=>have:=hβ x.i ⟨b,hb⟩;rw [h1] at this;cases this
   have hx2:∀ y∈fs,y.t ∉ o.looksAt ops∧y.t≠x.t∧∀ oy,ops[y.i]? = some oy→x.t ∉ oy.looksAt ops:=fun y hy=>by
    obtain ⟨oy,g1,_,g3,_⟩:=hok.fl y hy
    obtain ⟨t,e1,e2,e3,e4,_⟩:=hA.2 y.i (List.mem_map.2 ⟨y,hy,rfl⟩) oy g1
    rw [g3] at e1
    obtain rfl:=Option.some.inj e1
    exact ⟨e2,fun e=>e3 (by rw [hd,e]),fun oy' h'=>by rw [g1] at h';obtain rfl:=Option.some.inj h';exact e4 _ hd⟩
   have hnx:nx (x::fs) β=nx fs β+1:=by unfold nx;rw [List.countP_cons,hbn];simp
   have hokL:FgOk P ops tl (x::fs) (lF.setIfInBounds x.i true) a:=by
    have hup:∀ k:Nat,lF[k]? = some true→(lF.setIfInBounds x.i true)[k]? = some true:=fun k hk=>by
     have hne:x.i≠k:=fun e=>by rw [e,hk] at h1;cases h1
     rw [Array.getElem?_setIfInBounds_ne hne];exact hk
    have hno:∀ k:Nat,lF[k]? = some true→k ∉ fs.map (·.i)→k ∉ (x::fs).map (·.i):=fun k hk hn hin=>by
     simp only [List.map_cons,List.mem_cons] at hin
     rcases hin with rfl | hin
     ·rw [hk] at h1;cases h1
     ·exact hn hin
    refine ⟨fun y hy=>?_,?_,?_⟩
    ·rcases List.mem_cons.1 hy with rfl | hy
     ·refine ⟨o,hi,hwa,hd,h2,fun e he hb=>?_,fun z hz=>?_,hrun⟩
      ·have h7:=h5 e he
       rw [hb] at h7
       simp only [Bool.not_true,Bool.false_or] at h7
       have h8:lF[e.on]? = some true:=by
        cases hg:lF[e.on]? with
        | none=>simp [hg] at h7
        | some c=>simp [hg] at h7;rw [h7]
       exact ⟨hup _ h8,hno _ h8 (hA.1 e he hb)⟩
      ·rcases List.mem_cons.1 hz with rfl | hz
       ·exact hself'
       ·exact (hx2 z hz).1
     ·rename_i hy9
      have hy8:y∈fs:=by assumption
      obtain ⟨oy,k1,k2,k3,k4,k5,k6,k7⟩:=hok.fl y hy8
      have hy7:=(hx2 y hy8).2.2 oy k1
      refine ⟨oy,k1,k2,k3,k4,fun e he hb=>⟨hup _ (k5 e he hb).1,hno _ (k5 e he hb).1 (k5 e he hb).2⟩,fun z hz=>?_,k7⟩
      rcases List.mem_cons.1 hz with rfl | hz
      ·exact hy7
      ·exact k6 z hz
    ·simp only [List.map_cons,List.nodup_cons];exact ⟨hiF,hok.n1⟩
    ·simp only [List.map_cons,List.nodup_cons,List.mem_map,not_exists,not_and];exact ⟨fun y hy e=>(hx2 y hy).2.1 e,hok.n2⟩
   have key:=ih rest (x::fs) bs listed (lF.setIfInBounds x.i true) β a E w (by simp only [List.length_cons] at hm;omega) (hR.launch hiF h1 hbn) hokL h6 htp hX hst hE
    (fun y hy b hyb=>by
     rcases List.mem_cons.1 hy with rfl | hy
     ·rw [hbn] at hyb;cases hyb
     ·exact hbl y hy b hyb)
    (fun y hy z hz b hyb hzb=>by
     rcases List.mem_cons.1 hy with rfl | hy
     ·rw [hbn] at hyb;cases hyb
     ·rcases List.mem_cons.1 hz with rfl | hz
      ·rw [hbn] at hzb;cases hzb
      ·exact hinj y hy z hz b hyb hzb) hbs hβ' h
   rw [show za9 ((x.i,4)::rest)+nx fs β+tp.length=za9 rest+nx (x::fs) β+tp.length by rw [hnx,zfg (by decide)];omega]
   unfold zbt at key
   rw [hbn] at key
   exact key
  | (i,5)::rest,hm,hpl,htp,h,hal =>
   simp only [zb7,Bool.and_eq_true,Bool.not_eq_true',beq_iff_eq] at hpl
   obtain ⟨⟨⟨⟨⟨h0,h1⟩,h2⟩,h4⟩,haw⟩,h5⟩:=hpl
   obtain rfl:fs=[]:=by simpa using h0
   have hiF:i ∉ ([]:List FX).map (·.i):=by simp
   have hir:i∈Region.ready .any ops lF:=by rw [h1];simp
   obtain ⟨_,o,hi,_⟩:=mem_ready.1 hir
   rw [hi] at haw
   have hA:=zho haw
   obtain ⟨f,hf⟩:∃ f,za9 rest+nx [] β+tp.length=f:=⟨_,rfl⟩
   have hf1:∀ k,k≠3→za9 ((i,k)::rest)+nx [] β+tp.length=f+1:=fun k hk=>by rw [← hf,zfg hk];omega
   rw [hf1 _ (by omega)]
   refine ⟨fun h0=>(by have:=hfrom i o hi hiF hA.1 hir;rw [h0] at this;cases this),fun j hj=>?_⟩
   have hjr:=hto j (by simp) hj
   rw [h1] at hjr
   obtain rfl:j=i:=by simpa using hjr
   refine wpOp_mono ?_ (zgh (β:=β) hi (Region.noSelect_spec hsel j o · · hi) hQ' (zi3 hi (h w hX hE)) (fs:=[]) (fun x hx=>by cases hx))
   rintro a' w' ⟨a'',rfl,hsm,hXw,hsz,E',hst',hE',hk⟩
   have key:=ih rest [] bs (listed.setIfInBounds j true) (lF.setIfInBounds j true) β _ E' w' (by simp only [List.length_cons] at hm;omega) (hR.step hiF) (hok.step hsel haw hsm) h5 htp hXw hst' hE' (fun x hx=>by cases hx) (fun x hx=>by cases hx) (fun b hb=>by have:=hbs b hb;omega) hβ' hk
   rw [hf] at key
   exact ⟨fun _ _=>hXw,key⟩
  | (i,1)::rest,hm,hpl,htp,h,hal | (i,k+6)::rest,hm,hpl,htp,h,hal =>
   simp only [zb7,Bool.and_eq_true,Bool.not_eq_true',beq_iff_eq] at hpl
   obtain ⟨⟨⟨⟨⟨h1,h2⟩,h3⟩,h4⟩,haw⟩,h5⟩:=hpl
   have hiF:i ∉ fs.map (·.i):=by simpa using h3
   have hir:i∈Region.ready .any ops lF:=by rw [h1];simp
   obtain ⟨_,o,hi,_⟩:=mem_ready.1 hir
   rw [hi] at haw
   have hA:=zho haw
   have hx2:∀ x∈fs,x.t ∉ o.looksAt ops∧o.dst≠some x.t:=fun x hx=>by
    obtain ⟨ox,g1,_,g3,_⟩:=hok.fl x hx
    obtain ⟨t,e1,e2,e3,_,e5⟩:=hA.2 x.i (List.mem_map.2 ⟨x,hx,rfl⟩) ox g1
    rw [g3] at e1
    obtain rfl:=Option.some.inj e1
    exact ⟨e2,e3⟩
   obtain ⟨f,hf⟩:∃ f,za9 rest+nx fs β+tp.length=f:=⟨_,rfl⟩
   have hf1:∀ k,k≠3→za9 ((i,k)::rest)+nx fs β+tp.length=f+1:=fun k hk=>by rw [← hf,zfg hk];omega
   rw [hf1 _ (by omega)]
   refine ⟨fun h0=>(by have:=hfrom i o hi hiF hA.1 hir;rw [h0] at this;cases this),fun j hj=>?_⟩
   by_cases hin:j∈fs.map (·.i)
   ·obtain ⟨x,hx,rfl⟩:=List.mem_map.1 hin
    exact hal x hx (hfl x hx hj) f (hf1 _ (by omega))
   ·have hjr:=hto j hin hj
    rw [h1] at hjr
    obtain rfl:j=i:=by simpa using hjr
    refine wpOp_mono ?_ (zgh (β:=β) hi (Region.noSelect_spec hsel j o · · hi) hQ' (zi3 hi (h w hX hE)) (fs:=fs) hx2)
    rintro a' w' ⟨a'',rfl,hsm,hXw,E',hst',hE',hk⟩
    have key:=ih rest fs bs (listed.setIfInBounds j true) (lF.setIfInBounds j true) β a'' E' w' (by simp only [List.length_cons] at hm;omega) (hR.step hiF) (hok.step hsel haw hsm) h5 htp (hX.trans hXw) hst' hE' ?_ hinj (fun b hb=>by have:=hbs b hb;have:=hXw.size;omega) hβ' hk
    ·rw [hf] at key
     exact ⟨fun _ _=>hX.trans hXw,key⟩
    ·intro y hy b hyb
     obtain ⟨g1,g2,g3⟩:=hbl y hy b hyb
     have hlt:b < w.heap.size:=by
      rcases Nat.lt_or_ge b w.heap.size with hl | hl
      ·exact hl
      ·rw [Array.getElem?_eq_none hl] at g1;cases g1
     exact ⟨by rw [hXw.block hlt];exact g1,g2,g3⟩
theorem zaB {id:Nat} {a:Act} {w:World} (pl:List (Nat×Nat)) (tp tl pu:List Nat) (hm:P.follows .mixedOrders=true) (hsel:Region.noSelect ops=true)
  (hok:(zb7 ops tl pu (Array.replicate ops.size false) [] pl && zfe ops tl (zqv (Array.replicate ops.size false) pl) tp && za9 pl+tp.length == ops.size)=true)
  (hQ:∀ c a d v w,Q (.panic c) (a.put d v) w→Q (.panic c) a w) (hQ':∀ c a d v w,Q (.panic c) a w→Q (.panic c) (a.put d v) w)
  (h:zbz P ops Q w.drew tp pl [] [] a (fun _=>True)):(Code.region id ops true).wp P Q a w:=by
 simp only [Bool.and_eq_true,beq_iff_eq] at hok
 obtain ⟨⟨h2,h3⟩,h4⟩:=hok
 refine wp_region_any hm (zhK (S:=Ext w.drew) (tl:=tl) (pu:=pu) _ _ _ _ ?_)
 have key:=zmT (P:=P) (Q:=Q) (W0:=w.drew) (tp:=tp) (pu:=pu) (tl:=tl) hsel hQ hQ' (2 * pl.length) pl [] [] (Array.replicate ops.size false) _ (fun _=>none) a (fun _=>True) w.drew (by simp [nx]) ⟨rfl,fun _ _=>rfl,fun x hx=>(by cases hx)⟩
  ⟨fun x hx=>(by cases hx),by simp,by simp⟩ h2 h3 (Ext.refl _) (fun _ _ _ _=>trivial) trivial (fun x hx=>by cases hx) (fun x hx=>by cases hx) (fun b hb=>by cases hb) (fun j ⟨b,hb⟩=>by cases hb) h
 rw [show za9 pl+nx [] (fun _=>none)+tp.length=ops.size by rw [← h4];simp [nx]] at key
 exact key
variable {W0:World} {fs:List FX} {bs tp:List Nat} {a:Act} {E:World→Prop} {i:Nat} {rest:List (Nat×Nat)} {o:Oper}
theorem zoe {v:Value} (hi:ops.toList[i]? = some o) (hw:Region.wanted o (yielded ops a.tmps)=true) (h:∀ w,Ext W0 w→(execOp a.eval o).run P w = .ok (.value v) w) (k:zbz P ops Q W0 tp rest fs bs (a.put o.dst v) E) :
  zbz P ops Q W0 tp ((i,0)::rest) fs bs a E:=⟨o,v,by simpa using hi,.inl ⟨hw,h⟩,k⟩
theorem rdG {v:Value} (hi:ops.toList[i]? = some o) (hw:Region.wanted o (yielded ops a.tmps)=true) (h:∀ os d,(execOp a.eval o).run P (more W0 os d) = .ok (.value v) (more W0 os d)) (k:zbz P ops Q W0 tp rest fs bs (a.put o.dst v) E) :
  zbz P ops Q W0 tp ((i,0)::rest) fs bs a E:=zoe hi hw (fun w1 h1=>by obtain ⟨os,d,rfl⟩:=h1.more;exact h os d) k
theorem zbf {v:Value} (hi:ops.toList[i]? = some o) (hw:Region.wanted o (yielded ops a.tmps)=true) (h:∀ w,(execOp a.eval o).run P w = .ok (.value v) w) (k:zbz P ops Q W0 tp rest fs bs (a.put o.dst v) E) :
  zbz P ops Q W0 tp ((i,2)::rest) fs bs a E:=⟨o,v,by simpa using hi,.inl ⟨hw,fun w _=>h w⟩,k⟩
theorem zag (hi:ops.toList[i]? = some o) (hw:Region.wanted o (yielded ops a.tmps)=true)
  (h:∀ w,Ext W0 w→E w→∀ K:Act→World→Prop,(∀ a' w' (E':World→Prop),Ext w w'→(∀ w1 w2,Ext w1 w2→E' w1→E' w2)→E' w'→zbz P ops Q W0 tp rest fs bs a' E'→K a' w')→o.wp P a w K Q) :
  zbz P ops Q W0 tp ((i,1)::rest) fs bs a E:=by
 have hi':ops[i]? = some o:=by simpa using hi
 intro w hX hE
 unfold wpOp
 simp only [hi',hw,if_true]
 exact .inl (h w hX hE _ fun a' w' E' h1 h2 h3 h4=>⟨h1,E',h2,h3,h4⟩)
theorem zcx (h:∀ w,Ext W0 w→E w→zgg P ops Q tp a w):zbz P ops Q W0 tp [] fs bs a E:=by
 unfold zbz
 exact h
theorem zfz (hi:ops.toList[i]? = some o) (hw:Region.wanted o (yielded ops a.tmps)=true)
  (h:∀ w,Ext W0 w→E w→∀ K:Act→World→Prop,(∀ a' w' (E':World→Prop),Ext W0 w'→w.heap.size≤w'.heap.size→(∀ w1 w2,Ext w1 w2→E' w1→E' w2)→E' w'→zbz P ops Q W0 tp rest fs bs a' E'→K a' w')→o.wp P a w K Q) :
  zbz P ops Q W0 tp ((i,5)::rest) fs bs a E:=by
 have hi':ops[i]? = some o:=by simpa using hi
 intro w hX hE
 unfold wpOp
 simp only [hi',hw,if_true]
 exact .inl (h w hX hE _ fun a' w' E' h1 h2 h3 h4 h5=>⟨h1,h2,E',h3,h4,h5⟩)
theorem zaD {t:Nat} (ob:Obj) (mk:Nat→Value) (hi:ops.toList[i]? = some o) (hd:o.dst=some t) (hw:Region.wanted o (yielded ops a.tmps)=true) (h:∀ w,(execOp a.eval o).run P w = .ok (.value (mk w.heap.size)) (w.alloc ob)) (k:zbz P ops Q W0 tp rest (⟨i,t,ob,mk⟩::fs) bs a E) :
  zbz P ops Q W0 tp ((i,4)::rest) fs bs a E:=⟨⟨i,t,ob,mk⟩,o,rfl,by simpa using hi,hd,hw,h,k⟩
theorem zeu {x:FX} (h:∀ b,W0.heap.size≤b→b ∉ bs→(∀ w1 w2,Ext w1 w2→E w1→E w2)→∃ E':World→Prop,(∀ w1 w2,Ext w1 w2→E' w1→E' w2)∧(∀ w,Ext W0 w→E w→w.heap[b]? = some x.ob→E' w)∧zbz P ops Q W0 tp rest fs (b::bs) (a.put (some x.t) (x.yv b)) E') :
  zbz P ops Q W0 tp ((i,3)::rest) (x::fs) bs a E:=⟨x,fs,rfl,h⟩
theorem zmU {W0 w:World} {b:Nat} {ob:Obj} (hX:Ext W0 w) (hb2:w.heap[b]? = some ob) (hb3:W0.heap.size≤b):∃ os1 d1 os2 d2,w=more ((more W0 os1 d1).alloc ob) os2 d2∧b=W0.heap.size+os1.size:=by
 obtain ⟨os,d,rfl⟩:=hX.more
 obtain ⟨k,rfl⟩:∃ k,b=W0.heap.size+k:=⟨b - W0.heap.size,by omega⟩
 have hk:os[k]? = some ob:=by
  have:(W0.heap++os)[W0.heap.size+k]? = some ob:=hb2
  rw [Array.getElem?_append_right (by omega)] at this
  simpa using this
 have hklt:k < os.size:=(Array.getElem?_eq_some_iff.1 hk).1
 have hos:os=(os.extract 0 k).push ob++os.extract (k+1) os.size:=by
  apply Array.ext_getElem?
  intro j
  have hs:(os.extract 0 k).size=k:=by simp;omega
  rcases Nat.lt_trichotomy j k with hj | rfl | hj
  ·rw [Array.getElem?_append_left (by simp;omega),Array.getElem?_push,if_neg (by omega),Array.getElem?_extract]
   simp
   omega
  ·rw [Array.getElem?_append_left (by simp;omega),Array.getElem?_push,if_pos (by omega)];exact hk
  ·rw [Array.getElem?_append_right (by simp;omega),Array.getElem?_extract]
   by_cases h2:j < os.size
   ·rw [if_pos (by simp;omega)]
    congr 1
    simp
    omega
   ·rw [if_neg (by simp;omega),Array.getElem?_eq_none (by omega)]
 refine ⟨os.extract 0 k,d,os.extract (k+1) os.size,d,?_,by simp;omega⟩
 simp only [more,World.alloc]
 congr 1
 conv=>lhs;rw [hos]
 simp
theorem zca {t:Nat} {ob:Obj} (h:∀ os1 d1 os2 d2,E (more ((more W0 os1 d1).alloc ob) os2 d2)→zgg P ops Q tp (a.put (some t) (.pointer (some ⟨W0.heap.size+os1.size,0,none⟩))) (more ((more W0 os1 d1).alloc ob) os2 d2)) :
  zbz P ops Q W0 tp [(i,3)] [⟨i,t,ob,zbK⟩] bs a E:=by
 refine ⟨_,[],rfl,fun b hb _ hst=>⟨fun w=>E w∧w.heap[b]? = some ob,fun w1 w2 hx h1=>⟨hst _ _ hx h1.1,?_⟩,fun w _ hE h1=>⟨hE,h1⟩,?_⟩⟩
 ·have hlt:b < w1.heap.size:=(Array.getElem?_eq_some_iff.1 h1.2).1
  rw [hx.block hlt];exact h1.2
 ·intro w hX hE
  obtain ⟨os1,d1,os2,d2,rfl,rfl⟩:=zmU hX hE.2 hb
  exact h os1 d1 os2 d2 hE.1
end
end Go.Proofs.YtkoidgbgoccgmaaGreatDoor
namespace Go.Proofs.YtkoidgbgoccgmaaGreatDoor
open Tryz
open Go.RowKit NM
theorem z64:I64 0:=by unfold I64;omega
theorem zhN (k m ex f k' m' ex' f':Int) (t t':ByteArray) (b b':Bool) (w:World) (y:Val) (hy:za3 ⟨k,m,ex,t,b,f⟩ ⟨k',m',ex',t',b',f'⟩=y) :
  Tl prog 167 #[VV k m ex t b f,VV k' m' ex' t' b' f'] w (VV y.kind y.mant y.exp y.text y.truth y.fault):=by
 by_cases h0:k=0
 ·have q0:(k != 0)=false:=by simp [h0]
  by_cases h1:k'=1∨k'=2∨k'=3
  ·have e:y=Val.only k':=by rw [← hy];simp [za3,h0,h1]
   subst e
   clear hy
   rcases h1 with rfl | rfl | rfl
   ·go_enter func167,ntmps167
    go_wp2_with fail
    exact rc1 (v:=VV 1 0 0 ⟨#[]⟩ false 0) rfl rfl (by simp [go_sem]) ⟨rfl,by simp [go_sem]⟩
   ·go_enter func167,ntmps167
    go_wp2_with fail
    exact rc1 (v:=VV 2 0 0 ⟨#[]⟩ false 0) rfl rfl (by simp [go_sem]) ⟨rfl,by simp [go_sem]⟩
   ·go_enter func167,ntmps167
    go_wp2_with fail
    exact rc1 (v:=VV 3 0 0 ⟨#[]⟩ false 0) rfl rfl (by simp [go_sem]) ⟨rfl,by simp [go_sem]⟩
  ·have e:y=⟨k,m,ex,t,b,f⟩:=by rw [← hy];simp [za3,h0,h1]
   subst e
   have q1:(k' == 1)=false:=by simp;omega
   have q2:(k' == 2)=false:=by simp;omega
   have q3:(k' == 3)=false:=by simp;omega
   subst h0
   clear hy h1
   go_enter func167,ntmps167
   go_wp2_with fail
   exact rc1 rfl rfl (by simp [go_sem]) ⟨rfl,by simp [go_sem]⟩
 ·have e:y=⟨k,m,ex,t,b,f⟩:=by rw [← hy];simp [za3,h0]
  subst e
  have q0:(k != 0)=true:=by simp [h0]
  clear hy
  go_enter func167,ntmps167
  go_wp2_with fail
  exact rc1 rfl rfl (by simp [go_sem]) ⟨rfl,by simp [go_sem]⟩
theorem ziD (a b:Bool) (w:World) :
  Tl prog 170 #[.bool a,.bool b] w (.int .i64 (sgB a b)):=by
 cases a <;> cases b
 all_goals
  go_enter func170,ntmps170
  go_wp2_with fail
  go_ret
  exact ⟨rfl,Ext.refl _⟩
theorem zlg (a b:ByteArray) (w:World) :
  Tl prog 169 #[.string a,.string b] w (.int .i64 (Lib.compareBytes (tl a) (tl b))) :=
 (Tryz.strings_Compare a b w).mono fun e w' ⟨h1,h2⟩=>⟨h1,by rw [h2];exact Ext.refl _⟩
theorem zpR (a b:Val) (w:World) (ha:a.ok) (hb:b.ok) :
  Tl prog 138 #[VV a.kind a.mant a.exp a.text a.truth a.fault,VV b.kind b.mant b.exp b.text b.truth b.fault] w (.int .i64 (zaR a b)):=by
 have hA:(za3 a b).ok:=by
  unfold za3
  split
  ·exact ha
  ·split
   ·exact ⟨hb.1,z64,z64,Nat.zero_le _,z64⟩
   ·exact ha
 have hB:(za3 b a).ok:=by
  unfold za3
  split
  ·exact hb
  ·split
   ·exact ⟨ha.1,z64,z64,Nat.zero_le _,z64⟩
   ·exact hb
 have h1:=fun W=>zhN a.kind a.mant a.exp a.fault b.kind b.mant b.exp b.fault a.text b.text a.truth b.truth W (za3 a b) rfl
 have h2:=fun W=>zhN b.kind b.mant b.exp b.fault a.kind a.mant a.exp a.fault b.text a.text b.truth a.truth W (za3 b a) rfl
 obtain ⟨Z,hZ⟩:∃ Z,zaR a b=Z:=⟨_,rfl⟩
 rw [hZ]
 unfold zaR at hZ
 generalize za3 a b=A at *
 generalize za3 b a=B at *
 obtain ⟨k,m,ex,t,u,f⟩:=A
 obtain ⟨k',m',ex',t',u',f'⟩:=B
 obtain ⟨_,hm,_,ht,_⟩:=hA
 obtain ⟨_,hm',_,ht',_⟩:=hB
 unfold zdo at hZ
 simp only at h1 h2 hm ht hm' ht' hZ
 have HZ:=Lib.hid hZ
 clear ha hb hZ
 go_enter func138,ntmps138
 go_upto_region 1 with fail
 refine zaB [(0,0),(1,0),(3,0),(4,0),(2,1),(5,1)] [6,7] [6,7] [] (by kernel_rfl) (by kernel_rfl) (by kernel_rfl) (fun _ _ d _ _ h=>by cases d <;> exact h) (fun _ _ d _ _ h=>by cases d <;> exact h) ?_
 iterate 4 (apply rdG rfl rfl;(intros;go_simp;first | done | rfl);try simp only [zq])
 (refine zag rfl ?_ (fun wf hXf hE K hK=>?_);rfl;obtain ⟨osf,df,rfl⟩:=hXf.more;go_simp;refine (h1 _).mono ?_;rintro e w' ⟨rfl,hb⟩;refine hK _ _ (fun _=>True) (by (try simp only [zb,za]);exact hb) (fun _ _ _ _=>trivial) trivial ?_)
 try simp only [zq]
 (refine zag rfl ?_ (fun wf hXf hE K hK=>?_);rfl;obtain ⟨osf,df,rfl⟩:=hXf.more;go_simp;refine (h2 _).mono ?_;rintro e w' ⟨rfl,hb⟩;refine hK _ _ (fun _=>True) (by (try simp only [zb,za]);exact hb) (fun _ _ _ _=>trivial) trivial ?_)
 try simp only [zq]
 (refine zcx fun wz hXz hE=>?_;obtain ⟨osa,da,rfl⟩:=hXz.more)
 try simp only [zq]
 (refine zX rfl ?_ (fun K hK=>?_);rfl;go_simp;refine hK _ _ ?_)
 try simp only [zq]
 (refine zX rfl ?_ (fun K hK=>?_);rfl;go_simp;refine hK _ _ ?_)
 try simp only [zq]
 refine zaZ ?_
 have hz:=HZ.out
 clear HZ hE h1 h2
 by_cases hk:k=k'
 ·subst hk
  rw [if_neg (show ¬ (k≠k) from fun h=>h rfl)] at hz
  have q0:(k != k)=false:=by simp
  by_cases k2:k=2
  ·subst k2
   rw [if_neg (by decide),if_pos rfl] at hz
   go_upto_region 10 with fail
   refine plP [(0,0),(1,0),(3,0),(4,0),(2,1),(5,1),(6,1),(7,0)] [] (by kernel_rfl) (fun _ _ d _ _ h=>by cases d <;> exact h) ?_
   iterate 4 (apply rdP rfl rfl;(intros;go_simp;first | done | rfl);try simp only [zq])
   (refine zh rfl ?_ (fun K hK=>?_);rfl;go_simp;refine aM (zhn _ _ (by assumption)) fun os5 d5=>?_;refine hK _ _ ?_ ?_;(simp [go_sem]))
   try simp only [zq]
   (refine zh rfl ?_ (fun K hK=>?_);rfl;go_simp;refine aM (zhn _ _ (by assumption)) fun os6 d6=>?_;refine hK _ _ ?_ ?_;(simp [go_sem]))
   try simp only [zq]
   (refine zh rfl ?_ (fun K hK=>?_);rfl;go_simp;refine aM (zlg _ _ _) fun os7 d7=>?_;refine hK _ _ ?_ ?_;(simp [go_sem]))
   try simp only [zq]
   (apply rdP rfl rfl;(intros;go_simp;first | done | rfl))
   try simp only [zq]
   refine zj ?_
   (subst hz;go_wp2_with fail;go_ret;exact ⟨rfl,by simp [go_sem]⟩)
  by_cases k1:k=1
  ·subst k1
   rw [if_pos rfl] at hz
   go_wp2_with (go_at_call 168;refine aM (zq2 _ _ _ _ _ (by assumption) (by assumption)) fun os5 d5=>?_)
   (subst hz;go_wp2_with fail;go_ret;exact ⟨rfl,by simp [go_sem]⟩)
  rw [if_neg k1,if_neg k2] at hz
  by_cases k3:k=3
  ·subst k3
   rw [if_pos rfl] at hz
   go_wp2_with (go_at_call 170;refine aM (ziD _ _ _) fun os5 d5=>?_)
   (subst hz;go_wp2_with fail;go_ret;exact ⟨rfl,by simp [go_sem]⟩)
  rw [if_neg k3] at hz
  by_cases k4:k=4
  ·subst k4
   rw [if_pos rfl] at hz
   unfold sgI at hz
   by_cases hl:f < f'
   ·rw [if_pos hl] at hz
    (subst hz;go_wp2_with fail;go_ret;exact ⟨rfl,by simp [go_sem]⟩)
   rw [if_neg hl] at hz
   by_cases hg:f' < f
   ·rw [if_pos hg] at hz
    (subst hz;go_wp2_with fail;go_ret;exact ⟨rfl,by simp [go_sem]⟩)
   rw [if_neg hg] at hz
   (subst hz;go_wp2_with fail;go_ret;exact ⟨rfl,by simp [go_sem]⟩)
  rw [if_neg k4] at hz
  have q1:(k == 1)=false:=by simp [k1]
  have q2:(k == 2)=false:=by simp [k2]
  have q3:(k == 3)=false:=by simp [k3]
  have q4:(k == 4)=false:=by simp [k4]
  clear k1 k2 k3 k4
  (subst hz;go_wp2_with fail;go_ret;exact ⟨rfl,by simp [go_sem]⟩)
 ·rw [if_pos (show k≠k' from hk)] at hz
  have q0:(k != k')=true:=by simpa using hk
  by_cases hl:k < k'
  ·rw [if_pos hl] at hz
   (subst hz;go_wp2_with fail;go_ret;exact ⟨rfl,by simp [go_sem]⟩)
  rw [if_neg hl] at hz
  (subst hz;go_wp2_with fail;go_ret;exact ⟨rfl,by simp [go_sem]⟩)
abbrev tnV (x:Val):Value:=.tuple #[NV (tnP x).1 (tnP x).2,.int .i64 (tnF x)]
theorem zko:tnV (Val.only 0) = .tuple #[NV 0 0,.int .i64 0]:=rfl
theorem zof (m e:Int):tnV ⟨1,m,e,⟨#[]⟩,false,0⟩ = .tuple #[NV m e,.int .i64 0]:=rfl
theorem zmf:tnV (zed true) = .tuple #[NV 1 0,.int .i64 0]:=rfl
theorem zkp:tnV (zed false) = .tuple #[NV 0 0,.int .i64 0]:=rfl
theorem zog (f:Int):tnV (zaX f) = .tuple #[NV 0 0,.int .i64 f]:=rfl
theorem zhO {t:ByteArray} (h:zcJ t=none):tnV ⟨2,0,0,t,false,0⟩ = .tuple #[NV 0 0,.int .i64 2]:=by unfold tnV tnP tnF;simp [h]
theorem zgX {t:ByteArray} {p:Int×Int} (h:zcJ t=some p):tnV ⟨2,0,0,t,false,0⟩ = .tuple #[NV p.1 p.2,.int .i64 0]:=by unfold tnV tnP tnF;simp [h]
theorem zrL (t:ByteArray):(if 255 < t.size then none else zj9 (bl t))=zcJ t:=by
 unfold zcJ
 by_cases h:255 < t.size
 ·rw [if_pos h,if_pos h]
 ·rw [if_neg h,if_neg h,znS _ (by rw [zbs];omega)]
theorem zdJ (x:Val) (w:World) (hx:x.right) :
  Tl prog 81 #[VV x.kind x.mant x.exp x.text x.truth x.fault] w (tnV x):=by
 rcases hx.form with rfl | ⟨m,e,rfl,hr⟩ | ⟨t,rfl,ht⟩ | ⟨b,rfl⟩ | ⟨f,rfl,hf⟩
 ·rw [zko]
  simp only [Val.only]
  go_enter func81,ntmps81
  go_wp2_with fail
  exact rct rfl rfl (by simp [go_sem]) ⟨rfl,by simp [go_sem]⟩
 ·rw [zof]
  clear hx hr
  simp only
  go_enter func81,ntmps81
  go_wp2_with fail
  exact rct rfl rfl (by simp [go_sem]) ⟨rfl,by simp [go_sem]⟩
 ·have hp:=fun W=>znU t W (by omega)
  simp only
  cases h:zcJ t with
  | none =>
   rw [zhO h]
   rw [h] at hp
   simp only [rnV,rm,re,Option.getD_none,Option.isSome_none] at hp
   clear h hx
   go_enter func81,ntmps81
   go_wp2_with (go_at_call 133;with_reducible refine aM (hp _) fun os d=>?_)
   exact rct rfl rfl (by simp [go_sem]) ⟨rfl,by simp [go_sem]⟩
  | some p =>
   rw [zgX h]
   rw [h] at hp
   simp only [rnV,rm,re,Option.getD_some,Option.isSome_some] at hp
   clear h hx
   go_enter func81,ntmps81
   go_wp2_with (go_at_call 133;with_reducible refine aM (hp _) fun os d=>?_)
   exact rct rfl rfl (by simp [go_sem]) ⟨rfl,by simp [go_sem]⟩
 ·cases b
  ·rw [zkp]
   simp only [zed]
   clear hx
   go_enter func81,ntmps81
   go_wp2_with fail
   exact rct rfl rfl (by simp [go_sem]) ⟨rfl,by simp [go_sem]⟩
  ·rw [zmf]
   simp only [zed]
   clear hx
   go_enter func81,ntmps81
   go_wp2_with fail
   exact rct rfl rfl (by simp [go_sem]) ⟨rfl,by simp [go_sem]⟩
 ·rw [zog]
  simp only [zaX]
  clear hx hf
  go_enter func81,ntmps81
  go_upto_region 13 with fail
  go_region
  all_goals
   go_wp2_with fail
   exact rct rfl rfl (by simp [go_sem]) ⟨rfl,by simp [go_sem]⟩
theorem zfA (x:Val) (w:World) (hx:x.right) :
  Tl prog 99 #[VV x.kind x.mant x.exp x.text x.truth x.fault] w (tnV x):=by
 rcases hx.form with rfl | ⟨m,e,rfl,hr⟩ | ⟨t,rfl,ht⟩ | ⟨b,rfl⟩ | ⟨f,rfl,hf⟩
 ·rw [zko]
  simp only [Val.only]
  go_enter func99,ntmps99
  go_wp2_with fail
  exact rct rfl rfl (by simp [go_sem]) ⟨rfl,by simp [go_sem]⟩
 ·rw [zof]
  clear hx hr
  simp only
  go_enter func99,ntmps99
  go_wp2_with fail
  exact rct rfl rfl (by simp [go_sem]) ⟨rfl,by simp [go_sem]⟩
 ·have hp:=fun W=>zmI t W (by omega)
  rw [zrL] at hp
  simp only
  cases h:zcJ t with
  | none =>
   rw [zhO h]
   rw [h] at hp
   simp only [rnV,rm,re,Option.getD_none,Option.isSome_none] at hp
   clear h hx
   go_enter func99,ntmps99
   go_wp2_with (go_at_call 144;with_reducible refine aM (hp _) fun os d=>?_)
   exact rct rfl rfl (by simp [go_sem]) ⟨rfl,by simp [go_sem]⟩
  | some p =>
   rw [zgX h]
   rw [h] at hp
   simp only [rnV,rm,re,Option.getD_some,Option.isSome_some] at hp
   clear h hx
   go_enter func99,ntmps99
   go_wp2_with (go_at_call 144;with_reducible refine aM (hp _) fun os d=>?_)
   exact rct rfl rfl (by simp [go_sem]) ⟨rfl,by simp [go_sem]⟩
 ·cases b
  ·rw [zkp]
   simp only [zed]
   clear hx
   go_enter func99,ntmps99
   go_wp2_with fail
   exact rct rfl rfl (by simp [go_sem]) ⟨rfl,by simp [go_sem]⟩
  ·rw [zmf]
   simp only [zed]
   clear hx
   go_enter func99,ntmps99
   go_wp2_with fail
   exact rct rfl rfl (by simp [go_sem]) ⟨rfl,by simp [go_sem]⟩
 ·rw [zog]
  simp only [zaX]
  clear hx hf
  go_enter func99,ntmps99
  go_upto_region 2 with fail
  go_region
  all_goals
   go_wp2_with fail
   exact rct rfl rfl (by simp [go_sem]) ⟨rfl,by simp [go_sem]⟩
theorem zrM {x e:Int} (hx:x.natAbs < T 15) (h1 : -40≤e) (h2:e≤25):∃ m k,rndI x e=some (m,k)∧Rt m k∧sc m k=sc x e∧(m=0↔x=0)∧(x≠0→e≤k):=by
 have hn:nd x.natAbs≤15:=(nd_le_iff _ _).2 hx
 have hz:nd x.natAbs - 15=0:=by omega
 by_cases h0:x=0
 ·subst h0
  refine ⟨0,0,?_,zfc,?_,⟨fun _=>rfl,fun _=>rfl⟩,fun h=>absurd rfl h⟩
  ·unfold rndI;exact rnd_nought _ _ _
  ·unfold sc;rw [Int.zero_mul,Int.zero_mul]
 ·have hN:x.natAbs≠0:=by omega
  have e1:n1 x.natAbs false=x.natAbs:=by unfold n1;rw [hz,cutN_zero]
  have e2':n2 x.natAbs false e=x.natAbs:=by
   unfold n2;rw [e1,hz,show (-40 - (e+((0:Nat):Int))).toNat=0 by omega,cutN_zero]
  have e3:NM.e2 x.natAbs e=e:=by unfold NM.e2;rw [hz];omega
  have hr:rndI x e=some (sg (decide (x < 0)) (trim x.natAbs e).1,(trim x.natAbs e).2):=by
   unfold rndI
   rw [rnd_fin,e2',e3]
   unfold fin
   rw [if_neg hN,if_neg (by omega)]
  obtain ⟨k,g1,g2,g3⟩:=trim_spec x.natAbs e hN
  have g4:(trim x.natAbs e).1≠0:=fun h=>g3 (by rw [h])
  refine ⟨_,_,hr,?_,?_,⟨fun h=>absurd (sg_zero.1 h) g4,fun h=>absurd h h0⟩,fun _=>by rw [g2];omega⟩
  ·have:=hr;unfold rndI at this;exact rnd_right this
  ·have g5:=sc_trim (N:=x.natAbs) (e:=e) hN (by omega)
   unfold sc
   rw [← sg_mul_nat,g5,sg_mul_nat,sg_nat]
def zJ (n:Int):Int×Int:=(rndI n 0).getD (0,0)
theorem zeg {n:Int} (h:n.natAbs < T 15):rndI n 0=some (zJ n)∧Rt (zJ n).1 (zJ n).2∧sc (zJ n).1 (zJ n).2=sc n 0∧((zJ n).1=0↔n=0)∧0≤(zJ n).2:=by
 obtain ⟨m,k,h1,h2,h3,h4,h5⟩:=zrM h (e:=0) (by omega) (by omega)
 have hw:zJ n=(m,k):=by unfold zJ;rw [h1];rfl
 rw [hw]
 refine ⟨h1,h2,h3,h4,?_⟩
 by_cases h0:n=0
 ·have hm:=h4.2 h0
  rcases h2 with ⟨_,hk⟩ | ⟨hm',_⟩
  ·show 0≤k;omega
  ·exact absurd hm hm'
 ·exact h5 h0
end Go.Proofs.YtkoidgbgoccgmaaGreatDoor
namespace Go.Proofs.YtkoidgbgoccgmaaGreatDoor
open Tryz
open NM
def MX:Nat:=T 140
def GU (U x:Nat):Nat:=(if U≤2 * (x % U) then x / U+1 else x / U) * U
def HU (U x:Nat):Nat:=if GU U x < MX then GU U x else x
def HI (U:Nat) (x:Int):Int:=if x < 0 then -(HU U x.natAbs:Int) else HU U x.natAbs
theorem zsv (neg:Bool) (N:Nat) (e:Int):sc (sg neg N) e=sg neg (N * T (e+100).toNat):=by unfold sc;rw [sg_mul_nat]
theorem zoh (b:Bool):sg b 0=0:=by cases b <;> rfl
end Go.Proofs.YtkoidgbgoccgmaaGreatDoor
namespace Go.Proofs.YtkoidgbgoccgmaaGreatDoor
open Tryz
open Go.RowKit NM
theorem zi4 {neg:Bool} {N:Nat} (h:nd N≤15):rnd neg N false 0=some (sg neg (trim N 0).1,(trim N 0).2):=by
 rw [znN h (by omega)]
 unfold fin
 by_cases h0:N=0
 ·subst h0;rw [if_pos rfl,trim_zero];cases neg <;> rfl
 ·rw [if_neg h0,if_neg (by omega)]
theorem zmg (a b:Nat):plusN true true a b=(true,a+b):=by simp [plusN]
theorem zmV (m ex:Int) (k:Nat) (w:World) (h:Rt m ex) (he:ex < 0) (hk : -ex=(k:Int)) :
  Tl prog 143 #[NV m ex] w (NV (rm (rnd (decide (m < 0)) (zap m k) false 0)) (re (rnd (decide (m < 0)) (zap m k) false 0))):=by
 obtain ⟨b1,b2,b3⟩:=zaE h
 have hm:I64 m:=by unfold I64;omega
 have r1:=zab h
 have hT15:T 15=1000000000000000:=by decide
 have hnd:nd m.natAbs≤15:=(nd_le_iff _ _).2 (by omega)
 have hof:=fun W=>zdn m ex W hm
 have hdl:=dig_length m.natAbs
 have hdall:=dig_all m.natAbs
 have hval:=take_val hdall (nd m.natAbs - k)
 rw [val_dig,hdl] at hval
 by_cases hneg:m < 0
 ·have hfl:zap m k=m.natAbs / T k+1:=by unfold zap;rw [if_pos hneg]
  have hng:decide (m < 0)=true:=by simp [hneg]
  rw [hfl,hng]
  rw [hng] at hof
  by_cases hpos:k < nd m.natAbs
  ·have hv:val ((dig m.natAbs).take (nd m.natAbs - k))=m.natAbs / T k:=by rw [hval.1];congr 2;omega
   have hll:((dig m.natAbs).take (nd m.natAbs - k)).length=nd m.natAbs - k:=by rw [List.length_take,hdl];omega
   have hal:=hdall.take (nd m.natAbs - k)
   have hx1:((nd m.natAbs:Int)+ex)=((nd m.natAbs - k:Nat):Int):=by omega
   obtain ⟨x0,hx0⟩:∃ x,(dig m.natAbs)[0]? = some x:=⟨(dig m.natAbs)[0]'(by rw [hdl];omega),by rw [List.getElem?_eq_getElem]⟩
   generalize m.natAbs / T k=Q at *
   generalize hN:m.natAbs=N at *
   have hnd':nd N - k≤15∧0 < nd N - k:=by omega
   generalize hn:nd N - k=n at *
   have hnN:n≤nd N:=by omega
   generalize hD:dig N=D at *
   have HTK:Hid (∀ W A,Rd 0 W A (i6 D)→Rd 0 W A (i6 (D.take n))):=fun W A hr=>by have:=Rd.take hr n;rw [← List.map_take] at this;exact this
   generalize D.take n=hd at *
   have hpl:=fun A B ca cb W h1 h2=>zhh true true A B ca cb hd [1] 0 0 0 0 0 n W h1 h2 (by omega) (by simp) rfl rfl (Or.inl rfl) (by omega) (by omega) hal (AllD.cons (by omega) AllD.nil) (by simp;omega)
   rw [zmg,hll,hv] at hpl
   simp only [show T 0=1 from rfl,Nat.mul_one,List.length_singleton,show val [1]=1 from rfl] at hpl
   clear hval hv h hn hD hN
   generalize hRR:rnd true (Q+1) false 0=R
   have HRR:=Lib.hid hRR
   clear hRR
   go_enter func143,ntmps143
   go_wp2_with (first | (go_at_call 140;with_reducible refine aM (zW _ _ _ (by assumption)) fun osr dr=>?_) | ((go_at_call 146;(with_reducible refine (hof _).mono ?_);rintro e w' ⟨A,c,rfl,hrd,hcp,hx⟩;obtain ⟨os,d,rfl⟩:=hx.more;have hrd:=hrd.mono (Nat.zero_le _);(try rw [za] at hrd));obtain ⟨b,off,rfl,_,_⟩:=Rd.at_ hrd hx0) | (go_at_call 145;(with_reducible refine (hpl _ _ _ _ _ (HTK.out _ _ (Rd.ext hrd (by simp [go_sem]))) (Rd.one_ _ _ (by simp))).mono ?_);rintro e w' ⟨⟨A2,c2,X2,rfl,hrx2,hn2,ha2,hv2,hc2⟩,hx2⟩;obtain ⟨os2,d2,rfl⟩:=hx2.more) | (go_at_call 60;with_reducible refine aM (zcs 0 true A2 (n+1) c2 X2 (Q+1) 0 false _ hn2 (Rd.swap hrx2 (by simp) (by simp) (Nat.zero_le _)) hc2 (by omega) ha2 hv2 (by omega) (Nat.zero_le _)) fun os3 d3=>?_;rw [HRR.out]))
   exact rc1 rfl rfl (by simp [go_sem]) ⟨rfl,by simp [go_sem]⟩
  ·have hv:m.natAbs / T k=0:=Nat.div_eq_of_lt ((nd_le_iff _ _).1 (by omega))
   have hpl:=fun A B ca cb W h1 h2=>zhh true true A B ca cb [] [1] 0 0 0 0 0 1 W h1 h2 (by simp) (by simp) rfl rfl (Or.inl rfl) (by omega) (by omega) AllD.nil (AllD.cons (by omega) AllD.nil) (by simp)
   rw [zmg] at hpl
   simp only [show T 0=1 from rfl,Nat.mul_one,List.length_singleton,List.length_nil,show val [1]=1 from rfl,val_nil] at hpl
   rw [hv]
   clear hval hv h
   generalize hRR:rnd true (0+1) false 0=R
   have HRR:=Lib.hid hRR
   clear hRR
   have hx1:¬ (0 < (nd m.natAbs:Int)+ex):=by omega
   generalize nd m.natAbs=n at *
   go_enter func143,ntmps143
   go_wp2_with (first | (go_at_call 140;with_reducible refine aM (zW _ _ _ (by assumption)) fun osr dr=>?_) | ((go_at_call 146;(with_reducible refine (hof _).mono ?_);rintro e w' ⟨A,c,rfl,hrd,hcp,hx⟩;obtain ⟨os,d,rfl⟩:=hx.more;have hrd:=hrd.mono (Nat.zero_le _);(try rw [za] at hrd))) | (go_at_call 145;(with_reducible refine (hpl _ _ _ _ _ (Rd.nil _ _ _) (Rd.one_ _ _ (by simp))).mono ?_);rintro e w' ⟨⟨A2,c2,X2,rfl,hrx2,hn2,ha2,hv2,hc2⟩,hx2⟩;obtain ⟨os2,d2,rfl⟩:=hx2.more) | (go_at_call 60;with_reducible refine aM (zcs 0 true A2 (1+1) c2 X2 (0+1) 0 false _ hn2 (Rd.swap hrx2 (by simp) (by simp) (Nat.zero_le _)) hc2 (by omega) ha2 hv2 (by omega) (Nat.zero_le _)) fun os3 d3=>?_;rw [HRR.out]))
   exact rc1 rfl rfl (by simp [go_sem]) ⟨rfl,by simp [go_sem]⟩
 ·have hfl:zap m k=m.natAbs / T k:=by unfold zap;rw [if_neg hneg]
  have hng:decide (m < 0)=false:=by simp [hneg]
  rw [hfl,hng]
  rw [hng] at hof
  by_cases hpos:k < nd m.natAbs
  ·have hv:val ((dig m.natAbs).take (nd m.natAbs - k))=m.natAbs / T k:=by rw [hval.1];congr 2;omega
   have hll:((dig m.natAbs).take (nd m.natAbs - k)).length=nd m.natAbs - k:=by rw [List.length_take,hdl];omega
   have hal:=hdall.take (nd m.natAbs - k)
   have hx1:((nd m.natAbs:Int)+ex)=((nd m.natAbs - k:Nat):Int):=by omega
   obtain ⟨x0,hx0⟩:∃ x,(dig m.natAbs)[0]? = some x:=⟨(dig m.natAbs)[0]'(by rw [hdl];omega),by rw [List.getElem?_eq_getElem]⟩
   generalize m.natAbs / T k=Q at *
   generalize hN:m.natAbs=N at *
   have hnd':nd N - k≤15∧0 < nd N - k:=by omega
   generalize hn:nd N - k=n at *
   have hnN:n≤nd N:=by omega
   generalize hD:dig N=D at *
   have HTK:Hid (∀ W A,Rd 0 W A (i6 D)→Rd 0 W A (i6 (D.take n))):=fun W A hr=>by have:=Rd.take hr n;rw [← List.map_take] at this;exact this
   generalize D.take n=hd at *
   clear hval h hn hD hN
   generalize hRR:rnd false Q false 0=R
   have HRR:=Lib.hid hRR
   clear hRR
   have hng':¬ m < 0:=hneg
   go_enter func143,ntmps143
   go_wp2_with (first | (go_at_call 140;with_reducible refine aM (zW _ _ _ (by assumption)) fun osr dr=>?_) | ((go_at_call 146;(with_reducible refine (hof _).mono ?_);rintro e w' ⟨A,c,rfl,hrd,hcp,hx⟩;obtain ⟨os,d,rfl⟩:=hx.more;have hrd:=hrd.mono (Nat.zero_le _);(try rw [za] at hrd));obtain ⟨b,off,rfl,_,_⟩:=Rd.at_ hrd hx0) | (go_at_call 60;with_reducible refine aM (zcs 0 false _ n c hd Q 0 false _ hll (HTK.out _ _ (Rd.ext hrd (by simp [go_sem]))) (by omega) (by omega) hal hv (by omega) (Nat.zero_le _)) fun os3 d3=>?_;rw [HRR.out]))
   exact rc1 rfl rfl (by simp [go_sem]) ⟨rfl,by simp [go_sem]⟩
  ·have hv:m.natAbs / T k=0:=Nat.div_eq_of_lt ((nd_le_iff _ _).1 (by omega))
   rw [hv]
   clear hval hv h
   generalize hRR:rnd false 0 false 0=R
   have HRR:=Lib.hid hRR
   clear hRR
   have hx1:¬ (0 < (nd m.natAbs:Int)+ex):=by omega
   generalize nd m.natAbs=n at *
   go_enter func143,ntmps143
   go_wp2_with (first | (go_at_call 140;with_reducible refine aM (zW _ _ _ (by assumption)) fun osr dr=>?_) | ((go_at_call 146;(with_reducible refine (hof _).mono ?_);rintro e w' ⟨A,c,rfl,hrd,hcp,hx⟩;obtain ⟨os,d,rfl⟩:=hx.more;have hrd:=hrd.mono (Nat.zero_le _);(try rw [za] at hrd))) | (go_at_call 60;with_reducible refine aM (zcs 0 false none 0 0 [] 0 0 false _ rfl (Rd.nil _ _ _) (by omega) (by omega) AllD.nil rfl (by omega) (Nat.zero_le _)) fun os3 d3=>?_;rw [HRR.out]))
   exact rc1 rfl rfl (by simp [go_sem]) ⟨rfl,by simp [go_sem]⟩
theorem zi5 {m e:Int} {k:Nat} (h:Rt m e) (hk:0 < k):nd (zap m k)≤15:=by
 obtain ⟨b1,_,_⟩:=zaE h
 have hT15:T 15=1000000000000000:=by decide
 have h1:m.natAbs / T k≤m.natAbs / T 1:=Nat.div_le_div_left (T_mono hk) (T_pos 1)
 have h2:T 1=10:=by decide
 rw [h2] at h1
 rw [nd_le_iff]
 unfold zap
 split <;> omega
theorem zmW (m ex:Int) (w:World) (hm:I64 m) :
  Tl prog 143 #[NV m ex] w (NV (zN m ex).1 (zN m ex).2):=by
 have hz:=fun W=>zpt m ex W hm
 by_cases h:Rt m ex
 ·rw [if_pos h,if_pos h] at hz
  by_cases h0:0≤ex
  ·have hs:zN m ex=(m,ex):=by unfold zN;rw [if_neg (by simpa using h),if_pos h0]
   rw [hs]
   have r1:=zab h
   clear h hs
   go_enter func143,ntmps143
   go_wp2_with (first | (go_at_call 140;with_reducible refine aM (zW _ _ _ (by assumption)) fun osr dr=>?_) | (go_at_call 180;with_reducible refine aM (hz _) fun os3 d3=>?_))
   exact rc1 rfl rfl (by simp [go_sem]) ⟨rfl,by simp [go_sem]⟩
  ·obtain ⟨k,hk⟩:∃ k:Nat,-ex=(k:Int):=⟨(-ex).toNat,by omega⟩
   have hs:zN m ex=(rm (rnd (decide (m < 0)) (zap m k) false 0),re (rnd (decide (m < 0)) (zap m k) false 0)):=by
    unfold zN
    rw [if_neg (by simpa using h),if_neg h0,hk,zi4 (zi5 h (by omega))];rfl
   rw [hs]
   exact zmV m ex k w h (by omega) hk
 ·rw [if_neg h,if_neg h] at hz
  have hs:zN m ex=(0,0):=by unfold zN;rw [if_pos h]
  rw [hs]
  have r1:=zbi h
  clear h hs
  go_enter func143,ntmps143
  go_wp2_with (first | (go_at_call 140;with_reducible refine aM (zW _ _ _ (by assumption)) fun osr dr=>?_) | (go_at_call 180;with_reducible refine aM (hz _) fun os3 d3=>?_))
  exact rc1 rfl rfl (by simp [go_sem]) ⟨rfl,by simp [go_sem]⟩
def HX:Int:=((T 100:Nat):Int)
theorem zoi:0 < HX:=by have:=T_pos 100;unfold HX;omega
theorem zpS {neg:Bool} {N:Nat} (h:nd N≤15):Rt (sg neg (trim N 0).1) (trim N 0).2∧sc (sg neg (trim N 0).1) (trim N 0).2=sg neg N * HX∧0≤(trim N 0).2:=by
 have h1:=zi4 (neg:=neg) h
 refine ⟨rnd_right h1,?_,?_⟩
 ·rw [zsv]
  by_cases h0:N=0
  ·rw [h0,trim_zero,Nat.zero_mul,zoh,Int.zero_mul]
  ·rw [sc_trim h0 (by omega),sg_mul_nat];rfl
 ·by_cases h0:N=0
  ·rw [h0,trim_zero];exact Int.le_refl _
  ·obtain ⟨k,_,hb,_⟩:=trim_spec N 0 h0
   rw [hb];omega
theorem zfB {m e:Int} (h:Rt m e):Rt (zN m e).1 (zN m e).2∧0≤(zN m e).2∧sc (zN m e).1 (zN m e).2≤sc m e∧sc m e < sc (zN m e).1 (zN m e).2+HX:=by
 have hH:=zoi
 unfold zN
 rw [if_neg (by simpa using h)]
 by_cases h0:0≤e
 ·rw [if_pos h0];exact ⟨h,h0,Int.le_refl _,by show sc m e < sc m e+HX;omega⟩
 ·rw [if_neg h0]
  obtain ⟨b1,b2,b3⟩:=zaE h
  obtain ⟨k,hk⟩:∃ k:Nat,-e=(k:Int):=⟨(-e).toNat,by omega⟩
  rw [hk,Int.toNat_natCast]
  have hk0:0 < k:=by omega
  have hk100:k≤100:=by omega
  obtain ⟨w1,w2,w3⟩:=zpS (neg:=decide (m < 0)) (zi5 h hk0)
  refine ⟨w1,w3,?_⟩
  show sc (sg (decide (m < 0)) (trim (zap m k) 0).1) (trim (zap m k) 0).2≤sc m e∧sc m e < sc (sg (decide (m < 0)) (trim (zap m k) 0).1) (trim (zap m k) 0).2+HX
  rw [w2]
  have hdm:=Nat.div_add_mod m.natAbs (T k)
  have hml:=Nat.mod_lt m.natAbs (T_pos k)
  have hsc:sc m e=m * ((T (100 - k):Nat):Int):=by unfold sc;congr 3;omega
  have hHX:HX=((T k:Nat):Int) * ((T (100 - k):Nat):Int):=by unfold HX;rw [← zdT];congr 2;omega
  have hr0:m < 0→m.natAbs % T k≠0:=by
   intro hm
   rcases h with ⟨h1,_⟩ | ⟨_,_,h3,_,_⟩
   ·omega
   ·exact zjZ h3 hk0
  have ht:=T_pos (100 - k)
  unfold zap
  rw [hsc,hHX]
  generalize T (100 - k)=t at *
  generalize m.natAbs / T k=q at *
  generalize m.natAbs % T k=r at *
  generalize T k=u at *
  have htI:(0:Int) < (t:Int):=by omega
  have hrt:(r:Int) * (t:Int) < (u:Int) * (t:Int):=Int.mul_lt_mul_of_pos_right (by omega) htI
  have hrp:0≤(r:Int) * (t:Int):=Int.mul_nonneg (by omega) (by omega)
  by_cases hm:m < 0
  ·have hmr:m = -((u:Int) * (q:Int)+(r:Int)):=by rw [← Int.natCast_mul];omega
   have hr1:0 < (r:Int) * (t:Int):=Int.mul_pos (by have:=hr0 hm;omega) htI
   rw [if_pos hm,decide_eq_true hm]
   have e1:sg true (q+1) * ((u:Int) * (t:Int)) = -((q:Int) * ((u:Int) * (t:Int))) - (u:Int) * (t:Int):=by
    simp only [sg,if_true];rw [Int.neg_mul,Int.natCast_add,Int.add_mul];simp;omega
   have e2:m * (t:Int) = -((q:Int) * ((u:Int) * (t:Int))) - (r:Int) * (t:Int):=by
    rw [hmr,Int.neg_mul,Int.add_mul,Int.mul_comm (u:Int) (q:Int),Int.mul_assoc];omega
   rw [e1,e2]
   omega
  ·have hmr:m=(u:Int) * (q:Int)+(r:Int):=by rw [← Int.natCast_mul];omega
   rw [if_neg hm,show decide (m < 0)=false by simp [hm]]
   have e1:sg false q * ((u:Int) * (t:Int))=(q:Int) * ((u:Int) * (t:Int)):=by simp [sg]
   have e2:m * (t:Int)=(q:Int) * ((u:Int) * (t:Int))+(r:Int) * (t:Int):=by
    rw [hmr,Int.add_mul,Int.mul_comm (u:Int) (q:Int),Int.mul_assoc]
   rw [e1,e2]
   omega
theorem zoj:∀ (k:Nat) (n:Int),(n * (T k:Nat)).natAbs≤1000000000000000→zb6 n k=some (n * (T k:Nat))
 | 0,n,_=>by simp [zb6,T]
 | k+1,n,h=>by
  have h1:n * ((T (k+1):Nat):Int)=n * 10 * ((T k:Nat):Int):=by rw [T_succ,Int.natCast_mul,← Int.mul_assoc];rfl
  rw [h1] at h ⊢
  have h2:n.natAbs * 10≤1000000000000000:=by
   have h3:(n * 10 * ((T k:Nat):Int)).natAbs=n.natAbs * 10 * T k:=by rw [Int.natAbs_mul,Int.natAbs_mul,Int.natAbs_natCast];rfl
   rw [h3] at h
   exact Nat.le_trans (Nat.le_mul_of_pos_right _ (T_pos k)) h
  rw [zb6,if_neg (by omega)]
  exact zoj k (n * 10) h
theorem zkq {m e:Int} (h:0≤e):sc m e=m * (T e.toNat:Nat) * HX:=by
 unfold sc HX
 rw [Int.mul_assoc,← zdT];congr 3;omega
end Go.Proofs.YtkoidgbgoccgmaaGreatDoor
namespace Go.Proofs.YtkoidgbgoccgmaaGreatDoor
open Tryz
open Go.RowKit
def zde (C row col rows cols:Nat) (l:List Val):List Val:=zC (fun i j=>zk l ((row+i) * C+col+j)) cols (rows * cols)
end Go.Proofs.YtkoidgbgoccgmaaGreatDoor
namespace Go.Proofs.YtkoidgbgoccgmaaGreatDoor
open Tryz
open Go.RowKit NM
theorem zbu {m e:Int} (h:Rt m e):I64 m:=by
 obtain ⟨h1,h2,h3⟩:=zaE h
 unfold I64;omega
def zV (n:Int):Val:=⟨1,(zJ n).1,(zJ n).2,⟨#[]⟩,false,0⟩
def zci (v:Val):Int×Int:=if tnF v=0 then ((zby (zN (tnP v).1 (tnP v).2).1 (zN (tnP v).1 (tnP v).2).2).getD 0,if (zby (zN (tnP v).1 (tnP v).2).1 (zN (tnP v).1 (tnP v).2).2).isSome then 0 else 5) else (0,tnF v)
def zev (a:NA) (row col rows cols:Nat):NA:=⟨rows,cols,zde a.C row col rows cols a.l⟩
theorem zok {C row col rows cols:Nat} {l:List Val} {v:Val} {R:Nat} (hl:l.length=R * C) (h1:row+rows≤R) (h2:col+cols≤C) (h:v∈zde C row col rows cols l):v∈l:=by
 unfold zde zC at h
 simp only [List.mem_map,List.mem_range] at h
 obtain ⟨t,ht,rfl⟩:=h
 have hc:0 < cols:=by rcases Nat.eq_zero_or_pos cols with h | h;(subst h;simp at ht);exact h
 have hi:t / cols < rows:=Nat.div_lt_of_lt_mul (by rw [Nat.mul_comm];exact ht)
 have hj:t % cols < cols:=Nat.mod_lt _ hc
 have hk:(row+t / cols) * C+col+t % cols < l.length:=by
  rw [hl]
  have:(row+t / cols) * C+C≤R * C:=by
   have:=Nat.mul_le_mul_right C (show row+t / cols+1≤R by omega)
   rw [Nat.add_mul,Nat.one_mul] at this
   exact this
  omega
 unfold zk
 rw [List.getElem?_eq_getElem hk]
 exact List.getElem_mem hk
theorem zpT {a:NA} (ha:a.ok) (hr:a.right) {row col rows cols:Nat} (h1:row+rows≤a.R) (h2:col+cols≤a.C):(zev a row col rows cols).ok:=fun x hx =>
 ha x (zok (zi.1 hr).2.2.2.1 h1 h2 hx)
def zZ (v:Val):Bool×Int :=
 if v.kind=1 then (decide (v.mant≠0),0)
 else if v.kind=2 then (if (zac v.text).toList == [84,82,85,69] then (true,0) else if (zac v.text).toList == [70,65,76,83,69] then (false,0) else (false,2))
 else if v.kind=3 then (v.truth,0)
 else if v.kind=4 then (false,v.fault)
 else (false,0)
abbrev bfV (p:Bool×Int):Value:=.tuple #[.bool p.1,.int .i64 p.2]
theorem zlh (v:Val) (w:World) (hv:v.right) :
  Tl prog 72 #[VV v.kind v.mant v.exp v.text v.truth v.fault] w (bfV (zZ v)):=by
 rcases hv.form with rfl | ⟨m,e,rfl,hr⟩ | ⟨t,rfl,ht⟩ | ⟨x,rfl⟩ | ⟨f,rfl,hf⟩
 ·show Tl prog 72 #[VV 0 0 0 ⟨#[]⟩ false 0] w (.tuple #[.bool false,.int .i64 0])
  go_enter func72,ntmps72
  go_wp2
  exact rt2 rfl rfl ⟨rfl,by simp [go_sem]⟩
 ·show Tl prog 72 #[VV 1 m e ⟨#[]⟩ false 0] w (.tuple #[.bool (decide (m≠0)),.int .i64 0])
  clear hr hv
  by_cases hm:m=0
  ·subst hm
   go_enter func72,ntmps72
   go_wp2
   exact rt2 rfl rfl ⟨rfl,by simp [go_sem]⟩
  ·rw [decide_eq_true hm]
   have hm':(m != 0)=true:=by simpa using hm
   go_enter func72,ntmps72
   go_wp2
   exact rt2 rfl rfl ⟨rfl,by simp [go_sem]⟩
 ·have hF:=fun W=>zhn t W (by omega)
  have hT:zZ ⟨2,0,0,t,false,0⟩=if (zac t).toList == [84,82,85,69] then (true,0) else if (zac t).toList == [70,65,76,83,69] then (false,0) else (false,2):=rfl
  rw [hT]
  show Calls prog 72 #[VV 2 0 0 t false 0] w _
  clear hT ht hv
  generalize zac t=X at *
  cases h1:X.toList == [84,82,85,69] with
  | true =>
   rw [if_pos rfl]
   go_enter func72,ntmps72
   go_wp2_with (go_at_call 130;with_reducible refine aM (hF _) fun os d=>?_)
   exact rt2 rfl rfl ⟨rfl,by simp [go_sem]⟩
  | false =>
   rw [if_neg (by simp)]
   cases h2:X.toList == [70,65,76,83,69] with
   | true =>
    rw [if_pos rfl]
    go_enter func72,ntmps72
    go_wp2_with (go_at_call 130;with_reducible refine aM (hF _) fun os d=>?_)
    exact rt2 rfl rfl ⟨rfl,by simp [go_sem]⟩
   | false =>
    rw [if_neg (by simp)]
    go_enter func72,ntmps72
    go_wp2_with (go_at_call 130;with_reducible refine aM (hF _) fun os d=>?_)
    exact rt2 rfl rfl ⟨rfl,by simp [go_sem]⟩
 ·show Tl prog 72 #[VV 3 0 0 ⟨#[]⟩ x 0] w (.tuple #[.bool x,.int .i64 0])
  go_enter func72,ntmps72
  go_wp2
  exact rt2 rfl rfl ⟨rfl,by simp [go_sem]⟩
 ·show Tl prog 72 #[VV 4 0 0 ⟨#[]⟩ false f] w (.tuple #[.bool false,.int .i64 f])
  go_enter func72,ntmps72
  go_upto_region 14 with fail
  go_region
  all_goals
   go_wp2
   exact rt2 rfl rfl ⟨rfl,by simp [go_sem]⟩
end Go.Proofs.YtkoidgbgoccgmaaGreatDoor
namespace Go.Proofs.YtkoidgbgoccgmaaGreatDoor
open Tryz
open Go.RowKit
theorem zdK {R C:Nat} {l:List Val} {i j:Nat} (hi:i < R) (hj:j < C):zl R C l i j=zk l (i * C+j):=by
 have:zbP R C i j=true:=zds.2 ⟨by omega,by omega,by omega,by omega⟩
 simp [zl,this]
theorem zi6 (R C:Nat) (l:List Val) (i j:Nat):zl R C l i j=if i < R∧j < C then zk l (i * C+j) else zaX 6:=by
 split
 ·rename_i h;exact zdK h.1 h.2
 ·rename_i h;exact zdW (zgI (by omega))
theorem zrd (R C:Nat) (l:List Val) {i j:Nat} (hi:i < C) (hj:j < R):zk (zT R C l) (i * R+j)=zk l (j * C+i):=zdH _ hi hj
theorem zgY (R C:Nat) (l:List Val) (i j:Nat):zl C R (zT R C l) i j=zl R C l j i:=by
 rw [zi6,zi6]
 by_cases h:i < C∧j < R
 ·rw [if_pos h,if_pos ⟨h.2,h.1⟩,zrd R C l h.1 h.2]
 ·rw [if_neg h,if_neg (fun k=>h ⟨k.2,k.1⟩)]
theorem zcy (R C:Nat) (l:List Val):(zT R C l).length=C * R:=za7 _ _ _
theorem zkr (C row col rows cols:Nat) (l:List Val):(zde C row col rows cols l).length=rows * cols:=za7 _ _ _
theorem ziE (R C:Nat) (l:List Val) (R' C':Nat) (l':List Val):(zbQ R C l R' C' l').length=max R R' * (C+C'):=za7 _ _ _
theorem zmX (R C:Nat) (l:List Val) (R' C':Nat) (l':List Val) {i j:Nat} (hi:i < max R R') (hj:j < C+C') :
  zk (zbQ R C l R' C' l') (i * (C+C')+j)=if j < C then zl R C l i j else zl R' C' l' i ((j:Int) - (C:Int)):=by
 rw [zbQ,zdH _ hi hj]
theorem zpU {P:Val→Prop} {l:List Val} {k:Nat} (h:∀ x∈l,P x) (hk:k < l.length):P (zk l k):=h _ (zee hk)
theorem zfC {P : Val → Prop} {R C : Nat} {l : List Val} (hl : l.length = R * C) (h : ∀ x ∈ l, P x) : ∀ x ∈ zT R C l, P x := by
  intro x hx
  unfold zT zC at hx
  obtain ⟨t, ht, rfl⟩ := List.mem_map.1 hx
  have ht' : t < C * R := List.mem_range.1 ht
  have hR : 0 < R := by rcases Nat.eq_zero_or_pos R with rfl | h; · simp at ht'
                        · exact h
  refine zpU h ?_
  rw [hl]
  have h1 : t / R < C := Nat.div_lt_of_lt_mul (by rw [Nat.mul_comm]; exact ht')
  have h2 : t % R < R := Nat.mod_lt _ hR
  calc t % R * C + t / R < t % R * C + C := by omega
    _ = (t % R + 1) * C := by rw [Nat.succ_mul]
    _ ≤ R * C := Nat.mul_le_mul_right _ h2
theorem zfD {R C:Nat} {l:List Val} (h:zo R C l=true):zo C R (zT R C l)=true:=by
 obtain ⟨a1,a2,a3,a4,a5⟩:=zi.1 h
 exact zi.2 ⟨a2,a1,by rw [Nat.mul_comm];exact a3,zcy _ _ _,zfC a4 a5⟩
theorem zbA {P:Program} (w:World) {o:Oper} {a:Act} {K:Act→World→Prop} {Q:Exit→Act→World→Prop} (s x:Operand) (t:TypeId)
  (ho:o.op = .call { callee:=.builtin .append,args:=#[s,x],argTypes:=#[t,t] })
  (base:Nat) (e:TypeId) (i:TypeInfo) (z:Value) (size bytes:Nat) (ht:P.underlying t=some (.slice e)) (hi:P.info? e=some i) (hz:i.zero=some z)
  (hsize:i.size=size) (hby:i.bytes=bytes) (hzs:z.cells.size=size) (hsz:0 < size)
  (v:Value) (n:Nat) (xs:List Value) (hs:a.eval s=v) (hown:w.ownsRow base e size v n xs)
  (ad:Addr) (m c:Nat) (news:List Value) (hx:a.eval x = .slice (some ad) m c) (hl:news.length=m * size) (hnews:∀ j u,news[j]? = some u→w.cell? (ad.add j)=some u) (h1:∀ u∈news,u.oneCell'=true)
  (b1:n+m≤maxLen) (b2:(n+m) * bytes≤140737488355328) (hbase:base≤w.heap.size)
  (h:∀ v' w',w'.ownsRow base e size v' (n+m) (xs++news)→w.grownBy w' v.ownBlock→K (a.put o.dst v') w'):o.wp P a w K Q:=by
 obtain ⟨v',w',hr,h2,h3,_⟩:=run_append_own (P:=P) w base t o.type e i z size bytes ht hi hz hsize hby hzs hsz v n xs hown ad m c news hl hnews h1 b1 b2 hbase
 unfold Oper.wp execOp
 simp only [ho,resolve,invoke,builtin,Sem.run_bind,Sem.run_pure,Result.andThen_ok,List.map_toArray,List.map_cons,List.map_nil,hs,hx,hr]
 exact h v' w' h2 h3
theorem z7 (w:World) (n:Nat) (cs:List Value) {C:Array Value} (hn:n=w.heap.size) (hC:C=cs.toArray) (ty:TypeId):∀ j u,cs[j]? = some u→(w.alloc (.cells C ty)).cell? ((⟨n,0,none⟩:Addr).add j)=some u:=by
 subst hn hC;exact ziZ w cs ty
theorem za5 {w:World} {base:Nat} {e:TypeId} {size n:Nat} {v:Value} {xs:List Value} (h:w.ownsRow base e size v n xs):∃ A c,v = .slice A n c:=by
 rcases h.2 with ⟨rfl,rfl⟩ | ⟨g,cap,cur,rfl,_⟩
 ·exact ⟨_,_,rfl⟩
 ·exact ⟨_,_,rfl⟩
theorem zw {w w1:World} {base:Nat} {e:TypeId} {size n:Nat} {v:Value} {xs:List Value} (h:w.ownsRow base e size v n xs) (hx:Ext w w1):w1.ownsRow base e size v n xs:=by
 refine ⟨h.1,?_⟩
 rcases h.2 with h2 | ⟨g,cap,cur,hv,hg,hh,r⟩
 ·exact .inl h2
 ·refine .inr ⟨g,cap,cur,hv,hg,?_,r⟩
  rw [hx.block ?_];exact hh
  rcases Nat.lt_or_ge g w.heap.size with hl | hl
  ·exact hl
  ·rw [Array.getElem?_eq_none hl] at hh;cases hh
theorem zew {w:World} {base:Nat} {e:TypeId} {size n:Nat} {v:Value} {xs:List Value} (h:w.ownsRow base e size v n xs):∀ k,v.ownBlock=some k→base≤k:=by
 intro k hk
 rcases h.2 with ⟨rfl,_⟩ | ⟨g,cap,cur,rfl,hg,_⟩
 ·cases hk
 ·simp only [Value.ownBlock,Option.some.injEq] at hk;omega
structure Acc (w0:World) (s0:Nat) (r c:Int) (A:Option Addr) (cap k:Nat) (l:List Val) (wr:World):Prop where
 ext:Ext w0 wr
 hi:w0.heap.size≤s0
 row:wr.heap[s0]? = some (.cells #[.int .i64 r,.int .i64 c,.slice A k cap] 30)
 own:wr.ownsRow (s0+1) 37 6 (.slice A k cap) k (zm l)
theorem zbn {w:World} {b:Nat} {o:Obj} (h:w.heap[b]? = some o):b < w.heap.size:=by
 rcases Nat.lt_or_ge b w.heap.size with hl | hl
 ·exact hl
 ·rw [Array.getElem?_eq_none hl] at h;cases h
def zrN (w0:World) (s0:Nat) (r c:Int) (A:Option Addr) (cap k:Nat) (W:World):Prop:=Ext w0 W∧W.heap[s0]? = some (.cells #[.int .i64 r,.int .i64 c,.slice A k cap] 30)
section
variable {w0:World} {s0:Nat} {r c:Int} {A:Option Addr} {cap k:Nat} {l:List Val} {wr:World}
theorem Acc.lt (h:Acc w0 s0 r c A cap k l wr):s0 < wr.heap.size:=zbn h.row
theorem Acc.of_ext (h:Acc w0 s0 r c A cap k l wr) {w1:World} (hx:Ext wr w1):Acc w0 s0 r c A cap k l w1 :=
 ⟨h.ext.trans hx,h.hi,by rw [hx.block h.lt];exact h.row,zw h.own hx⟩
theorem Acc.start (w0:World) (r c:Int):Acc w0 w0.heap.size r c none 0 0 [] (w0.alloc (.cells #[.int .i64 r,.int .i64 c,.slice none 0 0] 30)) :=
 ⟨(Ext.refl _).alloc _,Nat.le_refl _,heap_alloc_new _ _,World.ownsRow_nil _ _ _ _⟩
theorem Acc.rd (h:Acc w0 s0 r c A cap k l wr):SlV (s0+1) wr A l∧k≤cap:=by
 obtain ⟨A',c',e,hr,hc⟩:=Rd.of_own h.own
 simp only [Value.slice.injEq,true_and] at e
 obtain ⟨rfl,rfl⟩:=e
 exact ⟨hr,hc⟩
theorem Acc.step (h:Acc w0 s0 r c A cap k l wr) {x:Val} {v':Value} {w1 w3:World} {ty:TypeId} (hx:Ext wr w1)
  (hg:(w1.alloc (.cells x.cells.toArray ty)).grownBy w3 (Value.slice A k cap).ownBlock) (ho:w3.ownsRow (s0+1) 37 6 v' (k+1) (zm l++x.cells)) :
  ∃ A' cap',v' = .slice A' (k+1) cap'∧w3.heap[s0]? = some (.cells #[.int .i64 r,.int .i64 c,.slice A k cap] 30)∧Ext w0 w3∧Acc w0 s0 r c A' cap' (k+1) (l++[x]) (w3.setCell ⟨s0,2,none⟩ v'):=by
 obtain ⟨A',cap',rfl⟩:=za5 ho
 have h1:=h.of_ext hx
 have hlt:=h1.lt
 have hnb:some s0≠(Value.slice A k cap).ownBlock:=fun e=>by have:=zew h.own _ e.symm;omega
 have hrow:w3.heap[s0]? = some (.cells #[.int .i64 r,.int .i64 c,.slice A k cap] 30):=by
  rw [hg.block _ (by simp;omega) hnb,Below.heap_alloc _ _ _ hlt];exact h1.row
 have hex:Ext w0 w3:=by
  have h2:Ext w0 (w1.alloc (.cells x.cells.toArray ty)):=h1.ext.alloc _
  exact ⟨hg.os.trans h2.os,hg.tape.trans h2.tape,hg.output.trans h2.output,Nat.le_trans h2.size hg.size,fun b hb=>(hg.block b (Nat.lt_of_lt_of_le hb h2.size) (fun e=>by have:=zew h.own _ e.symm;have:=h.hi;omega)).trans (h2.block hb)⟩
 refine ⟨A',cap',rfl,hrow,hex,Ext.set hex _ h.hi,h.hi,?_,?_⟩
 ·simp [World.setCell,Array.getElem?_modify,hrow]
 ·have:zm (l++[x])=zm l++x.cells:=by simp [zm]
  rw [this]
  refine ho.kept (row:=some s0) ⟨rfl,rfl,rfl,by simp [World.setCell],fun b hb hne=>Below.heap_setCell _ _ _ _ (fun e=>hne (by simp [e]))⟩ ?_
  right
  intro e
  have:=zew ho s0 e
  omega
end
theorem zbW (R C i j:Nat) (A:Option Addr) (n cap:Nat) (l:List Val) (w:World) (h:ArrIn w A n cap l) (hn:n=R * C) (hN:n≤4096) (hi:i < R) (hj:j < C) (x:Val) (hx:zk l (i * C+j)=x) :
  Tl prog 92 #[AV R C (.slice A n cap),.int .i64 i,.int .i64 j] w (VV x.kind x.mant x.exp x.text x.truth x.fault):=by
 subst hn
 obtain ⟨hk,hk2⟩:=zcu R hi hj hN
 obtain ⟨b,off,rfl,hv,ho⟩:=h.get hk
 rw [hx] at hv
 clear hx ho
 obtain ⟨v0,v1,v2,v3,v4,v5⟩:=hv
 have hbl:b < w.heap.size:=zg v0
 have w1:IntKind.i64.wrap ((i:Int) * (C:Int))=((i * C:Nat):Int):=by rw [IntKind.wrap_i64,Int.natCast_mul];omega
 generalize hjc:i * C=jc at *
 generalize hrc:R * C=rc at *
 clear hjc hrc
 go_enter func92,ntmps92
 go_wp2
 exact rc1 rfl rfl (by simp [go_sem]) ⟨rfl,by simp [go_sem]⟩
theorem zcd (r c i j:Int) (s:Value) (w:World) (_hs:s.oneCell'=true) :
  Tl prog 141 #[AV r c s,.int .i64 i,.int .i64 j] w (.bool (zbP r c i j)):=by
 have e:zbP r c i j=(decide (0≤i) && decide (0≤j) && decide (i < r) && decide (j < c)):=by
  unfold zbP
  cases decide (0≤i) <;> cases decide (i < r) <;> cases decide (0≤j) <;> rfl
 rw [e]
 clear e
 go_enter func141,ntmps141
 go_upto_region 1 with (fail)
 refine wp_region_lit ?_
 iterate 19 ((first | refine zas rfl rfl rfl rfl rfl ?_ | refine zaC rfl rfl rfl rfl rfl ?_ | (refine zbj (v:=?_) rfl ?_ ?_;rotate_left 1;(go_simp;first | done | rfl)) | (refine za1 (v:=?_) (c:=?_) rfl rfl rfl ?_ (fun hc=>?_) ?_;rotate_left 2;(first | exact zak _ | exact zal _ | exact zQ _ _ | exact zR _ _);((try simp only [zn hc]);(try (have hc1:=zx hc;(try simp only [zn hc1]);(try (have hc2:=zx hc1;(try simp only [zn hc2])))));go_simp;first | done | rfl)));try simp only [zq])
 refine wpList_nil ?_
 try go_simp
 go_wp2
 go_ret
 exact ⟨rfl,by simp [go_sem]⟩
theorem zgZ (R C:Nat) (A:Option Addr) (n cap:Nat) (l:List Val) (w:World) (h:ArrIn w A n cap l) (hr1:1≤R) (hc1:1≤C) (hN:n≤4096) (hn:n=R * C) :
  Calls prog 49 #[AV R C (.slice A n cap)] w fun e w'=>zdp w.heap.size w' e C R (zT R C l)∧Ext w w':=by
 obtain ⟨i0,hi0,hz0,hz1,hz2⟩:=info_parts zaY
 have hcr:C * R≤4096:=by rw [Nat.mul_comm];omega
 have b1:R≤4096:=by have:R * 1≤R * C:=Nat.mul_le_mul_left R hc1;omega
 have b2:C≤4096:=by have:1 * C≤R * C:=Nat.mul_le_mul_right C hr1;omega
 have HN:=Lib.hid hn
 clear hn
 go_enter func49,ntmps49
 go_wp2
 have hacc0:=Acc.start ((w.alloc (Obj.cells #[.int .i64 R,.int .i64 C,.slice A n cap] 30)).alloc (Obj.cells #[.int .i64 0,.int .i64 0,.slice none 0 0] 30)) C R
 go_loopw [4] (fun i wr=>∃ (r cp:Nat) (D:Option Addr),r≤C∧i = .int .i64 r∧Acc ((w.alloc (Obj.cells #[.int .i64 R,.int .i64 C,.slice A n cap] 30)).alloc (Obj.cells #[.int .i64 0,.int .i64 0,.slice none 0 0] 30)) (w.heap.size+1+1) C R D cp (r * R) (zC (fun i j=>zk l (j * C+i)) R (r * R)) wr) (fun i _=>C - (intOf i).toNat)
 case atStart=>exact ⟨0,0,none,Nat.zero_le _,rfl,by simpa [zC] using hacc0⟩
 case round =>
  clear hacc0
  obtain ⟨r,cp,D,hr,rfl,hacc⟩:=hrel
  have p0:wr.cell? ⟨w.heap.size,0,none⟩=some (.int .i64 R):=hacc.ext.cell_some (by simp [go_sem])
  have p1:wr.cell? ⟨w.heap.size,1,none⟩=some (.int .i64 C):=hacc.ext.cell_some (by simp [go_sem])
  have hlt0:=hacc.lt
  by_cases hlt:r < C
  ·go_wp2
   clear p0 p1 hlt0
   obtain ⟨wo,rfl⟩:∃ wo:World,wo=wr:=⟨_,rfl⟩
   go_loopw [5] (fun i wr=>∃ (j cp:Nat) (D:Option Addr),j≤R∧i = .int .i64 j∧Acc ((w.alloc (Obj.cells #[.int .i64 R,.int .i64 C,.slice A n cap] 30)).alloc (Obj.cells #[.int .i64 0,.int .i64 0,.slice none 0 0] 30)) (w.heap.size+1+1) C R D cp (r * R+j) (zC (fun i j=>zk l (j * C+i)) R (r * R+j)) wr) (fun i _=>R - (intOf i).toNat)
   case atStart=>exact ⟨0,cp,D,Nat.zero_le _,rfl,by simpa using hacc⟩
   case round =>
    clear hacc
    obtain ⟨j,cp,D,hj,rfl,hacc⟩:=hrel
    have p0:wr.cell? ⟨w.heap.size,0,none⟩=some (.int .i64 R):=hacc.ext.cell_some (by simp [go_sem])
    have hlt0:=hacc.lt
    by_cases hjt:j < R
    ·have hk:r * R+j < 4096:=by have:=zcu C hlt hjt hcr;omega
     go_wp2
     clear p0
     generalize hx:zk l (j * C+r)=x
     refine zcj (S:=zrN _ _ _ _ _ _ _) [(0,0),(1,0),(2,0),(3,0),(4,0),(5,1),(6,1),(7,1),(8,0),(9,2)] [9] (by kernel_rfl) (by kernel_rfl) (by kernel_rfl) (fun _ _ d _ _ h=>by cases d <;> exact h) ⟨(hacc.of_ext (by simp [go_sem])).ext,(hacc.of_ext (by simp [go_sem])).row⟩ ?_
     (refine zr (v:=?_) rfl ?_ (fun w1 h1=>?_) ?_;rotate_left 1;rfl;(obtain ⟨h1e,h1r⟩:=h1;have c2:=cell_of_row _ _ 2 _ _ _ h1r;clear h1r;obtain ⟨os1,d1,rfl⟩:=h1e.more;(try simp only [za,Array.append_assoc] at c2);go_simp;first | done | rfl))
     try simp only [zq]
     (refine zr (v:=?_) rfl ?_ (fun w1 h1=>?_) ?_;rotate_left 1;rfl;(obtain ⟨h1e,h1r⟩:=h1;have c2:=cell_of_row _ _ 2 _ _ _ h1r;clear h1r;obtain ⟨os1,d1,rfl⟩:=h1e.more;(try simp only [za,Array.append_assoc] at c2);go_simp;first | done | rfl))
     try simp only [zq]
     (refine zr (v:=?_) rfl ?_ (fun w1 h1=>?_) ?_;rotate_left 1;rfl;(obtain ⟨h1e,h1r⟩:=h1;have c2:=cell_of_row _ _ 2 _ _ _ h1r;clear h1r;obtain ⟨os1,d1,rfl⟩:=h1e.more;(try simp only [za,Array.append_assoc] at c2);go_simp;first | done | rfl))
     try simp only [zq]
     (refine zr (v:=?_) rfl ?_ (fun w1 h1=>?_) ?_;rotate_left 1;rfl;(obtain ⟨h1e,h1r⟩:=h1;have c2:=cell_of_row _ _ 2 _ _ _ h1r;clear h1r;obtain ⟨os1,d1,rfl⟩:=h1e.more;(try simp only [za,Array.append_assoc] at c2);go_simp;first | done | rfl))
     try simp only [zq]
     (refine zr (v:=?_) rfl ?_ (fun w1 h1=>?_) ?_;rotate_left 1;rfl;(obtain ⟨h1e,h1r⟩:=h1;have c2:=cell_of_row _ _ 2 _ _ _ h1r;clear h1r;obtain ⟨os1,d1,rfl⟩:=h1e.more;(try simp only [za,Array.append_assoc] at c2);go_simp;first | done | rfl))
     try simp only [zq]
     (refine zh rfl ?_ (fun K hK=>?_);rfl;go_simp;refine aM (zbW R C j r A n cap l _ (h.ext (Ext.trans (by simp [go_sem]) hacc.ext.drew)) HN.out hN hjt hlt x hx) fun os d=>?_;refine hK _ _ ⟨(hacc.of_ext (by simp [go_sem])).ext,(hacc.of_ext (by simp [go_sem])).row⟩ ?_)
     try simp only [zq]
     (refine zh rfl ?_ (fun K hK=>?_);rfl;go_simp;refine hK _ _ ⟨(hacc.of_ext (by simp [go_sem])).ext,(hacc.of_ext (by simp [go_sem])).row⟩ ?_)
     try simp only [zq]
     (refine zh rfl ?_ (fun K hK=>?_);rfl)
     refine zbA _ _ _ _ rfl _ 37 i0 (VV 0 0 0 ⟨#[]⟩ false 0) 6 56 Tryz.underlying28 hi0 hz0 hz1 hz2 rfl (by decide) _ _ _ rfl (zw hacc.own (by simp [go_sem])) _ 1 1 (Val.cells x) rfl rfl (z7 _ _ _ (by simp) rfl _) (zbe _) (by simp only [maxLen];omega) (by omega) (by have:=hacc.lt;simp;omega) ?_
     intro v3 w3 ho3 hg3
     obtain ⟨A2,cap2,rfl,hrow3,hex3,hacc2⟩:=hacc.step (by simp [go_sem]) hg3 ho3
     refine hK _ _ ⟨hex3,hrow3⟩ ?_
     try simp only [zq]
     (refine zr (v:=?_) rfl ?_ (fun w1 h1=>?_) ?_;rotate_left 1;rfl;(obtain ⟨h1e,h1r⟩:=h1;have c2:=cell_of_row _ _ 2 _ _ _ h1r;clear h1r;obtain ⟨os1,d1,rfl⟩:=h1e.more;(try simp only [za,Array.append_assoc] at c2);go_simp;first | done | rfl))
     try simp only [zq]
     have c2:=cell_of_row _ _ 2 _ _ _ hrow3
     have f2:=frozen_of_row _ _ 2 _ _ hrow3
     clear hrow3 hex3 hg3 ho3
     (refine zaa rfl ?_ (fun K hK=>?_);rfl;go_simp;refine hK _ _ ?_)
     clear c2 f2
     try simp only [Act.put]
     refine zj ?_
     go_wp2
     refine ⟨⟨j+1,cap2,A2,by omega,by go_num,?_⟩,by simp [intOf];omega⟩
     rw [show r * R+(j+1)=r * R+j+1 by omega,zbd _ R r j hjt,hx]
     exact hacc2
    ·obtain rfl:j=R:=by omega
     go_wp2
     refine ⟨⟨r+1,cp,D,by omega,by go_num,by rw [Nat.succ_mul];exact hacc⟩,by simp [intOf];omega⟩
  ·obtain rfl:r=C:=by omega
   have q0:wr.cell? ⟨w.heap.size+1,0,none⟩=some (.int .i64 0):=hacc.ext.cell_some (by simp [go_sem]);have q1:wr.cell? ⟨w.heap.size+1,1,none⟩=some (.int .i64 0):=hacc.ext.cell_some (by simp [go_sem]);have q2:wr.cell? ⟨w.heap.size+1,2,none⟩=some (.slice none 0 0):=hacc.ext.cell_some (by simp [go_sem]);have q3:wr.frozen? ⟨w.heap.size+1,0,none⟩=false:=(hacc.ext.frozen (p:=⟨w.heap.size+1,0,none⟩) (by simp)).trans (by simp [go_sem]);have q4:wr.frozen? ⟨w.heap.size+1,1,none⟩=false:=(hacc.ext.frozen (p:=⟨w.heap.size+1,1,none⟩) (by simp)).trans (by simp [go_sem]);have q5:wr.frozen? ⟨w.heap.size+1,2,none⟩=false:=(hacc.ext.frozen (p:=⟨w.heap.size+1,2,none⟩) (by simp)).trans (by simp [go_sem]);have c0:=cell_of_row _ _ 0 _ _ _ hacc.row;have c1:=cell_of_row _ _ 1 _ _ _ hacc.row;have c2:=cell_of_row _ _ 2 _ _ _ hacc.row
   go_wp2
   obtain ⟨hrd,hcp⟩:=hacc.rd
   have hl:(zT R r l).length=r * R:=za7 _ _ _
   refine bodyPost_ret (v:=AV r R (.slice D (r * R) cp)) (by simp [results,results49,go_sem,q0,q1,q2]) rfl ⟨⟨D,cp,by rw [hl],?_,by rw [hl];exact hcp⟩,?_⟩
   ·exact Rd.mono (((hrd.set_far _ (by simp)).set_far _ (by simp)).set_far _ (by simp)) (by omega)
   ·exact Ext.set (Ext.set (Ext.set (Ext.trans (by simp [go_sem]) hacc.ext) _ (by simp)) _ (by simp)) _ (by simp)
def zaj:List Val→Option Int
 | []=>none
 | x::l=>if x.kind=4 then some x.fault else zaj l
theorem zgi:∀ {l:List Val} {k:Nat} {x:Val},(∀ j y,j < k→l[j]? = some y→y.kind≠4)→l[k]? = some x→x.kind=4→zaj l=some x.fault
 | [],k,x,_,h,_=>by simp at h
 | y::l,0,x,_,h,hk=>by
  obtain rfl:y=x:=by simpa using h
  simp [zaj,hk]
 | y::l,k+1,x,hn,h,hk=>by
  have h0:=hn 0 y (by omega) rfl
  simp only [zaj,h0,if_false]
  exact zgi (k:=k) (fun j z hj hz=>hn (j+1) z (by omega) (by simpa using hz)) (by simpa using h) hk
theorem ze0:∀ {l:List Val},(∀ j y,j < l.length→l[j]? = some y→y.kind≠4)→zaj l=none
 | [],_=>rfl
 | y::l,hn=>by
  have h0:=hn 0 y (by simp) rfl
  simp only [zaj,h0,if_false]
  exact ze0 (fun j z hj hz=>hn (j+1) z (by simp;omega) (by simpa using hz))
theorem zhP {l:List Val} {k:Nat} {x:Val} (H:∀ j y,j < k→l[j]? = some y→y.kind≠4) (hx:l[k]? = some x) (h:x.kind≠4):∀ j y,j < k+1→l[j]? = some y→y.kind≠4:=by
 intro j y hj hy
 by_cases hjk:j=k
 ·subst hjk
  obtain rfl:x=y:=by rw [hx] at hy;simpa using hy
  exact h
 ·exact H j y (by omega) hy
theorem zdf (r c:Int) (A:Option Addr) (n cap:Nat) (l:List Val) (w:World) (h:ArrIn w A n cap l) (f:Int) (hf:(zaj l).getD 0=f) :
  Tl prog 106 #[AV r c (.slice A n cap)] w (.int .i64 f):=by
 have hsm:=h.small
 have HF:=Lib.hid hf
 clear hf
 go_enter func106,ntmps106
 go_wp2
 go_loopw [3] (fun i wr=>∃ k:Nat,k≤n∧i = .int .i64 k∧Ext (w.alloc (Obj.cells #[.int .i64 r,.int .i64 c,.slice A n cap] 30)) wr∧Hid (∀ j y,j < k→l[j]? = some y→y.kind≠4)) (fun i _=>n - (intOf i).toNat)
 case atStart=>exact ⟨0,Nat.zero_le _,rfl,Ext.refl _,fun j y hj=>absurd hj (Nat.not_lt_zero _)⟩
 case round =>
  obtain ⟨k,hk,rfl,hX,H⟩:=hrel
  obtain ⟨os,d,rfl⟩:=hX.more
  by_cases hlt:k < n
  ·obtain ⟨x,b,off,hx,hxo,rfl,hv⟩:=h.at hlt;obtain ⟨v0,v1,v2,v3,v4,v5⟩:=hv;have hbl:b < w.heap.size:=zg v0
   by_cases hk4:x.kind=4
   ·have hf:f=x.fault:=by rw [← HF.out,zgi H.out hx hk4];rfl
    have HF2:=Lib.hid hf
    clear hf
    have h4:(x.kind == 4)=true:=by simp [hk4]
    clear hk4
    go_wp2
    go_ret
    exact ⟨zik HF2.out.symm,by simp [go_sem]⟩
   ·have HK:=Lib.hid hk4
    have h4:(x.kind == 4)=false:=by simp [hk4]
    clear hk4
    go_wp2
    exact ⟨⟨k+1,by omega,by go_num,by simp [go_sem],zhP H.out hx HK.out⟩,by simp [intOf];omega⟩
  ·have hf:f=0:=by
    rw [← HF.out,ze0 (fun j y hj hy=>H.out j y (by have:=h.len;omega) hy)];rfl
   subst hf
   go_wp2
   go_ret
   exact ⟨rfl,by simp [go_sem]⟩
theorem zi7 (r c:Int) (A:Option Addr) (n cap:Nat) (l:List Val) (w:World) (h:ArrIn w A n cap l) (hr:zo r c l=true) (f:Int) (g:Bool) (hf:(zaj l).getD 0=f) (hg:(zaj l).isSome=g) :
  Tl prog 79 #[AV r c (.slice A n cap)] w (.tuple #[.int .i64 f,.bool g]):=by
 have hsm:=h.small
 have HF:=Lib.hid hf
 have HG:=Lib.hid hg
 clear hf hg
 go_enter func79,ntmps79
 go_wp2_with fail
 refine aM (zy _ _ _ _ _ _ _ (h.ext (by simp [go_sem]))) fun os1 d1=>?_
 go_wp2
 go_loopw [11] (fun i wr=>∃ k:Nat,k≤n∧i = .int .i64 k∧Ext (w.alloc (Obj.cells #[.int .i64 r,.int .i64 c,.slice A n cap] 30)) wr∧Hid (∀ j y,j < k→l[j]? = some y→y.kind≠4)) (fun i _=>n - (intOf i).toNat)
 case atStart=>exact ⟨0,Nat.zero_le _,rfl,by simp [go_sem],fun j y hj=>absurd hj (Nat.not_lt_zero _)⟩
 case round =>
  obtain ⟨k,hk,rfl,hX,H⟩:=hrel
  obtain ⟨os,d,rfl⟩:=hX.more
  by_cases hlt:k < n
  ·obtain ⟨x,b,off,hx,hxo,rfl,hv⟩:=h.at hlt;obtain ⟨v0,v1,v2,v3,v4,v5⟩:=hv;have hbl:b < w.heap.size:=zg v0
   by_cases hk4:x.kind=4
   ·have hf:f=x.fault∧g=true:=by rw [← HF.out,← HG.out,zgi H.out hx hk4];exact ⟨rfl,rfl⟩
    have HF2:=Lib.hid hf.1
    obtain rfl:=hf.2
    clear hf
    have h4:(x.kind == 4)=true:=by simp [hk4]
    clear hk4
    go_wp2
    go_ret2
    exact ⟨by have:=HF2.out;subst this;rfl,by simp [go_sem]⟩
   ·have HK:=Lib.hid hk4
    have h4:(x.kind == 4)=false:=by simp [hk4]
    clear hk4
    go_wp2
    exact ⟨⟨k+1,by omega,by go_num,by simp [go_sem],zhP H.out hx HK.out⟩,by simp [intOf];omega⟩
  ·have hf:f=0∧g=false:=by
    rw [← HF.out,← HG.out,ze0 (fun j y hj hy=>H.out j y (by have:=h.len;omega) hy)];exact ⟨rfl,rfl⟩
   obtain ⟨rfl,rfl⟩:=hf
   go_wp2
   go_ret2
   exact ⟨rfl,by simp [go_sem]⟩
end Go.Proofs.YtkoidgbgoccgmaaGreatDoor
namespace Go.Proofs.YtkoidgbgoccgmaaGreatDoor
open Tryz
open Go.RowKit NM
@[go_sem] theorem zsq (r c:Int) (s:Value) (w:World):(Instr.field 30 (AV r c s) 2).run prog w = .ok s w:=by
 first | rfl | kernel_rfl
def zaN (a:NA):NA:=⟨a.C,a.R,zT a.R a.C a.l⟩
theorem zpV (a:NA) (A:Option Addr) (n cap:Nat) (w:World) (h:ArrIn w A n cap a.l) (hr:a.right) :
  Calls prog 40 #[AV a.R a.C (.slice A n cap)] w fun e w'=>zan w (zaN a) e w':=by
 refine (zpJ a.R a.C A n cap a.l w h hr).mono ?_
 rintro e w' ⟨⟨D,c,rfl,hs,hc⟩,hX⟩
 obtain ⟨a1,a2,a3,a4,a5⟩:=zi.1 hr
 exact ⟨D,_,c,rfl,⟨hs,rfl,hc,by rw [zcy];rw [Nat.mul_comm] at a3;omega,zfC a4 h.ok⟩,hX⟩
theorem ze1 (a:NA) (A:Option Addr) (n cap:Nat) (w:World) (h:ArrIn w A n cap a.l) (hr:a.right) :
  Calls prog 49 #[AV a.R a.C (.slice A n cap)] w fun e w'=>zan w (zaN a) e w':=by
 obtain ⟨a1,a2,a3,a4,a5⟩:=zi.1 hr
 have hln:=h.len
 refine (zgZ a.R a.C A n cap a.l w h a1 a2 (by omega) (by omega)).mono ?_
 rintro e w' ⟨⟨D,c,rfl,hs,hc⟩,hX⟩
 exact ⟨D,_,c,rfl,⟨hs,rfl,hc,by rw [zcy];rw [Nat.mul_comm] at a3;omega,zfC a4 h.ok⟩,hX⟩
def zcK (C:Nat) (l:List Val) (r:Nat):List Val:=(l.drop (r * C)).take C
def zsJ (R C:Nat) (l:List Val) (ps:List Nat):List Val:=(List.range R).flatMap fun r=>ps.map fun c=>zk l (r * C+c)
def zL (a:NA) (ps:List Nat):NA:=⟨ps.length,a.C,ps.flatMap (zcK a.C a.l)⟩
def zaF (a:NA) (ps:List Nat):NA:=⟨a.R,ps.length,zsJ a.R a.C a.l ps⟩
def plc (ps:List Nat) (i:Nat):Nat:=(ps[i]?).getD 0
theorem zmh (ps:List Nat):(List.range ps.length).map (plc ps)=ps:=by
 refine List.ext_getElem? fun i=>?_
 rw [List.getElem?_map]
 rcases Nat.lt_or_ge i ps.length with h | h
 ·rw [List.getElem?_range h];simp [h,plc]
 ·rw [List.getElem?_eq_none (by simpa using h),List.getElem?_eq_none h];rfl
theorem zeh {α β:Type} {f g:α→List β} : ∀ {l:List α},(∀ x∈l,f x=g x)→l.flatMap f=l.flatMap g
 | [],_=>rfl
 | y::l,h=>by rw [List.flatMap_cons,List.flatMap_cons,h y (by simp),zeh fun x hx=>h x (List.mem_cons_of_mem _ hx)]
theorem zgJ {ps:List Nat} {i:Nat} (h:i < ps.length):plc ps i∈ps:=by
 simp [plc,h]
theorem zhQ (g:Nat→Nat→Val) (C i:Nat):∀ k,k≤C→zC g C (i * C+k)=zC g C (i * C)++(List.range k).map (g i)
 | 0,_=>by simp
 | k+1,h=>by
  rw [← Nat.add_assoc,zbd g C i k (by omega),zhQ g C i k (by omega),List.range_succ,List.map_append,List.append_assoc];rfl
theorem zgj (g:Nat→Nat→Val) (C:Nat):∀ n,(List.range n).flatMap (fun i=>(List.range C).map (g i))=zC g C (n * C)
 | 0=>by simp [zC]
 | n+1=>by
  rw [List.range_succ,List.flatMap_append,zgj g C n,Nat.succ_mul,zhQ g C n C (Nat.le_refl _)]
  simp
theorem zc0 {R C i j:Nat} (hi:i < R) (hj:j < C):i * C+j < R * C:=by
 calc i * C+j < i * C+C:=by omega
  _=(i+1) * C:=by rw [Nat.succ_mul]
  _≤R * C:=Nat.mul_le_mul_right _ hi
theorem zmY {R C r:Nat} {l:List Val} (hl:l.length=R * C) (hr:r < R):zcK C l r=(List.range C).map fun j=>zk l (r * C+j):=by
 refine List.ext_getElem? fun j=>?_
 unfold zcK
 rw [List.getElem?_take,List.getElem?_map]
 by_cases hj:j < C
 ·have h1:r * C+j < l.length:=by rw [hl];exact zc0 hr hj
  rw [if_pos hj,List.getElem?_drop,List.getElem?_range hj]
  simp [zk,h1]
 ·rw [if_neg hj,List.getElem?_eq_none (by simpa using Nat.not_lt.1 hj)];rfl
theorem zgK {a:NA} {ps:List Nat} (hl:a.l.length=a.R * a.C) (hp:∀ r∈ps,r < a.R):(zL a ps).l=zC (fun i j=>zk a.l (plc ps i * a.C+j)) a.C (ps.length * a.C):=by
 rw [← zgj]
 show ps.flatMap (zcK a.C a.l)=_
 conv=>lhs;rw [← zmh ps]
 rw [List.flatMap_map]
 refine zeh fun i hi=>?_
 exact zmY hl (hp _ (zgJ (List.mem_range.1 hi)))
theorem zgL (a:NA) (ps:List Nat):(zaF a ps).l=zC (fun i j=>zk a.l (i * a.C+plc ps j)) ps.length (a.R * ps.length):=by
 rw [← zgj]
 show (List.range a.R).flatMap _=_
 refine zeh fun i _=>?_
 conv=>lhs;rw [← zmh ps]
 rw [List.map_map];rfl
theorem zi8 {P:Val→Prop} {l:List Val} {k:Nat} (h:∀ x∈l,P x) (hk:k < l.length):P (zk l k):=h _ (zee hk)
theorem zks {P : Val → Prop} {g : Nat → Nat → Val} {R C : Nat} (h : ∀ i j, i < R → j < C → P (g i j)) : ∀ x ∈ zC g C (R * C), P x := by
  intro x hx
  unfold zC at hx
  obtain ⟨t, ht, rfl⟩ := List.mem_map.1 hx
  have ht' : t < R * C := List.mem_range.1 ht
  have hC : 0 < C := by rcases Nat.eq_zero_or_pos C with rfl | h; · simp at ht'
                        · exact h
  exact h _ _ (Nat.div_lt_of_lt_mul (by rw [Nat.mul_comm]; exact ht')) (Nat.mod_lt _ hC)
theorem zgk {P:Val→Prop} {a:NA} {ps:List Nat} (hl:a.l.length=a.R * a.C) (hp:∀ r∈ps,r < a.R) (h:∀ x∈a.l,P x):∀ x∈(zL a ps).l,P x:=by
 rw [zgK hl hp]
 exact zks fun i j hi hj=>zi8 h (by rw [hl];exact zc0 (hp _ (zgJ hi)) hj)
theorem zol {P:Val→Prop} {a:NA} {ps:List Nat} (hl:a.l.length=a.R * a.C) (hp:∀ r∈ps,r < a.C) (h:∀ x∈a.l,P x):∀ x∈(zaF a ps).l,P x:=by
 rw [zgL]
 exact zks fun i j hi hj=>zi8 h (by rw [hl];exact zc0 hi (hp _ (zgJ hj)))
theorem ze2 {a:NA} {ps:List Nat} (ha:a.right) (hp:∀ r∈ps,r < a.R) (h1:1≤ps.length) (h2:ps.length≤a.R):(zL a ps).right:=by
 obtain ⟨a1,a2,a3,a4,a5⟩:=zi.1 ha
 refine zi.2 ⟨h1,a2,Nat.le_trans (Nat.mul_le_mul_right _ h2) a3,?_,zgk a4 hp a5⟩
 rw [zgK a4 hp,za7];rfl
def rng (lo hi:Nat):List Nat:=List.range' lo (hi - lo)
theorem zbX (lo hi:Nat):(rng lo hi).length=hi - lo:=by simp [rng]
theorem zom {lo hi r:Nat} (h:r∈rng lo hi):r < hi:=by
 unfold rng at h
 rw [List.mem_range'_1] at h
 omega
theorem zmi {lo hi i:Nat} (h:i < hi - lo):plc (rng lo hi) i=lo+i:=by
 simp [plc,rng,List.getElem?_range',h]
theorem zre {a:NA} (ha:a.right) {lo hi lo' hi':Nat} (h2:hi≤a.R) (h4:hi'≤a.C):zaF (zL a (rng lo hi)) (rng lo' hi')=zev a lo lo' (hi - lo) (hi' - lo'):=by
 obtain ⟨a1,a2,a3,a4,a5⟩:=zi.1 ha
 have hp:∀ r∈rng lo hi,r < a.R:=fun r hr=>Nat.lt_of_lt_of_le (zom hr) h2
 have e1:(zaF (zL a (rng lo hi)) (rng lo' hi')).l=zde a.C lo lo' (hi - lo) (hi' - lo') a.l:=by
  rw [zgL,zgK a4 hp]
  unfold zde
  show zC _ (rng lo' hi').length ((rng lo hi).length * (rng lo' hi').length)=_
  rw [zbX,zbX]
  refine zfu fun i j hi0 hj0=>?_
  show zk (zC _ a.C ((hi - lo) * a.C)) (i * a.C+plc (rng lo' hi') j)=_
  rw [zmi hj0,zdH _ hi0 (by omega),zmi hi0]
  congr 1;omega
 show (⟨(rng lo hi).length,(rng lo' hi').length,(zaF (zL a (rng lo hi)) (rng lo' hi')).l⟩:NA)=⟨hi - lo,hi' - lo',_⟩
 rw [e1,zbX,zbX]
theorem zon {a:NA} (ha:a.right) {ps:List Nat} (hp:∀ r∈ps,r < a.C):zaN (zL (zaN a) ps)=zaF a ps:=by
 obtain ⟨a1,a2,a3,a4,a5⟩:=zi.1 ha
 have ht:(zaN a).l.length=(zaN a).R * (zaN a).C:=by show (zT a.R a.C a.l).length=a.C * a.R;rw [zcy]
 have e1:(zaN (zL (zaN a) ps)).l=(zaF a ps).l:=by
  show zT ps.length a.R (zL (zaN a) ps).l=_
  rw [zgK (a:=zaN a) ht hp,zgL]
  unfold zT
  refine zfu fun i j hi hj=>?_
  show zk (zC (fun i j=>zk (zC (fun i j=>zk a.l (j * a.C+i)) a.R (a.C * a.R)) (plc ps i * a.R+j)) a.R (ps.length * a.R)) (j * a.R+i)=_
  rw [zdH _ hj hi,zdH _ (hp _ (zgJ hj)) hi]
 show (⟨a.R,ps.length,(zaN (zL (zaN a) ps)).l⟩:NA)=⟨a.R,ps.length,(zaF a ps).l⟩
 rw [e1]
def zA (xs:List Ar) (k:Nat):Bool:=match xs[k]? with
 | none=>false
 | some a=>!(a.x.R == 1 && a.x.C == 1 && (zk a.x.l 0).kind == 0)
def ze3 (xs:List Ar) (k:Nat):Val:=match xs[k]? with
 | none=>Val.zero
 | some a=>zk a.x.l 0
def zu (xs:List Ar) (k:Nat) (left:Int):Int×Int:=if zA xs k then zci (ze3 xs k) else (left,0)
def zF (xs:List Ar) (k:Nat):NA:=match xs[k]? with
 | none=>⟨0,0,[]⟩
 | some a=>a.x
def zau (J:NA→NA→Option NA):NA→List NA→Option NA
 | a,[]=>some a
 | a,b::l=>match J a b with
  | none=>none
  | some c=>zau J c l
def zbY (J:NA→NA→Option NA) (xs:List Ar):NA:=match xs with
 | []=>zf 5
 | a::l=>(zau J a.x (l.map Ar.x)).getD (zf 5)
def zaL (a s:Int×Int):Nat→Option (List Val×(Int×Int))
 | 0=>some ([⟨1,a.1,a.2,⟨#[]⟩,false,0⟩],a)
 | k+1=>match zaL a s k with
  | none=>none
  | some (l,p)=>match addS p.1 p.2 s.1 s.2 with
   | none=>none
   | some q=>some (l++[⟨1,q.1,q.2,⟨#[]⟩,false,0⟩],q)
theorem zex {a s:Int×Int} {k:Nat} (h:zaL a s k=none):∀ j,zaL a s (k+j)=none
 | 0=>h
 | j+1=>by
  rw [← Nat.add_assoc]
  unfold zaL
  rw [zex h j]
theorem zey {a s:Int×Int} : ∀ {k:Nat} {l:List Val} {p:Int×Int},Rt a.1 a.2→Rt s.1 s.2→zaL a s k=some (l,p)→l.length=k+1∧Rt p.1 p.2∧∀ x∈l,x.right
 | 0,l,p,ha,hs,h=>by
  simp only [zaL,Option.some.injEq,Prod.mk.injEq] at h
  obtain ⟨rfl,rfl⟩:=h
  refine ⟨rfl,ha,fun x hx=>?_⟩
  obtain rfl:=List.mem_singleton.1 hx
  exact zbT ha
 | k+1,l,p,ha,hs,h=>by
  unfold zaL at h
  cases h1:zaL a s k with
  | none=>rw [h1] at h;cases h
  | some r =>
   obtain ⟨l1,p1⟩:=r
   rw [h1] at h
   simp only at h
   obtain ⟨i1,i2,i3⟩:=zey ha hs h1
   cases h2:addS p1.1 p1.2 s.1 s.2 with
   | none=>rw [h2] at h;cases h
   | some q =>
    rw [h2] at h
    simp only [Option.some.injEq,Prod.mk.injEq] at h
    obtain ⟨rfl,rfl⟩:=h
    have hq:=zdq h2
    refine ⟨by simp [i1],hq,fun x hx=>?_⟩
    rcases List.mem_append.1 hx with hx | hx
    ·exact i3 x hx
    ·obtain rfl:=List.mem_singleton.1 hx
     exact zbT hq
def tnO (xs:List Ar) (k:Nat):(Int×Int)×Int:=if zA xs k then (tnP (ze3 xs k),tnF (ze3 xs k)) else ((1,0),0)
def zaM (m n:Int×Int) (a s:(Int×Int)×Int):NA :=
 if m.2≠0 then zf m.2 else if n.2≠0 then zf n.2 else if a.2≠0 then zf a.2 else if s.2≠0 then zf s.2
 else if m.1 < 1∨n.1 < 1 then zf 9 else if 4096 < m.1 * n.1 then zf 5
 else match zaL a.1 s.1 (m.1.toNat * n.1.toNat - 1) with
  | none=>zf 5
  | some (l,_)=>⟨m.1.toNat,n.1.toNat,l⟩
def zbG (xs:List Ar):NA:=zaM (zu xs 0 1) (zu xs 1 1) (tnO xs 2) (tnO xs 3)
def zce (n:Int) (h:Nat):List Nat:=if (h:Int)≤n∨n ≤ -(h:Int) then rng 0 h else if 0 < n then rng 0 n.toNat else rng ((h:Int)+n).toNat h
def zbD (n:Int) (h:Nat):List Nat:=if (h:Int)≤n∨n ≤ -(h:Int) then [] else if 0 < n then rng n.toNat h else rng 0 ((h:Int)+n).toNat
def zez (a:NA) (m n:Int×Int):NA:=if m.2≠0 then zf m.2 else if n.2≠0 then zf n.2 else if m.1=0∨n.1=0 then zf 9 else zaF (zL a (zce m.1 a.R)) (zce n.1 a.C)
def zgM (a:NA) (m n:Int×Int):NA:=if m.2≠0 then zf m.2 else if n.2≠0 then zf n.2 else if zbD m.1 a.R=[]∨zbD n.1 a.C=[] then zf 9 else zaF (zL a (zbD m.1 a.R)) (zbD n.1 a.C)
def zeA (xs:List Ar):NA:=zez (zF xs 0) (zu xs 1 (zF xs 0).R) (zu xs 2 (zF xs 0).C)
def zeB (xs:List Ar):NA:=zgM (zF xs 0) (zu xs 1 0) (zu xs 2 0)
def zaG:List Val→Int
 | []=>0
 | v::l=>if (zZ v).2≠0 then (zZ v).2 else zaG l
def zai:List Val→Nat→List Nat
 | [],_=>[]
 | v::l,k=>if (zZ v).1 then k::zai l (k+1) else zai l (k+1)
def zdt (a b c:NA) (g:Bool):NA :=
 if ¬ (b.C=1∧b.R=a.R)∧(b.R≠1∨b.C≠a.C) then zf 2
 else if zaG b.l≠0 then zf (zaG b.l)
 else if zai b.l 0=[] then (if g then c else zf 9)
 else if b.C=1∧b.R=a.R then zL a (zai b.l 0) else zaF a (zai b.l 0)
def zc1 (xs:List Ar):NA:=zdt (zF xs 0) (zF xs 1) (zF xs 2) (zA xs 2)
def zaH (a b:NA) (i j:Nat):Nat→Option (Int×Int)
 | 0=>mulS (zk a.l (i * a.C)).mant (zk a.l (i * a.C)).exp (zk b.l j).mant (zk b.l j).exp
 | k+1=>(zaH a b i j k).bind fun s=>(mulS (zk a.l (i * a.C+(k+1))).mant (zk a.l (i * a.C+(k+1))).exp (zk b.l ((k+1) * b.C+j)).mant (zk b.l ((k+1) * b.C+j)).exp).bind fun x=>addS s.1 s.2 x.1 x.2
def zbh (a b:NA):Nat→Option (List Val)
 | 0=>some []
 | t+1=>(zbh a b t).bind fun l=>(zaH a b (t / b.C) (t % b.C) (a.C - 1)).map fun p=>l++[⟨1,p.1,p.2,⟨#[]⟩,false,0⟩]
def zbE (a b:NA):NA :=
 if a.C≠b.R then zf 2
 else match zaj a.l with
  | some f=>zf f
  | none=>match zaj b.l with
   | some f=>zf f
   | none=>if (a.l++b.l).any (fun v=>decide (v.kind≠1)) then zf 2
    else if 4096 < a.R * b.C then zf 5
    else match zbh a b (a.R * b.C) with
     | none=>zf 5
     | some l=>⟨a.R,b.C,l⟩
def zcz (xs:List Ar):NA:=zbE (zF xs 0) (zF xs 1)
end Go.Proofs.YtkoidgbgoccgmaaGreatDoor
namespace Go.Proofs.YtkoidgbgoccgmaaGreatDoor
open Tryz
open Go.RowKit
theorem zoo {R C row col rows cols:Nat} (h:((((((((rows:Int) < 1∨(cols:Int) < 1)∨(row:Int) < 0)∨(col:Int) < 0)∨R < rows)∨C < cols)∨IntKind.i64.wrap ((R:Int) - rows) < row)∨IntKind.i64.wrap ((C:Int) - cols) < col)) (hR:R≤4096) (hC:C≤4096) (hr1:1≤rows) (hc1:1≤cols) (h1:row+rows≤R) (h2:col+cols≤C):False:=by
 rw [IntKind.wrap_i64,IntKind.wrap_i64] at h
 omega
theorem zop (R C i j:Nat) (A:Option Addr) (n cap:Nat) (l:List Val) (w:World) (h:ArrIn w A n cap l) (hn:n=R * C) (hN:n≤4096) (hi:i < R) (hj:j < C) (x:Val) (hx:zk l (i * C+j)=x) (i' j':Int) (ei:i'=i) (ej:j'=j) :
  Tl prog 92 #[AV R C (.slice A n cap),.int .i64 i',.int .i64 j'] w (VV x.kind x.mant x.exp x.text x.truth x.fault):=by
 subst ei ej;exact zbW R C i j A n cap l w h hn hN hi hj x hx
theorem zli (R C row col rows cols:Nat) (A:Option Addr) (n cap:Nat) (l:List Val) (w:World) (h:ArrIn w A n cap l) (hr:zo R C l=true) (hr1:1≤rows) (hc1:1≤cols) (h1:row+rows≤R) (h2:col+cols≤C) :
  Calls prog 98 #[AV R C (.slice A n cap),.int .i64 row,.int .i64 col,.int .i64 rows,.int .i64 cols] w fun e w'=>∃ D c,e = .returned (.tuple #[AV rows cols (.slice D (rows * cols) c),.bool true])∧SlV w.heap.size w' D (zde C row col rows cols l)∧rows * cols≤c∧Ext w w':=by
 obtain ⟨i0,hi0,hz0,hz1,hz2⟩:=info_parts zaY
 obtain ⟨r1,r2,r3,r4,r5,r6⟩:=zM hr
 have hln:=h.len
 have HN:=Lib.hid (show n=R * C by omega)
 have hN:n≤4096:=by omega
 clear r4 hln
 have hT:rows * cols≤4096:=by
  have a1:rows * cols≤rows * C:=Nat.mul_le_mul_left _ (by omega)
  have a2:rows * C≤R * C:=Nat.mul_le_mul_right _ (by omega)
  omega
 have HB:=Lib.hid (And.intro hr1 (And.intro hc1 (And.intro h1 (And.intro h2 (And.intro r5 r6)))))
 clear hr1 hc1 h1 h2 r1 r2 r3 r5 r6
 go_enter func98,ntmps98
 go_upto_region 1 with (fail)
 refine wp_region_lit ?_
 iterate 42 ((first | refine zas rfl rfl rfl rfl rfl ?_ | refine zaC rfl rfl rfl rfl rfl ?_ | (refine zbj (v:=?_) rfl ?_ ?_;rotate_left 1;(go_simp;first | done | rfl)) | (refine za1 (v:=?_) (c:=?_) rfl rfl rfl ?_ (fun hc=>?_) ?_;rotate_left 2;(first | exact zak _ | exact zal _ | exact zQ _ _ | exact zR _ _);((try simp only [zn hc]);(try (have hc1:=zx hc;(try simp only [zn hc1]);(try (have hc2:=zx hc1;(try simp only [zn hc2])))));go_simp;first | done | rfl)));try simp only [zq])
 refine wpList_nil ?_
 try go_simp
 go_wp2
 ·exfalso
  rename_i hbad
  obtain ⟨hr1,hc1,h1,h2,r5,r6⟩:=HB.out
  exact zoo hbad r5 r6 hr1 hc1 h1 h2
 ·obtain ⟨hr1,hc1,h1,h2,r5,r6⟩:=HB.out
  rename_i hgood _ _
  clear hgood
  generalize hGG:(fun i j=>zk l ((row+i) * C+col+j))=G
  have HG:=Lib.hid hGG
  clear hGG
  have hacc0:=Acc.start ((w.alloc (Obj.cells #[.int .i64 R,.int .i64 C,.slice A n cap] 30)).alloc (Obj.cells #[.int .i64 0,.int .i64 0,.slice none 0 0] 30)) rows cols
  go_loopw [13] (fun i wr=>∃ (r cp:Nat) (D:Option Addr),r≤rows∧i = .int .i64 r∧Acc ((w.alloc (Obj.cells #[.int .i64 R,.int .i64 C,.slice A n cap] 30)).alloc (Obj.cells #[.int .i64 0,.int .i64 0,.slice none 0 0] 30)) (w.heap.size+1+1) rows cols D cp (r * cols) (zC G cols (r * cols)) wr) (fun i _=>rows - (intOf i).toNat)
  case atStart=>exact ⟨0,0,none,Nat.zero_le _,rfl,by simpa [zC] using hacc0⟩
  case round =>
   clear hacc0
   obtain ⟨r,cp,D,hrr,rfl,hacc⟩:=hrel
   have hlt0:=hacc.lt
   by_cases hlt:r < rows
   ·go_wp2
    clear hlt0
    obtain ⟨wo,rfl⟩:∃ wo:World,wo=wr:=⟨_,rfl⟩
    go_loopw [14] (fun i wr=>∃ (j cp:Nat) (D:Option Addr),j≤cols∧i = .int .i64 j∧Acc ((w.alloc (Obj.cells #[.int .i64 R,.int .i64 C,.slice A n cap] 30)).alloc (Obj.cells #[.int .i64 0,.int .i64 0,.slice none 0 0] 30)) (w.heap.size+1+1) rows cols D cp (r * cols+j) (zC G cols (r * cols+j)) wr) (fun i _=>cols - (intOf i).toNat)
    case atStart=>exact ⟨0,cp,D,Nat.zero_le _,rfl,by simpa using hacc⟩
    case round =>
     clear hacc
     obtain ⟨j,cp,D,hj,rfl,hacc⟩:=hrel
     have hlt0:=hacc.lt
     by_cases hjt:j < cols
     ·have hk:r * cols+j < 4096:=by have:=zcu rows hlt hjt hT;omega
      go_wp2
      have hx:zk l ((row+r) * C+(col+j))=G r j:=by rw [← HG.out];simp only [Nat.add_assoc]
      generalize hxx:G r j=x at hx
      have HX:=Lib.hid hxx
      clear hxx
      refine zcj (S:=zrN _ _ _ _ _ _ _) [(0,0),(1,0),(2,0),(3,0),(4,0),(5,0),(6,0),(7,0),(8,0),(9,1),(10,1),(11,1),(12,0),(13,2)] [13] (by kernel_rfl) (by kernel_rfl) (by kernel_rfl) (fun _ _ d _ _ h=>by cases d <;> exact h) ⟨(hacc.of_ext (by simp [go_sem])).ext,(hacc.of_ext (by simp [go_sem])).row⟩ ?_
      (refine zr (v:=?_) rfl ?_ (fun w1 h1=>?_) ?_;rotate_left 1;rfl;(obtain ⟨h1e,h1r⟩:=h1;have c2:=cell_of_row _ _ 2 _ _ _ h1r;clear h1r;obtain ⟨os1,d1,rfl⟩:=h1e.more;(try simp only [za,Array.append_assoc] at c2);go_simp;first | done | rfl))
      try simp only [zq]
      (refine zr (v:=?_) rfl ?_ (fun w1 h1=>?_) ?_;rotate_left 1;rfl;(obtain ⟨h1e,h1r⟩:=h1;have c2:=cell_of_row _ _ 2 _ _ _ h1r;clear h1r;obtain ⟨os1,d1,rfl⟩:=h1e.more;(try simp only [za,Array.append_assoc] at c2);go_simp;first | done | rfl))
      try simp only [zq]
      (refine zr (v:=?_) rfl ?_ (fun w1 h1=>?_) ?_;rotate_left 1;rfl;(obtain ⟨h1e,h1r⟩:=h1;have c2:=cell_of_row _ _ 2 _ _ _ h1r;clear h1r;obtain ⟨os1,d1,rfl⟩:=h1e.more;(try simp only [za,Array.append_assoc] at c2);go_simp;first | done | rfl))
      try simp only [zq]
      (refine zr (v:=?_) rfl ?_ (fun w1 h1=>?_) ?_;rotate_left 1;rfl;(obtain ⟨h1e,h1r⟩:=h1;have c2:=cell_of_row _ _ 2 _ _ _ h1r;clear h1r;obtain ⟨os1,d1,rfl⟩:=h1e.more;(try simp only [za,Array.append_assoc] at c2);go_simp;first | done | rfl))
      try simp only [zq]
      (refine zr (v:=?_) rfl ?_ (fun w1 h1=>?_) ?_;rotate_left 1;rfl;(obtain ⟨h1e,h1r⟩:=h1;have c2:=cell_of_row _ _ 2 _ _ _ h1r;clear h1r;obtain ⟨os1,d1,rfl⟩:=h1e.more;(try simp only [za,Array.append_assoc] at c2);go_simp;first | done | rfl))
      try simp only [zq]
      (refine zr (v:=?_) rfl ?_ (fun w1 h1=>?_) ?_;rotate_left 1;rfl;(obtain ⟨h1e,h1r⟩:=h1;have c2:=cell_of_row _ _ 2 _ _ _ h1r;clear h1r;obtain ⟨os1,d1,rfl⟩:=h1e.more;(try simp only [za,Array.append_assoc] at c2);go_simp;first | done | rfl))
      try simp only [zq]
      (refine zr (v:=?_) rfl ?_ (fun w1 h1=>?_) ?_;rotate_left 1;rfl;(obtain ⟨h1e,h1r⟩:=h1;have c2:=cell_of_row _ _ 2 _ _ _ h1r;clear h1r;obtain ⟨os1,d1,rfl⟩:=h1e.more;(try simp only [za,Array.append_assoc] at c2);go_simp;first | done | rfl))
      try simp only [zq]
      (refine zr (v:=?_) rfl ?_ (fun w1 h1=>?_) ?_;rotate_left 1;rfl;(obtain ⟨h1e,h1r⟩:=h1;have c2:=cell_of_row _ _ 2 _ _ _ h1r;clear h1r;obtain ⟨os1,d1,rfl⟩:=h1e.more;(try simp only [za,Array.append_assoc] at c2);go_simp;first | done | rfl))
      try simp only [zq]
      (refine zr (v:=?_) rfl ?_ (fun w1 h1=>?_) ?_;rotate_left 1;rfl;(obtain ⟨h1e,h1r⟩:=h1;have c2:=cell_of_row _ _ 2 _ _ _ h1r;clear h1r;obtain ⟨os1,d1,rfl⟩:=h1e.more;(try simp only [za,Array.append_assoc] at c2);go_simp;first | done | rfl))
      try simp only [zq]
      (refine zh rfl ?_ (fun K hK=>?_);rfl;go_simp;refine (zop R C (row+r) (col+j) A n cap l _ (h.ext (Ext.trans (by simp [go_sem]) hacc.ext.drew)) HN.out hN (by omega) (by omega) x hx _ _ (by rw [IntKind.wrap_i64];omega) (by rw [IntKind.wrap_i64];omega)).mono ?_;rintro e w' ⟨rfl,hb⟩;obtain ⟨os,d,rfl⟩:=hb.more;clear hb;refine hK _ _ ⟨(hacc.of_ext (by simp [go_sem])).ext,(hacc.of_ext (by simp [go_sem])).row⟩ ?_)
      try simp only [zq]
      (refine zh rfl ?_ (fun K hK=>?_);rfl;go_simp;refine hK _ _ ⟨(hacc.of_ext (by simp [go_sem])).ext,(hacc.of_ext (by simp [go_sem])).row⟩ ?_)
      try simp only [zq]
      (refine zh rfl ?_ (fun K hK=>?_);rfl)
      refine zbA _ _ _ _ rfl _ 37 i0 (VV 0 0 0 ⟨#[]⟩ false 0) 6 56 Tryz.underlying28 hi0 hz0 hz1 hz2 rfl (by decide) _ _ _ rfl (zw hacc.own (by simp [go_sem])) _ 1 1 (Val.cells x) rfl rfl (z7 _ _ _ (by simp) rfl _) (zbe _) (by simp only [maxLen];omega) (by omega) (by have:=hacc.lt;simp;omega) ?_
      intro v3 w3 ho3 hg3
      obtain ⟨A2,cap2,rfl,hrow3,hex3,hacc2⟩:=hacc.step (by simp [go_sem]) hg3 ho3
      refine hK _ _ ⟨hex3,hrow3⟩ ?_
      try simp only [zq]
      (refine zr (v:=?_) rfl ?_ (fun w1 h1=>?_) ?_;rotate_left 1;rfl;(obtain ⟨h1e,h1r⟩:=h1;have c2:=cell_of_row _ _ 2 _ _ _ h1r;clear h1r;obtain ⟨os1,d1,rfl⟩:=h1e.more;(try simp only [za,Array.append_assoc] at c2);go_simp;first | done | rfl))
      try simp only [zq]
      have c2:=cell_of_row _ _ 2 _ _ _ hrow3
      have f2:=frozen_of_row _ _ 2 _ _ hrow3
      clear hrow3 hex3 hg3 ho3
      (refine zaa rfl ?_ (fun K hK=>?_);rfl;go_simp;refine hK _ _ ?_)
      clear c2 f2
      try simp only [Act.put]
      refine zj ?_
      go_wp2
      refine ⟨⟨j+1,cap2,A2,by omega,by go_num,?_⟩,by simp [intOf];omega⟩
      rw [show r * cols+(j+1)=r * cols+j+1 by omega,zbd _ cols r j hjt,HX.out]
      exact hacc2
     ·obtain rfl:j=cols:=by omega
      go_wp2
      refine ⟨⟨r+1,cp,D,by omega,by go_num,by rw [Nat.succ_mul];exact hacc⟩,by simp [intOf];omega⟩
   ·obtain rfl:r=rows:=by omega
    have q0:wr.cell? ⟨w.heap.size+1,0,none⟩=some (.int .i64 0):=hacc.ext.cell_some (by simp [go_sem]);have q1:wr.cell? ⟨w.heap.size+1,1,none⟩=some (.int .i64 0):=hacc.ext.cell_some (by simp [go_sem]);have q2:wr.cell? ⟨w.heap.size+1,2,none⟩=some (.slice none 0 0):=hacc.ext.cell_some (by simp [go_sem]);have q3:wr.frozen? ⟨w.heap.size+1,0,none⟩=false:=(hacc.ext.frozen (p:=⟨w.heap.size+1,0,none⟩) (by simp)).trans (by simp [go_sem]);have q4:wr.frozen? ⟨w.heap.size+1,1,none⟩=false:=(hacc.ext.frozen (p:=⟨w.heap.size+1,1,none⟩) (by simp)).trans (by simp [go_sem]);have q5:wr.frozen? ⟨w.heap.size+1,2,none⟩=false:=(hacc.ext.frozen (p:=⟨w.heap.size+1,2,none⟩) (by simp)).trans (by simp [go_sem]);have c0:=cell_of_row _ _ 0 _ _ _ hacc.row;have c1:=cell_of_row _ _ 1 _ _ _ hacc.row;have c2:=cell_of_row _ _ 2 _ _ _ hacc.row
    go_wp2
    obtain ⟨hrd,hcp⟩:=hacc.rd
    refine bodyPost_ret (v:=.tuple #[AV r cols (.slice D (r * cols) cp),.bool true]) (by simp [results,results98,go_sem,q0,q1,q2]) rfl ⟨D,cp,rfl,?_,hcp,?_⟩
    ·rw [zde,HG.out];exact Rd.mono (((hrd.set_far _ (by simp)).set_far _ (by simp)).set_far _ (by simp)) (by omega)
    ·exact Ext.set (Ext.set (Ext.set (Ext.trans (by simp [go_sem]) hacc.ext) _ (by simp)) _ (by simp)) _ (by simp)
theorem zkt (R C R' C' : Nat) (A B : Option Addr) (n cap n' cap' : Nat) (l l' : List Val) (w : World) (h : ArrIn w A n cap l) (h' : ArrIn w B n' cap' l') (hr : zo R C l = true) (hr' : zo R' C' l' = true) (hM : ¬ R < R') (hf : R * (C + C') ≤ 4096) :
    Calls prog 93 #[AV R C (.slice A n cap), AV R' C' (.slice B n' cap')] w fun e w' => ∃ D c, e = .returned (.tuple #[AV R (C + C' : Nat) (.slice D (R * (C + C')) c), .bool true]) ∧ SlV w.heap.size w' D (zC (fun i j => if j < C then zl R C l i j else zl R' C' l' i ((j : Int) - (C : Int))) (C + C') (R * (C + C'))) ∧ R * (C + C') ≤ c ∧ Ext w w' := by
  obtain ⟨i0, hi0, hz0, hz1, hz2⟩ := info_parts zaY
  obtain ⟨r1, r2, r3, r4, r5, r6⟩ := zM hr
  obtain ⟨s1, s2, s3, s4, s5, s6⟩ := zM hr'
  have HN := Lib.hid (show n = R * C by have := h.len; omega)
  have HN' := Lib.hid (show n' = R' * C' by have := h'.len; omega)
  have hN : n ≤ 4096 := by have := HN.out; omega
  have hN' : n' ≤ 4096 := by have := HN'.out; omega
  clear r4 s4
  have hcc : (C : Int) + (C' : Int) = ((C + C' : Nat) : Int) := by omega
  have hw : IntKind.i64.wrap ((R : Int) * ((C + C' : Nat) : Int)) = ((R * (C + C') : Nat) : Int) := by rw [IntKind.wrap_i64, Int.natCast_mul]; rw [← Int.natCast_mul]; omega
  generalize hT : C + C' = T at *
  have HT := Lib.hid hT
  have hC1 : C ≤ T := by omega
  clear hT
  have hf' : ¬ 4096 < R * T := by omega
  have hg : ∃ G : Nat → Nat → Val, Hid ((fun (i j : Nat) => if j < C then zl R C l i j else zl R' C' l' i ((j : Int) - (C : Int))) = G) := ⟨_, rfl⟩
  obtain ⟨G, HG⟩ := hg
  rw [HG.out]
  go_enter func93, ntmps93
  go_wp2
  have hacc0 := Acc.start (((w.alloc (Obj.cells #[.int .i64 R, .int .i64 C, .slice A n cap] 30)).alloc (Obj.cells #[.int .i64 R', .int .i64 C', .slice B n' cap'] 30)).alloc (Obj.cells #[.int .i64 0, .int .i64 0, .slice none 0 0] 30)) R T
  go_loopw [8] (fun i wr => ∃ (r cp : Nat) (D : Option Addr), r ≤ R ∧ i = .int .i64 r ∧ Acc (((w.alloc (Obj.cells #[.int .i64 R, .int .i64 C, .slice A n cap] 30)).alloc (Obj.cells #[.int .i64 R', .int .i64 C', .slice B n' cap'] 30)).alloc (Obj.cells #[.int .i64 0, .int .i64 0, .slice none 0 0] 30)) (w.heap.size + 1 + 1 + 1) R T D cp (r * T) (zC G T (r * T)) wr) (fun i _ => R - (intOf i).toNat)
  case atStart => exact ⟨0, 0, none, Nat.zero_le _, rfl, by simpa [zC] using hacc0⟩
  case round =>
    clear hacc0
    obtain ⟨r, cp, D, hrr, rfl, hacc⟩ := hrel
    have hlt0 := hacc.lt
    by_cases hlt : r < R
    · go_wp2
      clear hlt0
      obtain ⟨wo, rfl⟩ : ∃ wo : World, wo = wr := ⟨_, rfl⟩
      go_loopw [9] (fun i wr => ∃ (j cp : Nat) (D : Option Addr), j ≤ T ∧ i = .int .i64 j ∧ Acc (((w.alloc (Obj.cells #[.int .i64 R, .int .i64 C, .slice A n cap] 30)).alloc (Obj.cells #[.int .i64 R', .int .i64 C', .slice B n' cap'] 30)).alloc (Obj.cells #[.int .i64 0, .int .i64 0, .slice none 0 0] 30)) (w.heap.size + 1 + 1 + 1) R T D cp (r * T + j) (zC G T (r * T + j)) wr) (fun i _ => T - (intOf i).toNat)
      case atStart => exact ⟨0, cp, D, Nat.zero_le _, rfl, by simpa using hacc⟩
      case round =>
        clear hacc
        obtain ⟨j, cp, D, hj, rfl, hacc⟩ := hrel
        have hlt0 := hacc.lt
        have p0 : wr.cell? ⟨w.heap.size, 0, none⟩ = some (.int .i64 R) := hacc.ext.cell_some (by simp [go_sem])
        have p1 : wr.cell? ⟨w.heap.size, 1, none⟩ = some (.int .i64 C) := hacc.ext.cell_some (by simp [go_sem])
        have p2 : wr.cell? ⟨w.heap.size, 2, none⟩ = some (.slice A n cap) := hacc.ext.cell_some (by simp [go_sem])
        have u0 : wr.cell? ⟨w.heap.size + 1, 0, none⟩ = some (.int .i64 R') := hacc.ext.cell_some (by simp [go_sem])
        have u1 : wr.cell? ⟨w.heap.size + 1, 1, none⟩ = some (.int .i64 C') := hacc.ext.cell_some (by simp [go_sem])
        have u2 : wr.cell? ⟨w.heap.size + 1, 2, none⟩ = some (.slice B n' cap') := hacc.ext.cell_some (by simp [go_sem])
        have z0 : w.heap.size < wr.heap.size := by omega
        have z1 : w.heap.size + 1 < wr.heap.size := by omega
        have z2 : w.heap.size + 1 + 1 < wr.heap.size := by omega
        have c1 := cell_of_row _ _ 1 _ _ _ hacc.row
        have c2' := cell_of_row _ _ 2 _ _ _ hacc.row
        by_cases hjt : j < T
        · have hk : r * T + j < 4096 := by have := zcu R hlt hjt hf; omega
          have hx : (if j < C then zl R C l r j else zl R' C' l' r ((j : Int) - (C : Int))) = G r j := by rw [← HG.out]
          generalize hxx : G r j = x at hx
          have HX := Lib.hid hxx
          clear hxx
          by_cases hjc : j < C
          · rw [if_pos hjc] at hx
            by_cases hri : r < R
            · have hh : zbP R C r j = true := zds.2 (by omega)
              rw [zdK hri hjc] at hx
              have HXX := Lib.hid hx
              clear hx
              go_wp2_with fail
              refine aM (zcd _ _ _ _ _ _ rfl) fun os1 d1 => ?_
              go_wp2_with fail
              refine aM (zbW R C r j A n cap l _ (h.ext (Ext.trans (by simp [go_sem, *]) (hacc.ext.trans (by simp [go_sem, *])))) HN.out hN hri hjc x HXX.out) fun os2 d2 => ?_
              go_wp2_with (at_builtin; refine wpList_append_own _ rfl _ _ _ rfl _ 37 i0 (VV 0 0 0 ⟨#[]⟩ false 0) 6 56 Tryz.underlying28 hi0 hz0 hz1 hz2 rfl (by decide) _ _ _ rfl (zw hacc.own (by simp [go_sem, *])) _ 1 1 (Val.cells x) rfl rfl (z7 _ _ _ (by simp) rfl _) (zbe _) (by simp only [maxLen]; omega) (by omega) (by have := hacc.lt; simp; omega) ?_; intro v3 w3 ho3 hg3 _; obtain ⟨A2, cap2, rfl, hrow3, hex3, hacc2⟩ := hacc.step (by simp [go_sem, *]) hg3 ho3; have c2 := cell_of_row _ _ 2 _ _ _ hrow3; have f2 := frozen_of_row _ _ 2 _ _ hrow3; clear hrow3 hex3 hg3 ho3)
              refine ⟨⟨j + 1, cap2, A2, by omega, by go_num, ?_⟩, by simp [intOf]; omega⟩; rw [show r * T + (j + 1) = r * T + j + 1 by omega, zbd _ T r j hjt, HX.out]; exact hacc2
            · first
              | exact absurd hlt hri
              | (have hh : zbP R C r j = false := zgI (by omega)
                 rw [zdW hh] at hx
                 obtain rfl : x = zaX 6 := hx.symm
                 clear hx
                 go_wp2_with fail
                 refine aM (zcd _ _ _ _ _ _ rfl) fun os1 d1 => ?_
                 go_wp2_with (at_builtin; refine wpList_append_own _ rfl _ _ _ rfl _ 37 i0 (VV 0 0 0 ⟨#[]⟩ false 0) 6 56 Tryz.underlying28 hi0 hz0 hz1 hz2 rfl (by decide) _ _ _ rfl (zw hacc.own (by simp [go_sem, *])) _ 1 1 (Val.cells (zaX 6)) rfl rfl (z7 _ _ _ (by simp) rfl _) (zbe _) (by simp only [maxLen]; omega) (by omega) (by have := hacc.lt; simp; omega) ?_; intro v3 w3 ho3 hg3 _; obtain ⟨A2, cap2, rfl, hrow3, hex3, hacc2⟩ := hacc.step (by simp [go_sem, *]) hg3 ho3; have c2 := cell_of_row _ _ 2 _ _ _ hrow3; have f2 := frozen_of_row _ _ 2 _ _ hrow3; clear hrow3 hex3 hg3 ho3)
                 refine ⟨⟨j + 1, cap2, A2, by omega, by go_num, ?_⟩, by simp [intOf]; omega⟩; rw [show r * T + (j + 1) = r * T + j + 1 by omega, zbd _ T r j hjt, HX.out]; exact hacc2)
          · rw [if_neg hjc] at hx
            obtain ⟨q, rfl⟩ : ∃ q, j = C + q := ⟨j - C, by omega⟩
            have hq : (((C + q : Nat) : Int) - (C : Int)) = (q : Int) := by omega
            rw [hq] at hx
            clear hq
            by_cases hri : r < R'
            · have hqc : q < C' := by have := HT.out; omega
              have hh : zbP R' C' r q = true := zds.2 (by omega)
              rw [zdK hri hqc] at hx
              have HXX := Lib.hid hx
              clear hx
              have hq2 : ¬ ((C : Int) + (q : Int) < (C : Int)) := by omega
              have hq1 : (C : Int) ≤ (C : Int) + (q : Int) := by omega
              have hq4 : C ≤ C + q := by omega
              have hq3 : ((C : Int) + (q : Int) - (C : Int)) = (q : Int) := by omega
              go_wp2_with fail
              refine aM (zcd _ _ _ _ _ _ rfl) fun os1 d1 => ?_
              go_wp2_with fail
              refine aM (zbW R' C' r q B n' cap' l' _ (h'.ext (Ext.trans (by simp [go_sem, *]) (hacc.ext.trans (by simp [go_sem, *])))) HN'.out hN' hri hqc x HXX.out) fun os2 d2 => ?_
              go_wp2_with (at_builtin; refine wpList_append_own _ rfl _ _ _ rfl _ 37 i0 (VV 0 0 0 ⟨#[]⟩ false 0) 6 56 Tryz.underlying28 hi0 hz0 hz1 hz2 rfl (by decide) _ _ _ rfl (zw hacc.own (by simp [go_sem, *])) _ 1 1 (Val.cells x) rfl rfl (z7 _ _ _ (by simp) rfl _) (zbe _) (by simp only [maxLen]; omega) (by omega) (by have := hacc.lt; simp; omega) ?_; intro v3 w3 ho3 hg3 _; obtain ⟨A2, cap2, rfl, hrow3, hex3, hacc2⟩ := hacc.step (by simp [go_sem, *]) hg3 ho3; have c2 := cell_of_row _ _ 2 _ _ _ hrow3; have f2 := frozen_of_row _ _ 2 _ _ hrow3; clear hrow3 hex3 hg3 ho3)
              refine ⟨⟨C + q + 1, cap2, A2, by omega, by go_num, ?_⟩, by simp [intOf]; omega⟩; rw [show r * T + (C + q + 1) = r * T + (C + q) + 1 by omega, zbd _ T r (C + q) hjt, HX.out]; exact hacc2
            · have hh : zbP R' C' r q = false := zgI (by omega)
              rw [zdW hh] at hx
              obtain rfl : x = zaX 6 := hx.symm
              clear hx
              have hq2 : ¬ ((C : Int) + (q : Int) < (C : Int)) := by omega
              have hq1 : (C : Int) ≤ (C : Int) + (q : Int) := by omega
              have hq4 : C ≤ C + q := by omega
              have hq3 : ((C : Int) + (q : Int) - (C : Int)) = (q : Int) := by omega
              go_wp2_with fail
              refine aM (zcd _ _ _ _ _ _ rfl) fun os1 d1 => ?_
              go_wp2_with (at_builtin; refine wpList_append_own _ rfl _ _ _ rfl _ 37 i0 (VV 0 0 0 ⟨#[]⟩ false 0) 6 56 Tryz.underlying28 hi0 hz0 hz1 hz2 rfl (by decide) _ _ _ rfl (zw hacc.own (by simp [go_sem, *])) _ 1 1 (Val.cells (zaX 6)) rfl rfl (z7 _ _ _ (by simp) rfl _) (zbe _) (by simp only [maxLen]; omega) (by omega) (by have := hacc.lt; simp; omega) ?_; intro v3 w3 ho3 hg3 _; obtain ⟨A2, cap2, rfl, hrow3, hex3, hacc2⟩ := hacc.step (by simp [go_sem, *]) hg3 ho3; have c2 := cell_of_row _ _ 2 _ _ _ hrow3; have f2 := frozen_of_row _ _ 2 _ _ hrow3; clear hrow3 hex3 hg3 ho3)
              refine ⟨⟨C + q + 1, cap2, A2, by omega, by go_num, ?_⟩, by simp [intOf]; omega⟩; rw [show r * T + (C + q + 1) = r * T + (C + q) + 1 by omega, zbd _ T r (C + q) hjt, HX.out]; exact hacc2
        · obtain rfl : j = T := by omega
          go_wp2
          refine ⟨⟨r + 1, cp, D, by omega, by go_num, by rw [Nat.succ_mul]; exact hacc⟩, by simp [intOf]; omega⟩
    · obtain rfl : r = R := by omega
      have q0 : wr.cell? ⟨w.heap.size + 1 + 1, 0, none⟩ = some (.int .i64 0) := hacc.ext.cell_some (by simp [go_sem]); have q1 : wr.cell? ⟨w.heap.size + 1 + 1, 1, none⟩ = some (.int .i64 0) := hacc.ext.cell_some (by simp [go_sem]); have q2 : wr.cell? ⟨w.heap.size + 1 + 1, 2, none⟩ = some (.slice none 0 0) := hacc.ext.cell_some (by simp [go_sem]); have q3 : wr.frozen? ⟨w.heap.size + 1 + 1, 0, none⟩ = false := (hacc.ext.frozen (p := ⟨w.heap.size + 1 + 1, 0, none⟩) (by simp)).trans (by simp [go_sem]); have q4 : wr.frozen? ⟨w.heap.size + 1 + 1, 1, none⟩ = false := (hacc.ext.frozen (p := ⟨w.heap.size + 1 + 1, 1, none⟩) (by simp)).trans (by simp [go_sem]); have q5 : wr.frozen? ⟨w.heap.size + 1 + 1, 2, none⟩ = false := (hacc.ext.frozen (p := ⟨w.heap.size + 1 + 1, 2, none⟩) (by simp)).trans (by simp [go_sem]); have c0 := cell_of_row _ _ 0 _ _ _ hacc.row; have c1 := cell_of_row _ _ 1 _ _ _ hacc.row; have c2 := cell_of_row _ _ 2 _ _ _ hacc.row
      go_wp2
      obtain ⟨hrd, hcp⟩ := hacc.rd
      refine bodyPost_ret (v := .tuple #[AV r T (.slice D (r * T) cp), .bool true]) (by simp [results, results93, go_sem, q0, q1, q2]) rfl ⟨D, cp, rfl, ?_, hcp, ?_⟩
      · exact Rd.mono (((hrd.set_far _ (by simp)).set_far _ (by simp)).set_far _ (by simp)) (by omega)
      · exact Ext.set (Ext.set (Ext.set (Ext.trans (by simp [go_sem, *]) hacc.ext) _ (by (try simp) <;> omega)) _ (by (try simp) <;> omega)) _ (by (try simp) <;> omega)
theorem zku (R C R' C' : Nat) (A B : Option Addr) (n cap n' cap' : Nat) (l l' : List Val) (w : World) (h : ArrIn w A n cap l) (h' : ArrIn w B n' cap' l') (hr : zo R C l = true) (hr' : zo R' C' l' = true) (hM : R < R') (hf : R' * (C + C') ≤ 4096) :
    Calls prog 93 #[AV R C (.slice A n cap), AV R' C' (.slice B n' cap')] w fun e w' => ∃ D c, e = .returned (.tuple #[AV R' (C + C' : Nat) (.slice D (R' * (C + C')) c), .bool true]) ∧ SlV w.heap.size w' D (zC (fun i j => if j < C then zl R C l i j else zl R' C' l' i ((j : Int) - (C : Int))) (C + C') (R' * (C + C'))) ∧ R' * (C + C') ≤ c ∧ Ext w w' := by
  obtain ⟨i0, hi0, hz0, hz1, hz2⟩ := info_parts zaY
  obtain ⟨r1, r2, r3, r4, r5, r6⟩ := zM hr
  obtain ⟨s1, s2, s3, s4, s5, s6⟩ := zM hr'
  have HN := Lib.hid (show n = R * C by have := h.len; omega)
  have HN' := Lib.hid (show n' = R' * C' by have := h'.len; omega)
  have hN : n ≤ 4096 := by have := HN.out; omega
  have hN' : n' ≤ 4096 := by have := HN'.out; omega
  clear r4 s4
  have hcc : (C : Int) + (C' : Int) = ((C + C' : Nat) : Int) := by omega
  have hw : IntKind.i64.wrap ((R' : Int) * ((C + C' : Nat) : Int)) = ((R' * (C + C') : Nat) : Int) := by rw [IntKind.wrap_i64, Int.natCast_mul]; rw [← Int.natCast_mul]; omega
  generalize hT : C + C' = T at *
  have HT := Lib.hid hT
  have hC1 : C ≤ T := by omega
  clear hT
  have hf' : ¬ 4096 < R' * T := by omega
  have hg : ∃ G : Nat → Nat → Val, Hid ((fun (i j : Nat) => if j < C then zl R C l i j else zl R' C' l' i ((j : Int) - (C : Int))) = G) := ⟨_, rfl⟩
  obtain ⟨G, HG⟩ := hg
  rw [HG.out]
  go_enter func93, ntmps93
  go_wp2
  have hacc0 := Acc.start (((w.alloc (Obj.cells #[.int .i64 R, .int .i64 C, .slice A n cap] 30)).alloc (Obj.cells #[.int .i64 R', .int .i64 C', .slice B n' cap'] 30)).alloc (Obj.cells #[.int .i64 0, .int .i64 0, .slice none 0 0] 30)) R' T
  go_loopw [8] (fun i wr => ∃ (r cp : Nat) (D : Option Addr), r ≤ R' ∧ i = .int .i64 r ∧ Acc (((w.alloc (Obj.cells #[.int .i64 R, .int .i64 C, .slice A n cap] 30)).alloc (Obj.cells #[.int .i64 R', .int .i64 C', .slice B n' cap'] 30)).alloc (Obj.cells #[.int .i64 0, .int .i64 0, .slice none 0 0] 30)) (w.heap.size + 1 + 1 + 1) R' T D cp (r * T) (zC G T (r * T)) wr) (fun i _ => R' - (intOf i).toNat)
  case atStart => exact ⟨0, 0, none, Nat.zero_le _, rfl, by simpa [zC] using hacc0⟩
  case round =>
    clear hacc0
    obtain ⟨r, cp, D, hrr, rfl, hacc⟩ := hrel
    have hlt0 := hacc.lt
    by_cases hlt : r < R'
    · go_wp2
      clear hlt0
      obtain ⟨wo, rfl⟩ : ∃ wo : World, wo = wr := ⟨_, rfl⟩
      go_loopw [9] (fun i wr => ∃ (j cp : Nat) (D : Option Addr), j ≤ T ∧ i = .int .i64 j ∧ Acc (((w.alloc (Obj.cells #[.int .i64 R, .int .i64 C, .slice A n cap] 30)).alloc (Obj.cells #[.int .i64 R', .int .i64 C', .slice B n' cap'] 30)).alloc (Obj.cells #[.int .i64 0, .int .i64 0, .slice none 0 0] 30)) (w.heap.size + 1 + 1 + 1) R' T D cp (r * T + j) (zC G T (r * T + j)) wr) (fun i _ => T - (intOf i).toNat)
      case atStart => exact ⟨0, cp, D, Nat.zero_le _, rfl, by simpa using hacc⟩
      case round =>
        clear hacc
        obtain ⟨j, cp, D, hj, rfl, hacc⟩ := hrel
        have hlt0 := hacc.lt
        have p0 : wr.cell? ⟨w.heap.size, 0, none⟩ = some (.int .i64 R) := hacc.ext.cell_some (by simp [go_sem])
        have p1 : wr.cell? ⟨w.heap.size, 1, none⟩ = some (.int .i64 C) := hacc.ext.cell_some (by simp [go_sem])
        have p2 : wr.cell? ⟨w.heap.size, 2, none⟩ = some (.slice A n cap) := hacc.ext.cell_some (by simp [go_sem])
        have u0 : wr.cell? ⟨w.heap.size + 1, 0, none⟩ = some (.int .i64 R') := hacc.ext.cell_some (by simp [go_sem])
        have u1 : wr.cell? ⟨w.heap.size + 1, 1, none⟩ = some (.int .i64 C') := hacc.ext.cell_some (by simp [go_sem])
        have u2 : wr.cell? ⟨w.heap.size + 1, 2, none⟩ = some (.slice B n' cap') := hacc.ext.cell_some (by simp [go_sem])
        have z0 : w.heap.size < wr.heap.size := by omega
        have z1 : w.heap.size + 1 < wr.heap.size := by omega
        have z2 : w.heap.size + 1 + 1 < wr.heap.size := by omega
        have c1 := cell_of_row _ _ 1 _ _ _ hacc.row
        have c2' := cell_of_row _ _ 2 _ _ _ hacc.row
        by_cases hjt : j < T
        · have hk : r * T + j < 4096 := by have := zcu R' hlt hjt hf; omega
          have hx : (if j < C then zl R C l r j else zl R' C' l' r ((j : Int) - (C : Int))) = G r j := by rw [← HG.out]
          generalize hxx : G r j = x at hx
          have HX := Lib.hid hxx
          clear hxx
          by_cases hjc : j < C
          · rw [if_pos hjc] at hx
            by_cases hri : r < R
            · have hh : zbP R C r j = true := zds.2 (by omega)
              rw [zdK hri hjc] at hx
              have HXX := Lib.hid hx
              clear hx
              go_wp2_with fail
              refine aM (zcd _ _ _ _ _ _ rfl) fun os1 d1 => ?_
              go_wp2_with fail
              refine aM (zbW R C r j A n cap l _ (h.ext (Ext.trans (by simp [go_sem, *]) (hacc.ext.trans (by simp [go_sem, *])))) HN.out hN hri hjc x HXX.out) fun os2 d2 => ?_
              go_wp2_with (at_builtin; refine wpList_append_own _ rfl _ _ _ rfl _ 37 i0 (VV 0 0 0 ⟨#[]⟩ false 0) 6 56 Tryz.underlying28 hi0 hz0 hz1 hz2 rfl (by decide) _ _ _ rfl (zw hacc.own (by simp [go_sem, *])) _ 1 1 (Val.cells x) rfl rfl (z7 _ _ _ (by simp) rfl _) (zbe _) (by simp only [maxLen]; omega) (by omega) (by have := hacc.lt; simp; omega) ?_; intro v3 w3 ho3 hg3 _; obtain ⟨A2, cap2, rfl, hrow3, hex3, hacc2⟩ := hacc.step (by simp [go_sem, *]) hg3 ho3; have c2 := cell_of_row _ _ 2 _ _ _ hrow3; have f2 := frozen_of_row _ _ 2 _ _ hrow3; clear hrow3 hex3 hg3 ho3)
              refine ⟨⟨j + 1, cap2, A2, by omega, by go_num, ?_⟩, by simp [intOf]; omega⟩; rw [show r * T + (j + 1) = r * T + j + 1 by omega, zbd _ T r j hjt, HX.out]; exact hacc2
            · first
              | exact absurd hlt hri
              | (have hh : zbP R C r j = false := zgI (by omega)
                 rw [zdW hh] at hx
                 obtain rfl : x = zaX 6 := hx.symm
                 clear hx
                 go_wp2_with fail
                 refine aM (zcd _ _ _ _ _ _ rfl) fun os1 d1 => ?_
                 go_wp2_with (at_builtin; refine wpList_append_own _ rfl _ _ _ rfl _ 37 i0 (VV 0 0 0 ⟨#[]⟩ false 0) 6 56 Tryz.underlying28 hi0 hz0 hz1 hz2 rfl (by decide) _ _ _ rfl (zw hacc.own (by simp [go_sem, *])) _ 1 1 (Val.cells (zaX 6)) rfl rfl (z7 _ _ _ (by simp) rfl _) (zbe _) (by simp only [maxLen]; omega) (by omega) (by have := hacc.lt; simp; omega) ?_; intro v3 w3 ho3 hg3 _; obtain ⟨A2, cap2, rfl, hrow3, hex3, hacc2⟩ := hacc.step (by simp [go_sem, *]) hg3 ho3; have c2 := cell_of_row _ _ 2 _ _ _ hrow3; have f2 := frozen_of_row _ _ 2 _ _ hrow3; clear hrow3 hex3 hg3 ho3)
                 refine ⟨⟨j + 1, cap2, A2, by omega, by go_num, ?_⟩, by simp [intOf]; omega⟩; rw [show r * T + (j + 1) = r * T + j + 1 by omega, zbd _ T r j hjt, HX.out]; exact hacc2)
          · rw [if_neg hjc] at hx
            obtain ⟨q, rfl⟩ : ∃ q, j = C + q := ⟨j - C, by omega⟩
            have hq : (((C + q : Nat) : Int) - (C : Int)) = (q : Int) := by omega
            rw [hq] at hx
            clear hq
            by_cases hri : r < R'
            · have hqc : q < C' := by have := HT.out; omega
              have hh : zbP R' C' r q = true := zds.2 (by omega)
              rw [zdK hri hqc] at hx
              have HXX := Lib.hid hx
              clear hx
              have hq2 : ¬ ((C : Int) + (q : Int) < (C : Int)) := by omega
              have hq1 : (C : Int) ≤ (C : Int) + (q : Int) := by omega
              have hq4 : C ≤ C + q := by omega
              have hq3 : ((C : Int) + (q : Int) - (C : Int)) = (q : Int) := by omega
              go_wp2_with fail
              refine aM (zcd _ _ _ _ _ _ rfl) fun os1 d1 => ?_
              go_wp2_with fail
              refine aM (zbW R' C' r q B n' cap' l' _ (h'.ext (Ext.trans (by simp [go_sem, *]) (hacc.ext.trans (by simp [go_sem, *])))) HN'.out hN' hri hqc x HXX.out) fun os2 d2 => ?_
              go_wp2_with (at_builtin; refine wpList_append_own _ rfl _ _ _ rfl _ 37 i0 (VV 0 0 0 ⟨#[]⟩ false 0) 6 56 Tryz.underlying28 hi0 hz0 hz1 hz2 rfl (by decide) _ _ _ rfl (zw hacc.own (by simp [go_sem, *])) _ 1 1 (Val.cells x) rfl rfl (z7 _ _ _ (by simp) rfl _) (zbe _) (by simp only [maxLen]; omega) (by omega) (by have := hacc.lt; simp; omega) ?_; intro v3 w3 ho3 hg3 _; obtain ⟨A2, cap2, rfl, hrow3, hex3, hacc2⟩ := hacc.step (by simp [go_sem, *]) hg3 ho3; have c2 := cell_of_row _ _ 2 _ _ _ hrow3; have f2 := frozen_of_row _ _ 2 _ _ hrow3; clear hrow3 hex3 hg3 ho3)
              refine ⟨⟨C + q + 1, cap2, A2, by omega, by go_num, ?_⟩, by simp [intOf]; omega⟩; rw [show r * T + (C + q + 1) = r * T + (C + q) + 1 by omega, zbd _ T r (C + q) hjt, HX.out]; exact hacc2
            · exact absurd hlt hri
        · obtain rfl : j = T := by omega
          go_wp2
          refine ⟨⟨r + 1, cp, D, by omega, by go_num, by rw [Nat.succ_mul]; exact hacc⟩, by simp [intOf]; omega⟩
    · obtain rfl : r = R' := by omega
      have q0 : wr.cell? ⟨w.heap.size + 1 + 1, 0, none⟩ = some (.int .i64 0) := hacc.ext.cell_some (by simp [go_sem]); have q1 : wr.cell? ⟨w.heap.size + 1 + 1, 1, none⟩ = some (.int .i64 0) := hacc.ext.cell_some (by simp [go_sem]); have q2 : wr.cell? ⟨w.heap.size + 1 + 1, 2, none⟩ = some (.slice none 0 0) := hacc.ext.cell_some (by simp [go_sem]); have q3 : wr.frozen? ⟨w.heap.size + 1 + 1, 0, none⟩ = false := (hacc.ext.frozen (p := ⟨w.heap.size + 1 + 1, 0, none⟩) (by simp)).trans (by simp [go_sem]); have q4 : wr.frozen? ⟨w.heap.size + 1 + 1, 1, none⟩ = false := (hacc.ext.frozen (p := ⟨w.heap.size + 1 + 1, 1, none⟩) (by simp)).trans (by simp [go_sem]); have q5 : wr.frozen? ⟨w.heap.size + 1 + 1, 2, none⟩ = false := (hacc.ext.frozen (p := ⟨w.heap.size + 1 + 1, 2, none⟩) (by simp)).trans (by simp [go_sem]); have c0 := cell_of_row _ _ 0 _ _ _ hacc.row; have c1 := cell_of_row _ _ 1 _ _ _ hacc.row; have c2 := cell_of_row _ _ 2 _ _ _ hacc.row
      go_wp2
      obtain ⟨hrd, hcp⟩ := hacc.rd
      refine bodyPost_ret (v := .tuple #[AV r T (.slice D (r * T) cp), .bool true]) (by simp [results, results93, go_sem, q0, q1, q2]) rfl ⟨D, cp, rfl, ?_, hcp, ?_⟩
      · exact Rd.mono (((hrd.set_far _ (by simp)).set_far _ (by simp)).set_far _ (by simp)) (by omega)
      · exact Ext.set (Ext.set (Ext.set (Ext.trans (by simp [go_sem, *]) hacc.ext) _ (by (try simp) <;> omega)) _ (by (try simp) <;> omega)) _ (by (try simp) <;> omega)
theorem ziF (R C R' C':Nat) (A B:Option Addr) (n cap n' cap':Nat) (l l':List Val) (w:World) (hr:zo R C l=true) (hr':zo R' C' l'=true) (hf:¬ max R R' * (C+C')≤4096) :
  Tl prog 93 #[AV R C (.slice A n cap),AV R' C' (.slice B n' cap')] w (.tuple #[AV 0 0 (.slice none 0 0),.bool false]):=by
 obtain ⟨r1,r2,r3,r4,r5,r6⟩:=zM hr
 obtain ⟨s1,s2,s3,s4,s5,s6⟩:=zM hr'
 clear r4 s4
 have hcc:(C:Int)+(C':Int)=((C+C':Nat):Int):=by omega
 have hb:C+C'≤8192:=by omega
 generalize C+C'=T at *
 have hw:∀ M:Nat,M≤4096→IntKind.i64.wrap ((M:Int) * (T:Int))=((M * T:Nat):Int):=fun M hM=>by
  have:M * T≤4096 * 8192:=Nat.mul_le_mul hM hb
  rw [← Int.natCast_mul,IntKind.wrap_i64];omega
 by_cases hM:R < R'
 ·rw [Nat.max_eq_right (Nat.le_of_lt hM)] at hf
  have hw':=hw R' s5
  have hf':4096 < R' * T:=by omega
  have hf2:(4096:Int) < (R':Int) * (T:Int):=by rw [← Int.natCast_mul];omega
  clear hw hf
  go_enter func93,ntmps93
  go_wp2
  exact rct rfl rfl (by simp [go_sem]) ⟨rfl,by simp [go_sem, *]⟩
 ·rw [Nat.max_eq_left (by omega)] at hf
  have hw':=hw R r5
  have hf':4096 < R * T:=by omega
  have hf2:(4096:Int) < (R:Int) * (T:Int):=by rw [← Int.natCast_mul];omega
  clear hw hf
  go_enter func93,ntmps93
  go_wp2
  exact rct rfl rfl (by simp [go_sem]) ⟨rfl,by simp [go_sem, *]⟩
theorem zdz:zhI 93 besideO:=by
 intro a b A B n cap n' cap' w h h' ha hb x k hx hk
 obtain ⟨a1,a2,a3,a4,a5⟩:=zi.1 ha
 obtain ⟨b1,b2,b3,b4,b5⟩:=zi.1 hb
 by_cases hf:max a.R b.R * (a.C+b.C)≤4096
 ·simp only [besideO,if_pos hf,orZ,Option.getD_some,Option.isSome_some] at hx hk
  subst hx hk
  have key:Calls prog 93 #[AV a.R a.C (.slice A n cap),AV b.R b.C (.slice B n' cap')] w fun e w'=>∃ D c,e = .returned (.tuple #[AV (max a.R b.R:Nat) (a.C+b.C:Nat) (.slice D (max a.R b.R * (a.C+b.C)) c),.bool true])∧SlV w.heap.size w' D (zbQ a.R a.C a.l b.R b.C b.l)∧max a.R b.R * (a.C+b.C)≤c∧Ext w w':=by
   unfold zbQ
   by_cases hM:a.R < b.R
   ·rw [Nat.max_eq_right (Nat.le_of_lt hM)] at hf ⊢
    exact zku a.R a.C b.R b.C A B n cap n' cap' a.l b.l w h h' ha hb hM hf
   ·rw [Nat.max_eq_left (by omega)] at hf ⊢
    exact zkt a.R a.C b.R b.C A B n cap n' cap' a.l b.l w h h' ha hb hM hf
  refine key.mono ?_
  rintro e w' ⟨D,c,rfl,hs,hc,hX⟩
  exact ⟨D,_,c,rfl,⟨Rd.mono hs (Nat.zero_le _),ziE _ _ _ _ _ _,hc,by omega,zfv a4 b4 h.ok h'.ok (zgH 6 zmQ)⟩,hs,hX⟩
 ·simp only [besideO,if_neg hf,orZ,Option.getD_none,Option.isSome_none] at hx hk
  subst hx hk
  refine (ziF a.R a.C b.R b.C A B n cap n' cap' a.l b.l w ha hb hf).mono ?_
  rintro e w' ⟨rfl,hX⟩
  exact ⟨none,0,0,rfl,ArrIn.none_ _,SlV.nil _ _ _,hX⟩
theorem ArrIn.box {X:World} {os:Array Obj} {d:Nat} {i0 i1:Int} {p:Option Addr} {q r:Nat} {ty:TypeId} {A:Option Addr} {n cap:Nat} {l:List Val} (h:ArrIn (more (X.alloc (.cells #[.int .i64 i0,.int .i64 i1,.slice p q r] ty)) os d) A n cap l) (C':Array Value) (ty':TypeId) (d':Nat) :
  ArrIn (more (X.alloc (.cells C' ty')) os d') A n cap l:=by
 refine ⟨fun j u hu=>?_,h.len,h.cap,h.small,h.ok⟩
 obtain ⟨b,off,hA,hb,hc⟩:=h.rd j u hu
 refine ⟨b,off,hA,hb,?_⟩
 have hne:b≠X.heap.size:=by
  intro e
  cases l with
  | nil=>simp [zm] at hu
  | cons x l =>
   obtain ⟨b',off',hA',_,hc3⟩:=h.rd 3 (.string x.text) (by simp [zm,Val.cells])
   rw [hA] at hA'
   simp only [Option.some.injEq,Addr.mk.injEq,and_true] at hA'
   obtain ⟨rfl,rfl⟩:=hA'
   subst e
   rw [znD _ _ _ _ _ (by simp),World.cell?_alloc_at _ _ _ _ rfl] at hc3
   simp at hc3
 rw [← hc]
 refine World.cell?_of_block ?_
 show (more (X.alloc (.cells C' ty')) os d').heap[b]? = (more (X.alloc _) os d).heap[b]?
 simp only [more,World.alloc,Array.getElem?_append,Array.size_push,Array.getElem?_push]
 by_cases hlt:b < X.heap.size+1
 ·rw [if_pos hlt,if_pos hlt,if_neg hne,if_neg hne]
 ·rw [if_neg hlt,if_neg hlt]
theorem zdL (R C:Nat) (A:Option Addr) (n cap:Nat) (l:List Val) (w:World) (h:ArrIn w A n cap l) (hr:zo R C l=true) :
  Calls prog 49 #[AV R C (.slice A n cap)] w fun e w'=>∃ D c,e = .returned (AV C R (.slice D n c))∧ArrIn w' D n c (zT R C l)∧SlV w.heap.size w' D (zT R C l)∧Ext w w':=by
 obtain ⟨a1,a2,a3,a4,a5⟩:=zi.1 hr
 have hln:=h.len
 refine (zgZ R C A n cap l w h a1 a2 (by omega) (by omega)).mono ?_
 rintro e w' ⟨⟨D,c,rfl,hs,hc⟩,hX⟩
 have e:(zT R C l).length=n:=by rw [zcy,← h.len,a4,Nat.mul_comm]
 rw [e] at hc ⊢
 exact ⟨D,c,rfl,⟨Rd.mono hs (Nat.zero_le _),e,hc,h.small,zfC a4 h.ok⟩,hs,hX⟩
theorem zlj (R C:Nat) (l:List Val) (R' C':Nat) (l':List Val):zT (max C C') (R+R') (zbQ C R (zT R C l) C' R' (zT R' C' l'))=zdG R C l R' C' l':=by
 rw [zT,zdG]
 refine zfu fun i j hi hj=>?_
 rw [zmX C R _ C' R' _ hj hi]
 by_cases q:i < R
 ·rw [if_pos q,if_pos q,zgY]
 ·rw [if_neg q,if_neg q]
  obtain ⟨k,rfl⟩:∃ k,i=R+k:=⟨i - R,by omega⟩
  rw [show (((R+k:Nat):Int) - (R:Int))=(k:Int) by omega,zgY]
theorem zkv {a b:NA} : belowO a b=(besideO ⟨a.C,a.R,zT a.R a.C a.l⟩ ⟨b.C,b.R,zT b.R b.C b.l⟩).map fun z=>⟨z.C,z.R,zT z.R z.C z.l⟩:=by
 unfold belowO besideO
 by_cases h:(a.R+b.R) * max a.C b.C≤4096
 ·have h':max a.C b.C * (a.R+b.R)≤4096:=by rw [Nat.mul_comm];exact h
  rw [if_pos h,if_pos h',Option.map_some,zlj]
 ·have h':¬ max a.C b.C * (a.R+b.R)≤4096:=by rw [Nat.mul_comm];exact h
  rw [if_neg h,if_neg h',Option.map_none]
theorem zmZ:zhI 94 belowO:=by
 intro a b A B n cap n' cap' w h h' ha hb x k hx hk
 rw [zkv] at hx hk
 have hra:=zfD ha
 have hrb:=zfD hb
 cases hz:besideO ⟨a.C,a.R,zT a.R a.C a.l⟩ ⟨b.C,b.R,zT b.R b.C b.l⟩ with
 | none =>
  rw [hz] at hx hk
  simp only [Option.map_none,orZ,Option.getD_none,Option.isSome_none] at hx hk
  subst hx hk
  have HZ:=Lib.hid hz
  clear hz
  go_enter func94,ntmps94
  go_wp2_with fail
  refine zaB [(8,4),(0,0),(2,0),(1,1),(3,1),(4,1),(5,0),(6,0),(7,2),(8,3)] [9,10] [9,10] [7] (by kernel_rfl) (by kernel_rfl) (by kernel_rfl) (fun _ _ d _ _ h=>by cases d <;> exact h) (fun _ _ d _ _ h=>by cases d <;> exact h) ?_
  (refine zaD (t:=6) (.cells #[.int .i64 0,.int .i64 0,.slice none 0 0] 30) zbK rfl rfl rfl (fun w1=>?_) ?_;(first | rfl | (simp [go_sem,zbK];done) | (go_simp;rfl)))
  iterate 2 (apply rdG rfl rfl;(intros;go_simp;first | done | rfl);try simp only [zq])
  (refine zag rfl ?_ (fun wf hXf hE K hK=>?_);rfl;obtain ⟨osf,df,rfl⟩:=hXf.more;go_simp;refine (zdL a.R a.C A n cap a.l _ (h.ext (by simp [go_sem, *])) ha).mono ?_;rintro e w' ⟨E1,ce1,rfl,hE1,hs1,hb1⟩;refine hK _ _ (fun W=>ArrIn W E1 n ce1 (zT a.R a.C a.l)) hb1 (fun _ _ hx h=>h.ext hx) hE1 ?_)
  try simp only [zq]
  (refine zag rfl ?_ (fun wf hXf hE K hK=>?_);rfl;obtain ⟨osf,df,rfl⟩:=hXf.more;go_simp;refine (zdL b.R b.C B n' cap' b.l _ (h'.ext (by simp [go_sem, *])) hb).mono ?_;rintro e w' ⟨E2,ce2,rfl,hE2,hs2,hb2⟩;refine hK _ _ (fun W=>ArrIn W E1 n ce1 (zT a.R a.C a.l)∧ArrIn W E2 n' ce2 (zT b.R b.C b.l)) hb2 (fun _ _ hx h=>⟨h.1.ext hx,h.2.ext hx⟩) ⟨hE.ext hb2,hE2⟩ ?_)
  try simp only [zq]
  (refine zag rfl ?_ (fun wf hXf hE K hK=>?_);rfl;obtain ⟨osf,df,rfl⟩:=hXf.more;go_simp;refine (zdz ⟨a.C,a.R,zT a.R a.C a.l⟩ ⟨b.C,b.R,zT b.R b.C b.l⟩ _ _ _ _ _ _ _ hE.1 hE.2 hra hrb ⟨0,0,[]⟩ false (by rw [HZ.out];rfl) (by rw [HZ.out];rfl)).mono ?_;rintro e w' ⟨E3,m4,ce3,rfl,hE3,hs3,hb3⟩;refine hK _ _ (fun _=>True) hb3 (fun _ _ _ _=>trivial) trivial ?_)
  try simp only [zq]
  iterate 3 ((first | (apply rdG rfl rfl;(intros;go_simp;first | done | rfl)) | (refine zbf (v:=?_) rfl ?_ (fun w1=>?_) ?_;rotate_left 1;rfl;(go_simp;first | done | rfl)));try simp only [zq])
  refine zca fun osa da osb db hE=>?_
  try simp only [zq]
  (refine zX rfl ?_ (fun K hK=>?_);rfl;go_simp;refine hK _ _ ?_)
  try simp only [zq]
  (refine zX rfl ?_ (fun K hK=>?_);rfl;go_simp;refine hK _ _ ?_)
  try simp only [zq]
  refine zaZ ?_
  go_wp2
  exact rct rfl rfl (by simp [go_sem]) ⟨none,0,0,rfl,ArrIn.none_ _,SlV.nil _ _ _,by simp [go_sem, *]⟩
 | some z =>
  rw [hz] at hx hk
  simp only [Option.map_some,orZ,Option.getD_some,Option.isSome_some] at hx hk
  subst hx hk
  have hrz:=zef (a:=⟨a.C,a.R,zT a.R a.C a.l⟩) (b:=⟨b.C,b.R,zT b.R b.C b.l⟩) hra hrb hz
  have HZ:=Lib.hid hz
  clear hz
  go_enter func94,ntmps94
  go_wp2_with fail
  refine zaB [(8,4),(0,0),(2,0),(1,1),(3,1),(4,1),(5,0),(6,0),(7,2),(8,3)] [9,10] [9,10] [7] (by kernel_rfl) (by kernel_rfl) (by kernel_rfl) (fun _ _ d _ _ h=>by cases d <;> exact h) (fun _ _ d _ _ h=>by cases d <;> exact h) ?_
  (refine zaD (t:=6) (.cells #[.int .i64 0,.int .i64 0,.slice none 0 0] 30) zbK rfl rfl rfl (fun w1=>?_) ?_;(first | rfl | (simp [go_sem,zbK];done) | (go_simp;rfl)))
  iterate 2 (apply rdG rfl rfl;(intros;go_simp;first | done | rfl);try simp only [zq])
  (refine zag rfl ?_ (fun wf hXf hE K hK=>?_);rfl;obtain ⟨osf,df,rfl⟩:=hXf.more;go_simp;refine (zdL a.R a.C A n cap a.l _ (h.ext (by simp [go_sem, *])) ha).mono ?_;rintro e w' ⟨E1,ce1,rfl,hE1,hs1,hb1⟩;refine hK _ _ (fun W=>ArrIn W E1 n ce1 (zT a.R a.C a.l)) hb1 (fun _ _ hx h=>h.ext hx) hE1 ?_)
  try simp only [zq]
  (refine zag rfl ?_ (fun wf hXf hE K hK=>?_);rfl;obtain ⟨osf,df,rfl⟩:=hXf.more;go_simp;refine (zdL b.R b.C B n' cap' b.l _ (h'.ext (by simp [go_sem, *])) hb).mono ?_;rintro e w' ⟨E2,ce2,rfl,hE2,hs2,hb2⟩;refine hK _ _ (fun W=>ArrIn W E1 n ce1 (zT a.R a.C a.l)∧ArrIn W E2 n' ce2 (zT b.R b.C b.l)) hb2 (fun _ _ hx h=>⟨h.1.ext hx,h.2.ext hx⟩) ⟨hE.ext hb2,hE2⟩ ?_)
  try simp only [zq]
  (refine zag rfl ?_ (fun wf hXf hE K hK=>?_);rfl;obtain ⟨osf,df,rfl⟩:=hXf.more;go_simp;refine (zdz ⟨a.C,a.R,zT a.R a.C a.l⟩ ⟨b.C,b.R,zT b.R b.C b.l⟩ _ _ _ _ _ _ _ hE.1 hE.2 hra hrb z true (by rw [HZ.out];rfl) (by rw [HZ.out];rfl)).mono ?_;rintro e w' ⟨E3,m4,ce3,rfl,hE3,hs3,hb3⟩;refine hK _ _ (fun W=>ArrIn W E3 m4 ce3 z.l) hb3 (fun _ _ hx h=>h.ext hx) hE3 ?_)
  try simp only [zq]
  iterate 3 ((first | (apply rdG rfl rfl;(intros;go_simp;first | done | rfl)) | (refine zbf (v:=?_) rfl ?_ (fun w1=>?_) ?_;rotate_left 1;rfl;(go_simp;first | done | rfl)));try simp only [zq])
  refine zca fun osa da osb db hE=>?_
  try simp only [zq]
  (refine zX rfl ?_ (fun K hK=>?_);rfl;go_simp;refine hK _ _ ?_)
  try simp only [zq]
  (refine zX rfl ?_ (fun K hK=>?_);rfl;go_simp;refine hK _ _ ?_)
  try simp only [zq]
  refine zaZ ?_
  have hY:=hE.box #[.int .i64 z.R,.int .i64 z.C,.slice E3 m4 ce3] 30 db
  clear hE
  (try simp only [zc] at hY)
  go_wp2_with fail
  refine (zdL z.R z.C E3 m4 ce3 z.l _ (hY.ext (by simp [go_sem, *])) hrz).mono ?_
  rintro e w' ⟨F,cf,rfl,hF,hs,hb⟩
  obtain ⟨os5,d5,rfl⟩:=hb.more
  clear hb
  go_wp2
  have hF':=hs
  refine bodyPost_ret (v:=.tuple #[AV z.C z.R (.slice F m4 cf),.bool true]) (by simp [results,results94,go_sem]) rfl ⟨F,m4,cf,rfl,⟨?_,hF.len,hF.cap,hF.small,hF.ok⟩,?_,by simp [go_sem, *]⟩
  ·exact (by (try simp only [za,zc,zb,Array.append_assoc] at hs);exact hs.sw (by simp <;> omega))
  ·exact (by (try simp only [za] at hF');(try simp only [zc] at hF');(try simp only [zb] at hF');(try simp only [Array.append_assoc] at hF');exact Rd.swap hF' (by (try simp) <;> omega) (by (try simp) <;> omega) (by (try simp) <;> omega))
end Go.Proofs.YtkoidgbgoccgmaaGreatDoor
namespace Go.Proofs.YtkoidgbgoccgmaaGreatDoor
open Tryz
open Go.RowKit NM
theorem zpW (h:Nat):zce h h=rng 0 h:=by
 unfold zce;rw [if_pos (Or.inl (Int.le_refl _))]
theorem zrO {lo hi:Nat} (h:lo < hi):rng lo hi≠[]:=fun e=>by have:=zbX lo hi;rw [e] at this;simp at this;omega
def zad (n:Int) (h:Nat) (take out:Bool):Int×Int×Bool :=
 if take=true then
  if out=true∨(h:Int)≤n∨n ≤ -(h:Int) then (0,(h:Int),out || decide (n≠0))
  else if 0 < n then (0,n,true) else ((h:Int)+n,(h:Int),decide (n≠0))
 else if (h:Int)≤n∨n ≤ -(h:Int) then (0,0,false)
 else if 0≤n then (n,(h:Int),true) else (0,(h:Int)+n,true)
def zdg (c:Int×Int×Bool) (ps:List Nat) (h:Nat):Prop:=∃ lo hi:Nat,c=((lo:Int),(hi:Int),true)∧lo < hi∧hi≤h∧ps=rng lo hi
theorem zhp {n:Int} {h:Nat} (h1:1≤h) (hn:n≠0):zdg (zad n h true false) (zce n h) h:=by
 unfold zad zce
 rw [if_pos rfl]
 by_cases q:(h:Int)≤n∨n ≤ -(h:Int)
 ·rw [if_pos (Or.inr q),if_pos q]
  exact ⟨0,h,by simp [hn],h1,Nat.le_refl _,rfl⟩
 ·rw [if_neg (by simpa using q),if_neg q]
  by_cases p:0 < n
  ·rw [if_pos p,if_pos p]
   exact ⟨0,n.toNat,by rw [show ((n.toNat:Nat):Int)=n by omega];rfl,by omega,by omega,rfl⟩
  ·rw [if_neg p,if_neg p]
   exact ⟨((h:Int)+n).toNat,h,by rw [show ((((h:Int)+n).toNat:Nat):Int)=(h:Int)+n by omega];simp [hn],by omega,Nat.le_refl _,rfl⟩
theorem zi9 {h:Nat} (h1:1≤h):(zad 0 h true false).2.2=false:=by
 unfold zad
 rw [if_pos rfl,if_neg (by simp;omega),if_neg (by omega)]
 simp
theorem zmj {n:Int} {h:Nat} (h1:1≤h):zdg (zad n h true true) (zce (h:Int) h) h:=by
 unfold zad
 rw [if_pos rfl,if_pos (Or.inl rfl),zpW]
 exact ⟨0,h,rfl,h1,Nat.le_refl _,rfl⟩
theorem zfE {n:Int} {h:Nat} {o:Bool} (h1:1≤h):((zad n h false o).2.2=false∧zbD n h=[])∨zdg (zad n h false o) (zbD n h) h:=by
 unfold zad zbD
 rw [if_neg (by simp)]
 by_cases q:(h:Int)≤n∨n ≤ -(h:Int)
 ·rw [if_pos q,if_pos q];exact Or.inl ⟨rfl,rfl⟩
 ·rw [if_neg q,if_neg q]
  right
  by_cases p:0 < n
  ·rw [if_pos (by omega),if_pos p]
   exact ⟨n.toNat,h,by rw [show ((n.toNat:Nat):Int)=n by omega],by omega,Nat.le_refl _,rfl⟩
  ·rw [if_neg p]
   by_cases z:0≤n
   ·obtain rfl:n=0:=by omega
    rw [if_pos (by omega)]
    exact ⟨0,h,rfl,by omega,Nat.le_refl _,by congr 1⟩
   ·rw [if_neg z]
    exact ⟨0,((h:Int)+n).toNat,by rw [show ((((h:Int)+n).toNat:Nat):Int)=(h:Int)+n by omega];rfl,by omega,by omega,rfl⟩
theorem zja {n:Int} {h:Nat} (take out:Bool) (h1:1≤h):(zad n h take out).2.2=false∨∃ ps,zdg (zad n h take out) ps h:=by
 cases take with
 | true =>
  cases out with
  | true=>exact Or.inr ⟨_,zmj h1⟩
  | false =>
   by_cases hn:n=0
   ·subst hn;exact Or.inl (zi9 h1)
   ·exact Or.inr ⟨_,zhp h1 hn⟩
 | false =>
  rcases zfE (n:=n) (o:=out) h1 with ⟨h2,_⟩ | h2
  ·exact Or.inl h2
  ·exact Or.inr ⟨_,h2⟩
theorem zdg.ne {c:Int×Int×Bool} {ps:List Nat} {h:Nat} (hc:zdg c ps h):ps≠[]:=by
 obtain ⟨lo,hi,_,h1,_,rfl⟩:=hc
 exact zrO h1
def zeC (a:NA) (m n:Int×Int) (c d:Int×Int×Bool):NA :=
 if m.2≠0 then zf m.2 else if n.2≠0 then zf n.2
 else if c.2.2=false∨d.2.2=false then zf 9 else zev a c.1.toNat d.1.toNat (c.2.1 - c.1).toNat (d.2.1 - d.1).toNat
theorem zkw {a:NA} (ha:a.right) {c d:Int×Int×Bool} {ps qs:List Nat} (hc:zdg c ps a.R) (hd:zdg d qs a.C) :
  (if c.2.2=false∨d.2.2=false then zf 9 else zev a c.1.toNat d.1.toNat (c.2.1 - c.1).toNat (d.2.1 - d.1).toNat)=zaF (zL a ps) qs:=by
 obtain ⟨lo,hi,rfl,h1,h2,rfl⟩:=hc
 obtain ⟨lo',hi',rfl,h3,h4,rfl⟩:=hd
 rw [if_neg (by simp),zre ha h2 h4]
 simp only [Int.toNat_natCast]
 rw [show ((hi:Int) - (lo:Int)).toNat=hi - lo by omega,show ((hi':Int) - (lo':Int)).toNat=hi' - lo' by omega]
def zd1 (xs:List Ar) (take:Bool):NA :=
 zeC (zF xs 0) (zu xs 1 0) (zu xs 2 0) (zad (zu xs 1 0).1 (zF xs 0).R take (!zA xs 1)) (zad (zu xs 2 0).1 (zF xs 0).C take (!zA xs 2))
theorem zoq {xs:List Ar} {k:Nat} {l l':Int} (h:zA xs k=true):zu xs k l=zu xs k l':=by
 unfold zu;rw [if_pos h,if_pos h]
theorem zfF {xs:List Ar} {k:Nat} {l:Int} (h:zA xs k=false):zu xs k l=(l,0):=by
 unfold zu;rw [if_neg (by simp [h])]
theorem zjb (xs:List Ar) (k h:Nat) (h1:1≤h):((zu xs k h).2=(zu xs k 0).2)∧((zu xs k h).2=0 →
  ((zu xs k h).1=0∧(zad (zu xs k 0).1 h true (!zA xs k)).2.2=false)∨((zu xs k h).1≠0∧zdg (zad (zu xs k 0).1 h true (!zA xs k)) (zce (zu xs k h).1 h) h)):=by
 cases hg:zA xs k with
 | false =>
  rw [zfF hg,zfF hg]
  exact ⟨rfl,fun _=>Or.inr ⟨by show (h:Int)≠0;omega,zmj h1⟩⟩
 | true =>
  rw [zoq (l:=(h:Int)) (l':=0) hg]
  refine ⟨rfl,fun _=>?_⟩
  by_cases hz:(zu xs k 0).1=0
  ·left;refine ⟨hz,?_⟩;rw [hz];exact zi9 h1
  ·exact Or.inr ⟨hz,zhp h1 hz⟩
theorem zpX {xs:List Ar} (ha:(zF xs 0).right):zd1 xs true=zeA xs:=by
 obtain ⟨r1,r2,_⟩:=zi.1 ha
 obtain ⟨e1,c1⟩:=zjb xs 1 (zF xs 0).R r1
 obtain ⟨e2,c2⟩:=zjb xs 2 (zF xs 0).C r2
 unfold zd1 zeA zeC zez
 rw [e1,e2]
 by_cases q1:(zu xs 1 0).2=0
 ·simp only [show ¬ (zu xs 1 0).2≠0 by simpa using q1,if_false]
  by_cases q2:(zu xs 2 0).2=0
  ·simp only [show ¬ (zu xs 2 0).2≠0 by simpa using q2,if_false]
   rcases c1 (e1.trans q1) with ⟨z1,f1⟩ | ⟨z1,f1⟩
   ·rw [if_pos (Or.inl f1),if_pos (Or.inl z1)]
   ·rcases c2 (e2.trans q2) with ⟨z2,f2⟩ | ⟨z2,f2⟩
    ·rw [if_pos (Or.inr f2),if_pos (Or.inr z2)]
    ·rw [if_neg (c:=(zu xs 1 ((zF xs 0).R:Int)).1=0∨(zu xs 2 ((zF xs 0).C:Int)).1=0) (by simp [z1,z2])]
     exact zkw ha f1 f2
  ·simp only [show (zu xs 2 0).2≠0 from q2,if_true,not_false_eq_true,ne_eq]
 ·simp only [show (zu xs 1 0).2≠0 from q1,if_true,not_false_eq_true,ne_eq]
theorem zpY {xs:List Ar} (ha:(zF xs 0).right):zd1 xs false=zeB xs:=by
 obtain ⟨r1,r2,_⟩:=zi.1 ha
 unfold zd1 zeB zeC zgM
 by_cases q1:(zu xs 1 0).2=0
 ·simp only [show ¬ (zu xs 1 0).2≠0 by simpa using q1,if_false]
  by_cases q2:(zu xs 2 0).2=0
  ·simp only [show ¬ (zu xs 2 0).2≠0 by simpa using q2,if_false]
   rcases zfE (n:=(zu xs 1 0).1) (o:=!zA xs 1) r1 with ⟨f1,z1⟩ | f1
   ·rw [if_pos (Or.inl f1),if_pos (Or.inl z1)]
   ·rcases zfE (n:=(zu xs 2 0).1) (o:=!zA xs 2) r2 with ⟨f2,z2⟩ | f2
    ·rw [if_pos (Or.inr f2),if_pos (Or.inr z2)]
    ·rw [if_neg (c:=zbD (zu xs 1 0).1 (zF xs 0).R=[]∨zbD (zu xs 2 0).1 (zF xs 0).C=[]) (fun e=>e.elim f1.ne f2.ne)]
     exact zkw ha f1 f2
  ·simp only [show (zu xs 2 0).2≠0 from q2,if_true,not_false_eq_true,ne_eq]
 ·simp only [show (zu xs 1 0).2≠0 from q1,if_true,not_false_eq_true,ne_eq]
theorem zor {x:Val} (h:x.right):tnF x=0∨(1≤tnF x∧tnF x≤9):=by
 rcases h.form with rfl | ⟨m,e,rfl,hr⟩ | ⟨t,rfl,ht⟩ | ⟨b,rfl⟩ | ⟨f,rfl,hf⟩
 ·left;rfl
 ·left;rfl
 ·unfold tnF
  rw [if_pos rfl]
  cases (zcJ t).isSome
  ·right;simp
  ·left;rfl
 ·left;rfl
 ·right;exact hf
theorem zos {x:Val} (h:x.right):(zci x).2=0∨(1≤(zci x).2∧(zci x).2≤9):=by
 unfold zci
 split
 ·show (if _ then (0:Int) else 5)=0∨_
  split
  ·left;rfl
  ·right;simp
 ·exact zor h
theorem zfG {w:World} {A:Option Addr} {n cap k:Nat} {xs:List Ar} (h:ArgsIn w A n cap xs) (hg:zA xs k=true):(ze3 xs k).right:=by
 unfold zA at hg
 unfold ze3
 cases hx:xs[k]? with
 | none=>rw [hx] at hg;cases hg
 | some a =>
  have ha:=(h.all a (List.mem_of_getElem? hx)).right
  obtain ⟨r1,r2,r3,r4,r5⟩:=zi.1 ha
  exact r5 _ (zee (by rw [r4];exact Nat.mul_pos r1 r2))
theorem zd2 {w:World} {A:Option Addr} {n cap k:Nat} {xs:List Ar} {l:Int} (h:ArgsIn w A n cap xs):(zu xs k l).2=0∨(1≤(zu xs k l).2∧(zu xs k l).2≤9):=by
 cases hg:zA xs k with
 | false=>rw [zfF hg];left;rfl
 | true=>unfold zu;rw [if_pos hg];exact zos (zfG h hg)
theorem zjc:∀ {k:Nat} {n i:Int},I64 n→zb6 n k=some i→I64 i
 | 0,n,i,h,e=>by
  simp only [zb6,Option.some.injEq] at e
  subst e;exact h
 | k+1,n,i,h,e=>by
  unfold zb6 at e
  split at e
  ·cases e
  ·exact zjc (by unfold I64;omega) e
theorem zrf {m e i:Int} (h:Rt m e) (hi:zby m e=some i):I64 i:=by
 unfold zby at hi
 split at hi
 ·cases hi
 ·exact zjc (zbu h) hi
theorem zm0 {x:Val} (h:x.right):I64 (zci x).1:=by
 unfold zci
 split
 ·show I64 (Option.getD _ 0)
  cases hi:zby (zN (tnP x).1 (tnP x).2).1 (zN (tnP x).1 (tnP x).2).2 with
  | none=>show I64 0;unfold I64;omega
  | some i=>exact zrf (zfB (zgG h)).1 hi
 ·show I64 0;unfold I64;omega
theorem zcA {w:World} {A:Option Addr} {n cap k:Nat} {xs:List Ar} {l:Int} (h:ArgsIn w A n cap xs) (hl:I64 l):I64 (zu xs k l).1:=by
 cases hg:zA xs k with
 | false=>rw [zfF hg];exact hl
 | true=>unfold zu;rw [if_pos hg];exact zm0 (zfG h hg)
theorem zt (f:Int) (w:World):Calls prog 17 #[.int .i64 f] w fun e w'=>zan w (zf f) e w':=by
 go_enter func17,ntmps17
 go_wp2_with (go_at_call 57;with_reducible refine aM (zfb _ _) fun os d=>?_)
 go_at_call 24
 refine (ziB (zeX f) _ (zoa f) (zn1 f)).mono ?_
 rintro e w' ⟨D,m,cc,rfl,hD,hb⟩
 obtain ⟨os2,d2,rfl⟩:=hb.more
 clear hb
 have hDr:=hD.rd
 go_wp2_with fail
 exact rc1 (v:=AV (zao (zeX f)).R (zao (zeX f)).C (.slice D m cc)) rfl rfl (by simp [go_sem]) (by (try simp only [za,zc,zb,Array.append_assoc] at hDr);exact raS hDr hD (by simp <;> omega) (by simp [go_sem]))
abbrev zcp (lo hi:Int) (f:Value):Value:=.agg #[.int .i64 lo,.int .i64 hi,f]
def zbw (p1 p2 : Nat) : Tab1 :=
  [([67, 79, 76, 85, 77, 78, 83], zcp 1 1 (fn0 23)), ([68, 82, 79, 80], zcp 1 3 (fn0 26)), ([70, 73, 76, 84, 69, 82], zcp 2 3 (fn0 27)),
   ([72, 83, 84, 65, 67, 75], zcp 1 32 (fn1 75 p1)), ([77, 77, 85, 76, 84], zcp 2 2 (fn0 30)), ([82, 79, 87, 83], zcp 1 1 (fn0 31)),
   ([83, 69, 81, 85, 69, 78, 67, 69], zcp 1 4 (fn0 32)), ([83, 79, 82, 84], zcp 1 3 (fn0 33)), ([84, 65, 75, 69], zcp 1 3 (fn0 34)),
   ([84, 79, 67, 79, 76], zcp 1 1 (fn0 35)), ([84, 79, 82, 79, 87], zcp 1 1 (fn0 38)), ([84, 82, 65, 78, 83, 80, 79, 83, 69], zcp 1 1 (fn0 39)),
   ([85, 78, 73, 81, 85, 69], zcp 1 1 (fn0 41)), ([86, 83, 84, 65, 67, 75], zcp 1 32 (fn1 75 p2))]
abbrev bxJ (fid:FuncId):Obj:=.cells #[fn0 fid] 58
def zgN (p1 p2:Nat):List (Nat×Obj):=[(p1,bxJ 29),(p2,bxJ 42)]
theorem zdh (p1 p2:Nat):(zbw p1 p2).Pairwise (fun p q=>p.1≠q.1):=by simp [zbw]
theorem zfH (w:World):(zeroValue 45).run prog w = .ok (.agg #[.int .i64 0,.int .i64 0,.nilFunc]) w:=by kernel_rfl
theorem zm1 (w:World) (o:Obj):(w.alloc o).heap[w.heap.size]? = some o:=Array.getElem?_push_size
theorem zm2 (fid:FuncId) (w:World) :
  Calls prog 28 #[.func (.func fid) #[] #[]] w fun e w'=>e = .returned (.func (.func 75) #[] #[.pointer (some ⟨w.heap.size,0,none⟩)])∧w'=w.alloc (bxJ fid):=by
 go_enter func28,ntmps28
 go_wp2_with fail
 go_ret
 exact ⟨rfl,rfl⟩
theorem zdi (w:World) :
  Calls prog 13 #[] w fun e w'=>∃ b,e = .returned (.map (some b))∧∃ p1 p2,TabS prog 9 w b (zbw p1 p2) (zgN p1 p2) w':=by
 have hmm:=@run_makeMap prog
 have hT:=TabS.start w prog 9
 go_enter func13,ntmps13
 go_wp2_with (first | (go_at_call 28;(with_reducible refine (zm2 _ _).mono ?_);rintro e w' ⟨rfl,hw⟩;have hT:=hT.new (W':=w') (by rw [hw];exact (Ext.refl _).alloc _) (by rw [hw];exact zm1 _ _);clear hw;(try (rw [show (w.alloc (Obj.map #[] 0)).heap.size=w.heap.size+1 by simp] at hT))) | (refine zmN rfl _ _ _ _ rfl 9 45 Tryz.underlying9 Tryz.underlying42 _ _ rfl hT.tab (by simp only [List.length_append,List.length_nil,List.length_cons,maxLen];omega) _ rfl (by simp only [maxLen,ByteArray.size,List.size_toArray,List.length_cons,List.length_nil];omega) _ rfl ?_;intro w1 ht1 hg1;have hT:=hT.put ht1 hg1;clear ht1 hg1))
 go_ret
 exact ⟨w.heap.size,rfl,_,_,hT⟩
abbrev zbM (w:World) (X:NA):Ending→World→Prop:=fun e w'=>∃ D m cc,e = .returned (.tuple #[AV X.R X.C (.slice D m cc),.bool true])∧ArrN w.heap.size w' D m cc X.l∧Ext w w'
theorem zrP {gs:List GA} (h:∀ j g,j < gs.length→gs[j]? = some g→g.right=true):∀ g∈gs,g.right=true:=by
 intro g hg
 obtain ⟨j,hj,rfl⟩:=List.mem_iff_getElem.1 hg
 exact h j _ hj (List.getElem?_eq_getElem hj)
theorem zaO (s:ByteArray) (lo hi:Nat) (fid:FuncId) (ct:Nat→Nat→Array Value) (hs:s.size≤maxLen) (hl:∀ p1 p2,zbU (zbw p1 p2) s.data.toList=some (zcp lo hi (.func (.func fid) #[] (ct p1 p2))))
  (hent:∀ (args:Array Value) (W:World),(callFunc fid args).run prog W = .ok (.enter fid args) W) (hlo9:lo≤100) (hhi9:hi≤100)
  (A:Option Addr) (n cap:Nat) (gs:List GA) (w:World) (h:ArgsG w A n cap gs) (F:NA)
  (hf:(∀ g∈gs,g.right=true)→lo≤n→n≤hi→∀ p1 p2 W,Ext w W→(∀ p∈zgN p1 p2,W.heap[p.1]? = some p.2)→Calls prog fid (#[.slice A n cap]++ct p1 p2) W fun e W'=>zan W F e W') :
  Calls prog 9 #[.string s,.slice A n cap] w (zbM w (zI lo hi gs F)):=by
 have hsm:=h.small
 have hlen:=h.len
 by_cases q1:n < lo
 ·have hX:zI lo hi gs F=zf 2:=by unfold zI;rw [if_pos (by omega)]
  rw [hX]
  clear hf hlen hX
  go_enter func9,ntmps9
  go_wp2_with (first | (go_at_call 13;(with_reducible refine (zdi _).mono ?_);rintro e w' ⟨bm,rfl,p1,p2,hT⟩;have hbm:=hT.hb;have hxT:=hT.ext;have hbx:=fun p hp=>(hT.box p hp).2.2;have ht:=hl p1 p2;generalize ct p1 p2=c0 at ht;have HT:=Lib.hid ht;clear ht;obtain ⟨os1,d1,rfl⟩:=hxT.more) | (refine zfr rfl _ _ _ rfl 9 45 Tryz.underlying9 Tryz.underlying42 _ _ rfl (hT.tab.ext (by simp [go_sem])) (zdh _ _) _ (zfH _) _ rfl hs (zcp lo hi (.func (.func fid) #[] c0)) true (by rw [HT.out];rfl) (by rw [HT.out];rfl) ?_) | (go_at_call 17;with_reducible refine aR (zt _ _) fun D m cc os5 d5 hD=>?_;have hDr:=hD.rd))
  all_goals exact bodyPost_ret (v:=.tuple #[AV (zf 2).R (zf 2).C (.slice D m cc),.bool true]) (by simp [results,results9,go_sem]) rfl ⟨D,m,cc,rfl,⟨(by (try simp only [za] at hDr);(try simp only [zc] at hDr);(try simp only [zb] at hDr);(try simp only [Array.append_assoc] at hDr);exact Rd.swap hDr (by first | (simp;done) | (simp;omega) | omega) (by first | (simp;done) | (simp;omega) | omega) (by first | (simp;done) | (simp;omega) | omega)),hD.len,hD.cap,hD.small,hD.ok⟩,by with_reducible repeat (first | exact Ext.refl _ | apply Ext.drew | apply Ext.alloc | apply Ext.more_)⟩
 ·by_cases q2:hi < n
  ·have hX:zI lo hi gs F=zf 2:=by unfold zI;rw [if_pos (by omega)]
   rw [hX]
   clear hf hlen hX
   go_enter func9,ntmps9
   go_wp2_with (first | (go_at_call 13;(with_reducible refine (zdi _).mono ?_);rintro e w' ⟨bm,rfl,p1,p2,hT⟩;have hbm:=hT.hb;have hxT:=hT.ext;have hbx:=fun p hp=>(hT.box p hp).2.2;have ht:=hl p1 p2;generalize ct p1 p2=c0 at ht;have HT:=Lib.hid ht;clear ht;obtain ⟨os1,d1,rfl⟩:=hxT.more) | (refine zfr rfl _ _ _ rfl 9 45 Tryz.underlying9 Tryz.underlying42 _ _ rfl (hT.tab.ext (by simp [go_sem])) (zdh _ _) _ (zfH _) _ rfl hs (zcp lo hi (.func (.func fid) #[] c0)) true (by rw [HT.out];rfl) (by rw [HT.out];rfl) ?_) | (go_at_call 17;with_reducible refine aR (zt _ _) fun D m cc os5 d5 hD=>?_;have hDr:=hD.rd))
   all_goals exact bodyPost_ret (v:=.tuple #[AV (zf 2).R (zf 2).C (.slice D m cc),.bool true]) (by simp [results,results9,go_sem]) rfl ⟨D,m,cc,rfl,⟨(by (try simp only [za] at hDr);(try simp only [zc] at hDr);(try simp only [zb] at hDr);(try simp only [Array.append_assoc] at hDr);exact Rd.swap hDr (by first | (simp;done) | (simp;omega) | omega) (by first | (simp;done) | (simp;omega) | omega) (by first | (simp;done) | (simp;omega) | omega)),hD.len,hD.cap,hD.small,hD.ok⟩,by with_reducible repeat (first | exact Ext.refl _ | apply Ext.drew | apply Ext.alloc | apply Ext.more_)⟩
  ·have HF:=Lib.hid hf
   obtain ⟨X,hX⟩:∃ X,zI lo hi gs F=X:=⟨_,rfl⟩
   rw [hX]
   have HX:=Lib.hid hX
   clear hf hX
   go_enter func9,ntmps9
   go_wp2_with (first | (go_at_call 13;(with_reducible refine (zdi _).mono ?_);rintro e w' ⟨bm,rfl,p1,p2,hT⟩;have hbm:=hT.hb;have hxT:=hT.ext;have hbx:=fun p hp=>(hT.box p hp).2.2;have ht:=hl p1 p2;have hfc:=HF.out;have hfd:=fun a b c=>hfc a b c p1 p2;clear hfc;generalize ct p1 p2=c0 at ht hfd;have HT:=Lib.hid ht;clear ht;obtain ⟨os1,d1,rfl⟩:=hxT.more) | (refine zfr rfl _ _ _ rfl 9 45 Tryz.underlying9 Tryz.underlying42 _ _ rfl (hT.tab.ext (by simp [go_sem])) (zdh _ _) _ (zfH _) _ rfl hs (zcp lo hi (.func (.func fid) #[] c0)) true (by rw [HT.out];rfl) (by rw [HT.out];rfl) ?_))
   go_loopw [34] (fun i wr=>∃ k:Nat,k≤n∧i = .int .i64 k∧Ext ((more (w.alloc (Obj.cells #[.int .i64 0,.int .i64 0,.slice none 0 0] 30)) os1 d1).alloc (Obj.cells #[.int .i64 lo,.int .i64 hi,.func (.func fid) #[] c0] 45)) wr∧Hid (∀ j g,j < k→gs[j]? = some g→g.right=true)) (fun i _=>n - (intOf i).toNat)
   case atStart=>exact ⟨0,Nat.zero_le _,rfl,Ext.refl _,fun j g hj=>absurd hj (Nat.not_lt_zero _)⟩
   case round =>
    obtain ⟨k,hk,rfl,hX,HR⟩:=hrel
    have hX0:=hX
    obtain ⟨os,d,rfl⟩:=hX.more
    clear hX
    by_cases hlt:k < n
    ·obtain ⟨g,b,off,hg,rfl,hat,harr⟩:=h.at hlt
     obtain ⟨v0,v1,v2⟩:=hat
     have hbl:b < w.heap.size:=zg v0
     have hcap:=h.cap
     cases hr:zo g.r g.c g.l with
     | true =>
      have hra:=fun W=>(hr ▸ zy g.r g.c g.A g.n g.cap g.l W:ArrIn W g.A g.n g.cap g.l→_)
      clear hT hxT hX0 hbx hfd hlen
      go_wp2_with (go_at_call 18;refine (hra _ (harr.ext (by simp [go_sem]))).mono ?_;rintro e w' ⟨rfl,hb⟩;obtain ⟨os',d',rfl⟩:=hb.more;clear hb)
      refine ⟨⟨k+1,by omega,by go_num,by simp [go_sem],?_⟩,by simp [intOf];omega⟩
      intro j g' hj hg'
      by_cases hjk:j=k
      ·subst hjk
       obtain rfl:g=g':=by rw [hg] at hg';simpa using hg'
       exact hr
      ·exact HR.out j g' (by omega) hg'
     | false =>
      have hra:=fun W=>(hr ▸ zy g.r g.c g.A g.n g.cap g.l W:ArrIn W g.A g.n g.cap g.l→_)
      obtain rfl:zf 9=X:=by
       rw [← HX.out]
       unfold zI
       rw [if_neg (by omega),if_neg]
       intro ha
       have:=List.all_eq_true.1 ha g (List.mem_of_getElem? hg)
       unfold GA.right at this
       rw [hr] at this
       cases this
      clear hT hxT hX0 hbx hfd hlen HX
      go_wp2_with (first | (go_at_call 18;refine (hra _ (harr.ext (by simp [go_sem]))).mono ?_;rintro e w' ⟨rfl,hb⟩;obtain ⟨os',d',rfl⟩:=hb.more;clear hb) | (go_at_call 17;with_reducible refine aR (zt _ _) fun D m cc os5 d5 hD=>?_;have hDr:=hD.rd))
      exact bodyPost_ret (v:=.tuple #[AV (zf 9).R (zf 9).C (.slice D m cc),.bool true]) (by simp [results,results9,go_sem]) rfl ⟨D,m,cc,rfl,⟨(by (try simp only [za] at hDr);(try simp only [zc] at hDr);(try simp only [zb] at hDr);(try simp only [Array.append_assoc] at hDr);exact Rd.swap hDr (by first | (simp;done) | (simp;omega) | omega) (by first | (simp;done) | (simp;omega) | omega) (by first | (simp;done) | (simp;omega) | omega)),hD.len,hD.cap,hD.small,hD.ok⟩,by with_reducible repeat (first | exact Ext.refl _ | apply Ext.drew | apply Ext.alloc | apply Ext.more_)⟩
    ·obtain rfl:k=n:=by omega
     have hall:∀ g∈gs,g.right=true:=zrP fun j g hj hg=>HR.out j g (by omega) hg
     obtain rfl:F=X:=by
      rw [← HX.out]
      unfold zI
      rw [if_neg (by omega),if_pos (List.all_eq_true.2 hall)]
     have hfe:=hfd hall (by omega) (by omega)
     have HB:=Lib.hid hbx
     clear hT hxT hbx hfd hlen hall HR HX
     go_wp2_with fail
     refine (hfe _ (by simp [go_sem]) (fun p hp=>?_)).mono ?_
     ·have hb0:=HB.out p hp
      have hl0:=zH hb0
      exact (hX0.block (Nat.lt_of_lt_of_le hl0 (by simp))).trans ((((Ext.refl _).alloc _).block hl0).trans hb0)
     ·rintro e w' ⟨D,m,cc,rfl,hD,hb⟩
      obtain ⟨os2,d2,rfl⟩:=hb.more
      clear hb
      have hDr:=hD.rd
      go_wp2_with fail
      exact bodyPost_ret (v:=.tuple #[AV F.R F.C (.slice D m cc),.bool true]) (by simp [results,results9,go_sem]) rfl ⟨D,m,cc,rfl,⟨(by (try simp only [za] at hDr);(try simp only [zc] at hDr);(try simp only [zb] at hDr);(try simp only [Array.append_assoc] at hDr);exact Rd.swap hDr (by first | (simp;done) | (simp;omega) | omega) (by first | (simp;done) | (simp;omega) | omega) (by first | (simp;done) | (simp;omega) | omega)),hD.len,hD.cap,hD.small,hD.ok⟩,by with_reducible repeat (first | exact Ext.refl _ | apply Ext.drew | apply Ext.alloc | apply Ext.more_)⟩
theorem zhR (n:Int) (w:World) (htab:Tab w) (hn:n.natAbs < T 15) :
  Tl prog 25 #[.int .i64 n] w (VV (zV n).kind (zV n).mant (zV n).exp (zV n).text (zV n).truth (zV n).fault):=by
 have hi:I64 n:=by have:T 15=1000000000000000:=(by decide);unfold I64;omega
 have hm:=fun W h=>zjP n 0 W h hi (by unfold I64;omega)
 rw [show rnd (decide (n < 0)) n.natAbs false 0=some (zJ n) from (zeg hn).1] at hm
 simp only [rnV,rm,re,Option.getD_some,Option.isSome_some] at hm
 have HT:=Lib.hid htab
 unfold zV
 clear htab hn hi
 go_enter func25,ntmps25
 go_wp2_with (first | (go_at_call 66;with_reducible refine aM (hm _ (HT.out.ext (by simp [go_sem]))) fun os d=>?_) | (go_at_call 67;with_reducible refine aM (zea _ _ _) fun os d=>?_))
 exact rc1 rfl rfl (by simp [go_sem]) ⟨rfl,by simp [go_sem]⟩
theorem ArgsIn.first {w:World} {A:Option Addr} {n cap:Nat} {xs:List Ar} (h:ArgsIn w A n cap xs) {k:Nat} (hk:k < n) :
  ∃ (R C:Nat) (l:List Val) (b1 off1 n1 cap1 b off:Nat) (x:Val),xs[k]? = some ⟨⟨R,C,l⟩,some ⟨b1,off1,none⟩,n1,cap1⟩∧A=some ⟨b,off,none⟩∧zpP w b (off+k * 3) ⟨⟨R,C,l⟩,some ⟨b1,off1,none⟩,n1,cap1⟩∧0 < n1∧n1≤cap1∧zen w b1 off1 x∧zk l 0=x∧x.right∧b < w.heap.size∧b1 < w.heap.size∧ze3 xs k=x∧zA xs k = !(R == 1 && C == 1 && x.kind == 0)∧ArrIn w (some ⟨b1,off1,none⟩) n1 cap1 l∧l[0]? = some x:=by
 obtain ⟨⟨⟨R,C,l⟩,A1,n1,cap1⟩,b,off,ha,rfl,hat,hok⟩:=h.at hk
 obtain ⟨r1,r2,r3,r4,r5⟩:=zi.1 hok.right
 have hl:l.length=n1:=hok.arr.len
 have hn1:0 < n1:=by rw [← hl,r4];exact Nat.mul_pos r1 r2
 obtain ⟨x,b1,off1,hx,_,hA,hv⟩:=hok.arr.at hn1
 rw [Nat.zero_mul,Nat.add_zero] at hv
 have hA':A1=some ⟨b1,off1,none⟩:=hA
 subst hA'
 have hgv:zk l 0=x:=by unfold zk;rw [hx];rfl
 have hxr:x.right:=r5 x (List.mem_of_getElem? hx)
 have hav:ze3 xs k=x:=by unfold ze3;rw [ha];exact hgv
 have hgb:zA xs k = !(R == 1 && C == 1 && x.kind == 0):=by unfold zA;rw [ha,← hgv]
 exact ⟨R,C,l,b1,off1,n1,cap1,b,off,x,ha,rfl,hat,hn1,hok.arr.cap,hv,hgv,hxr,zg hat.1,zg hv.1,hav,hgb,hok.arr,hx⟩
theorem zeD (A:Option Addr) (n cap:Nat) (xs:List Ar) (k:Nat) (w:World) (h:ArgsIn w A n cap xs) (g:Bool) (hg:zA xs k=g) :
  Tl prog 73 #[.slice A n cap,.int .i64 (k:Int)] w (.bool g):=by
 by_cases hlt:k < n
 ·obtain ⟨R,C,l,b1,off1,n1,cap1,b,off,x,ha,rfl,⟨v0,v1,v2⟩,hn1,hc1,⟨y0,y1,y2,y3,y4,y5⟩,hgv,hxr,hbl,hb1,hav,hgb,harr,hx⟩:=h.first hlt
  rw [hgb] at hg
  simp only at v0 v1 v2
  clear ha hgv hxr hav hgb harr hx
  have hsm:=h.small
  have hcap:=h.cap
  have hlt':¬ n≤k:=by omega
  clear h
  obtain ⟨xk,xm,xe,xt,xb,xf⟩:=x
  simp only at y0 y1 y2 y3 y4 y5 hg
  generalize hR:(R:Int)=r at v0
  generalize hC:(C:Int)=c at v1
  by_cases h1:R=1
  ·obtain rfl:r=1:=by omega
   by_cases h2:C=1
   ·obtain rfl:c=1:=by omega
    subst h1 h2
    by_cases h3:xk=0
    ·subst h3
     obtain rfl:g=false:=by rw [← hg];rfl
     clear hg hR hC
     go_enter func73,ntmps73
     go_wp2
     exact rt1 rfl rfl ⟨rfl,by simp [go_sem]⟩
    ·have h3':(xk != 0)=true:=by simpa using h3
     have h3'':(xk == 0)=false:=by simpa using h3
     obtain rfl:g=true:=by rw [← hg,h3''];rfl
     clear hg hR hC h3
     go_enter func73,ntmps73
     go_wp2
     exact rt1 rfl rfl ⟨rfl,by simp [go_sem]⟩
   ·have h2':(c != 1)=true:=by simp;omega
    have h2'':(C == 1)=false:=by simpa using h2
    obtain rfl:g=true:=by rw [← hg,h2''];simp
    subst h1
    clear hg hR hC h2 h2''
    go_enter func73,ntmps73
    go_wp2
    exact rt1 rfl rfl ⟨rfl,by simp [go_sem]⟩
  ·have h1':(r != 1)=true:=by simp;omega
   have h1'':(R == 1)=false:=by simpa using h1
   obtain rfl:g=true:=by rw [← hg,h1''];rfl
   clear hg hR hC h1 h1''
   go_enter func73,ntmps73
   go_wp2
   exact rt1 rfl rfl ⟨rfl,by simp [go_sem]⟩
 ·obtain rfl:g=false:=by rw [← hg];unfold zA;rw [List.getElem?_eq_none (by rw [h.len];omega)]
  have hsm:=h.small
  have hlt':n≤k:=by omega
  clear hg
  go_enter func73,ntmps73
  go_wp2
  exact rt1 rfl rfl ⟨rfl,by simp [go_sem]⟩
theorem zdu (A:Option Addr) (n cap:Nat) (xs:List Ar) (k:Nat) (w:World) (h:ArgsIn w A n cap xs) (g:Bool) (hg:(!zA xs k)=g) :
  Tl prog 97 #[.slice A n cap,.int .i64 (k:Int)] w (.bool g):=by
 by_cases hlt:k < n
 ·obtain ⟨R,C,l,b1,off1,n1,cap1,b,off,x,ha,rfl,⟨v0,v1,v2⟩,hn1,hc1,⟨y0,y1,y2,y3,y4,y5⟩,hgv,hxr,hbl,hb1,hav,hgb,harr,hx⟩:=h.first hlt
  rw [hgb] at hg
  simp only at v0 v1 v2
  clear ha hgv hxr hav hgb harr hx
  have hsm:=h.small
  have hcap:=h.cap
  have hlt':¬ n≤k:=by omega
  clear h
  obtain ⟨xk,xm,xe,xt,xb,xf⟩:=x
  simp only at y0 y1 y2 y3 y4 y5 hg
  generalize hR:(R:Int)=r at v0
  generalize hC:(C:Int)=c at v1
  by_cases h1:R=1
  ·obtain rfl:r=1:=by omega
   by_cases h2:C=1
   ·obtain rfl:c=1:=by omega
    subst h1 h2
    by_cases h3:xk=0
    ·subst h3
     obtain rfl:g=true:=by rw [← hg];rfl
     clear hg hR hC
     go_enter func97,ntmps97
     go_wp2
     exact rt1 rfl rfl ⟨rfl,by simp [go_sem]⟩
    ·have h3'':(xk == 0)=false:=by simpa using h3
     obtain rfl:g=false:=by rw [← hg,h3''];rfl
     clear hg hR hC h3
     go_enter func97,ntmps97
     go_wp2
     exact rt1 rfl rfl ⟨rfl,by simp [go_sem]⟩
   ·have h2':(c == 1)=false:=by simp;omega
    have h2'':(C == 1)=false:=by simpa using h2
    obtain rfl:g=false:=by rw [← hg,h2''];simp
    subst h1
    clear hg hR hC h2 h2''
    go_enter func97,ntmps97
    go_wp2
    exact rt1 rfl rfl ⟨rfl,by simp [go_sem]⟩
  ·have h1':(r == 1)=false:=by simp;omega
   have h1'':(R == 1)=false:=by simpa using h1
   obtain rfl:g=false:=by rw [← hg,h1''];rfl
   clear hg hR hC h1 h1''
   go_enter func97,ntmps97
   go_wp2
   exact rt1 rfl rfl ⟨rfl,by simp [go_sem]⟩
 ·obtain rfl:g=true:=by rw [← hg];unfold zA;rw [List.getElem?_eq_none (by rw [h.len];omega)];rfl
  have hsm:=h.small
  have hlt':n≤k:=by omega
  clear hg
  go_enter func97,ntmps97
  go_wp2
  exact rt1 rfl rfl ⟨rfl,by simp [go_sem]⟩
theorem zbH (A:Option Addr) (n cap:Nat) (xs:List Ar) (k:Nat) (left:Int) (w:World) (h:ArgsIn w A n cap xs) (y:Int×Int) (hy:zu xs k left=y) :
  Tl prog 68 #[.slice A n cap,.int .i64 (k:Int),.int .i64 left] w (.tuple #[.int .i64 y.1,.int .i64 y.2]):=by
 have hgv:=fun W (hW:ArgsIn W A n cap xs) g hg=>zeD A n cap xs k W hW g hg
 have H:=Lib.hid h
 subst hy
 unfold zu
 cases hg:zA xs k with
 | false =>
  rw [if_neg (by simp)]
  have hgw:=fun W (hW:ArgsIn W A n cap xs)=>hgv W hW false (by rw [hg])
  clear hgv hg h
  go_enter func68,ntmps68
  go_wp2_with (go_at_call 73;with_reducible refine aM (hgw _ (H.out.ext (by simp [go_sem]))) fun os d=>?_)
  exact rt2 rfl rfl ⟨rfl,by simp [go_sem]⟩
 | true =>
  rw [if_pos rfl]
  have hgw:=fun W (hW:ArgsIn W A n cap xs)=>hgv W hW true (by rw [hg])
  have hlt:k < n:=by
   rcases Nat.lt_or_ge k n with hl | hl
   ·exact hl
   ·unfold zA at hg;rw [List.getElem?_eq_none (by rw [h.len];exact hl)] at hg;cases hg
  obtain ⟨R,C,l,b1,off1,n1,cap1,b,off,x,ha,rfl,⟨v0,v1,v2⟩,hn1,hc1,⟨y0,y1,y2,y3,y4,y5⟩,_,hxr,hbl,hb1,hav,_,_,_⟩:=h.first hlt
  rw [hav]
  simp only at v0 v1 v2
  have hcap:=h.cap
  have ht:=fun W=>zdJ x W hxr
  have hi1:I64 (tnP x).1:=zbu (zgG hxr)
  unfold zci
  generalize htp:tnP x=p at *
  generalize htf:tnF x=f at *
  by_cases hf:f=0
  ·subst hf
   rw [if_pos rfl]
   have hfl:=fun W=>znM p.1 p.2 W hi1
   have hi2:I64 (zN p.1 p.2).1:=zbu (by exact (zfB (by rw [← htp];exact zgG hxr)).1)
   generalize hq:zN p.1 p.2=q at *
   have hin:=fun W=>zq6 q.1 q.2 W hi2
   cases hI:zby q.1 q.2 with
   | none =>
    rw [hI] at hin
    simp only [inV,Option.getD_none,Option.isSome_none] at hin ⊢
    simp only [tnV,htp,htf] at ht
    clear hI hq htp htf ha hxr hav hi1 hi2 h hg hgv
    go_enter func68,ntmps68
    go_wp2_with (first | (go_at_call 73;with_reducible refine aM (hgw _ (H.out.ext (by simp [go_sem]))) fun os d=>?_) | (go_at_call 81;with_reducible refine aM (ht _) fun os d=>?_) | (go_at_call 128;with_reducible refine aM (hfl _) fun os d=>?_) | (go_at_call 127;with_reducible refine aM (hin _) fun os d=>?_))
    exact rt2 rfl rfl ⟨rfl,by simp [go_sem]⟩
   | some i =>
    rw [hI] at hin
    simp only [inV,Option.getD_some,Option.isSome_some] at hin ⊢
    simp only [tnV,htp,htf] at ht
    clear hI hq htp htf ha hxr hav hi1 hi2 h hg hgv
    go_enter func68,ntmps68
    go_wp2_with (first | (go_at_call 73;with_reducible refine aM (hgw _ (H.out.ext (by simp [go_sem]))) fun os d=>?_) | (go_at_call 81;with_reducible refine aM (ht _) fun os d=>?_) | (go_at_call 128;with_reducible refine aM (hfl _) fun os d=>?_) | (go_at_call 127;with_reducible refine aM (hin _) fun os d=>?_))
    exact rt2 rfl rfl ⟨rfl,by simp [go_sem]⟩
  ·rw [if_neg hf]
   have hf':(f != 0)=true:=by simpa using hf
   simp only [tnV,htp,htf] at ht
   clear htp htf ha hxr hav hi1 h hg hgv
   go_enter func68,ntmps68
   go_wp2_with (first | (go_at_call 73;with_reducible refine aM (hgw _ (H.out.ext (by simp [go_sem]))) fun os d=>?_) | (go_at_call 81;with_reducible refine aM (ht _) fun os d=>?_))
   exact rt2 rfl rfl ⟨rfl,by simp [go_sem]⟩
theorem zbR (A:Option Addr) (n cap:Nat) (xs:List Ar) (k:Nat) (left:Int) (w:World) (h:ArgsIn w A n cap xs) (y:Int×Int) (hy:zu xs k left=y) :
  Tl prog 95 #[.slice A n cap,.int .i64 (k:Int),.int .i64 left] w (.tuple #[.int .i64 y.1,.int .i64 y.2]):=by
 have hgv:=fun W (hW:ArgsIn W A n cap xs) g hg=>zdu A n cap xs k W hW g hg
 have H:=Lib.hid h
 subst hy
 unfold zu
 cases hg:zA xs k with
 | false =>
  rw [if_neg (by simp)]
  have hgw:=fun W (hW:ArgsIn W A n cap xs)=>hgv W hW true (by rw [hg];rfl)
  clear hgv hg h
  go_enter func95,ntmps95
  go_wp2_with (go_at_call 97;with_reducible refine aM (hgw _ (H.out.ext (by simp [go_sem]))) fun os d=>?_)
  exact rt2 rfl rfl ⟨rfl,by simp [go_sem]⟩
 | true =>
  rw [if_pos rfl]
  have hgw:=fun W (hW:ArgsIn W A n cap xs)=>hgv W hW false (by rw [hg];rfl)
  have hlt:k < n:=by
   rcases Nat.lt_or_ge k n with hl | hl
   ·exact hl
   ·unfold zA at hg;rw [List.getElem?_eq_none (by rw [h.len];exact hl)] at hg;cases hg
  obtain ⟨R,C,l,b1,off1,n1,cap1,b,off,x,ha,rfl,⟨v0,v1,v2⟩,hn1,hc1,⟨y0,y1,y2,y3,y4,y5⟩,_,hxr,hbl,hb1,hav,_,_,_⟩:=h.first hlt
  rw [hav]
  simp only at v0 v1 v2
  have hcap:=h.cap
  have ht:=fun W=>zfA x W hxr
  have hi1:I64 (tnP x).1:=zbu (zgG hxr)
  unfold zci
  generalize htp:tnP x=p at *
  generalize htf:tnF x=f at *
  by_cases hf:f=0
  ·subst hf
   rw [if_pos rfl]
   have hfl:=fun W=>zmW p.1 p.2 W hi1
   have hi2:I64 (zN p.1 p.2).1:=zbu (by exact (zfB (by rw [← htp];exact zgG hxr)).1)
   generalize hq:zN p.1 p.2=q at *
   have hin:=fun W=>zpG q.1 q.2 W hi2
   cases hI:zby q.1 q.2 with
   | none =>
    rw [hI] at hin
    simp only [inV,Option.getD_none,Option.isSome_none] at hin ⊢
    simp only [tnV,htp,htf] at ht
    clear hI hq htp htf ha hxr hav hi1 hi2 h hg hgv
    go_enter func95,ntmps95
    go_wp2_with (first | (go_at_call 97;with_reducible refine aM (hgw _ (H.out.ext (by simp [go_sem]))) fun os d=>?_) | (go_at_call 99;with_reducible refine aM (ht _) fun os d=>?_) | (go_at_call 143;with_reducible refine aM (hfl _) fun os d=>?_) | (go_at_call 142;with_reducible refine aM (hin _) fun os d=>?_))
    exact rt2 rfl rfl ⟨rfl,by simp [go_sem]⟩
   | some i =>
    rw [hI] at hin
    simp only [inV,Option.getD_some,Option.isSome_some] at hin ⊢
    simp only [tnV,htp,htf] at ht
    clear hI hq htp htf ha hxr hav hi1 hi2 h hg hgv
    go_enter func95,ntmps95
    go_wp2_with (first | (go_at_call 97;with_reducible refine aM (hgw _ (H.out.ext (by simp [go_sem]))) fun os d=>?_) | (go_at_call 99;with_reducible refine aM (ht _) fun os d=>?_) | (go_at_call 143;with_reducible refine aM (hfl _) fun os d=>?_) | (go_at_call 142;with_reducible refine aM (hin _) fun os d=>?_))
    exact rt2 rfl rfl ⟨rfl,by simp [go_sem]⟩
  ·rw [if_neg hf]
   have hf':(f != 0)=true:=by simpa using hf
   simp only [tnV,htp,htf] at ht
   clear htp htf ha hxr hav hi1 h hg hgv
   go_enter func95,ntmps95
   go_wp2_with (first | (go_at_call 97;with_reducible refine aM (hgw _ (H.out.ext (by simp [go_sem]))) fun os d=>?_) | (go_at_call 99;with_reducible refine aM (ht _) fun os d=>?_))
   exact rt2 rfl rfl ⟨rfl,by simp [go_sem]⟩
theorem zcB (r c:Int) (A:Option Addr) (n cap:Nat) (w:World) :
  Tl prog 36 #[.int .i64 r,.int .i64 c,.slice A n cap] w (AV r c (.slice A n cap)):=by
 go_enter func36,ntmps36
 go_wp2
 exact rc1 rfl rfl (by simp [go_sem]) ⟨rfl,by simp [go_sem]⟩
theorem zhS {n:Int} (h:n.natAbs < T 15):(zV n).ok:=(zbT (zeg h).2.1).ok
theorem zdA {n:Int} (h:n.natAbs < T 15):(zV n).right:=zbT (zeg h).2.1
theorem zm3 {n:Nat} (h:n≤4096):((n:Int)).natAbs < T 15:=by have:T 15=1000000000000000:=(by decide);omega
theorem zot (A:Option Addr) (cap:Nat) (a:Ar) (w:World) (htab:Tab w) (h:ArgsIn w A 1 cap [a]) :
  Calls prog 23 #[.slice A 1 cap] w fun e w'=>zan w (zao (zV a.x.C)) e w':=by
 obtain ⟨b,off,rfl,⟨v0,v1,v2⟩,hok⟩:=h.get (k:=0) (a:=a) rfl
 have hbl:=zg v0
 have hcap:=h.cap
 have hC:=(zM hok.right).2.2.2.2.2
 have hl:=zm3 (by omega:a.x.C≤4096)
 have hc:=fun W (hT:Tab W)=>zhR a.x.C W hT hl
 have ho:=fun W=>ziB (zV a.x.C) W (zhS hl) (zdA hl)
 generalize zV a.x.C=y at *
 have HT:=Lib.hid htab
 clear htab h hok hl hC
 simp only [Nat.zero_mul,Nat.add_zero] at v0 v1 v2
 go_enter func23,ntmps23
 go_wp2_with (first | (go_at_call 25;with_reducible refine aM (hc _ (HT.out.ext (by simp [go_sem]))) fun os d=>?_) | (go_at_call 24;with_reducible refine aR (ho _) fun D m cc os5 d5 hD=>?_;have hDr:=hD.rd))
 exact rc1 (v:=AV (zao y).R (zao y).C (.slice D m cc)) rfl rfl (by simp [go_sem]) (by (try simp only [za,zc,zb,Array.append_assoc] at hDr);exact raS hDr hD (by simp <;> omega) (by simp [go_sem]))
theorem zou (A:Option Addr) (cap:Nat) (a:Ar) (w:World) (htab:Tab w) (h:ArgsIn w A 1 cap [a]) :
  Calls prog 31 #[.slice A 1 cap] w fun e w'=>zan w (zao (zV a.x.R)) e w':=by
 obtain ⟨b,off,rfl,⟨v0,v1,v2⟩,hok⟩:=h.get (k:=0) (a:=a) rfl
 have hbl:=zg v0
 have hcap:=h.cap
 have hC:=(zM hok.right).2.2.2.2.1
 have hl:=zm3 (by omega:a.x.R≤4096)
 have hc:=fun W (hT:Tab W)=>zhR a.x.R W hT hl
 have ho:=fun W=>ziB (zV a.x.R) W (zhS hl) (zdA hl)
 generalize zV a.x.R=y at *
 have HT:=Lib.hid htab
 clear htab h hok hl hC
 simp only [Nat.zero_mul,Nat.add_zero] at v0 v1 v2
 go_enter func31,ntmps31
 go_wp2_with (first | (go_at_call 25;with_reducible refine aM (hc _ (HT.out.ext (by simp [go_sem]))) fun os d=>?_) | (go_at_call 24;with_reducible refine aR (ho _) fun D m cc os5 d5 hD=>?_;have hDr:=hD.rd))
 exact rc1 (v:=AV (zao y).R (zao y).C (.slice D m cc)) rfl rfl (by simp [go_sem]) (by (try simp only [za,zc,zb,Array.append_assoc] at hDr);exact raS hDr hD (by simp <;> omega) (by simp [go_sem]))
theorem zov (A:Option Addr) (cap:Nat) (a:Ar) (w:World) (h:ArgsIn w A 1 cap [a]) :
  Calls prog 39 #[.slice A 1 cap] w fun e w'=>zan w (zaN a.x) e w':=by
 obtain ⟨b,off,rfl,⟨v0,v1,v2⟩,hok⟩:=h.get (k:=0) (a:=a) rfl
 have hbl:=zg v0
 have hcap:=h.cap
 have ht:=fun W (hW:ArrIn W a.A a.n a.cap a.x.l)=>zpV a.x a.A a.n a.cap W hW hok.right
 generalize zaN a.x=y at *
 have HA:=Lib.hid hok.arr
 clear h hok
 simp only [Nat.zero_mul,Nat.add_zero] at v0 v1 v2
 go_enter func39,ntmps39
 go_wp2_with (first | (go_at_call 40;with_reducible refine aR (ht _ (HA.out.ext (by simp [go_sem]))) fun D m cc os5 d5 hD=>?_;have hDr:=hD.rd))
 exact rc1 (v:=AV y.R y.C (.slice D m cc)) rfl rfl (by simp [go_sem]) (by (try simp only [za,zc,zb,Array.append_assoc] at hDr);exact raS hDr hD (by simp <;> omega) (by simp [go_sem]))
theorem zm4 (A:Option Addr) (cap:Nat) (a:Ar) (w:World) (h:ArgsIn w A 1 cap [a]) :
  Calls prog 35 #[.slice A 1 cap] w fun e w'=>zan w ⟨a.x.l.length,1,a.x.l⟩ e w':=by
 obtain ⟨b,off,rfl,⟨v0,v1,v2⟩,hok⟩:=h.get (k:=0) (a:=a) rfl
 have hbl:=zg v0
 have hcap:=h.cap
 obtain ⟨r1,r2,r3,r4,r5⟩:=zi.1 hok.right
 have hln:=hok.arr.len
 have hn1:0 < a.n:=by rw [← hln,r4];exact Nat.mul_pos r1 r2
 have hcl:=fun W (hW:ArrIn W a.A a.n a.cap a.x.l)=>zgd a.A a.n a.cap a.x.l W hW hn1 (by omega)
 have HA:=Lib.hid hok.arr
 have hao:=hok.arr.ok
 have hb16:a.n≤4096:=by omega
 rw [hln]
 clear h hok r1 r2 r3 r4 r5
 simp only [Nat.zero_mul,Nat.add_zero] at v0 v1 v2
 go_enter func35,ntmps35
 go_upto_region 1 with fail
 refine plP [(0,0),(1,0),(2,0),(3,0),(4,0),(5,0),(6,0),(7,0),(8,0),(9,1),(10,1),(11,2)] [11] (by kernel_rfl) (fun _ _ d _ _ h=>by cases d <;> exact h) ?_
 iterate 9 (apply rdP rfl rfl;(intros;go_simp;first | done | rfl);try simp only [zq])
 (refine zh rfl ?_ (fun K hK=>?_);rfl;go_simp;refine (hcl _ (HA.out.ext (by simp [go_sem]))).mono ?_;rintro e w' ⟨D,cc,rfl,hDr,hcc,hb⟩;obtain ⟨os5,d5,rfl⟩:=hb.more;clear hb;refine hK _ _ ?_ ?_;(simp [go_sem]))
 try simp only [zq]
 (refine zh rfl ?_ (fun K hK=>?_);rfl;go_simp;refine (zcB _ _ _ _ _ _).mono ?_;rintro e w' ⟨rfl,hb⟩;have hDr:=Rd.ext hDr hb;obtain ⟨os6,d6,rfl⟩:=hb.more;clear hb;refine hK _ _ ?_ ?_;(simp [go_sem]))
 try simp only [zq]
 (refine zaa rfl ?_ (fun K hK=>?_);rfl;go_simp;refine hK _ _ ?_)
 try simp only [Act.put]
 refine zj ?_
 go_wp2_with fail
 exact rc1 rfl rfl (by simp [go_sem]) ⟨D,a.n,cc,rfl,⟨(by (try simp only [za,zc,zb,Array.append_assoc] at hDr);exact hDr.sw (by simp <;> omega)),hln,hcc,by omega,hao⟩,by simp [go_sem]⟩
theorem zm5 (A:Option Addr) (cap:Nat) (a:Ar) (w:World) (h:ArgsIn w A 1 cap [a]) :
  Calls prog 38 #[.slice A 1 cap] w fun e w'=>zan w ⟨1,a.x.l.length,a.x.l⟩ e w':=by
 obtain ⟨b,off,rfl,⟨v0,v1,v2⟩,hok⟩:=h.get (k:=0) (a:=a) rfl
 have hbl:=zg v0
 have hcap:=h.cap
 obtain ⟨r1,r2,r3,r4,r5⟩:=zi.1 hok.right
 have hln:=hok.arr.len
 have hn1:0 < a.n:=by rw [← hln,r4];exact Nat.mul_pos r1 r2
 have hcl:=fun W (hW:ArrIn W a.A a.n a.cap a.x.l)=>zgd a.A a.n a.cap a.x.l W hW hn1 (by omega)
 have HA:=Lib.hid hok.arr
 have hao:=hok.arr.ok
 have hb16:a.n≤4096:=by omega
 rw [hln]
 clear h hok r1 r2 r3 r4 r5
 simp only [Nat.zero_mul,Nat.add_zero] at v0 v1 v2
 go_enter func38,ntmps38
 go_upto_region 1 with fail
 refine plP [(0,0),(1,0),(2,0),(3,0),(4,0),(5,0),(6,0),(7,0),(8,0),(9,1),(10,1),(11,2)] [11] (by kernel_rfl) (fun _ _ d _ _ h=>by cases d <;> exact h) ?_
 iterate 9 (apply rdP rfl rfl;(intros;go_simp;first | done | rfl);try simp only [zq])
 (refine zh rfl ?_ (fun K hK=>?_);rfl;go_simp;refine (hcl _ (HA.out.ext (by simp [go_sem]))).mono ?_;rintro e w' ⟨D,cc,rfl,hDr,hcc,hb⟩;obtain ⟨os5,d5,rfl⟩:=hb.more;clear hb;refine hK _ _ ?_ ?_;(simp [go_sem]))
 try simp only [zq]
 (refine zh rfl ?_ (fun K hK=>?_);rfl;go_simp;refine (zcB _ _ _ _ _ _).mono ?_;rintro e w' ⟨rfl,hb⟩;have hDr:=Rd.ext hDr hb;obtain ⟨os6,d6,rfl⟩:=hb.more;clear hb;refine hK _ _ ?_ ?_;(simp [go_sem]))
 try simp only [zq]
 (refine zaa rfl ?_ (fun K hK=>?_);rfl;go_simp;refine hK _ _ ?_)
 try simp only [Act.put]
 refine zj ?_
 go_wp2_with fail
 exact rc1 rfl rfl (by simp [go_sem]) ⟨D,a.n,cc,rfl,⟨(by (try simp only [za,zc,zb,Array.append_assoc] at hDr);exact hDr.sw (by simp <;> omega)),hln,hcc,by omega,hao⟩,by simp [go_sem]⟩
def Pls (base:Nat) (w:World) (v:Value) (ps:List Nat):Prop:=w.ownsRow base 3 1 v ps.length (i6 ps)
theorem zpZ {lo j:Nat} (h:lo≤j):rng lo (j+1)=rng lo j++[j]:=by
 unfold rng
 rw [show j+1 - lo=(j - lo)+1 by omega,List.range'_concat]
 congr 2;omega
theorem zcC (lo hi:Nat) (hlo:lo≤100000) (hhi:hi≤100000) (w:World) :
  Calls prog 129 #[.int .i64 (lo:Int),.int .i64 (hi:Int)] w fun e w'=>∃ v,e = .returned v∧Pls w.heap.size w' v (rng lo hi)∧Ext w w':=by
 obtain ⟨i0,hi0,hz0,hz1,hz2⟩:=info_parts zbq
 go_enter func129,ntmps129
 go_wp2_with fail
 go_loopw [5,6] (fun v i wr=>∃ j:Nat,lo≤j∧(j≤hi∨j=lo)∧i = .int .i64 (j:Int)∧Hid (wr.ownsRow w.heap.size 3 1 v (j - lo) (i6 (rng lo j)))∧Ext w wr) (fun _ i _=>hi - (intOf i).toNat)
 case atStart =>
  refine ⟨lo,Nat.le_refl _,Or.inr rfl,rfl,?_,Ext.refl _⟩
  show World.ownsRow _ _ _ _ _ _ _
  rw [show rng lo lo=[] by simp [rng],Nat.sub_self]
  exact World.ownsRow_nil _ _ _ _
 case round =>
  obtain ⟨j,h1,h2,rfl,HW,hxr⟩:=hrel
  have hsz:=hxr.size
  by_cases hlt:j < hi
  ·go_wp2_with (at_builtin;refine wpList_append_own _ rfl _ _ _ rfl w.heap.size 3 i0 (.int .i64 0) 1 8 Tryz.underlying71 hi0 hz0 hz1 hz2 rfl (by decide) _ (j - lo) (i6 (rng lo j)) rfl (zdS HW.out _) _ 1 1 [.int .i64 j] rfl rfl (Rd.one_ _ _ rfl).add (zcr [j]) (by simp [maxLen];omega) (by omega) (by simp;omega) ?_;intro v4 w4 ho4 hg4 _)
   have hx4:=zbr (hxr.alloc _) (zdS HW.out _) hg4
   refine ⟨⟨j+1,by omega,Or.inl (by omega),by go_num,?_,hx4⟩,by simp [intOf];omega⟩
   show World.ownsRow _ _ _ _ _ _ _
   rw [zpZ h1,show j+1 - lo=j - lo+1 by omega];unfold i6;rw [List.map_append]
   exact ho4
  ·go_wp2_with fail
   go_ret
   refine ⟨_,rfl,?_,hxr⟩
   have hj:rng lo j=rng lo hi:=by
    rcases h2 with h2 | h2
    ·rw [show j=hi by omega]
    ·subst h2;simp [rng];omega
   unfold Pls
   rw [← hj,zbX]
   exact HW.out
theorem zkx (n:Int) (h:Nat) (hn:I64 n) (hh:h≤4096) (w:World) :
  Calls prog 86 #[.int .i64 n,.int .i64 (h:Int)] w fun e w'=>∃ v,e = .returned v∧Pls w.heap.size w' v (zce n h)∧Ext w w':=by
 unfold I64 at hn
 unfold zce
 have r1:=fun lo hi h1 h2 W=>zcC lo hi h1 h2 W
 by_cases h1:(h:Int)≤n
 ·rw [if_pos (Or.inl h1)]
  have hr:=fun W=>zcC 0 h (by omega) (by omega) W
  rw [show ((0:Nat):Int)=0 from rfl] at hr
  generalize rng 0 h=ps at *
  go_enter func86,ntmps86
  go_wp2_with (go_at_call 129;(with_reducible refine (hr _).mono ?_);rintro e w' ⟨v,rfl,hv,hb⟩)
  go_ret
  exact ⟨v,rfl,hv,hb⟩
 ·by_cases h2:n ≤ -(h:Int)
  ·rw [if_pos (Or.inr h2)]
   have hr:=fun W=>zcC 0 h (by omega) (by omega) W
   rw [show ((0:Nat):Int)=0 from rfl] at hr
   generalize rng 0 h=ps at *
   go_enter func86,ntmps86
   go_wp2_with (go_at_call 129;(with_reducible refine (hr _).mono ?_);rintro e w' ⟨v,rfl,hv,hb⟩)
   go_ret
   exact ⟨v,rfl,hv,hb⟩
  ·rw [if_neg (by omega)]
   by_cases h3:0 < n
   ·rw [if_pos h3]
    have hr:=fun W=>zcC 0 n.toNat (by omega) (by omega) W
    rw [show ((0:Nat):Int)=0 from rfl,show ((n.toNat:Nat):Int)=n by omega] at hr
    generalize rng 0 n.toNat=ps at *
    go_enter func86,ntmps86
    go_wp2_with (go_at_call 129;(with_reducible refine (hr _).mono ?_);rintro e w' ⟨v,rfl,hv,hb⟩)
    go_ret
    exact ⟨v,rfl,hv,hb⟩
   ·rw [if_neg h3]
    have hr:=fun W=>zcC ((h:Int)+n).toNat h (by omega) (by omega) W
    rw [show ((((h:Int)+n).toNat:Nat):Int)=(h:Int)+n by omega] at hr
    have hw:IntKind.i64.wrap ((h:Int)+n)=(h:Int)+n:=by rw [IntKind.wrap_i64];omega
    generalize rng ((h:Int)+n).toNat h=ps at *
    go_enter func86,ntmps86
    go_wp2_with (go_at_call 129;(with_reducible refine (hr _).mono ?_);rintro e w' ⟨v,rfl,hv,hb⟩)
    go_ret
    exact ⟨v,rfl,hv,hb⟩
theorem zky (n:Int) (h:Nat) (hn:I64 n) (hh:h≤4096) (w:World) :
  Calls prog 69 #[.int .i64 n,.int .i64 (h:Int)] w fun e w'=>∃ v,e = .returned v∧Pls w.heap.size w' v (zbD n h)∧Ext w w':=by
 unfold I64 at hn
 unfold zbD
 by_cases h1:(h:Int)≤n
 ·rw [if_pos (Or.inl h1)]
  go_enter func69,ntmps69
  go_wp2_with fail
  go_ret
  exact ⟨_,rfl,World.ownsRow_nil _ _ _ _,by simp [go_sem]⟩
 ·by_cases h2:n ≤ -(h:Int)
  ·rw [if_pos (Or.inr h2)]
   go_enter func69,ntmps69
   go_wp2_with fail
   go_ret
   exact ⟨_,rfl,World.ownsRow_nil _ _ _ _,by simp [go_sem]⟩
  ·rw [if_neg (by omega)]
   by_cases h3:0 < n
   ·rw [if_pos h3]
    have hr:=fun W=>zcC n.toNat h (by omega) (by omega) W
    rw [show ((n.toNat:Nat):Int)=n by omega] at hr
    generalize rng n.toNat h=ps at *
    go_enter func69,ntmps69
    go_wp2_with (go_at_call 129;(with_reducible refine (hr _).mono ?_);rintro e w' ⟨v,rfl,hv,hb⟩)
    go_ret
    exact ⟨v,rfl,hv,hb⟩
   ·rw [if_neg h3]
    have hr:=fun W=>zcC 0 ((h:Int)+n).toNat (by omega) (by omega) W
    rw [show ((((h:Int)+n).toNat:Nat):Int)=(h:Int)+n by omega,show ((0:Nat):Int)=0 from rfl] at hr
    have hw:IntKind.i64.wrap ((h:Int)+n)=(h:Int)+n:=by rw [IntKind.wrap_i64];omega
    generalize rng 0 ((h:Int)+n).toNat=ps at *
    go_enter func69,ntmps69
    go_wp2_with (go_at_call 129;(with_reducible refine (hr _).mono ?_);rintro e w' ⟨v,rfl,hv,hb⟩)
    go_ret
    exact ⟨v,rfl,hv,hb⟩
theorem zba {X W w3:World} {ty:TypeId} {size n:Nat} {v:Value} {xs:List Value} (hx:Ext X W) (ho:W.ownsRow X.heap.size ty size v n xs) (hg:W.grownBy w3 v.ownBlock):Ext X w3 :=
 ⟨hg.os.trans hx.os,hg.tape.trans hx.tape,hg.output.trans hx.output,Nat.le_trans hx.size hg.size,fun b hb=>(hg.block b (Nat.lt_of_lt_of_le hb hx.size) (fun e=>by have:=zew ho _ e.symm;omega)).trans (hx.block hb)⟩
theorem ArrIn.part {w:World} {A:Option Addr} {n cap:Nat} {l:List Val} (h:ArrIn w A n cap l) {p m:Nat} (hp:p+m≤n) (hm:0 < m) :
  ∃ b off,A=some ⟨b,off,none⟩∧b < w.heap.size∧∀ j u,(zm ((l.drop p).take m))[j]? = some u→w.cell? ⟨b,off+p * 6+j,none⟩=some u:=by
 obtain ⟨x,b,off,hx,_,hA,hv⟩:=h.at (k:=p) (by omega)
 refine ⟨b,off,hA,zg hv.1,fun j u hu=>?_⟩
 have hl:l=l.take p++((l.drop p).take m++(l.drop p).drop m):=by rw [List.take_append_drop,List.take_append_drop]
 have hj:j < (zm ((l.drop p).take m)).length:=(List.getElem?_eq_some_iff.1 hu).1
 have h1:(zm l)[p * 6+j]? = some u:=by
  rw [hl,zar,zar]
  have hlp:(zm (l.take p)).length=p * 6:=by rw [zaU,List.length_take];have:=h.len;rw [Nat.min_eq_left (by omega)]
  rw [List.getElem?_append_right (by rw [hlp];omega),hlp,show p * 6+j - p * 6=j by omega,List.getElem?_append_left hj]
  exact hu
 obtain ⟨b',off',hA',_,hc⟩:=h.rd _ _ h1
 rw [hA] at hA'
 simp only [Option.some.injEq,Addr.mk.injEq,and_true] at hA'
 obtain ⟨rfl,rfl⟩:=hA'
 rw [Nat.add_assoc];exact hc
theorem zgl (N:Nat) (hN:N≤4096) (W:World):(Instr.makeSlice 28 (.int .i64 0) (.int .i64 (N:Int))).run prog W = .ok (.slice (some ⟨W.heap.size,0,none⟩) 0 N) (W.alloc (.cells (madeCells #[.int .i64 0,.int .i64 0,.int .i64 0,.string ⟨#[]⟩,.bool false,.int .i64 0] (N * 6)) 37)):=by
 obtain ⟨i0,hi,hz0,hz1,hz2⟩:=info_parts zaY
 have:=run_make (P:=prog) W 28 37 i0 _ Tryz.underlying28 hi hz0 .i64 .i64 0 (N:Int) (by omega) (by omega) (by rw [hz2];omega) (by omega)
 simpa [hz1,Value.cells] using this
theorem zhq (X:World) (base N:Nat) (hN:N≤4096) (hb:base≤X.heap.size):(X.alloc (.cells (madeCells #[.int .i64 0,.int .i64 0,.int .i64 0,.string ⟨#[]⟩,.bool false,.int .i64 0] (N * 6)) 37)).ownsRow base 37 6 (.slice (some ⟨X.heap.size,0,none⟩) 0 N) 0 []:=by
 have h0:=World.ownsRow_made (base:=base) (e:=37) (size:=6) X (madeCells #[.int .i64 0,.int .i64 0,.int .i64 0,.string ⟨#[]⟩,.bool false,.int .i64 0] (N * 6)) N hb (by simp only [maxLen];omega) (by rw [size_madeCells])
 exact h0
theorem zcD {X w w':World} {v:Value} {n:Nat} {l:List Val} (h:w'.ownsRow X.heap.size 37 6 v n (zm l)) (hx:w.heap.size≤X.heap.size) (hn:n≤9223372036854775807) (hok:∀ x∈l,x.ok) :
  ∃ D cc,v = .slice D n cc∧ArrN w.heap.size w' D n cc l:=by
 obtain ⟨D,cc,hv,hr,hc⟩:=Rd.of_own h
 have hl:l.length=n:=by have:=h.1;rw [zaU] at this;omega
 exact ⟨D,cc,hv,⟨hr.mono hx,hl,hc,hn,hok⟩⟩
theorem zjd {C:Nat} {l:List Val} {ps:List Nat} {k r:Nat} (hr:ps[k]? = some r):(ps.take (k+1)).flatMap (zcK C l)=(ps.take k).flatMap (zcK C l)++zcK C l r:=by
 rw [List.take_add_one,hr,List.flatMap_append];simp
theorem zei {r R C:Nat} (h:r < R) (hm:R * C≤4096):r * C+C≤R * C∧r * C≤4096:=by
 have:=Nat.mul_le_mul_right C (show r+1≤R by omega)
 rw [Nat.add_mul,Nat.one_mul] at this
 omega
theorem zm6 (R C:Nat) (l:List Val) (A:Option Addr) (n cap:Nat) (ps:List Nat) (B:Option Addr) (cb:Nat) (w:World) (h:ArrIn w A n cap l) (hr:NA.right ⟨R,C,l⟩) (hps:Rd 0 w B (i6 ps)) (hcb:ps.length≤cb) (hp:∀ r∈ps,r < R) (hm:ps.length * C≤4096) (hm2:ps.length≤4096) :
  Calls prog 71 #[AV R C (.slice A n cap),.slice B ps.length cb] w fun e w'=>zan w (zL ⟨R,C,l⟩ ps) e w':=by
 obtain ⟨r1,r2,r3,r4,r5⟩:=zi.1 hr
 simp only at r1 r2 r3 r4 r5
 have hln:=h.len
 obtain ⟨i0,hi0,hz0,hz1,hz2⟩:=info_parts zaY
 have hmk:=zgl (ps.length * C) hm
 have hw0:IntKind.i64.wrap ((ps.length:Int) * (C:Int))=((ps.length * C:Nat):Int):=by rw [IntKind.wrap_i64,Int.natCast_mul];rw [← Int.natCast_mul];omega
 have hres:zL ⟨R,C,l⟩ ps=⟨ps.length,C,ps.flatMap (zcK C l)⟩:=rfl
 have hok:∀ x∈ps.flatMap (zcK C l),x.ok:=zgk (a:=⟨R,C,l⟩) r4 hp h.ok
 rw [hres]
 have HO:=Lib.hid hok
 have HL:=Lib.hid hm
 have hmo:=zhq ((w.alloc (Obj.cells #[.int .i64 (R:Int),.int .i64 (C:Int),.slice (A) n cap] 30)).alloc (Obj.cells #[.int .i64 0,.int .i64 0,.slice none 0 0] 30)) ((w.alloc (Obj.cells #[.int .i64 (R:Int),.int .i64 (C:Int),.slice (A) n cap] 30)).alloc (Obj.cells #[.int .i64 0,.int .i64 0,.slice none 0 0] 30)).heap.size (ps.length * C) hm (Nat.le_refl _)
 have hC4:C≤4096:=Nat.le_trans (Nat.le_mul_of_pos_left C r1) r3
 generalize hN:ps.length * C=N at *
 have HN:=Lib.hid hN
 clear hN hres hok
 go_enter func71,ntmps71
 go_wp2_with fail
 go_loopw [5,16] (fun v i wr=>∃ k:Nat,k≤ps.length∧i = .int .i64 (k:Int)∧Hid (wr.ownsRow ((w.alloc (Obj.cells #[.int .i64 (R:Int),.int .i64 (C:Int),.slice (A) n cap] 30)).alloc (Obj.cells #[.int .i64 0,.int .i64 0,.slice none 0 0] 30)).heap.size 37 6 v (k * C) (zm ((ps.take k).flatMap (zcK C l))))∧Ext ((w.alloc (Obj.cells #[.int .i64 (R:Int),.int .i64 (C:Int),.slice (A) n cap] 30)).alloc (Obj.cells #[.int .i64 0,.int .i64 0,.slice none 0 0] 30)) wr) (fun _ i _=>ps.length - (intOf i).toNat)
 case atStart =>
  refine ⟨0,Nat.zero_le _,rfl,?_,(Ext.refl _).alloc _⟩
  show World.ownsRow _ _ _ _ _ _ _
  rw [Nat.zero_mul]
  simp only [World.size_alloc] at hmo ⊢
  exact hmo
 case round =>
  obtain ⟨k,hk,rfl,HW,hxr⟩:=hrel
  have hsz:=hxr.size
  have hx0:=hxr
  obtain ⟨os,d,rfl⟩:=hxr.more
  clear hxr hmo
  by_cases hlt:k < ps.length
  ·obtain ⟨r,hrk⟩:∃ r,ps[k]? = some r:=⟨_,List.getElem?_eq_getElem hlt⟩
   have hrR:r < R:=hp r (List.mem_of_getElem? hrk)
   obtain ⟨m1,m2⟩:=zei hrR r3
   obtain ⟨bp,op,rfl,_,hcp⟩:=hps k (.int .i64 r) (by rw [List.getElem?_map,hrk];rfl)
   have hbp:=zg hcp
   obtain ⟨b,off,rfl,hbl,hcell⟩:=h.part (p:=r * C) (m:=C) (by omega) r2
   have hcap:=h.cap
   have hkC:k * C+C≤N:=by rw [← HN.out];have:=Nat.mul_le_mul_right C (show k+1≤ps.length by omega);rw [Nat.add_mul,Nat.one_mul] at this;exact this
   have hl6:(zm ((l.drop (r * C)).take C)).length=C * 6:=by rw [zaU,List.length_take,List.length_drop];omega
   have hstep:=zjd (C:=C) (l:=l) hrk
   have e1:IntKind.i64.wrap ((r:Int) * (C:Int))=((r * C:Nat):Int):=by rw [IntKind.wrap_i64,← Int.natCast_mul];omega
   have hrC:r≤4096:=Nat.le_trans (Nat.le_mul_of_pos_right r r2) m2
   have e3:IntKind.i64.wrap (((r:Int)+1) * (C:Int))=((r * C+C:Nat):Int):=by
    rw [IntKind.wrap_i64,Int.add_mul,Int.one_mul,← Int.natCast_mul,← Int.natCast_add]
    generalize r * C+C=z at *
    omega
   have hne:¬ cap=r * C:=by omega
   have HS:=Lib.hid hstep
   have HK:=Lib.hid hkC
   generalize hP:r * C=P at *
   have hPC:P+C - P=C:=by omega
   clear hstep hkC hrk hr hp
   go_wp2_with (at_builtin;refine wpList_append_own _ rfl _ _ _ rfl ((w.alloc (Obj.cells #[.int .i64 (R:Int),.int .i64 (C:Int),.slice (some ⟨b,off,none⟩) n cap] 30)).alloc (Obj.cells #[.int .i64 0,.int .i64 0,.slice none 0 0] 30)).heap.size 37 i0 (VV 0 0 0 ⟨#[]⟩ false 0) 6 56 Tryz.underlying28 hi0 hz0 hz1 hz2 rfl (by decide) _ (k * C) _ rfl HW.out _ (P+C - P) _ (zm ((l.drop P).take C)) rfl (by rw [hPC];exact hl6) (fun j u hu=>by rw [Addr.add_mid];exact (Ext.trans (b:=((w.alloc (Obj.cells #[.int .i64 (R:Int),.int .i64 (C:Int),.slice (some ⟨b,off,none⟩) n cap] 30)).alloc (Obj.cells #[.int .i64 0,.int .i64 0,.slice none 0 0] 30))) (by simp [go_sem]) hx0).cell_some (hcell j u hu)) (fun u hu=>zbB u hu) (by have:=HK.out;rw [hPC];simp only [maxLen];omega) (by have:=HK.out;rw [hPC];omega) hsz ?_;intro v4 w4 ho4 hg4 _)
   have hx4:=zba hx0 HW.out hg4
   refine ⟨⟨k+1,by omega,by go_num,?_,hx4⟩,by simp [intOf];omega⟩
   show World.ownsRow _ _ _ _ _ _ _
   rw [HS.out,zar,show (k+1) * C=k * C+C by rw [Nat.add_mul,Nat.one_mul]]
   unfold zcK
   rw [hP]
   rw [hPC] at ho4
   exact ho4
  ·obtain rfl:k=ps.length:=by omega
   have hT:ps.take ps.length=ps:=List.take_length
   have HW2:=HW.out
   rw [hT,HN.out] at HW2
   obtain ⟨D,cc,rfl,hD⟩:=zcD (w:=((w.alloc (Obj.cells #[.int .i64 (R:Int),.int .i64 (C:Int),.slice (A) n cap] 30)).alloc (Obj.cells #[.int .i64 0,.int .i64 0,.slice none 0 0] 30))) (X:=((w.alloc (Obj.cells #[.int .i64 (R:Int),.int .i64 (C:Int),.slice (A) n cap] 30)).alloc (Obj.cells #[.int .i64 0,.int .i64 0,.slice none 0 0] 30))) HW2 (Nat.le_refl _) (by omega) HO.out
   clear HW HW2 hT
   go_wp2_with (go_at_call 36;(with_reducible refine (zcB _ _ _ _ _ _).mono ?_);rintro e w' ⟨rfl,hb⟩;have hDr:=Rd.ext hD.rd hb;obtain ⟨os6,d6,rfl⟩:=hb.more;clear hb)
   exact rc1 (v:=AV ps.length C (.slice D N cc)) rfl rfl (by simp [go_sem]) (by (try simp only [za,zc,zb,Array.append_assoc] at hDr);exact raS hDr hD (by simp <;> omega) (by simp [go_sem]))
theorem zm7 (R C:Nat) (l:List Val) (A:Option Addr) (n cap:Nat) (ps:List Nat) (B:Option Addr) (cb:Nat) (w:World) (h:ArrIn w A n cap l) (hr:NA.right ⟨R,C,l⟩) (hps:Rd 0 w B (i6 ps)) (hcb:ps.length≤cb) (hp:∀ r∈ps,r < C) (hm:R * ps.length≤4096) (hm2:ps.length≤4096) :
  Calls prog 70 #[AV R C (.slice A n cap),.slice B ps.length cb] w fun e w'=>zan w (zaF ⟨R,C,l⟩ ps) e w':=by
 obtain ⟨r1,r2,r3,r4,r5⟩:=zi.1 hr
 simp only at r1 r2 r3 r4 r5
 have hln:=h.len
 obtain ⟨i0,hi0,hz0,hz1,hz2⟩:=info_parts zaY
 have hmk:=zgl (R * ps.length) hm
 have hw0:IntKind.i64.wrap ((ps.length:Int) * (R:Int))=((R * ps.length:Nat):Int):=by rw [IntKind.wrap_i64,← Int.natCast_mul,Nat.mul_comm];omega
 have hres:zaF ⟨R,C,l⟩ ps=⟨R,ps.length,zC (fun i j=>zk l (i * C+plc ps j)) ps.length (R * ps.length)⟩:=by
  have:=zgL ⟨R,C,l⟩ ps
  show (⟨R,ps.length,(zaF ⟨R,C,l⟩ ps).l⟩:NA)=_
  rw [this]
 have hok:∀ x∈(zaF ⟨R,C,l⟩ ps).l,x.ok:=zol (a:=⟨R,C,l⟩) r4 hp h.ok
 rw [hres] at hok ⊢
 have HO:=Lib.hid hok
 have hmo:=zhq ((w.alloc (Obj.cells #[.int .i64 (R:Int),.int .i64 (C:Int),.slice (A) n cap] 30)).alloc (Obj.cells #[.int .i64 0,.int .i64 0,.slice none 0 0] 30)) ((w.alloc (Obj.cells #[.int .i64 (R:Int),.int .i64 (C:Int),.slice (A) n cap] 30)).alloc (Obj.cells #[.int .i64 0,.int .i64 0,.slice none 0 0] 30)).heap.size (R * ps.length) hm (Nat.le_refl _)
 have hC4:C≤4096:=Nat.le_trans (Nat.le_mul_of_pos_left C r1) r3
 have hR4:R≤4096:=Nat.le_trans (Nat.le_mul_of_pos_right R r2) r3
 generalize hM:ps.length=M at *
 generalize hN:R * M=N at *
 have HN:=Lib.hid hN
 have HM:=Lib.hid hM
 clear hN hres hok hM
 go_enter func70,ntmps70
 go_wp2_with fail
 go_loopw [5,17] (fun v i wr=>∃ k:Nat,k≤R∧i = .int .i64 (k:Int)∧Hid (wr.ownsRow ((w.alloc (Obj.cells #[.int .i64 (R:Int),.int .i64 (C:Int),.slice (A) n cap] 30)).alloc (Obj.cells #[.int .i64 0,.int .i64 0,.slice none 0 0] 30)).heap.size 37 6 v (k * M) (zm (zC (fun i j=>zk l (i * C+plc ps j)) M (k * M))))∧Ext ((w.alloc (Obj.cells #[.int .i64 (R:Int),.int .i64 (C:Int),.slice (A) n cap] 30)).alloc (Obj.cells #[.int .i64 0,.int .i64 0,.slice none 0 0] 30)) wr) (fun _ i _=>R - (intOf i).toNat)
 case atStart =>
  refine ⟨0,Nat.zero_le _,rfl,?_,(Ext.refl _).alloc _⟩
  show World.ownsRow _ _ _ _ _ _ _
  rw [Nat.zero_mul]
  simp only [World.size_alloc] at hmo ⊢
  exact hmo
 case round =>
  obtain ⟨r,hk,rfl,HW,hxr⟩:=hrel
  clear hmo
  by_cases hlt:r < R
  ·obtain ⟨m1,m2⟩:=zei hlt r3
   have hrM:r * M+M≤N:=by rw [← HN.out];have:=Nat.mul_le_mul_right M (show r+1≤R by omega);rw [Nat.add_mul,Nat.one_mul] at this;exact this
   go_wp2_with fail
   obtain ⟨wo,rfl⟩:∃ wo:World,wo=wr:=⟨_,rfl⟩
   go_loopw [5,22] (fun v i wr=>∃ j:Nat,j≤M∧i = .int .i64 (j:Int)∧Hid (wr.ownsRow ((w.alloc (Obj.cells #[.int .i64 (R:Int),.int .i64 (C:Int),.slice (A) n cap] 30)).alloc (Obj.cells #[.int .i64 0,.int .i64 0,.slice none 0 0] 30)).heap.size 37 6 v (r * M+j) (zm (zC (fun i j=>zk l (i * C+plc ps j)) M (r * M+j))))∧Ext ((w.alloc (Obj.cells #[.int .i64 (R:Int),.int .i64 (C:Int),.slice (A) n cap] 30)).alloc (Obj.cells #[.int .i64 0,.int .i64 0,.slice none 0 0] 30)) wr) (fun _ i _=>M - (intOf i).toNat)
   case atStart=>exact ⟨0,Nat.zero_le _,rfl,HW,hxr⟩
   case round =>
    obtain ⟨j,hj,rfl,HV,hxv⟩:=hrel
    clear HW hxr
    have hsz:=hxv.size
    have hx0:=hxv
    obtain ⟨os,d,rfl⟩:=hxv.more
    clear hxv
    by_cases hjM:j < M
    ·obtain ⟨c,hck⟩:∃ c,ps[j]? = some c:=⟨_,List.getElem?_eq_getElem (by rw [HM.out];exact hjM)⟩
     have hcC:c < C:=hp c (List.mem_of_getElem? hck)
     have hpj:plc ps j=c:=by unfold plc;rw [hck];rfl
     obtain ⟨bp,op,rfl,_,hcp⟩:=hps j (.int .i64 c) (by rw [List.getElem?_map,hck];rfl)
     have hbp:=zg hcp
     obtain ⟨x,b,off,hx,hxo,rfl,⟨y0,y1,y2,y3,y4,y5⟩⟩:=h.at (k:=r * C+c) (by omega)
     have hbl:=zg y0
     have hcap:=h.cap
     have hgx:zk l (r * C+plc ps j)=x:=by rw [hpj];unfold zk;rw [hx];rfl
     have hstep:=zbd (fun i j=>zk l (i * C+plc ps j)) M r j hjM
     simp only [hgx] at hstep
     have e1:IntKind.i64.wrap ((r:Int) * (C:Int))=((r * C:Nat):Int):=by rw [IntKind.wrap_i64,← Int.natCast_mul];omega
     have e2:IntKind.i64.wrap (((r * C:Nat):Int)+(c:Int))=((r * C+c:Nat):Int):=by rw [IntKind.wrap_i64];generalize r * C=z at *;omega
     have hKn:r * C+c < n:=by omega
     have HS:=Lib.hid hstep
     generalize hP:r * C=P at *
     generalize hK:P+c=K at *
     have HR:=Lib.hid hrM
     clear hstep hck hr hp hx hgx hP hK hpj hrM
     go_wp2_with (at_builtin;refine wpList_append_own _ rfl _ _ _ rfl ((w.alloc (Obj.cells #[.int .i64 (R:Int),.int .i64 (C:Int),.slice (some ⟨b,off,none⟩) n cap] 30)).alloc (Obj.cells #[.int .i64 0,.int .i64 0,.slice none 0 0] 30)).heap.size 37 i0 (VV 0 0 0 ⟨#[]⟩ false 0) 6 56 Tryz.underlying28 hi0 hz0 hz1 hz2 rfl (by decide) _ (r * M+j) _ rfl (zw HV.out ((Ext.refl _).alloc _)) _ 1 1 x.cells rfl rfl (z7 _ _ x.cells (by simp) rfl _) (fun u hu=>zbB (l:=[x]) u (by simpa [zm] using hu)) (by have:=HR.out;simp only [maxLen];omega) (by have:=HR.out;omega) (by simp;omega) ?_;intro v4 w4 ho4 hg4 _)
     have hx4:=zba (hx0.alloc _) (zw HV.out ((Ext.refl _).alloc _)) hg4
     refine ⟨⟨j+1,by omega,by go_num,?_,hx4⟩,by simp [intOf];omega⟩
     show World.ownsRow _ _ _ _ _ _ _
     rw [← Nat.add_assoc,HS.out,zar]
     simpa [zm] using ho4
    ·obtain rfl:j=M:=by omega
     go_wp2_with fail
     refine ⟨⟨r+1,by omega,by go_num,?_,hx0⟩,by simp [intOf];omega⟩
     show World.ownsRow _ _ _ _ _ _ _
     rw [show (r+1) * j=r * j+j by rw [Nat.add_mul,Nat.one_mul]]
     exact HV.out
  ·obtain rfl:R=r:=by omega
   obtain ⟨os,d,rfl⟩:=hxr.more
   clear hxr
   have HW2:=HW.out
   rw [HN.out] at HW2
   obtain ⟨D,cc,rfl,hD⟩:=zcD (n:=N) (w:=((w.alloc (Obj.cells #[.int .i64 (R:Int),.int .i64 (C:Int),.slice (A) n cap] 30)).alloc (Obj.cells #[.int .i64 0,.int .i64 0,.slice none 0 0] 30))) (X:=((w.alloc (Obj.cells #[.int .i64 (R:Int),.int .i64 (C:Int),.slice (A) n cap] 30)).alloc (Obj.cells #[.int .i64 0,.int .i64 0,.slice none 0 0] 30))) HW2 (Nat.le_refl _) (by omega) HO.out
   clear HW HW2
   go_wp2_with (go_at_call 36;(with_reducible refine (zcB _ _ _ _ _ _).mono ?_);rintro e w' ⟨rfl,hb⟩;have hDr:=Rd.ext hD.rd hb;obtain ⟨os6,d6,rfl⟩:=hb.more;clear hb)
   exact rc1 (v:=AV R M (.slice D N cc)) rfl rfl (by simp [go_sem]) (by (try simp only [za,zc,zb,Array.append_assoc] at hDr);exact raS hDr hD (by simp <;> omega) (by simp [go_sem]))
end Go.Proofs.YtkoidgbgoccgmaaGreatDoor
