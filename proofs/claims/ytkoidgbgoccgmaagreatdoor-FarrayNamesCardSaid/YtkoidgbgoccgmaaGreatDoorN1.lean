/- What the rows' proofs lean on: the contracts of the functions that they reach, and plain facts (part N1). -/
import Derived.WalkKit
import Derived.WalkLawsBesides
import Derived.WalkSpells
import Derived.Outline
import Derived.Below
import Derived.Deep.RegionHeld3
import Derived.Deep.DeepCutAuto
import Derived.Deep.AppendLies
import Derived.Maps.AppendAt
import Derived.Lib.Hide
import Derived.OrdersHeld
import Derived.Test.YtkoidgbgoccgmaaGreatDoorProg
import Derived.Shelf.Small.Bits
import Derived.Shelf.Small.Strs
import Derived.Shelf.Strconv.Itoa0
import Derived.Shelf.Strconv.Itoa1
import Derived.Shelf.LaysM
import Derived.Shelf.Strconv.Itoa2
import Derived.Shelf.Bits.Mul64
import Derived.Ground.SlgmProg
import Derived.Shelf.SortM.Plain
import Derived.Shelf.SortM.SortNone
import Derived.Lib.ItoaMem
import Derived.Lib.OthersKept
import Derived.Deep.CutBlock
import Derived.Laws.Bits64b
import Derived.Lib.AppendZeros
set_option linter.unusedSimpArgs false
set_option linter.unusedVariables false
set_option maxRecDepth 100000
set_option maxHeartbeats 6400000
namespace Go.Proofs.YtkoidgbgoccgmaaGreatDoor
open Tryz
theorem zqA {α:Type} (l:List α) (i:Nat) (a:α):l.toArray.setIfInBounds i a=(l.set i a).toArray:=List.setIfInBounds_toArray ..
theorem zqB {α:Type} {a b:α} {l:List α} : (a::l).set 0 b=b::l:=List.set_cons_zero
theorem zqC {α:Type} {a b:α} {l:List α} {n:Nat} : (a::l).set (n+1) b=a::l.set n b:=List.set_cons_succ
end Go.Proofs.YtkoidgbgoccgmaaGreatDoor
namespace Go.Proofs.YtkoidgbgoccgmaaGreatDoor
open Tryz
open Go.RowKit
def Ext (w w':World):Prop:=Below w.heap.size w w'
theorem Ext.refl (w:World):Ext w w:=Below.refl _ _
theorem Ext.size {w w':World} (h:Ext w w'):w.heap.size≤w'.heap.size:=Below.size h
theorem Ext.trans {a b c:World} (h:Ext a b) (k:Ext b c):Ext a c:=Below.trans h (Below.mono k h.size)
theorem Ext.drew {a w:World} (h:Ext a w):Ext a w.drew:=Below.drew h
theorem Ext.alloc {a w:World} (h:Ext a w) (o:Obj):Ext a (w.alloc o):=Below.alloc h h.size o
theorem Ext.set {a w:World} (h:Ext a w) {p:Addr} (u:Value) (hp:a.heap.size≤p.block):Ext a (w.setCell p u):=Below.setCell h hp u
theorem Ext.cell {w w':World} (h:Ext w w') {p:Addr} (hp:p.block < w.heap.size):w'.cell? p=w.cell? p:=Below.cell h hp
theorem Ext.frozen {w w':World} (h:Ext w w') {p:Addr} (hp:p.block < w.heap.size):w'.frozen? p=w.frozen? p:=Below.frozen h hp
theorem Ext.block {w w':World} (h:Ext w w') {b:Nat} (hb:b < w.heap.size):w'.heap[b]? = w.heap[b]?:=Below.block h b hb
theorem zg {w:World} {p:Addr} {v:Value} (h:w.cell? p=some v):p.block < w.heap.size:=by
 unfold World.cell? at h
 rcases Nat.lt_or_ge p.block w.heap.size with hl | hl
 ·exact hl
 ·rw [Array.getElem?_eq_none hl] at h;cases h
theorem Ext.cell_some {w w':World} (h:Ext w w') {p:Addr} {v:Value} (hp:w.cell? p=some v):w'.cell? p=some v:=by
 rw [h.cell (zg hp)];exact hp
def more (w:World) (os:Array Obj) (d:Nat):World:={ w with heap:=w.heap++os,drawn:=d }
theorem Ext.more {w w':World} (h:Ext w w'):∃ os d,w'=more w os d:=by
 refine ⟨w'.heap.extract w.heap.size w'.heap.size,w'.drawn,?_⟩
 have hh:w'.heap=w.heap++w'.heap.extract w.heap.size w'.heap.size:=by
  have h1:=h.size
  apply Array.ext_getElem?
  intro i
  rw [Array.getElem?_append]
  split
  ·rename_i hi;exact h.block hi
  ·rename_i hi
   rw [Array.getElem?_extract]
   by_cases h2:i < w'.heap.size
   ·rw [if_pos (by omega)];congr 1;omega
   ·rw [if_neg (by omega),Array.getElem?_eq_none (by omega)]
 unfold Go.Proofs.YtkoidgbgoccgmaaGreatDoor.more
 rw [← hh,← h.os,← h.tape,← h.output]
theorem zP (w:World) (os:Array Obj) (d:Nat):Ext w (Go.Proofs.YtkoidgbgoccgmaaGreatDoor.more w os d) :=
 ⟨rfl,rfl,rfl,by simp [Go.Proofs.YtkoidgbgoccgmaaGreatDoor.more],fun k hk=>by simp [Go.Proofs.YtkoidgbgoccgmaaGreatDoor.more,Array.getElem?_append,hk]⟩
theorem Ext.more_ {a w:World} (h:Ext a w) (os:Array Obj) (d:Nat):Ext a (Go.Proofs.YtkoidgbgoccgmaaGreatDoor.more w os d):=h.trans (zP w os d)
@[go_sem,simp] theorem zf2 (w:World) (os:Array Obj) (d:Nat):(more w os d).heap.size=w.heap.size+os.size:=by simp [more]
@[go_sem,simp] theorem znD (w:World) (os:Array Obj) (d b o:Nat) (h:b < w.heap.size):(more w os d).cell? ⟨b,o,none⟩=w.cell? ⟨b,o,none⟩:=(zP w os d).cell h
@[go_sem,simp] theorem zsp (w:World) (os:Array Obj) (d b o:Nat) (h:b < w.heap.size):(more w os d).frozen? ⟨b,o,none⟩=w.frozen? ⟨b,o,none⟩:=(zP w os d).frozen h
@[go_sem] theorem zsD (w:World) (os:Array Obj) (d b o:Nat) (v:Value) (h:b < w.heap.size):(more w os d).setCell ⟨b,o,none⟩ v=more (w.setCell ⟨b,o,none⟩ v) os d:=by
 simp only [more,World.setCell]
 congr 1
 apply Array.ext_getElem?
 intro i
 simp only [Array.getElem?_modify,Array.getElem?_append,Array.size_modify]
 by_cases hi:i < w.heap.size
 ·simp [hi]
 ·simp only [hi,if_false]
  rw [if_neg (by omega)]
@[go_sem] theorem zb (w:World) (os:Array Obj) (d:Nat):(more w os d).drew=more w os (d+1):=rfl
@[go_sem] theorem zc (w:World) (os:Array Obj) (d:Nat):more w.drew os d=more w os d:=rfl
@[go_sem] theorem za (w:World) (os os':Array Obj) (d d':Nat):more (more w os d) os' d'=more w (os++os') d':=by simp [more]
def Pfx (x y:Array Obj):Prop:=∃ t,y=x++t
@[go_sem] theorem zsE (x:Array Obj):Pfx x x=True:=eq_true ⟨#[],by simp⟩
@[go_sem] theorem zsO (x:Array Obj):Pfx #[] x=True:=eq_true ⟨x,by simp⟩
@[go_sem] theorem zsP (x t:Array Obj):Pfx x (x++t)=True:=eq_true ⟨t,rfl⟩
@[go_sem] theorem zsF (x:Array Obj) (o:Obj):Pfx x (x.push o)=True:=eq_true ⟨#[o],by simp⟩
@[go_sem] theorem zsC (x t:Array Obj) (o:Obj):Pfx x (x.push o++t)=True:=eq_true ⟨#[o]++t,by simp⟩
@[go_sem] theorem zsG (a x y:Array Obj):Pfx (a++x) (a++y)=Pfx x y:=by
 refine propext ⟨fun ⟨t,h⟩=>⟨t,?_⟩,fun ⟨t,h⟩=>⟨t,by rw [h,Array.append_assoc]⟩⟩
 rw [Array.append_assoc] at h
 exact Array.append_inj_right h rfl
theorem zd6 {a v w:World} (h:v.heap=w.heap) (h1:v.os=w.os) (h2:v.tape=w.tape) (h3:v.output=w.output) (hx:Ext a v):Ext a w :=
 ⟨h1.symm.trans hx.os,h2.symm.trans hx.tape,h3.symm.trans hx.output,by rw [← h];exact hx.size,fun b hb=>by rw [← h];exact hx.block hb⟩
theorem zcF {a v w:World} (h:v.heap=w.heap) (h1:v.os=w.os) (h2:v.tape=w.tape) (h3:v.output=w.output) (hx:Ext v a):Ext w a :=
 ⟨hx.os.trans h1,hx.tape.trans h2,hx.output.trans h3,by rw [← h];exact hx.size,fun b hb=>by rw [← h] at hb ⊢;exact hx.block hb⟩
theorem zgB (w:World) (o:Obj):(w.alloc o).heap=(more w #[o] 0).heap:=by show w.heap.push o=w.heap ++ #[o];simp
theorem zfl (w:World) (o:Obj) (os:Array Obj) (d:Nat):(more (w.alloc o) os d).heap=(more w (#[o]++os) 0).heap:=by show w.heap.push o++os=w.heap++(#[o]++os);simp
@[go_sem] theorem zs3 (w:World):Ext w w=True:=eq_true (Ext.refl w)
@[go_sem] theorem zs4 (w:World) (os:Array Obj) (d:Nat):Ext w (more w os d)=True:=eq_true (zP w os d)
@[go_sem] theorem zsU (w:World) (x y:Array Obj) (d d':Nat) (h:Pfx x y):Ext (more w x d) (more w y d')=True:=by
 obtain ⟨t,rfl⟩:=h
 rw [← za w x t d d']
 exact eq_true (zP _ _ _)
@[go_sem] theorem zsV (a w:World) (os:Array Obj) (d:Nat) (h:Ext a w):Ext a (more w os d)=True:=eq_true (h.more_ os d)
@[go_sem] theorem zsW (a w:World):Ext a w.drew=Ext a w:=propext ⟨fun h=>zd6 (v:=w.drew) (w:=w) rfl rfl rfl rfl h,fun h=>h.drew⟩
@[go_sem] theorem zsX (a w:World):Ext w.drew a=Ext w a:=propext ⟨fun h=>zcF (v:=w.drew) (w:=w) rfl rfl rfl rfl h,fun h=>zcF (v:=w) (w:=w.drew) rfl rfl rfl rfl h⟩
@[go_sem] theorem zsY (a w:World) (o:Obj):Ext a (w.alloc o)=Ext a (more w #[o] 0):=propext ⟨fun h=>zd6 (zgB w o) rfl rfl rfl h,fun h=>zd6 (zgB w o).symm rfl rfl rfl h⟩
@[go_sem] theorem zsZ (a w:World) (o:Obj):Ext (w.alloc o) a=Ext (more w #[o] 0) a:=propext ⟨fun h=>zcF (zgB w o) rfl rfl rfl h,fun h=>zcF (zgB w o).symm rfl rfl rfl h⟩
@[go_sem] theorem zsQ (a w:World) (o:Obj) (os:Array Obj) (d:Nat):Ext a (more (w.alloc o) os d)=Ext a (more w (#[o]++os) 0):=propext ⟨fun h=>zd6 (zfl w o os d) rfl rfl rfl h,fun h=>zd6 (zfl w o os d).symm rfl rfl rfl h⟩
@[go_sem] theorem zsR (a w:World) (o:Obj) (os:Array Obj) (d:Nat):Ext (more (w.alloc o) os d) a=Ext (more w (#[o]++os) 0) a:=propext ⟨fun h=>zcF (zfl w o os d) rfl rfl rfl h,fun h=>zcF (zfl w o os d).symm rfl rfl rfl h⟩
theorem aM {P:Program} {f:FuncId} {ys:Array Value} {w:World} {v:Value} {Q:Ending→World→Prop} (h:Calls P f ys w fun e w'=>e = .returned v∧Ext w w') (k:∀ os d,Q (.returned v) (more w os d)):Calls P f ys w Q :=
 h.mono (by rintro e w' ⟨rfl,hb⟩;obtain ⟨os,d,rfl⟩:=hb.more;exact k os d)
abbrev Tl (P:Program) (f:FuncId) (ys:Array Value) (w:World) (v:Value):Prop:=Calls P f ys w fun e w'=>e = .returned v∧Ext w w'
theorem aI {b b' o o':Nat} (h:some (⟨b,o,none⟩:Addr)=some ⟨b',o',none⟩):b=b'∧o=o':=by simpa using h
@[go_sem] theorem zs5 {x y:Nat} (s:Nat) (h:x < y):(x < y+s)=True:=by simp only [eq_iff_iff,iff_true];omega
@[go_sem] theorem zs6 {x y:Nat} (s t:Nat) (h:x < y):(x < y+s+t)=True:=by simp only [eq_iff_iff,iff_true];omega
@[go_sem] theorem zs7 {x y:Nat} (s t u:Nat) (h:x < y):(x < y+s+t+u)=True:=by simp only [eq_iff_iff,iff_true];omega
@[go_sem] theorem zs8 {x y:Nat} (s t u v:Nat) (h:x < y):(x < y+s+t+u+v)=True:=by simp only [eq_iff_iff,iff_true];omega
@[go_sem] theorem zs9 {x y:Nat} (s t u v a:Nat) (h:x < y):(x < y+s+t+u+v+a)=True:=by simp only [eq_iff_iff,iff_true];omega
theorem zbo (w:World):more w #[] w.drawn=w:=by simp [more]
structure Val where
 kind:Int
 mant:Int
 exp:Int
 text:ByteArray
 truth:Bool
 fault:Int
 deriving DecidableEq
def eqV (x y:Val):Bool:=decide (x=y)
abbrev VV (k m e:Int) (t:ByteArray) (b:Bool) (f:Int):Value:=.agg #[.int .i64 k,.int .i64 m,.int .i64 e,.string t,.bool b,.int .i64 f]
abbrev NV (m e:Int):Value:=.agg #[.int .i64 m,.int .i64 e]
abbrev AV (r c:Int) (s:Value):Value:=.agg #[.int .i64 r,.int .i64 c,s]
def Val.zero:Val:=⟨0,0,0,⟨#[]⟩,false,0⟩
def I64 (n:Int):Prop:=-9223372036854775808≤n∧n≤9223372036854775807
def Val.ok (x:Val):Prop:=I64 x.kind∧I64 x.mant∧I64 x.exp∧x.text.size≤9223372036854775807∧I64 x.fault
instance :Inhabited Val:=⟨Val.zero⟩
def zen (w:World) (b o:Nat) (x:Val):Prop :=
 w.cell? ⟨b,o,none⟩=some (.int .i64 x.kind)∧w.cell? ⟨b,o+1,none⟩=some (.int .i64 x.mant)∧w.cell? ⟨b,o+2,none⟩=some (.int .i64 x.exp)∧w.cell? ⟨b,o+3,none⟩=some (.string x.text)∧w.cell? ⟨b,o+4,none⟩=some (.bool x.truth)∧w.cell? ⟨b,o+5,none⟩=some (.int .i64 x.fault)
theorem zen.ext {w w':World} {b o:Nat} {x:Val} (h:zen w b o x) (hb:Ext w w'):zen w' b o x :=
 ⟨hb.cell_some h.1,hb.cell_some h.2.1,hb.cell_some h.2.2.1,hb.cell_some h.2.2.2.1,hb.cell_some h.2.2.2.2.1,hb.cell_some h.2.2.2.2.2⟩
def Rd (base:Nat) (w:World) (A:Option Addr) (cs:List Value):Prop :=
 ∀ j u,cs[j]? = some u→∃ b off,A=some ⟨b,off,none⟩∧base≤b∧w.cell? ⟨b,off+j,none⟩=some u
section
variable {base base':Nat} {w w':World} {A:Option Addr} {cs:List Value}
theorem Rd.ext (h:Rd base w A cs) (hb:Ext w w'):Rd base w' A cs:=fun j u hu=>by
 obtain ⟨b,off,hA,hl,hv⟩:=h j u hu
 exact ⟨b,off,hA,hl,hb.cell_some hv⟩
theorem Rd.mono (h:Rd base w A cs) (hb:base'≤base):Rd base' w A cs:=fun j u hu=>by
 obtain ⟨b,off,hA,hl,hv⟩:=h j u hu
 exact ⟨b,off,hA,by omega,hv⟩
theorem Rd.nil (base:Nat) (w:World) (A:Option Addr):Rd base w A []:=fun j u hu=>by simp at hu
theorem Rd.add {a:Addr} (h:Rd base w (some a) cs):∀ j u,cs[j]? = some u→w.cell? (a.add j)=some u:=fun j u hu=>by
 obtain ⟨b,off,hA,_,hv⟩:=h j u hu
 obtain rfl:a=⟨b,off,none⟩:=by simpa using hA
 rw [Addr.add_mid];exact hv
theorem Rd.of_own {e:TypeId} {size n:Nat} {v:Value} (h:w.ownsRow base e size v n cs):∃ A c,v = .slice A n c∧Rd base w A cs∧n≤c:=by
 obtain ⟨h1,h2⟩:=id h
 rcases h2 with ⟨rfl,rfl⟩ | ⟨g,cap,cur,rfl,h3,h4,h5,h6,h7,h8⟩
 ·refine ⟨none,0,rfl,?_,Nat.le_refl _⟩
  have:cs=[]:=List.eq_nil_of_length_eq_zero (by simpa using h1)
  subst this
  exact Rd.nil _ _ _
 ·refine ⟨_,_,rfl,fun j u hu=>⟨g,0,rfl,h3,?_⟩,h5⟩
  have:=h.cells (g:=g) rfl j u hu
  rw [Addr.add_mid] at this
  exact this
theorem Rd.blocks (h:Rd base w A cs) (hb:∀ b,base≤b→w'.heap[b]? = w.heap[b]?):Rd base w' A cs:=fun j u hu=>by
 obtain ⟨b,off,hA,hl,hv⟩:=h j u hu
 exact ⟨b,off,hA,hl,(World.cell?_of_block (a:=⟨b,off+j,none⟩) (hb b hl)).trans hv⟩
theorem Rd.swap {X X':World} {os:Array Obj} {d d':Nat} (h:Rd base (more X os d) A cs) (hb:X.heap.size≤base) (hx:X'.heap.size=X.heap.size) (hb':base'≤base):Rd base' (more X' os d') A cs:=by
 refine Rd.mono (h.blocks fun b hl=>?_) hb'
 simp only [more]
 rw [Array.getElem?_append_right (by omega),Array.getElem?_append_right (by omega),hx]
theorem Rd.sw {X X':World} {os:Array Obj} {d d':Nat} (h:Rd base (more X os d) A cs) (k:X.heap.size≤base∧X'.heap.size=X.heap.size∧base'≤base):Rd base' (more X' os d') A cs:=h.swap k.1 k.2.1 k.2.2
end
def Val.cells (x:Val):List Value:=[.int .i64 x.kind,.int .i64 x.mant,.int .i64 x.exp,.string x.text,.bool x.truth,.int .i64 x.fault]
def zm (l:List Val):List Value:=l.flatMap Val.cells
theorem zmx:zm []=[]:=rfl
theorem zeP (x:Val) (l:List Val):zm (x::l)=x.cells++zm l:=by simp [zm]
theorem zar (l l':List Val):zm (l++l')=zm l++zm l':=by simp [zm]
theorem zaU:∀ l:List Val,(zm l).length=l.length * 6
 | []=>rfl
 | x::l=>by rw [zeP,List.length_append,zaU l];simp [Val.cells];omega
theorem zf3:∀ (l:List Val) (i:Nat) (x:Val),l[i]? = some x→∀ j,j < 6→(zm l)[i * 6+j]? = x.cells[j]?
 | [],i,x,h,j,hj=>by simp at h
 | y::l,0,x,h,j,hj=>by
  obtain rfl:y=x:=by simpa using h
  rw [zeP,List.getElem?_append_left (by simp [Val.cells];omega)]
  simp
 | y::l,i+1,x,h,j,hj=>by
  rw [zeP,List.getElem?_append_right (by simp [Val.cells];omega)]
  rw [show (i+1) * 6+j - y.cells.length=i * 6+j by simp [Val.cells];omega]
  exact zf3 l i x (by simpa using h) j hj
theorem zbB {l:List Val} : ∀ u∈zm l,u.oneCell'=true:=by
 intro u hu
 simp only [zm,List.mem_flatMap] at hu
 obtain ⟨x,_,hx⟩:=hu
 simp only [Val.cells,List.mem_cons,List.not_mem_nil,or_false] at hx
 rcases hx with rfl | rfl | rfl | rfl | rfl | rfl <;> rfl
def SlV (base:Nat) (w:World) (A:Option Addr) (l:List Val):Prop:=Rd base w A (zm l)
theorem SlV.ext {base:Nat} {w w':World} {A:Option Addr} {l:List Val} (h:SlV base w A l) (hb:Ext w w'):SlV base w' A l:=Rd.ext h hb
theorem SlV.nil (base:Nat) (w:World) (A:Option Addr):SlV base w A []:=Rd.nil base w A
theorem SlV.at {base:Nat} {w:World} {A:Option Addr} {l:List Val} (h:SlV base w A l) {i:Nat} {x:Val} (hx:l[i]? = some x):∃ b off,A=some ⟨b,off,none⟩∧base≤b∧zen w b (off+i * 6) x:=by
 have hc:∀ j,j < 6→(zm l)[i * 6+j]? = x.cells[j]?:=zf3 l i x hx
 obtain ⟨b,off,rfl,hl,h0⟩:=h (i * 6+0) (.int .i64 x.kind) (by rw [hc 0 (by omega)];rfl)
 refine ⟨b,off,rfl,hl,?_⟩
 have hg:∀ j u,j < 6→x.cells[j]? = some u→w.cell? ⟨b,off+i * 6+j,none⟩=some u:=fun j u hj hu=>by
  obtain ⟨b',off',he,_,h1⟩:=h (i * 6+j) u (by rw [hc j hj];exact hu)
  simp only [Option.some.injEq,Addr.mk.injEq,and_true] at he
  obtain ⟨rfl,rfl⟩:=he
  rw [← h1];congr 2;omega
 exact ⟨hg 0 _ (by omega) rfl,hg 1 _ (by omega) rfl,hg 2 _ (by omega) rfl,hg 3 _ (by omega) rfl,hg 4 _ (by omega) rfl,hg 5 _ (by omega) rfl⟩
theorem Ext.of_grown {w w':World} (h:w.grownBy w' none):Ext w w':=⟨h.os,h.tape,h.output,h.size,fun k hk=>h.block k hk (by simp)⟩
theorem zk9 {P:Program} (W:World) (t ty e:TypeId) (i:TypeInfo) (z:Value) (size bytes:Nat) (ht:P.underlying t=some (.slice e)) (hi:P.info? e=some i) (hz:i.zero=some z)
  (hsize:i.size=size) (hby:i.bytes=bytes) (hzs:z.cells.size=size) (hsz:0 < size)
  (A:Option Addr) (n cap:Nat) (olds:List Value) (hAn:A=none→n=0∧cap=0) (hlo:olds.length=n * size) (hA:Rd 0 W A olds)
  (B:Option Addr) (m c:Nat) (news:List Value) (hln:news.length=m * size) (hB:Rd 0 W B news) (h1:∀ u∈news,u.oneCell'=true)
  (hfull:cap < n+m) (hc:n≤cap) (b1:n+m≤maxLen) (b2:(n+m) * bytes≤140737488355328) :
  ∃ A' c' os d,(Builtin.append_ #[t,t] ty #[.slice A n cap,.slice B m c]).run P W = .ok (.slice A' (n+m) c') (more W os d)∧Rd W.heap.size (more W os d) A' (olds++news)∧n+m≤c':=by
 have hm:0 < m:=by omega
 have hpos:0 < news.length:=by rw [hln];exact Nat.mul_pos hm hsz
 obtain ⟨b,off,rfl,_,_⟩:=hB 0 news[0] (by simp [hpos])
 have key:∃ v' w',(Builtin.append_ #[t,t] ty #[.slice A n cap,.slice (some ⟨b,off,none⟩) m c]).run P W = .ok v' w'∧w'.ownsRow W.heap.size e size v' (n+m) (olds++news)∧W.grownBy w' none:=by
  cases A with
  | some a=>exact run_append_arg_grows (P:=P) W t ty e i z size bytes ht hi hz hsize hby hzs hsz a n cap olds hlo hA.add ⟨b,off,none⟩ m c news hln hB.add hfull b1 b2
  | none =>
   obtain ⟨rfl,rfl⟩:=hAn rfl
   obtain rfl:olds=[]:=List.eq_nil_of_length_eq_zero (by simpa using hlo)
   obtain ⟨v',w',hrun,r1,r2,_⟩:=run_append_own (P:=P) W W.heap.size t ty e i z size bytes ht hi hz hsize hby hzs hsz (.slice none 0 0) 0 [] (World.ownsRow_nil W _ e size) ⟨b,off,none⟩ m c news hln hB.add h1 b1 b2 (Nat.le_refl _)
   exact ⟨v',w',hrun,r1,r2⟩
 obtain ⟨v',w',hrun,hown,hg⟩:=key
 obtain ⟨A',c',rfl,hr,hc'⟩:=Rd.of_own hown
 obtain ⟨os,d,rfl⟩:=(Ext.of_grown hg).more
 exact ⟨A',c',os,d,hrun,hr,hc'⟩
theorem zeQ {P:Program} (W:World) (t ty e:TypeId) (i:TypeInfo) (ht:P.underlying t=some (.slice e)) (hi:P.info? e=some i)
  (A:Option Addr) (n cap:Nat) (B:Option Addr) (c:Nat) (hc:n≤cap):(Builtin.append_ #[t,t] ty #[.slice A n cap,.slice B 0 c]).run P W = .ok (.slice A n cap) W:=by
 cases A <;> cases B <;> simp [Builtin.append_,run_underlying ht,sizeOf,typeInfo,hi,Builtin.lenOf,Builtin.firstCells,hc,storeCells,loadCells,loadCellsFrom]
theorem zij {P:Program} (w:World) {o:Oper} {a:Act} {K:Act→World→Prop} {Q:Exit→Act→World→Prop} (s x:Operand) (t:TypeId)
  (ho:o.op = .call { callee:=.builtin .append,args:=#[s,x],argTypes:=#[t,t] })
  (e:TypeId) (i:TypeInfo) (z:Value) (size bytes:Nat) (ht:P.underlying t=some (.slice e)) (hi:P.info? e=some i) (hz:i.zero=some z)
  (hsize:i.size=size) (hby:i.bytes=bytes) (hzs:z.cells.size=size) (hsz:0 < size)
  (base:Nat) (A:Option Addr) (n:Nat) (olds:List Value) (hs:a.eval s = .slice A n n) (hAn:A=none→n=0) (hlo:olds.length=n * size) (hA:Rd base w A olds) (hbs:base≤w.heap.size)
  (B:Option Addr) (m c:Nat) (news:List Value) (hx:a.eval x = .slice B m c) (hln:news.length=m * size) (hB:Rd 0 w B news) (h1:∀ u∈news,u.oneCell'=true)
  (b1:n+m≤maxLen) (b2:(n+m) * bytes≤140737488355328)
  (h:∀ A' c' os d,Rd base (more w os d) A' (olds++news)→(A'=none→n+m=0)→n+m≤c'→K (a.put o.dst (.slice A' (n+m) c')) (more w os d)):o.wp P a w K Q:=by
 by_cases hm:m=0
 ·subst hm
  obtain rfl:news=[]:=List.eq_nil_of_length_eq_zero (by simpa using hln)
  have hr:=zeQ (P:=P) w t o.type e i ht hi A n n B c (Nat.le_refl _)
  unfold Oper.wp execOp
  simp only [ho,resolve,invoke,builtin,Sem.run_bind,Sem.run_pure,Result.andThen_ok,List.map_toArray,List.map_cons,List.map_nil,hs,hx,hr]
  have h':=h A n #[] w.drawn (by
   have:more w #[] w.drawn=w:=by simp [more]
   rw [this];simpa using hA) (fun h0=>by rw [hAn h0]) (Nat.le_refl _)
  have hw:more w #[] w.drawn=w:=by simp [more]
  rw [hw] at h'
  exact h'
 ·obtain ⟨A',c',os,d,hr,h2,h3⟩:=zk9 (P:=P) w t o.type e i z size bytes ht hi hz hsize hby hzs hsz A n n olds (fun h=>⟨hAn h,hAn h⟩) hlo (hA.mono (Nat.zero_le _)) B m c news hln hB h1 (by omega) (Nat.le_refl _) b1 b2
  unfold Oper.wp execOp
  simp only [ho,resolve,invoke,builtin,Sem.run_bind,Sem.run_pure,Result.andThen_ok,List.map_toArray,List.map_cons,List.map_nil,hs,hx,hr]
  refine h A' c' os d (h2.mono hbs) (fun h0=>?_) h3
  subst h0
  exfalso
  have hl:0 < (olds++news).length:=by rw [List.length_append,hln];have:0 < m * size:=Nat.mul_pos (by omega) hsz;omega
  obtain ⟨b,off,hb,_,_⟩:=h2 0 (olds++news)[0] (by simp)
  cases hb
theorem zbp {P:Program} (w:World) {ops:Array Oper} {rest:List Oper} {o:Oper} {a:Act} {Q:Exit→Act→World→Prop} (hgd:o.guard=none) (s x:Operand) (t:TypeId)
  (ho:o.op = .call { callee:=.builtin .append,args:=#[s,x],argTypes:=#[t,t] })
  (e:TypeId) (i:TypeInfo) (z:Value) (size bytes:Nat) (ht:P.underlying t=some (.slice e)) (hi:P.info? e=some i) (hz:i.zero=some z)
  (hsize:i.size=size) (hby:i.bytes=bytes) (hzs:z.cells.size=size) (hsz:0 < size)
  (base:Nat) (A:Option Addr) (n:Nat) (olds:List Value) (hs:a.eval s = .slice A n n) (hAn:A=none→n=0) (hlo:olds.length=n * size) (hA:Rd base w A olds) (hbs:base≤w.heap.size)
  (B:Option Addr) (m c:Nat) (news:List Value) (hx:a.eval x = .slice B m c) (hln:news.length=m * size) (hB:Rd 0 w B news) (h1:∀ u∈news,u.oneCell'=true)
  (b1:n+m≤maxLen) (b2:(n+m) * bytes≤140737488355328)
  (h:∀ A' c' os d,Rd base (more w os d) A' (olds++news)→(A'=none→n+m=0)→n+m≤c'→wpList P ops Q rest (a.put o.dst (.slice A' (n+m) c')) (more w os d)):wpList P ops Q (o::rest) a w :=
 wpList_plain hgd fun _ hK=>zij w s x t ho e i z size bytes ht hi hz hsize hby hzs hsz base A n olds hs hAn hlo hA hbs B m c news hx hln hB h1 b1 b2 fun A' c' os d h2 h3 h4=>hK _ _ (h A' c' os d h2 h3 h4)
theorem Rd.one (w : World) (u : Value) (t : TypeId) : Rd w.heap.size (w.alloc (.cells #[u] t)) (some ⟨w.heap.size, 0, none⟩) [u] := fun j v hv => by
  match j with
  | 0 => exact ⟨_, _, rfl, Nat.le_refl _, by obtain rfl : u = v := by simpa using hv
                                             rw [World.cell?_alloc_at _ _ _ _ rfl]; rfl⟩
  | j + 1 => simp at hv
theorem Rd.alloc {base:Nat} {w:World} {A:Option Addr} {cs:List Value} (h:Rd base w A cs) (o:Obj):Rd base (w.alloc o) A cs:=h.ext ((Ext.refl _).alloc o)
def SlI (base:Nat) (w:World) (A:Option Addr) (l:List Int):Prop:=Rd base w A (l.map (Value.int .i64))
theorem rt1 {P:Program} {fn:Func} {R:Ending→World→Prop} {a:Act} {w:World} {t:Nat} (h:fn.results = #[.tmp t]) (hd:a.defers=[]) (hR:R (.returned (a.tmps.getD t undef)) w):bodyPost P fn R .ret a w :=
 bodyPost_ret (by simp [results,h,go_sem];done) hd hR
theorem rt2 {P:Program} {fn:Func} {R:Ending→World→Prop} {a:Act} {w:World} {t s:Nat} (h:fn.results = #[.tmp t,.tmp s]) (hd:a.defers=[]) (hR:R (.returned (.tuple #[a.tmps.getD t undef,a.tmps.getD s undef])) w):bodyPost P fn R .ret a w :=
 bodyPost_ret (by simp [results,h,go_sem];done) hd hR
theorem rt0 {P:Program} {fn:Func} {R:Ending→World→Prop} {a:Act} {w:World} (h:fn.results = #[]) (hd:a.defers=[]) (hR:R (.returned (.tuple #[])) w):bodyPost P fn R .ret a w :=
 bodyPost_ret (by simp [results,h,go_sem];done) hd hR
theorem rt3 {P:Program} {fn:Func} {R:Ending→World→Prop} {a:Act} {w:World} {t s u:Nat} (h:fn.results = #[.tmp t,.tmp s,.tmp u]) (hd:a.defers=[]) (hR:R (.returned (.tuple #[a.tmps.getD t undef,a.tmps.getD s undef,a.tmps.getD u undef])) w):bodyPost P fn R .ret a w :=
 bodyPost_ret (by simp [results,h,go_sem];done) hd hR
theorem rc1 {P:Program} {fn:Func} {R:Ending→World→Prop} {a:Act} {w:World} {v:Value} {s:Tmp} {t:TypeId} (h:fn.results = #[.cell s t]) (hd:a.defers=[])
  (hl:(do loadVar t (← asAddr (a.tmps.getD s undef))).run P w = .ok v w) (hR:R (.returned v) w):bodyPost P fn R .ret a w :=
 bodyPost_ret (by simp [results,h,go_sem] at hl ⊢;simp [hl];done) hd hR
theorem rct {P:Program} {fn:Func} {R:Ending→World→Prop} {a:Act} {w:World} {v:Value} {s u:Tmp} {t:TypeId} (h:fn.results = #[.cell s t,.tmp u]) (hd:a.defers=[])
  (hl:(do loadVar t (← asAddr (a.tmps.getD s undef))).run P w = .ok v w) (hR:R (.returned (.tuple #[v,a.tmps.getD u undef])) w):bodyPost P fn R .ret a w :=
 bodyPost_ret (by
  have e:results fn a.tmps=(do loadVar t (← asAddr (a.tmps.getD s undef))) >>= fun v=>pure (.tuple #[v,a.tmps.getD u undef]):=by simp [results,h]
  rw [e,Sem.run_bind,hl];rfl) hd hR
theorem zq:(∀ (a:Act) (d:Tmp) (v:Value),a.put (some d) v = { a with tmps:=a.tmps.setIfInBounds d v })∧(∀ (a:Act) (v:Value),a.put none v=a)∧(∀ (l:List Value) (i:Nat) (a:Value),l.toArray.setIfInBounds i a=(l.set i a).toArray)∧(∀ (a b:Value) (l:List Value),(a::l).set 0 b=b::l)∧(∀ (a b:Value) (l:List Value) (n:Nat),(a::l).set (n+1) b=a::l.set n b) :=
 ⟨fun _ _ _=>rfl,fun _ _=>rfl,fun _ _ _=>List.setIfInBounds_toArray ..,fun _ _ _=>rfl,fun _ _ _ _=>rfl⟩
end Go.Proofs.YtkoidgbgoccgmaaGreatDoor
namespace Go.Proofs.YtkoidgbgoccgmaaGreatDoor
open Tryz
def cnt (n:Nat):Nat:=if n < 10 then 1 else cnt (n / 10)+1
theorem zf4 {n:Nat} (h:n < 10):cnt n=1:=by rw [cnt];simp [h]
theorem zf5 {n:Nat} (h:10≤n):cnt n=cnt (n / 10)+1:=by rw [cnt];simp [Nat.not_lt.2 h]
theorem zjH:∀ (k n:Nat),n < 10 ^ (k+1)→1≤cnt n∧cnt n≤k+1
 | 0,n,h=>by rw [zf4 (by simpa using h)];omega
 | k+1,n,h=>by
  by_cases hn:n < 10
  ·rw [zf4 hn];omega
  ·rw [zf5 (by omega)]
   have:=zjH k (n / 10) (by rw [Nat.pow_succ] at h;omega)
   omega
theorem zhv (n:Nat) (_h:n < 18446744073709551616):1≤cnt n∧cnt n≤20:=zjH 19 n (by omega)
def zeR (n:Nat):List Nat:=if _h:n=0 then [] else zeR (n / 10)++[n % 10]
theorem zeo:zeR 0=[]:=by rw [zeR];simp
theorem zhe {n:Nat} (h:n≠0):zeR n=zeR (n / 10)++[n % 10]:=by rw [zeR];simp [h]
theorem zeS:∀ (k n:Nat),n < 10 ^ k→n≠0→(zeR n).length=cnt n
 | 0,n,h,h0=>by simp at h;omega
 | k+1,n,h,h0=>by
  rw [zhe h0]
  by_cases hn:n < 10
  ·rw [zf4 hn,show n / 10=0 by omega,zeo];rfl
  ·rw [zf5 (by omega),List.length_append,zeS k (n / 10) (by rw [Nat.pow_succ] at h;omega) (by omega)]
   rfl
theorem zqE (q:Int) : -10 < q.tmod 10∧q.tmod 10 < 10∧10 * q.tdiv 10+q.tmod 10=q∧(q.tdiv 10).natAbs=q.natAbs / 10∧(q.tmod 10).natAbs=q.natAbs % 10∧(0≤q→0≤q.tmod 10) :=
 ⟨Int.lt_tmod_of_pos q (by omega),Int.tmod_lt_of_pos q (by omega),Int.mul_tdiv_add_tmod q 10,by rw [Int.natAbs_tdiv];rfl,by rw [Int.natAbs_tmod];rfl,fun h=>Int.tmod_nonneg 10 h⟩
theorem zgR (n:Nat) (h:n < 18446744073709551616):(zeR n).length≤20:=by
 by_cases h0:n=0
 ·subst h0;rw [zeo];simp
 ·rw [zeS 20 n (by omega) h0];exact (zhv n h).2
def zay (n:Int):List Int:=(zeR n.natAbs).map Int.ofNat
def zah (n:Int):Int:=if n < 0 then -n else n
theorem zep (n:Int):zah n=n.natAbs:=by unfold zah;split <;> omega
theorem zpa {n:Int} (h:I64 n):0≤zah n∧zah n≤9223372036854775808:=by unfold zah;obtain ⟨h1,h2⟩:=h;split <;> omega
def za0 (n:Int):Int:=cnt n.toNat
def zbZ (f:Int):Int:=if f < 1∨9 < f then 9 else f
def zcO (t:ByteArray):Val:=if 255 < t.size then ⟨4,0,0,⟨#[]⟩,false,2⟩ else ⟨2,0,0,t,false,0⟩
def zK (m e:Int):Bool :=
 if m=0 then e == 0 else
 if 1000000000000000≤zah m∨zah m % 10=0∨e < -40∨40≤e then false else decide (za0 (zah m)+e≤40)
def valRight (x:Val):Bool :=
 if x.kind=0 then eqV x Val.zero
 else if x.kind=1 then zK x.mant x.exp && eqV x ⟨1,x.mant,x.exp,⟨#[]⟩,false,0⟩
 else if x.kind=2 then eqV x (zcO x.text)
 else if x.kind=3 then eqV x ⟨3,0,0,⟨#[]⟩,x.truth,0⟩
 else if x.kind=4 then eqV x ⟨4,0,0,⟨#[]⟩,false,zbZ x.fault⟩
 else false
def zO (m e:Int):Bool :=
 if m=0 then e == 0 else
 if 1000000000000000≤m∨m ≤ -1000000000000000∨m.tmod 10=0∨e < -40∨40 < e then false else decide (za0 (zah m)+e≤40)
def refRight (x:Val):Bool :=
 if (x.kind≠1∧¬ (x.mant=0∧x.exp=0))∨(x.kind≠2∧x.text≠⟨#[]⟩)∨(x.kind≠3∧x.truth=true)∨(x.kind≠4∧x.fault≠0) then false
 else if x.kind=1 then zO x.mant x.exp
 else if x.kind=2 then decide (x.text.size≤255)
 else x.kind == 0 || x.kind == 3 || (x.kind == 4 && decide (1≤x.fault) && decide (x.fault≤9))
theorem zgS (m e:Int) (_:I64 m):zK m e=zO m e:=by
 unfold zK zO
 by_cases h0:m=0
 ·simp [h0]
 ·simp only [h0,if_false]
  have ht:m.tmod 10=0↔zah m % 10=0:=by
   rw [← Int.dvd_iff_tmod_eq_zero]
   unfold zah;split <;> omega
  by_cases h1:1000000000000000≤zah m
  ·rw [if_pos (Or.inl h1),if_pos (by unfold zah at h1;split at h1 <;> omega)]
  ·have h1':¬ 1000000000000000≤m∧¬ m ≤ -1000000000000000:=by unfold zah at h1;split at h1 <;> omega
   by_cases h2:zah m % 10=0
   ·rw [if_pos (Or.inr (Or.inl h2)),if_pos (by right;right;left;exact ht.2 h2)]
   ·by_cases h3:e < -40
    ·rw [if_pos (by omega),if_pos (by omega)]
    ·by_cases h4:40 < e
     ·rw [if_pos (by omega),if_pos (by omega)]
     ·rw [if_neg (show ¬ (1000000000000000≤m∨m ≤ -1000000000000000∨m.tmod 10=0∨e < -40∨40 < e) by omega)]
      by_cases h5:40≤e
      ·rw [if_pos (by omega)]
       have:1≤za0 (zah m):=by unfold za0;have:=(zjH 20 (zah m).toNat (by unfold zah at h1 ⊢;split <;> split at h1 <;> omega)).1;omega
       symm
       simp only [decide_eq_false_iff_not]
       omega
      ·rw [if_neg (by omega)]
theorem zhf (x:Val) (hx:x.ok):valRight x=refRight x:=by
 obtain ⟨k,m,e,t,b,f⟩:=x
 unfold valRight refRight
 simp only [eqV,Val.zero]
 by_cases h0:k=0
 ·subst h0
  by_cases h1:m=0 <;> by_cases h2:e=0 <;> by_cases h3:t=⟨#[]⟩ <;> cases b <;> by_cases h4:f=0 <;> simp [h1,h2,h3,h4]
 ·by_cases h1:k=1
  ·subst h1
   have:=zgS m e hx.2.1
   by_cases h3:t=⟨#[]⟩ <;> cases b <;> by_cases h4:f=0 <;> simp [h3,h4,this]
  ·by_cases h2:k=2
   ·subst h2
    by_cases h1:m=0 <;> by_cases h2:e=0 <;> cases b <;> by_cases h4:f=0 <;> by_cases h5:255 < t.size <;> simp [zcO,h1,h2,h4,h5] <;> omega
   ·by_cases h3:k=3
    ·subst h3
     by_cases h1:m=0 <;> by_cases h2:e=0 <;> by_cases h3:t=⟨#[]⟩ <;> cases b <;> by_cases h4:f=0 <;> simp [h1,h2,h3,h4]
    ·by_cases h4:k=4
     ·subst h4
      unfold zbZ
      by_cases h1:m=0 <;> by_cases h2:e=0 <;> by_cases h3:t=⟨#[]⟩ <;> cases b <;> by_cases h5:f < 1∨9 < f <;> simp [h1,h2,h3,h5] <;> (first | omega | (rw [Bool.eq_iff_iff];simp;omega))
     ·simp [h0,h1,h2,h3,h4]
end Go.Proofs.YtkoidgbgoccgmaaGreatDoor
namespace Go.Proofs.YtkoidgbgoccgmaaGreatDoor
open Tryz
open Go.RowKit
section
variable {P:Program} {ops:Array Oper} {Q:Exit→Act→World→Prop} {S:World→Prop} {tl:List Nat}
def zf6 (P:Program) (ops:Array Oper) (Q:Exit→Act→World→Prop) (S:World→Prop) (tl:List Nat):Nat→Array Bool→Act→World→Prop
 | 0,listed,a,w=>Region.ready .any ops listed=[]∧Q .normal a w
 | fuel+1,listed,a,w =>
  (Region.ready .any ops listed=[]→Q .normal a w) ∧
  ∀ i∈Region.ready .any ops listed,wpOp P ops Q i (fun a' w'=>(tl.contains i=false→S w')∧zf6 P ops Q S tl fuel (listed.setIfInBounds i true) a' w') a w
theorem zhw:∀ (fuel:Nat) (listed:Array Bool) (a:Act) (w:World),zf6 P ops Q S tl fuel listed a w→wpAny P .any ops Q fuel listed a w
 | 0,_,_,_,h=>h
 | fuel+1,_,_,_,h=>⟨h.1,fun i hi=>wpOp_mono (fun a' w' h'=>zhw fuel _ a' w' h'.2) (h.2 i hi)⟩
def zhx (ops:Array Oper) (tl:List Nat) (listed:Array Bool) (i:Nat):Prop :=
 ∀ j oj,ops[j]? = some oj→tl.contains j=true→listed.getD j true=false→∃ e∈oj.after,Region.binds .any e=true∧e.on=i
theorem zjI {i:Nat} {oi:Oper} {v:Value} (hi:ops[i]? = some oi) (hsel:∀ (j:Nat) (o:Oper) cs b,ops[j]? = some o→o.op ≠ .select cs b)
  (hti:tl.contains i=false) (hQ:∀ c a w,Q (.panic c) (a.put oi.dst v) w→Q (.panic c) a w) :
  ∀ (fuel:Nat) (listed:Array Bool) (a:Act) (w:World),
   (∀ j oj,ops[j]? = some oj→j≠i→listed.getD j true=false→(∀ e∈oj.after,Region.binds .any e=true→e.on≠i)→oi.apart ops oj=true) →
   zhx ops tl listed i →
   i∈Region.ready .any ops listed→YieldsIf P ops S oi v a→S w →
   zf6 P ops Q S tl fuel (listed.setIfInBounds i true) (a.put oi.dst v) w→zf6 P ops Q S tl (fuel+1) listed a w:=by
 intro fuel
 induction fuel with
 | zero =>
  intro listed a w _ _ hr hy hS H
  refine ⟨fun h=>(by rw [h] at hr;cases hr),fun j hj=>?_⟩
  by_cases hji:j=i
  ·subst hji;exact hy.wpOp hi hS ⟨fun _=>hS,H⟩
  ·have:=ready_mono hj hji
   rw [H.1] at this
   cases this
 | succ fuel ih =>
  intro listed a w hfree hwt hr hy hS H
  refine ⟨fun h=>(by rw [h] at hr;cases hr),fun j hj=>?_⟩
  by_cases hji:j=i
  ·subst hji;exact hy.wpOp hi hS ⟨fun _=>hS,H⟩
  ·have h1:=H.2 j (ready_mono hj hji)
   obtain ⟨hjun,oj,hoj,hall⟩:=mem_ready.1 hj
   have hnot:∀ e∈oj.after,Region.binds .any e=true→e.on≠i:=fun e he hb heq=>by
    have h1:=hall e he hb
    have h0:=(mem_ready.1 hr).1
    rw [heq] at h1
    rcases Nat.lt_or_ge i listed.size with h' | h'
    ·simp [h'] at h0 h1;rw [h0] at h1;cases h1
    ·simp [Array.getElem?_eq_none h'] at h1
   have htj:tl.contains j=false:=by
    cases hc:tl.contains j with
    | false=>rfl
    | true =>
     obtain ⟨e,he,hb,ho⟩:=hwt j oj hoj hc hjun
     exact absurd ho (hnot e he hb)
   have h2:=wpOp_putIf hoj (hfree j oj hoj hji hjun hnot) (fun cs b=>hsel i oi cs b hi) (fun cs b=>hsel j oj cs b hoj) hQ hy h1
   have hfree':∀ k ok,ops[k]? = some ok→k≠i→(listed.setIfInBounds j true).getD k true=false →
     (∀ e∈ok.after,Region.binds .any e=true→e.on≠i)→oi.apart ops ok=true:=fun k ok hk hki hun hno=>by
    refine hfree k ok hk hki ?_ hno
    by_cases hjk:j=k
    ·subst hjk;exact hjun
    ·rw [getD_set_ne true hjk] at hun;exact hun
   have hwt':zhx ops tl (listed.setIfInBounds j true) i:=fun k ok hk htk hun=>by
    refine hwt k ok hk htk ?_
    by_cases hjk:j=k
    ·subst hjk;exact hjun
    ·rw [getD_set_ne true hjk] at hun;exact hun
   refine wpOp_mono (fun a' w' h3=>⟨h3.2.1,ih (listed.setIfInBounds j true) a' w' hfree' hwt' (ready_mono hr (Ne.symm hji)) h3.1 (h3.2.1 htj) ?_⟩) h2
   rw [Array.setIfInBounds_comm _ _ hji]
   exact h3.2.2
def zbC (P:Program) (ops:Array Oper) (Q:Exit→Act→World→Prop) (S:World→Prop):List (Nat×Nat)→Act→World→Prop
 | [],a,w=>Q .normal a w
 | (i,0)::rest,a,w=>∃ o v,ops[i]? = some o∧YieldsIf P ops S o v a∧zbC P ops Q S rest (a.put o.dst v) w
 | (i,k+1)::rest,a,w=>wpOp P ops Q i (fun a' w'=>(k=0→S w')∧zbC P ops Q S rest a' w') a w
def zdC (ops:Array Oper) (tl:List Nat):Array Bool→List (Nat×Nat)→Bool
 | listed,[]=>(Region.ready .any ops listed).isEmpty
 | listed,(i,0)::rest=>Region.free .any ops listed i && (Region.ready .any ops listed).contains i && !tl.contains i &&
   tl.all (fun j=>listed.getD j true || match ops[j]? with | some oj=>oj.after.any (fun e=>Region.binds .any e && e.on == i) | none=>true) && zdC ops tl (listed.setIfInBounds i true) rest
 | listed,(i,k+1)::rest=>(Region.ready .any ops listed == [i]) && (tl.contains i == (k != 0)) && (k == 0 || rest.all (fun x=>x.2 != 0)) && zdC ops tl (listed.setIfInBounds i true) rest
theorem zfm (hsel:Region.noSelect ops=true) (hQ:∀ c a d v w,Q (.panic c) (a.put d v) w→Q (.panic c) a w) :
  ∀ (pl:List (Nat×Nat)) (listed:Array Bool) (a:Act) (w:World),zdC ops tl listed pl=true→(S w∨∀ x∈pl,x.2≠0)→zbC P ops Q S pl a w→zf6 P ops Q S tl pl.length listed a w
 | [],listed,a,w,ho,_,h=>⟨by simpa [zdC] using ho,h⟩
 | (i,0)::rest,listed,a,w,ho,hS,h=>by
  obtain ⟨o,v,hi,hy,h⟩:=h
  simp only [zdC,Bool.and_eq_true] at ho
  obtain ⟨⟨⟨⟨h1,h2⟩,h3⟩,h4⟩,h5⟩:=ho
  have hSw:S w:=by
   rcases hS with hS | hS
   ·exact hS
   ·exact absurd rfl (hS (i,0) (by simp))
  refine zjI hi (Region.noSelect_spec hsel) (by simpa using h3) (fun c a w=>hQ c a _ _ w) _ _ _ _ (Region.free_spec hi h1) ?_ (by simpa using h2) hy hSw
   (zfm hsel hQ rest _ _ _ h5 (.inl hSw) h)
  intro j oj hj htj hun
  have h6:=List.all_eq_true.1 h4 j (by simpa using htj)
  rw [hj] at h6
  simp only [hun,Bool.false_or] at h6
  obtain ⟨e,he,hb⟩:=Array.any_eq_true'.1 h6
  simp only [Bool.and_eq_true,beq_iff_eq] at hb
  exact ⟨e,he,hb⟩
 | (i,k+1)::rest,listed,a,w,ho,hS,h=>by
  simp only [zdC,Bool.and_eq_true,beq_iff_eq] at ho
  obtain ⟨⟨⟨h1,h2⟩,h4⟩,h3⟩:=ho
  refine ⟨fun h0=>(by rw [h1] at h0;cases h0),fun j hj=>?_⟩
  rw [h1] at hj
  obtain rfl:j=i:=by simpa using hj
  have hk0:tl.contains j=false→k=0:=fun ht=>by
   rw [ht] at h2
   simpa using h2
  refine wpOp_mono (fun a' w' h'=>⟨fun ht=>h'.1 (hk0 ht),?_⟩) h
  ·refine zfm hsel hQ rest _ _ _ h3 ?_ h'.2
   by_cases hk:k=0
   ·exact .inl (h'.1 hk)
   ·refine .inr fun x hx=>?_
    simp only [hk,Bool.or_eq_true,beq_iff_eq,false_or,List.all_eq_true] at h4
    simpa using h4 x hx
theorem zcj {id:Nat} {a:Act} {w:World} (pl:List (Nat×Nat)) (tl:List Nat) (hm:P.follows .mixedOrders=true) (hsel:Region.noSelect ops=true) (hok:(zdC ops tl (Array.replicate ops.size false) pl && pl.length == ops.size)=true)
  (hQ:∀ c a d v w,Q (.panic c) (a.put d v) w→Q (.panic c) a w) (hS:S w.drew) (h:zbC P ops Q S pl a w.drew):(Code.region id ops true).wp P Q a w:=by
 simp only [Bool.and_eq_true,beq_iff_eq] at hok
 refine wp_region_any hm (zhw (S:=S) (tl:=tl) _ _ _ _ ?_)
 have h1:=zfm (P:=P) (Q:=Q) (S:=S) hsel hQ pl _ a w.drew hok.1 (.inl hS) h
 rw [hok.2] at h1
 exact h1
variable {a:Act} {w:World} {i:Nat} {rest:List (Nat×Nat)} {o:Oper}
theorem zr {v:Value} (hi:ops.toList[i]? = some o) (hw:Region.wanted o (yielded ops a.tmps)=true) (h:∀ w,S w→(execOp a.eval o).run P w = .ok (.value v) w) (k:zbC P ops Q S rest (a.put o.dst v) w) :
  zbC P ops Q S ((i,0)::rest) a w:=⟨o,v,by simpa using hi,.inl ⟨hw,h⟩,k⟩
theorem rdP {W0:World} {v:Value} (hi:ops.toList[i]? = some o) (hw:Region.wanted o (yielded ops a.tmps)=true) (h:∀ os d,(execOp a.eval o).run P (more W0 os d) = .ok (.value v) (more W0 os d)) (k:zbC P ops Q (Ext W0) rest (a.put o.dst v) w) :
  zbC P ops Q (Ext W0) ((i,0)::rest) a w:=zr hi hw (fun w1 h1=>by obtain ⟨os,d,rfl⟩:=h1.more;exact h os d) k
theorem plP {id:Nat} (pl:List (Nat×Nat)) (tl:List Nat) (h1:(P.follows .mixedOrders && Region.noSelect ops && (zdC ops tl (Array.replicate ops.size false) pl && pl.length == ops.size))=true)
  (hQ:∀ c a d v w,Q (.panic c) (a.put d v) w→Q (.panic c) a w) (h:zbC P ops Q (Ext w) pl a w.drew):(Code.region id ops true).wp P Q a w:=by
 simp only [Bool.and_eq_true] at h1
 exact zcj (S:=Ext w) pl tl h1.1.1 h1.1.2 (by simpa only [Bool.and_eq_true] using h1.2) hQ (Ext.drew (Ext.refl _)) h
theorem z8 (hi:ops.toList[i]? = some o) (hw:Region.wanted o (yielded ops a.tmps)=false) (k:zbC P ops Q S rest (a.put o.dst undef) w) :
  zbC P ops Q S ((i,0)::rest) a w:=⟨o,undef,by simpa using hi,.inr ⟨hw,rfl⟩,k⟩
theorem zh (hi:ops.toList[i]? = some o) (hw:Region.wanted o (yielded ops a.tmps)=true) (h:∀ K:Act→World→Prop,(∀ a' w',S w'→zbC P ops Q S rest a' w'→K a' w')→o.wp P a w K Q) :
  zbC P ops Q S ((i,1)::rest) a w:=by
 have hi':ops[i]? = some o:=by simpa using hi
 show wpOp _ _ _ _ _ _ _
 unfold wpOp
 simp only [hi',hw,if_true]
 exact .inl (h _ fun a' w' hs hk=>⟨fun _=>hs,hk⟩)
theorem za8 (hi:ops.toList[i]? = some o) (hw:Region.wanted o (yielded ops a.tmps)=false) (hs:S w) (k:zbC P ops Q S rest (a.put o.dst undef) w) :
  zbC P ops Q S ((i,1)::rest) a w:=by
 have hi':ops[i]? = some o:=by simpa using hi
 show wpOp _ _ _ _ _ _ _
 unfold wpOp
 simp only [hi',hw,Bool.false_eq_true,if_false]
 exact ⟨fun _=>hs,k⟩
theorem zaa (hi:ops.toList[i]? = some o) (hw:Region.wanted o (yielded ops a.tmps)=true) (h:∀ K:Act→World→Prop,(∀ a' w',zbC P ops Q S rest a' w'→K a' w')→o.wp P a w K Q) :
  zbC P ops Q S ((i,2)::rest) a w:=by
 have hi':ops[i]? = some o:=by simpa using hi
 show wpOp _ _ _ _ _ _ _
 unfold wpOp
 simp only [hi',hw,if_true]
 exact .inl (h _ fun a' w' hk=>⟨fun h=>(by cases h),hk⟩)
theorem zj (h:Q .normal a w):zbC P ops Q S [] a w:=h
theorem zbj {rest:List Oper} {v:Value} (hg:o.guard=none) (h:(execOp a.eval o).run P w = .ok (.value v) w) (k:wpList P ops Q rest (a.put o.dst v) w):wpList P ops Q (o::rest) a w:=by
 unfold wpList
 rw [if_pos (by simp [Region.wanted,hg])]
 exact .inl (by unfold Oper.wp;rw [h];exact k)
def gv (c:Bool) (v:Value):Value:=if c then v else undef
@[go_sem] theorem zsS (v:Value):gv true v=v:=rfl
@[go_sem] theorem zsH (v:Value):gv false v=undef:=rfl
theorem zn {c:Bool} (h:c=true) (v:Value):gv c v=v:=by rw [h];rfl
theorem zx {c b:Bool} (h:(c && b)=true):c=true:=by cases c <;> simp_all
theorem zjJ {x y z:Operand} {g:Bool} (ho:o.op = .pick x y z) (hx:a.eval x = .bool g):(execOp a.eval o).run P w = .ok (.value (if g then a.eval y else a.eval z)) w:=by
 unfold execOp
 simp only [ho,hx]
 cases g <;> rfl
theorem zd7 {x y z:Operand} {g p:Bool} (ho:o.op = .pick x y z) (hx:a.eval x = .bool g) (hy:a.eval y=gv g (.bool p)) (hz:a.eval z = .bool false):(execOp a.eval o).run P w = .ok (.value (.bool (g && p))) w:=by
 rw [zjJ ho hx,hy,hz];cases g <;> rfl
theorem zeT {x y z:Operand} {g p:Bool} (ho:o.op = .pick x y z) (hx:a.eval x = .bool g) (hy:a.eval y = .bool true) (hz:a.eval z=gv (!g) (.bool p)):(execOp a.eval o).run P w = .ok (.value (.bool (g || p))) w:=by
 rw [zjJ ho hx,hy,hz];cases g <;> rfl
theorem zjs {x y z:Operand} {c g p:Bool} (hc:c=true) (ho:o.op = .pick x y z) (hx:a.eval x=gv c (.bool g)) (hy:a.eval y=gv (c && g) (.bool p)) (hz:a.eval z = .bool false):(execOp a.eval o).run P w = .ok (.value (.bool (g && p))) w:=by
 subst hc
 exact zd7 ho hx hy hz
theorem zjK {x y z:Operand} {c g p:Bool} (hc:c=true) (ho:o.op = .pick x y z) (hx:a.eval x=gv c (.bool g)) (hy:a.eval y = .bool true) (hz:a.eval z=gv (c && !g) (.bool p)):(execOp a.eval o).run P w = .ok (.value (.bool (g || p))) w:=by
 subst hc
 exact zeT ho hx hy hz
def yv:Value→Option Bool
 | .bool b=>some b
 | _=>none
theorem ziN {j t:Nat} {want:Bool} {f:Value} (hg:o.guard=some (j,want)) (hd:(ops.toList[j]?).bind (·.dst)=some t) (ht:a.tmps.toList[t]? = some f):Region.wanted o (yielded ops a.tmps)=(yv f == some want):=by
 have hd':(ops[j]?).bind (·.dst)=some t:=by simpa using hd
 have ht':a.tmps[t]? = some f:=by simpa using ht
 simp only [Region.wanted,hg,yielded,hd',Option.bind_some,ht']
 cases f <;> rfl
theorem zak (b:Bool):(yv (.bool b) == some true)=b:=by cases b <;> rfl
theorem zal (b:Bool):(yv (.bool b) == some false) = !b:=by cases b <;> rfl
theorem zQ (c b:Bool):(yv (gv c (.bool b)) == some true)=(c && b):=by cases b <;> cases c <;> rfl
theorem zR (c b:Bool):(yv (gv c (.bool b)) == some false)=(c && !b):=by cases b <;> cases c <;> rfl
theorem za1 {rest:List Oper} {v f:Value} {c:Bool} {j t:Nat} {want:Bool} (hg:o.guard=some (j,want)) (hd:(ops.toList[j]?).bind (·.dst)=some t) (ht:a.tmps.toList[t]? = some f)
  (hc:(yv f == some want)=c) (h:c=true→(execOp a.eval o).run P w = .ok (.value v) w) (k:wpList P ops Q rest (a.put o.dst (gv c v)) w):wpList P ops Q (o::rest) a w:=by
 rw [← ziN hg hd ht] at hc
 unfold wpList
 cases c
 ·rw [if_neg (by simp [hc])]
  exact k
 ·rw [if_pos hc]
  exact .inl (by unfold Oper.wp;rw [h rfl];exact k)
theorem zS {v f:Value} {c:Bool} {j t:Nat} {want:Bool} (hi:ops.toList[i]? = some o) (hg:o.guard=some (j,want)) (hd:(ops.toList[j]?).bind (·.dst)=some t) (ht:a.tmps.toList[t]? = some f)
  (hc:(yv f == some want)=c) (h:c=true→∀ w,S w→(execOp a.eval o).run P w = .ok (.value v) w) (k:zbC P ops Q S rest (a.put o.dst (gv c v)) w) :
  zbC P ops Q S ((i,0)::rest) a w:=by
 rw [← ziN hg hd ht] at hc
 cases c
 ·exact ⟨o,undef,by simpa using hi,.inr ⟨hc,rfl⟩,k⟩
 ·exact ⟨o,v,by simpa using hi,.inl ⟨hc,h rfl⟩,k⟩
section picks
variable {rest:List Oper} {x y z:Operand} {c g p:Bool} {j t:Nat} {want:Bool} {f:Value}
theorem zas (hg:o.guard=none) (ho:o.op = .pick x y z) (hx:a.eval x = .bool g) (hy:a.eval y=gv g (.bool p)) (hz:a.eval z = .bool false) (k:wpList P ops Q rest (a.put o.dst (.bool (g && p))) w):wpList P ops Q (o::rest) a w :=
 zbj hg (zd7 ho hx hy hz) k
theorem zaC (hg:o.guard=none) (ho:o.op = .pick x y z) (hx:a.eval x = .bool g) (hy:a.eval y = .bool true) (hz:a.eval z=gv (!g) (.bool p)) (k:wpList P ops Q rest (a.put o.dst (.bool (g || p))) w):wpList P ops Q (o::rest) a w :=
 zbj hg (zeT ho hx hy hz) k
theorem zch (hg:o.guard=some (j,want)) (hd:(ops.toList[j]?).bind (·.dst)=some t) (ht:a.tmps.toList[t]? = some f) (ho:o.op = .pick x y z) (hx:a.eval x=gv c (.bool g)) (hy:a.eval y=gv (c && g) (.bool p)) (hz:a.eval z = .bool false)
  (hc:(yv f == some want)=c) (k:wpList P ops Q rest (a.put o.dst (gv c (.bool (g && p)))) w):wpList P ops Q (o::rest) a w :=
 za1 hg hd ht hc (fun h=>zjs h ho hx hy hz) k
theorem zcq (hg:o.guard=some (j,want)) (hd:(ops.toList[j]?).bind (·.dst)=some t) (ht:a.tmps.toList[t]? = some f) (ho:o.op = .pick x y z) (hx:a.eval x=gv c (.bool g)) (hy:a.eval y = .bool true) (hz:a.eval z=gv (c && !g) (.bool p))
  (hc:(yv f == some want)=c) (k:wpList P ops Q rest (a.put o.dst (gv c (.bool (g || p)))) w):wpList P ops Q (o::rest) a w :=
 za1 hg hd ht hc (fun h=>zjK h ho hx hy hz) k
end picks
section picks
variable {x y z:Operand} {c g p:Bool} {j t:Nat} {want:Bool} {f:Value}
theorem zat (hi:ops.toList[i]? = some o) (hg:o.guard=none) (ho:o.op = .pick x y z) (hx:a.eval x = .bool g) (hy:a.eval y=gv g (.bool p)) (hz:a.eval z = .bool false) (k:zbC P ops Q S rest (a.put o.dst (.bool (g && p))) w):zbC P ops Q S ((i,0)::rest) a w :=
 zr hi (by simp [Region.wanted,hg]) (fun _ _=>zd7 ho hx hy hz) k
theorem zaz (hi:ops.toList[i]? = some o) (hg:o.guard=none) (ho:o.op = .pick x y z) (hx:a.eval x = .bool g) (hy:a.eval y = .bool true) (hz:a.eval z=gv (!g) (.bool p)) (k:zbC P ops Q S rest (a.put o.dst (.bool (g || p))) w):zbC P ops Q S ((i,0)::rest) a w :=
 zr hi (by simp [Region.wanted,hg]) (fun _ _=>zeT ho hx hy hz) k
end picks
end
theorem zik {k:IntKind} {a b:Int} (h:a=b):Ending.returned (.int k a) = .returned (.int k b):=by rw [h]
theorem zaK {a b:Bool} (h:a=b):Ending.returned (.bool a) = .returned (.bool b):=by rw [h]
theorem zcP (n:Int) (w:World) (h:I64 n) :
  Calls prog 126 #[.int .i64 n] w fun e w'=>e = .returned (.int .u64 (zah n))∧w=w':=by
 obtain ⟨h1,h2⟩:=h
 by_cases hn:n < 0
 ·go_enter func126,ntmps126
  go_wp2
  go_ret
  refine ⟨zik ?_,rfl⟩
  simp only [zah,hn,if_true,IntKind.wrap_u64]
  omega
 ·go_enter func126,ntmps126
  go_wp2
  go_ret
  refine ⟨zik ?_,rfl⟩
  simp only [zah];rw [if_neg (by omega)]
theorem ziO (n:Int) (w:World) (h:0≤n) (h':n < 18446744073709551616) :
  Calls prog 150 #[.int .u64 n] w fun e w'=>e = .returned (.int .i64 (za0 n))∧w=w':=by
 obtain ⟨n,rfl⟩:=Int.eq_ofNat_of_zero_le h
 have hb:=zhv n (by omega)
 have hc:za0 (n:Int)=cnt n:=by simp [za0]
 rw [hc]
 clear hc
 have HL:Hid (n < 18446744073709551616):=by show _ < _;omega
 clear h h'
 generalize hN:cnt n=N at *
 have HN:=Lib.hid hN
 clear hN
 go_enter func150,ntmps150
 go_wp2
 go_loop [0,3] (fun a d=>∃ q c:Nat,Hid (q < 18446744073709551616)∧c≤20∧a = .int .u64 q∧d = .int .i64 c∧Hid (c+cnt q=1+N)) (fun a _=>(intOf a).toNat)
 case atStart=>exact ⟨n,1,HL,by omega,rfl,rfl,by show _=_;rw [HN.out]⟩
 case round =>
  obtain ⟨q,c,hq,hc,rfl,rfl,H⟩:=hrel
  by_cases hlt:10≤q
  ·have h1:=zhv (q / 10) (by have:=hq.out;omega)
   have h2:c+1≤20:=by have:=H.out;rw [zf5 hlt] at this;omega
   have e1:IntKind.u64.wrap ((q:Int) / 10)=(q:Int) / 10:=by rw [IntKind.wrap_u64];have:=hq.out;omega
   go_wp2
   go_round
   case rel=>exact ⟨q / 10,c+1,by show _ < _;have:=hq.out;omega,by omega,by go_num,by go_num,by show _=_;have:=H.out;rw [zf5 hlt] at this;omega⟩
   case measure=>simp [intOf];omega
  ·have h2:c=N:=by have:=H.out;rw [zf4 (by omega)] at this;omega
   subst h2
   go_wp2
   go_ret
   exact ⟨rfl,rfl⟩
theorem zc5 (m ex:Int) (w:World) (h:I64 m) :
  Tl prog 108 #[NV m ex] w (.bool (zK m ex)):=by
 have hs:=zpa h
 have hc':1≤za0 (zah m)∧za0 (zah m)≤20:=by have hc:=zhv (zah m).toNat (by omega);unfold za0;omega
 by_cases h0:m=0
 ·have e:zK m ex=(ex == 0):=by simp [zK,h0]
  rw [e]
  have h0:(m == 0)=true:=by simp [h0]
  go_enter func108,ntmps108
  go_wp2
  go_ret
  exact ⟨rfl,by simp [go_sem]⟩
 ·have h0':(m == 0)=false:=by simp [h0]
  by_cases h1:1000000000000000≤zah m
  ·have e:zK m ex=false:=by simp [zK,h0,h1]
   rw [e];clear h0 e
   go_enter func108,ntmps108;go_wp2_with (go_at_call 126;refine (zcP _ _ h).mono ?_;rintro e w' ⟨rfl,rfl⟩);go_ret;exact ⟨rfl,by simp [go_sem]⟩
  ·by_cases h2:zah m % 10=0
   ·have e:zK m ex=false:=by simp [zK,h0,h1,h2]
    rw [e];clear h0 e
    have h2:(zah m % 10 == 0)=true:=by simp [h2]
    go_enter func108,ntmps108;go_wp2_with (go_at_call 126;refine (zcP _ _ h).mono ?_;rintro e w' ⟨rfl,rfl⟩);go_ret;exact ⟨rfl,by simp [go_sem]⟩
   ·have h2':(zah m % 10 == 0)=false:=by simp [h2]
    by_cases h3:ex < -40
    ·have e:zK m ex=false:=by simp [zK,h0,h1,h2,h3]
     rw [e];clear h0 h2 e
     go_enter func108,ntmps108;go_wp2_with (go_at_call 126;refine (zcP _ _ h).mono ?_;rintro e w' ⟨rfl,rfl⟩);go_ret;exact ⟨rfl,by simp [go_sem]⟩
    ·by_cases h4:40≤ex
     ·have e:zK m ex=false:=by simp [zK,h0,h1,h2,h3,h4]
      rw [e];clear h0 h2 e
      go_enter func108,ntmps108;go_wp2_with (go_at_call 126;refine (zcP _ _ h).mono ?_;rintro e w' ⟨rfl,rfl⟩);go_ret;exact ⟨rfl,by simp [go_sem]⟩
     ·have e:zK m ex=decide (za0 (zah m)+ex≤40):=by simp [zK,h0,h1,h2,h3,h4]
      rw [e];clear h0 h2 e
      have hw:IntKind.i64.wrap (za0 (zah m)+ex)=za0 (zah m)+ex:=by rw [IntKind.wrap_i64];omega
      go_enter func108,ntmps108
      go_wp2_with (go_at_call 126;refine (zcP _ _ h).mono ?_;rintro e w' ⟨rfl,rfl⟩)
      go_region_held3 (fun w'=>w'.cell? ⟨w.heap.size,1,none⟩=some (.int .i64 ex)) (go_keep) (first | (go_at_call 150;refine (ziO _ _ (by omega) (by omega)).mono ?_;rintro e w' ⟨rfl,rfl⟩))
      go_wp2
      go_ret
      exact ⟨rfl,by simp [go_sem]⟩
end Go.Proofs.YtkoidgbgoccgmaaGreatDoor
namespace Go.Proofs.YtkoidgbgoccgmaaGreatDoor.NM
abbrev T (n:Nat):Nat:=10 ^ n
theorem T_pos (n:Nat):0 < T n:=Nat.pow_pos (by decide)
theorem T_succ (n:Nat):T (n+1)=10 * T n:=by simp only [T,Nat.pow_succ];omega
theorem T_add (m n:Nat):T (m+n)=T m * T n:=Nat.pow_add 10 m n
theorem T_mono {m n:Nat} (h:m≤n):T m≤T n:=Nat.pow_le_pow_right (by decide) h
theorem T_lt {m n:Nat} (h:m < n):T m < T n:=Nat.pow_lt_pow_right (by decide) h
def nd (n:Nat):Nat:=if h:n=0 then 0 else nd (n / 10)+1
 termination_by n
 decreasing_by omega
theorem nd_zero:nd 0=0:=by unfold nd;simp
theorem nd_pos {n:Nat} (h:n≠0):nd n=nd (n / 10)+1:=by rw [nd];simp [h]
theorem lt_T_nd (n:Nat):n < T (nd n):=by
 induction n using Nat.strongRecOn with
 | ind n ih =>
  by_cases h:n=0
  ·subst h;simp [nd_zero]
  ·rw [nd_pos h,T_succ];have:=ih (n / 10) (by omega);omega
theorem T_le_of_nd {n:Nat} (h:n≠0):T (nd n - 1)≤n:=by
 induction n using Nat.strongRecOn with
 | ind n ih =>
  rw [nd_pos h]
  by_cases h1:n / 10=0
  ·rw [h1,nd_zero];simp;omega
  ·have:=ih (n / 10) (by omega) h1
   have h2:nd (n / 10)=nd (n / 10) - 1+1:=by rw [nd_pos h1];omega
   rw [Nat.add_sub_cancel,h2,T_succ];omega
theorem nd_le_iff (n k:Nat):nd n≤k↔n < T k:=by
 constructor
 ·intro h;exact Nat.lt_of_lt_of_le (lt_T_nd n) (T_mono h)
 ·intro h
  by_cases h0:n=0
  ·subst h0;rw [nd_zero];omega
  ·have h1:=T_le_of_nd h0
   rcases Nat.lt_or_ge k (nd n) with h2 | h2
   ·have:=T_mono (show k≤nd n - 1 by omega);omega
   ·exact h2
theorem lt_nd_iff (n k:Nat):k < nd n↔T k≤n:=by
 have:=nd_le_iff n k;omega
theorem nd_eq {n k:Nat} (h1:T k≤n) (h2:n < T (k+1)):nd n=k+1:=by
 have a:=(lt_nd_iff n k).2 h1
 have b:=(nd_le_iff n (k+1)).2 h2
 omega
theorem nd_eq_zero {n:Nat} : nd n=0↔n=0:=by
 constructor
 ·intro h;have:=lt_T_nd n;rw [h] at this;simpa using this
 ·rintro rfl;exact nd_zero
theorem nd_mul_T {n:Nat} (k:Nat) (h:n≠0):nd (n * T k)=nd n+k:=by
 have h1:0 < nd n:=Nat.pos_of_ne_zero fun hh=>h (nd_eq_zero.1 hh)
 have h2:nd n+k=(nd n - 1+k)+1:=by omega
 rw [h2]
 apply nd_eq
 ·rw [T_add];exact Nat.mul_le_mul_right _ (T_le_of_nd h)
 ·rw [show nd n - 1+k+1=nd n+k by omega,T_add];exact Nat.mul_lt_mul_of_pos_right (lt_T_nd n) (T_pos k)
theorem nd_T (k:Nat):nd (T k)=k+1:=nd_eq (Nat.le_refl _) (T_lt (Nat.lt_succ_self k))
theorem ite_iff {α:Type} {p q:Prop} [Decidable p] [Decidable q] (a b:α) (h:p↔q):(if p then a else b)=if q then a else b:=by
 by_cases hp:p
 ·rw [if_pos hp,if_pos (h.1 hp)]
 ·rw [if_neg hp,if_neg (fun hq=>hp (h.2 hq))]
def cutN (N k:Nat) (more:Bool):Nat :=
 if T k < 2 * (N % T k)∨2 * (N % T k)=T k∧(more=true∨N / T k % 2=1) then N / T k+1 else N / T k
theorem cutN_zero (N:Nat) (more:Bool):cutN N 0 more=N:=by simp [cutN,T,Nat.mod_one]
theorem cutN_lo (N k:Nat) (more:Bool):N / T k≤cutN N k more:=by unfold cutN;split <;> omega
theorem cutN_hi (N k:Nat) (more:Bool):cutN N k more≤N / T k+1:=by unfold cutN;split <;> omega
theorem cutN_small {N k:Nat} (more:Bool) (h:2 * N < T k):cutN N k more=0:=by
 have h1:N < T k:=by omega
 unfold cutN
 rw [Nat.mod_eq_of_lt h1,Nat.div_eq_of_lt h1,if_neg (by omega)]
theorem cutN_far {N k:Nat} (more:Bool) (h:nd N < k):cutN N k more=0:=by
 apply cutN_small
 have h1:=lt_T_nd N
 have h2:T (nd N+1)≤T k:=T_mono h
 rw [T_succ] at h2;omega
theorem cutN_le_T {N k d:Nat} (more:Bool) (h:N < T (k+d)):cutN N k more≤T d:=by
 have h1:N / T k < T d:=by rw [Nat.div_lt_iff_lt_mul (T_pos k),← T_add,Nat.add_comm];exact h
 have:=cutN_hi N k more;omega
theorem cutN_ge_T {N k d:Nat} (more:Bool) (h:T (k+d)≤N):T d≤cutN N k more:=by
 have h1:T d≤N / T k:=by rw [Nat.le_div_iff_mul_le (T_pos k),← T_add,Nat.add_comm];exact h
 have:=cutN_lo N k more;omega
def trim (N:Nat) (e:Int):Nat×Int:=if h:N=0 then (0,0) else if N % 10=0 then trim (N / 10) (e+1) else (N,e)
 termination_by N
 decreasing_by omega
theorem trim_zero (e:Int):trim 0 e=(0,0):=by unfold trim;simp
theorem trim_ten {N:Nat} (e:Int) (h:N≠0) (h1:N % 10=0):trim N e=trim (N / 10) (e+1):=by rw [trim];simp [h,h1]
theorem trim_done {N:Nat} (e:Int) (h1:N % 10≠0):trim N e=(N,e):=by rw [trim];simp [h1];omega
theorem trim_spec (N:Nat) (e:Int) (h:N≠0):∃ k,N=(trim N e).1 * T k∧(trim N e).2=e+k∧(trim N e).1 % 10≠0:=by
 induction N using Nat.strongRecOn generalizing e with
 | ind N ih =>
  by_cases h1:N % 10=0
  ·obtain ⟨k,a,b,c⟩:=ih (N / 10) (by omega) (e+1) (by omega)
   rw [trim_ten e h h1]
   refine ⟨k+1,?_,by rw [b];omega,c⟩
   have:N=N / 10 * 10:=by omega
   rw [T_succ,Nat.mul_comm 10,← Nat.mul_assoc,← a];exact this
  ·rw [trim_done e h1];exact ⟨0,by simp [T],by simp,h1⟩
def sg (neg:Bool) (n:Nat):Int:=if neg then -(n:Int) else n
def n1 (N:Nat) (more:Bool):Nat:=cutN N (nd N - 15) more
def n2 (N:Nat) (more:Bool) (e:Int):Nat:=cutN (n1 N more) (-40 - (e+(nd N - 15:Nat))).toNat false
def e2 (N:Nat) (e:Int):Int:=max (e+(nd N - 15:Nat)) (-40)
def rnd (neg:Bool) (N:Nat) (more:Bool) (e:Int):Option (Int×Int) :=
 if n2 N more e=0 then some (0,0)
 else if 40 < nd (n2 N more e)+e2 N e then none
 else some (sg neg (trim (n2 N more e) (e2 N e)).1,(trim (n2 N more e) (e2 N e)).2)
theorem cutN_false_zero (k:Nat):cutN 0 k false=0:=cutN_small _ (by have:=T_pos k;omega)
theorem n1_zero (more:Bool):n1 0 more=0:=by unfold n1;rw [nd_zero];exact cutN_zero 0 more
theorem n1_pos {N:Nat} (more:Bool) (h:N≠0):n1 N more≠0:=by
 unfold n1
 by_cases h1:nd N≤15
 ·rw [show nd N - 15=0 by omega,cutN_zero];exact h
 ·have h2:=T_le_of_nd h
  have h3:=cutN_ge_T (k:=nd N - 15) (d:=14) more (by rw [show nd N - 15+14=nd N - 1 by omega];exact h2)
  have:=T_pos 14;omega
theorem n1_le (N:Nat) (more:Bool):n1 N more≤T 15:=by
 unfold n1
 apply cutN_le_T
 exact Nat.lt_of_lt_of_le (lt_T_nd N) (T_mono (by omega))
theorem n2_le (N:Nat) (more:Bool) (e:Int):n2 N more e≤T 15:=by
 unfold n2
 have h:=n1_le N more
 generalize n1 N more=a at *
 generalize (-40 - (e+(nd N - 15:Nat))).toNat=k
 rcases Nat.eq_zero_or_pos k with rfl | hk
 ·rw [cutN_zero];exact h
 ·have h1:=cutN_le_T (N:=a) (k:=k) (d:=15) false (Nat.lt_of_le_of_lt h (T_lt (by omega)))
  exact h1
def Rt (m e:Int):Prop:=m=0∧e=0∨m≠0∧m.natAbs < T 15∧m.natAbs % 10≠0 ∧ -40≤e∧nd m.natAbs+e≤40
instance (m e:Int):Decidable (Rt m e):=by unfold Rt;infer_instance
theorem sg_natAbs (neg:Bool) (n:Nat):(sg neg n).natAbs=n:=by unfold sg;split <;> omega
theorem sg_zero {neg:Bool} {n:Nat} : sg neg n=0↔n=0:=by unfold sg;split <;> omega
theorem trim_nd {N:Nat} (e:Int) (h:N≠0):nd (trim N e).1+(trim N e).2=nd N+e:=by
 obtain ⟨k,a,b,c⟩:=trim_spec N e h
 have h0:(trim N e).1≠0:=by omega
 have h1:=nd_mul_T k h0
 rw [← a] at h1
 rw [h1,b];omega
theorem rnd_right {neg : Bool} {N : Nat} {more : Bool} {e : Int} {r : Int × Int} (h : rnd neg N more e = some r) : Rt r.1 r.2 := by
  unfold rnd at h
  split at h
  · cases h; exact Or.inl ⟨rfl, rfl⟩
  · rename_i h0
    split at h
    · cases h
    · rename_i h1
      cases h
      obtain ⟨k, a, b, c⟩ := trim_spec _ (e2 N e) h0
      have h2 := trim_nd (e2 N e) h0
      right
      have hn : (trim (n2 N more e) (e2 N e)).1 ≠ 0 := by omega
      have he : -40 ≤ e2 N e := by unfold e2; omega
      have hl := n2_le N more e
      refine ⟨fun hh => hn (sg_zero.1 hh), ?_, ?_, ?_, ?_⟩ <;> simp only [sg_natAbs]
      · rcases Nat.eq_zero_or_pos k with rfl | hk
        · have a' : n2 N more e = (trim (n2 N more e) (e2 N e)).1 := by simpa [T] using a
          rw [← a']
          rcases Nat.lt_or_ge (n2 N more e) (T 15) with h5 | h5
          · exact h5
          · exfalso
            have h6 : n2 N more e = 1000000000000000 := by have : T 15 = 1000000000000000 := by decide
                                                           omega
            rw [← a', h6] at c; omega
        · have h3 : T 1 ≤ T k := T_mono hk
          have h4 := Nat.mul_le_mul_left (trim (n2 N more e) (e2 N e)).1 h3
          rw [← a] at h4
          simp only [T, Nat.pow_one] at h4
          omega
      · exact c
      · omega
      · omega
theorem rnd_of_pos {neg:Bool} {N:Nat} {more:Bool} {e:Int} (h0:n2 N more e≠0):(Rt (sg neg (trim (n2 N more e) (e2 N e)).1) (trim (n2 N more e) (e2 N e)).2→rnd neg N more e=some (sg neg (trim (n2 N more e) (e2 N e)).1,(trim (n2 N more e) (e2 N e)).2))∧(¬ Rt (sg neg (trim (n2 N more e) (e2 N e)).1) (trim (n2 N more e) (e2 N e)).2→rnd neg N more e=none):=by
 have h2:=trim_nd (e2 N e) h0
 obtain ⟨k,a,b,c⟩:=trim_spec _ (e2 N e) h0
 have hn:(trim (n2 N more e) (e2 N e)).1≠0:=by omega
 constructor
 ·intro hr
  unfold rnd
  rw [if_neg h0,if_neg]
  rcases hr with ⟨hr,_⟩ | ⟨_,_,_,_,h5⟩
  ·exact absurd (sg_zero.1 hr) hn
  ·rw [sg_natAbs] at h5;omega
 ·intro hr
  by_cases h1:40 < nd (n2 N more e)+e2 N e
  ·unfold rnd;rw [if_neg h0,if_pos h1]
  ·exfalso
   apply hr
   have:rnd neg N more e=some (sg neg (trim (n2 N more e) (e2 N e)).1,(trim (n2 N more e) (e2 N e)).2):=by unfold rnd;rw [if_neg h0,if_neg h1]
   exact rnd_right this
theorem rnd_of_zero {neg:Bool} {N:Nat} {more:Bool} {e:Int} (h0:n2 N more e=0):rnd neg N more e=some (0,0):=by unfold rnd;rw [if_pos h0]
theorem n2_zero (more:Bool) (e:Int):n2 0 more e=0:=by unfold n2;rw [n1_zero];exact cutN_small _ (by have:=T_pos (-40 - (e+(nd 0 - 15:Nat))).toNat;omega)
theorem rnd_far_up {neg:Bool} {N:Nat} {more:Bool} {e:Int} (h0:N≠0) (he:40≤e):rnd neg N more e=none:=by
 have h1:=n1_pos more h0
 have h2:n2 N more e=n1 N more:=by unfold n2;rw [show (-40 - (e+(nd N - 15:Nat))).toNat=0 by omega,cutN_zero]
 unfold rnd
 rw [h2,if_neg h1,if_pos]
 have h3:=nd_pos h1
 unfold e2
 omega
theorem rnd_of_right {m e:Int} (more:Bool) (h:Rt m e):rnd (decide (m < 0)) m.natAbs more e=some (m,e):=by
 rcases h with ⟨rfl,rfl⟩ | ⟨h0,h1,h2,h3,h4⟩
 ·unfold rnd;rw [if_pos];unfold n2;rw [show (0:Int).natAbs=0 from rfl,n1_zero,cutN_false_zero]
 ·have hn:nd m.natAbs≤15:=(nd_le_iff _ _).2 h1
  have a1:n1 m.natAbs more=m.natAbs:=by unfold n1;rw [show nd m.natAbs - 15=0 by omega,cutN_zero]
  have a2:n2 m.natAbs more e=m.natAbs:=by
   unfold n2;rw [a1,show (-40 - (e+(nd m.natAbs - 15:Nat))).toNat=0 by omega,cutN_zero]
  have a3:e2 m.natAbs e=e:=by unfold e2;omega
  unfold rnd
  rw [a2,a3,if_neg (by omega),if_neg (by omega),trim_done _ h2]
  congr 2
  unfold sg;split <;> simp_all <;> omega
theorem rnd_neg (neg:Bool) (N:Nat) (more:Bool) (e:Int):rnd (!neg) N more e=(rnd neg N more e).map fun r=>(-r.1,r.2):=by
 unfold rnd
 split
 ·rfl
 ·split
  ·rfl
  ·simp;cases neg <;> simp [sg]
def fin (neg:Bool) (M:Nat) (E:Int):Option (Int×Int):=if M=0 then some (0,0) else if 40 < nd M+E then none else some (sg neg (trim M E).1,(trim M E).2)
theorem rnd_fin (neg:Bool) (N:Nat) (more:Bool) (e:Int):rnd neg N more e=fin neg (n2 N more e) (e2 N e):=rfl
def sc (m e:Int):Int:=m * (T (e+100).toNat:Nat)
def S15 (x:Nat):Nat:=cutN x (nd x - 15) false * T (nd x - 15)
def R (x:Nat):Nat:=cutN (S15 x) 60 false * T 60
theorem sc_trim {N:Nat} {e:Int} (h:N≠0) (he : -100≤e):(trim N e).1 * T ((trim N e).2+100).toNat=N * T (e+100).toNat:=by
 obtain ⟨k,a,b,c⟩:=trim_spec N e h
 have:N * T (e+100).toNat=(trim N e).1 * T k * T (e+100).toNat:=by rw [← a]
 rw [this,b,Nat.mul_assoc,← T_add];congr 2;omega
def val (l:List Nat):Nat:=l.foldl (fun a d=>10 * a+d) 0
theorem val_nil:val []=0:=rfl
theorem foldl_val (l:List Nat):∀ a:Nat,l.foldl (fun a d=>10 * a+d) a=a * T l.length+val l:=by
 induction l with
 | nil=>intro a;simp [val,T]
 | cons d l ih =>
  intro a
  have h1:=ih (10 * a+d)
  have h2:=ih (10 * 0+d)
  simp only [val,List.foldl_cons,List.length_cons] at *
  rw [h1,h2,T_succ,Nat.add_mul,Nat.add_mul,Nat.mul_comm 10 a,Nat.mul_assoc]
  simp;omega
theorem val_cons (d:Nat) (l:List Nat):val (d::l)=d * T l.length+val l:=by
 have:=foldl_val l (10 * 0+d)
 simp only [val,List.foldl_cons] at *
 rw [this];simp
theorem val_append (a b:List Nat):val (a++b)=val a * T b.length+val b:=by
 rw [val,List.foldl_append,← val,foldl_val]
theorem val_snoc (a:List Nat) (d:Nat):val (a++[d])=10 * val a+d:=by
 rw [val_append];simp only [List.length_singleton,val_cons,val_nil,T];simp;omega
def AllD (l:List Nat):Prop:=∀ d∈l,d < 10
theorem AllD.nil:AllD []:=fun _ h=>by cases h
theorem AllD.append {a b:List Nat} (ha:AllD a) (hb:AllD b):AllD (a++b):=fun d hd=>by
 rcases List.mem_append.1 hd with h | h
 ·exact ha d h
 ·exact hb d h
theorem AllD.cons {d:Nat} {l:List Nat} (h:d < 10) (hl:AllD l):AllD (d::l):=fun x hx=>by
 rcases List.mem_cons.1 hx with rfl | h'
 ·exact h
 ·exact hl x h'
theorem AllD.take {l:List Nat} (h:AllD l) (n:Nat):AllD (l.take n):=fun d hd=>h d (List.mem_of_mem_take hd)
theorem AllD.drop {l:List Nat} (h:AllD l) (n:Nat):AllD (l.drop n):=fun d hd=>h d (List.mem_of_mem_drop hd)
theorem AllD.rep (n d:Nat) (h:d < 10):AllD (List.replicate n d):=fun x hx=>by rw [List.eq_of_mem_replicate hx];exact h
theorem AllD.at {l:List Nat} (h:AllD l) {i d:Nat} (hd:l[i]? = some d):d < 10:=h d (List.mem_of_getElem? hd)
theorem val_lt {l:List Nat} (h:AllD l):val l < T l.length:=by
 induction l with
 | nil=>simp [val_nil,T]
 | cons d l ih =>
  have h1:=ih (fun x hx=>h x (List.mem_cons_of_mem _ hx))
  have h2:=h d (List.mem_cons_self ..)
  rw [val_cons,List.length_cons,T_succ]
  have:d * T l.length≤9 * T l.length:=Nat.mul_le_mul_right _ (by omega)
  omega
theorem val_rep0 (n:Nat):val (List.replicate n 0)=0:=by
 induction n with
 | zero=>rfl
 | succ n ih=>rw [List.replicate_succ,val_cons,ih];omega
theorem val_rep9 (n:Nat):val (List.replicate n 9)+1=T n:=by
 induction n with
 | zero=>rfl
 | succ n ih=>rw [List.replicate_succ,val_cons,List.length_replicate,T_succ];omega
def dig (n:Nat):List Nat:=if _h:n=0 then [] else dig (n / 10)++[n % 10]
theorem dig_zero:dig 0=[]:=by rw [dig];simp
theorem dig_pos {n:Nat} (h:n≠0):dig n=dig (n / 10)++[n % 10]:=by rw [dig];simp [h]
theorem val_dig (n:Nat):val (dig n)=n:=by
 induction n using Nat.strongRecOn with
 | ind n ih =>
  by_cases h:n=0
  ·subst h;rw [dig_zero];rfl
  ·rw [dig_pos h,val_snoc,ih (n / 10) (by omega)];omega
theorem dig_all (n:Nat):AllD (dig n):=by
 induction n using Nat.strongRecOn with
 | ind n ih =>
  by_cases h:n=0
  ·subst h;rw [dig_zero];exact AllD.nil
  ·rw [dig_pos h];exact (ih (n / 10) (by omega)).append (AllD.cons (by omega) AllD.nil)
theorem dig_length (n:Nat):(dig n).length=nd n:=by
 induction n using Nat.strongRecOn with
 | ind n ih =>
  by_cases h:n=0
  ·subst h;rw [dig_zero,nd_zero];rfl
  ·rw [dig_pos h,nd_pos h,List.length_append,ih (n / 10) (by omega)];rfl
def strip (l:List Nat):List Nat:=l.dropWhile (· == 0)
theorem strip_nil:strip []=[]:=rfl
theorem strip_zero (l:List Nat):strip (0::l)=strip l:=by simp [strip]
theorem strip_pos {d:Nat} (l:List Nat) (h:d≠0):strip (d::l)=d::l:=by simp [strip,h]
theorem val_strip (l:List Nat):val (strip l)=val l:=by
 induction l with
 | nil=>rfl
 | cons d l ih =>
  by_cases h:d=0
  ·subst h;rw [strip_zero,ih,val_cons];omega
  ·rw [strip_pos l h]
theorem strip_all {l:List Nat} (h:AllD l):AllD (strip l):=fun d hd=>h d ((List.dropWhile_sublist _).subset hd)
theorem dig_val_aux:∀ (n:Nat) (l:List Nat),l.length=n→AllD l→l.head? ≠ some 0→dig (val l)=l
 | 0,l,hn,_,_=>by rw [List.eq_nil_of_length_eq_zero hn];exact dig_zero
 | n+1,l,hn,h,h0=>by
  have hne:l≠[]:=fun he=>by rw [he] at hn;simp at hn
  obtain ⟨a,d,rfl⟩:∃ a d,l=a++[d]:=⟨l.dropLast,l.getLast hne,(List.dropLast_concat_getLast hne).symm⟩
  have hd:d < 10:=h d (by simp)
  have ha:AllD a:=fun x hx=>h x (by simp [hx])
  have hlen:a.length=n:=by simpa using hn
  rw [val_snoc]
  cases a with
  | nil =>
   have hnz:d≠0:=fun hh=>h0 (by rw [hh];rfl)
   rw [val_nil,dig_pos (by omega),show (10 * 0+d) / 10=0 by omega,dig_zero,show (10 * 0+d) % 10=d by omega]
  | cons x a =>
   have h2:=dig_val_aux n (x::a) hlen ha (by simpa using h0)
   have hnz:val (x::a)≠0:=fun hh=>by rw [hh,dig_zero] at h2;cases h2
   rw [dig_pos (by omega),show (10 * val (x::a)+d) / 10=val (x::a) by omega,show (10 * val (x::a)+d) % 10=d by omega,h2]
theorem strip_head (l:List Nat):(strip l).head? ≠ some 0:=by
 induction l with
 | nil=>simp [strip_nil]
 | cons d l ih =>
  by_cases h:d=0
  ·subst h;rw [strip_zero];exact ih
  ·rw [strip_pos l h];simp [h]
theorem dig_val {l:List Nat} (h:AllD l):dig (val l)=strip l:=by
 rw [← val_strip];exact dig_val_aux _ _ rfl (strip_all h) (strip_head l)
theorem strip_length {l:List Nat} (h:AllD l):(strip l).length=nd (val l):=by rw [← dig_val h,dig_length]
theorem take_val {l:List Nat} (h:AllD l) (n:Nat):val (l.take n)=val l / T (l.length - n)∧val (l.drop n)=val l % T (l.length - n):=by
 have h1:val l=val (l.take n) * T (l.drop n).length+val (l.drop n):=by rw [← val_append,List.take_append_drop]
 have h2:=val_lt (h.drop n)
 rw [List.length_drop] at h1 h2
 rw [h1]
 constructor
 ·rw [Nat.mul_comm,Nat.mul_add_div (T_pos _),Nat.div_eq_of_lt h2,Nat.add_zero]
 ·rw [Nat.mul_comm,Nat.mul_add_mod,Nat.mod_eq_of_lt h2]
def upB (q r0:Nat) (rest:List Nat) (more:Bool):Bool:=decide (5 < r0) || (decide (r0=5) && (decide (val rest≠0) || more || decide (q % 2=1)))
theorem cut_up {l:List Nat} (h:AllD l) (n:Nat) (r0:Nat) (rest:List Nat) (more:Bool) (hr:l.drop n=r0::rest) :
  cutN (val l) (l.length - n) more=if upB (val (l.take n)) r0 rest more then val (l.take n)+1 else val (l.take n):=by
 have hn:n < l.length:=by
  rcases Nat.lt_or_ge n l.length with h1 | h1
  ·exact h1
  ·rw [List.drop_eq_nil_of_le h1] at hr;cases hr
 obtain ⟨h1,h2⟩:=take_val h n
 have h3:(l.drop n).length=l.length - n:=List.length_drop
 have hrl:rest.length+1=l.length - n:=by rw [← h3,hr];rfl
 have hd:=h.drop n
 rw [hr] at hd h2
 have hrest:AllD rest:=fun x hx=>hd x (List.mem_cons_of_mem _ hx)
 have h0:r0 < 10:=hd r0 (List.mem_cons_self ..)
 have hv:=val_lt hrest
 unfold cutN
 rw [← h1,← h2,← hrl,val_cons,T_succ]
 apply ite_iff
 unfold upB
 generalize T rest.length=t at *
 generalize val rest=v at *
 generalize val (l.take n)=q at *
 have e1:(10 * t < 2 * (r0 * t+v))↔(5 < r0∨r0=5∧v≠0):=by
  constructor
  ·intro hh
   rcases Nat.lt_trichotomy r0 5 with a | a | a
   ·exfalso
    have:=Nat.mul_le_mul_right t (show r0+1≤5 from a)
    rw [Nat.add_mul,Nat.one_mul] at this;omega
   ·subst a;right;exact ⟨rfl,by omega⟩
   ·left;omega
  ·rintro (a | ⟨rfl,b⟩)
   ·have:=Nat.mul_le_mul_right t (show 6≤r0 from a);omega
   ·omega
 have e2:(2 * (r0 * t+v)=10 * t)↔(r0=5∧v=0):=by
  constructor
  ·intro hh
   rcases Nat.lt_trichotomy r0 5 with a | a | a
   ·exfalso
    have:=Nat.mul_le_mul_right t (show r0+1≤5 from a)
    rw [Nat.add_mul,Nat.one_mul] at this;omega
   ·subst a;exact ⟨rfl,by omega⟩
   ·exfalso
    have:=Nat.mul_le_mul_right t (show 6≤r0 from a);omega
  ·rintro ⟨rfl,rfl⟩;omega
 rw [e1,e2]
 by_cases a:5 < r0
 ·simp [a]
 ·by_cases b:r0=5
  ·subst b;cases more <;> by_cases c:v=0 <;> simp [c]
  ·simp [a,b]
theorem val_incr (a:List Nat) (d k:Nat):val (a++(d+1)::List.replicate k 0)=val (a++d::List.replicate k 9)+1:=by
 rw [val_append,val_append,val_cons,val_cons,val_rep0]
 have:=val_rep9 k
 simp only [List.length_cons,List.length_replicate,Nat.add_mul,Nat.one_mul]
 omega
theorem val_over (k:Nat):val (1::List.replicate k 0)=val (List.replicate k 9)+1:=by
 rw [val_cons,val_rep0,val_rep9];simp
end Go.Proofs.YtkoidgbgoccgmaaGreatDoor.NM
namespace Go.Proofs
open Go.Shelf
def Tryz.lays134_ren:Go.Shelf.Ren:=⟨fun | 134=>189 | 129=>123 | n=>n,fun | 53=>122 | 3=>3 | 4=>4 | 46=>78 | 5=>5 | 9=>9 | n=>n,fun | n=>n⟩
theorem Tryz.lays134:Go.Proofs.Lays.n134 prog Tryz.lays134_ren:={
 mixed:=by kernel_rfl
 f129:=Tryz.func123.trans (congrArg some (by kernel_rfl))
 f134:=Tryz.func189.trans (congrArg some (by kernel_rfl))
 t3:=Tryz.underlying3
 a3:=Tryz.isAgg3
 z3:=Tryz.sizeOf3
 v3:=Tryz.zeroValue3
 t4:=Tryz.underlying4
 a4:=Tryz.isAgg4
 z4:=Tryz.sizeOf4
 v4:=Tryz.zeroValue4
 t5:=Tryz.underlying5
 a5:=Tryz.isAgg5
 z5:=Tryz.sizeOf5
 v5:=Tryz.zeroValue5
 t9:=Tryz.underlying9
 a9:=Tryz.isAgg9
 z9:=Tryz.sizeOf9
 v9:=Tryz.zeroValue9
 t46:=Tryz.underlying78
 a46:=Tryz.isAgg78
 z46:=Tryz.sizeOf78
 v46:=Tryz.zeroValue78
 t53:=Tryz.underlying122
 a53:=Tryz.isAgg122
 z53:=Tryz.sizeOf122
 v53:=Tryz.zeroValue122 }
theorem Tryz.bits_LeadingZeros64 (x:Int) (w:World) (h0:0≤x) (h1:x≤18446744073709551615) :
  Calls prog 189 #[.int .u64 x] w fun e w'=>e = .returned (.int .i64 (64 - (Lib.bitLen x.toNat:Int)))∧w'=w:=Any.bits_LeadingZeros64 Tryz.lays134 x w h0 h1
def Tryz.lays106_ren:Go.Shelf.Ren:=⟨fun | 106=>169 | 213=>195 | 265=>207 | n=>n,fun | 9=>9 | 3=>3 | n=>n,fun | n=>n⟩
theorem Tryz.lays106:Go.Proofs.Lays.n106 prog Tryz.lays106_ren:={
 mixed:=by kernel_rfl
 f106:=Tryz.func169.trans (congrArg some (by kernel_rfl))
 f213:=Tryz.func195.trans (congrArg some (by kernel_rfl))
 f265:=Tryz.func207.trans (congrArg some (by kernel_rfl))
 t3:=Tryz.underlying3
 a3:=Tryz.isAgg3
 z3:=Tryz.sizeOf3
 v3:=Tryz.zeroValue3
 t9:=Tryz.underlying9
 a9:=Tryz.isAgg9
 z9:=Tryz.sizeOf9
 v9:=Tryz.zeroValue9 }
open Go.RowKit in
theorem Tryz.strings_Compare (a b:ByteArray) (w:World) :
  Calls prog 169 #[.string a,.string b] w fun e w'=>e = .returned (.int .i64 (Lib.compareBytes a.data.toList b.data.toList))∧w'=w:=Any.strings_Compare Tryz.lays106 a b w
def Tryz.lays283_ren:Go.Shelf.Ren:=⟨fun | 283=>202 | n=>n,fun | 3=>3 | 9=>9 | 4=>4 | n=>n,fun | n=>n⟩
theorem Tryz.lays283:Go.Proofs.Lays.n283 prog Tryz.lays283_ren:={
 mixed:=by kernel_rfl
 f283:=Tryz.func202.trans (congrArg some (by kernel_rfl))
 t3:=Tryz.underlying3
 a3:=Tryz.isAgg3
 z3:=Tryz.sizeOf3
 v3:=Tryz.zeroValue3
 t4:=Tryz.underlying4
 a4:=Tryz.isAgg4
 z4:=Tryz.sizeOf4
 v4:=Tryz.zeroValue4
 t9:=Tryz.underlying9
 a9:=Tryz.isAgg9
 z9:=Tryz.sizeOf9
 v9:=Tryz.zeroValue9 }
open Go.Lib in
theorem Tryz.internal_strconv_small (i:Nat) (h:i < 100) (w:World) :
  Calls prog 202 #[.int .i64 i] w fun e w'=>e = .returned (.string ⟨(Lib.decDigits i).toArray⟩)∧w'=w:=Any.internal_strconv_small Tryz.lays283 i h w
def Tryz.laysM284_ren:Go.Shelf.Ren:=⟨fun | 284=>203 | 129=>123 | 317=>210 | 318=>211 | n=>n,fun | 53=>122 | 3=>3 | 212=>192 | 0=>0 | 4=>4 | 46=>78 | 5=>5 | 9=>9 | n=>n,fun | 17=>3 | n=>n⟩
theorem Tryz.laysM284:Go.Proofs.LaysM.n284 prog Tryz.laysM284_ren:={
 mixed:=by kernel_rfl
 f129:=Tryz.func123.trans (congrArg some (by kernel_rfl))
 f284:=Tryz.func203.trans (congrArg some (by kernel_rfl))
 f317:=Tryz.func210.trans (congrArg some (by kernel_rfl))
 f318:=Tryz.func211.trans (congrArg some (by kernel_rfl))
 t0:=Tryz.underlying0
 a0:=Tryz.isAgg0
 z0:=Tryz.sizeOf0
 v0:=Tryz.zeroValue0
 t3:=Tryz.underlying3
 a3:=Tryz.isAgg3
 z3:=Tryz.sizeOf3
 v3:=Tryz.zeroValue3
 t4:=Tryz.underlying4
 a4:=Tryz.isAgg4
 z4:=Tryz.sizeOf4
 v4:=Tryz.zeroValue4
 t5:=Tryz.underlying5
 a5:=Tryz.isAgg5
 z5:=Tryz.sizeOf5
 v5:=Tryz.zeroValue5
 t9:=Tryz.underlying9
 a9:=Tryz.isAgg9
 z9:=Tryz.sizeOf9
 v9:=Tryz.zeroValue9
 t46:=Tryz.underlying78
 a46:=Tryz.isAgg78
 z46:=Tryz.sizeOf78
 v46:=Tryz.zeroValue78
 t53:=Tryz.underlying122
 a53:=Tryz.isAgg122
 z53:=Tryz.sizeOf122
 v53:=Tryz.zeroValue122
 t212:=Tryz.underlying192
 a212:=Tryz.isAgg192
 z212:=Tryz.sizeOf192
 v212:=Tryz.zeroValue192
 g17:=by kernel_rfl
 i0:=by kernel_rfl
 i3:=by kernel_rfl
 i4:=by kernel_rfl
 i5:=by kernel_rfl
 i9:=by kernel_rfl
 i46:=by kernel_rfl
 i53:=by kernel_rfl
 i212:=by kernel_rfl
 m17:=by kernel_rfl }
open Go.Lib in
theorem Tryz.internal_strconv_numDigits (u : Nat) (h1 : 1 ≤ u) (h2 : u < 18446744073709551616) (w : World) (htab : Lib.TabIs prog w "internal/strconv.uint64pow10" .u64 Lib.pow10Tab) :
  Calls prog 203 #[.int .u64 u] w fun e w'=>e = .returned (.int .i64 (Lib.nDigits u))∧w'=w:=Any.internal_strconv_numDigits Tryz.laysM284 u h1 h2 w htab
def Tryz.lays285_ren:Go.Shelf.Ren:=⟨fun | 285=>204 | n=>n,fun | 37=>124 | 53=>122 | 3=>3 | 4=>4 | 51=>120 | 9=>9 | 5=>5 | 0=>0 | n=>n,fun | n=>n⟩
theorem Tryz.lays285:Go.Proofs.Lays.n285 prog Tryz.lays285_ren:={
 mixed:=by kernel_rfl
 f285:=Tryz.func204.trans (congrArg some (by kernel_rfl))
 t0:=Tryz.underlying0
 a0:=Tryz.isAgg0
 z0:=Tryz.sizeOf0
 v0:=Tryz.zeroValue0
 t3:=Tryz.underlying3
 a3:=Tryz.isAgg3
 z3:=Tryz.sizeOf3
 v3:=Tryz.zeroValue3
 t4:=Tryz.underlying4
 a4:=Tryz.isAgg4
 z4:=Tryz.sizeOf4
 v4:=Tryz.zeroValue4
 t5:=Tryz.underlying5
 a5:=Tryz.isAgg5
 z5:=Tryz.sizeOf5
 v5:=Tryz.zeroValue5
 t9:=Tryz.underlying9
 a9:=Tryz.isAgg9
 z9:=Tryz.sizeOf9
 v9:=Tryz.zeroValue9
 t37:=Tryz.underlying124
 a37:=Tryz.isAgg124
 z37:=Tryz.sizeOf124
 v37:=Tryz.zeroValue124
 t51:=Tryz.underlying120
 a51:=Tryz.isAgg120
 z51:=Tryz.sizeOf120
 v51:=Tryz.zeroValue120
 t53:=Tryz.underlying122
 a53:=Tryz.isAgg122
 z53:=Tryz.sizeOf122
 v53:=Tryz.zeroValue122 }
open Go.RowKit Go.Sort Go.Lib in
theorem Tryz.internal_strconv_formatBase10 (blk off cap:Nat) (u:Nat) (d:Array UInt8) (w:World) (hH:Holds (fun (b:UInt8)=>Value.int .u8 (b.toNat:Int)) w blk off d) (hu:u < 10 ^ d.size) (hu64:u < 18446744073709551616) (hsz:d.size < 4611686018427387904) :
  Calls prog 204 #[.slice (some ⟨blk,off,none⟩) d.size cap,.int .u64 u] w fun e w' =>
   e = .returned (.tuple #[])∧∃ (n v':Nat) (dk:Array UInt8),w'=(putRow (fun (b:UInt8)=>Value.int .u8 (b.toNat:Int)) w blk off dk).drewN n∧FmtInv d.size u 0 v' dk:=Any.internal_strconv_formatBase10 Tryz.lays285 blk off cap u d w hH hu hu64 hsz
def Tryz.lays264_ren:Go.Shelf.Ren:=⟨fun | 264=>161 | n=>n,fun | 53=>122 | 46=>78 | n=>n,fun | n=>n⟩
theorem Tryz.lays264:Go.Proofs.Lays.n264 prog Tryz.lays264_ren:={
 mixed:=by kernel_rfl
 f264:=Tryz.func161.trans (congrArg some (by kernel_rfl))
 t46:=Tryz.underlying78
 a46:=Tryz.isAgg78
 z46:=Tryz.sizeOf78
 v46:=Tryz.zeroValue78
 t53:=Tryz.underlying122
 a53:=Tryz.isAgg122
 z53:=Tryz.sizeOf122
 v53:=Tryz.zeroValue122 }
open Go.RowKit Go.Lib in
theorem Tryz.bits_Mul64 (x y:Nat) (hx:x < 18446744073709551616) (hy:y < 18446744073709551616) (w:World) :
  Calls prog 161 #[.int .u64 x,.int .u64 y] w fun e w'=>e = .returned (.tuple #[.int .u64 ((x * y / 18446744073709551616:Nat):Int),.int .u64 ((x * y % 18446744073709551616:Nat):Int)])∧w'=w:=Any.bits_Mul64 Tryz.lays264 x y hx hy w
end Go.Proofs
namespace Go.Proofs.YtkoidgbgoccgmaaGreatDoor
open Tryz
open Go.Lib Go.RowKit Go.Sort NM
def Tab (w : World) : Prop := Lib.TabIs prog w "internal/strconv.uint64pow10" .u64 Lib.pow10Tab
theorem Tab.ext {w w':World} (h:Tab w) (hx:Ext w w'):Tab w':=by
 unfold Tab Lib.TabIs World.var? at *
 cases hg : Tryz.prog.globalNamed "internal/strconv.uint64pow10" with
 | none=>simp [hg] at h
 | some g =>
  simp only [hg,Option.bind_some] at h ⊢
  have hlt:g < w.heap.size:=by
   rcases Nat.lt_or_ge g w.heap.size with h' | h'
   ·exact h'
   ·rw [Array.getElem?_eq_none h'] at h;simp at h
  rw [hx.block hlt]
  exact h
theorem zla (w:World) (t:TypeId) (n:Nat) (hs:n≤24):Holds (fun (b:UInt8)=>Value.int .u8 (b.toNat:Int)) (w.alloc (.cells Lib.zeros24 t)) w.heap.size 0 (Array.replicate n (0:UInt8)):=fun j hj=>by
 have hj':j < n:=by simpa using hj
 refine ⟨?_,World.frozen?_alloc_new _ _ _ _⟩
 rw [World.cell?_alloc_new,Lib.zeros24_at _ (by omega),getElem!_pos _ j hj]
 simp
theorem zqF (w:World) (o:Obj) (dk:Array UInt8) (k:Nat):Ext w ((putRow (fun (b:UInt8)=>Value.int .u8 (b.toNat:Int)) (w.alloc o) w.heap.size 0 dk).drewN k):=by
 obtain ⟨os,e⟩:∃ os,(putRow (fun (b:UInt8)=>Value.int .u8 (b.toNat:Int)) (w.alloc o) w.heap.size 0 dk).drewN k=grow (w.drewN k) os:=by
  rw [alloc_eq_grow]
  obtain ⟨os',_,e⟩:=putRow_grow_new (fun (b:UInt8)=>Value.int .u8 (b.toNat:Int)) w #[o] w.heap.size 0 dk (Nat.le_refl _)
  exact ⟨os',by rw [e];rfl⟩
 rw [e]
 exact ⟨rfl,rfl,rfl,by simp [grow,World.drewN],fun j hj=>by simp only [grow,World.drewN];rw [Array.getElem?_append_left hj]⟩
theorem znE (u:Nat) (hu64:u < 18446744073709551616) (w:World) (htab:Tab w) :
  Tl prog 188 #[.int .u64 u,.int .i64 10] w (.string ⟨(Lib.decDigits u).toArray⟩):=by
 by_cases hs:u < 100
 ·have h1:((u:Int) < 100):=by omega
  go_enter func188,ntmps188
  go_wp2_with (go_at_call 202;refine (Tryz.internal_strconv_small u hs _).mono ?_;rintro e w' ⟨rfl,rfl⟩)
  go_ret
  exact ⟨rfl,Ext.refl _⟩
 ·have hu1:1≤u:=by omega
  have hnd20:Lib.nDigits u≤20:=by have:=Lib.numDigits_eq u hu1 hu64;split at this <;> omega
  have h1:¬ ((u:Int) < 100):=by omega
  have hal:Tryz.prog.arrayLen 185=24:=by kernel_rfl
  have hsl1:∀ W,(Instr.sliceAt 185 (.pointer (some ⟨w.heap.size,0,none⟩)) none (some (.int .i64 (Lib.nDigits u:Int))) none).run prog W = .ok (.slice (some ⟨w.heap.size,0,none⟩) (Lib.nDigits u) 24) W:=fun W=>by
   rw [run_sliceAt_array_h W 185 ⟨w.heap.size,0,none⟩ Tryz.underlying185 .i64 (Lib.nDigits u:Int) (by omega) (by rw [hal];omega)]
   go_simp
   try omega
  have hH0:=zla w 185 (Lib.nDigits u) (by omega)
  have hfmt:=Tryz.internal_strconv_formatBase10 w.heap.size 0 24 u (Array.replicate (Lib.nDigits u) 0) (w.alloc (.cells Lib.zeros24 185)) hH0 (by rw [Array.size_replicate];exact Lib.lt_pow_nDigits u) hu64 (by rw [Array.size_replicate];omega)
  rw [Array.size_replicate] at hfmt
  have HH0:=Lib.hid hH0
  clear hH0 hal
  have htab':Tab (w.alloc (.cells Lib.zeros24 185)):=htab.ext ((Ext.refl _).alloc _)
  go_enter func188,ntmps188
  go_wp2_with (go_at_call 203;refine (Tryz.internal_strconv_numDigits u hu1 hu64 _ htab').mono ?_;rintro e w' ⟨rfl,rfl⟩)
  go_at_call 204
  refine hfmt.mono ?_
  rintro e w' ⟨rfl,k,v',dk,rfl,hF⟩
  have hcv:(convert 124 9 (.slice (some ⟨w.heap.size,0,none⟩) (Lib.nDigits u) 24)).run prog ((putRow (fun (b:UInt8)=>Value.int .u8 (b.toNat:Int)) (w.alloc (.cells Lib.zeros24 185)) w.heap.size 0 dk).drewN k) = .ok (.string ⟨(Lib.decDigits u).toArray⟩) ((putRow (fun (b:UInt8)=>Value.int .u8 (b.toNat:Int)) (w.alloc (.cells Lib.zeros24 185)) w.heap.size 0 dk).drewN k):=by
   have h:=run_convert_bytes_back (P:=prog) ((putRow (fun (b:UInt8)=>Value.int .u8 (b.toNat:Int)) (w.alloc (.cells Lib.zeros24 185)) w.heap.size 0 dk).drewN k) 124 9 5 ⟨w.heap.size,0,none⟩ 24 (Lib.decDigits u) Tryz.underlying124 Tryz.underlying5 Tryz.underlying9 (fun j hj=>by
    rw [Lib.row_is_numeral hF j hj,Lib.add_plain,World.cell?_drewN]
    exact cell?_putRow (fun (b:UInt8)=>Value.int .u8 (b.toNat:Int)) _ w.heap.size 0 _ dk HH0.out (by rw [hF.size,Array.size_replicate]) j (by rw [hF.size];rw [Lib.decDigits_length] at hj;exact hj))
   rw [Lib.decDigits_length] at h
   exact h
  go_wp2
  go_ret
  exact ⟨rfl,zqF _ _ _ _⟩
theorem zqG (u:Nat) (hu64:u < 18446744073709551616) (w:World) (htab:Tab w) :
  Tl prog 160 #[.int .u64 u,.int .i64 10] w (.string ⟨(Lib.decDigits u).toArray⟩):=by
 go_enter func160,ntmps160
 go_wp2_with (go_at_call 188;refine aM (znE u hu64 _ htab) fun os d=>?_)
 go_ret
 exact ⟨rfl,by simp [go_sem]⟩
def zax (n:Nat):List Nat:=if n=0 then [0] else dig n
theorem zfn (n:Nat):val (zax n)=n:=by
 unfold zax
 split
 ·subst n;rfl
 ·exact val_dig n
theorem zcQ (n:Nat):AllD (zax n):=by
 unfold zax
 split
 ·exact AllD.cons (by omega) AllD.nil
 ·exact dig_all n
theorem zjL {n:Nat} (h:n≠0):zax n=dig n:=by unfold zax;rw [if_neg h]
theorem zmy {n:Nat} (h:n < 10):zax n=[n]:=by
 unfold zax
 split
 ·subst n;rfl
 ·rename_i h0;rw [dig_pos h0,show n / 10=0 by omega,dig_zero,List.nil_append];congr 1;omega
theorem zpb {n:Nat} (h:10≤n):zax n=zax (n / 10)++[n % 10]:=by
 rw [zjL (by omega),zjL (by omega),dig_pos (by omega)]
theorem zil (n:Nat):Lib.decDigits n=(zax n).map fun d=>UInt8.ofNat (48+d):=by
 induction n using Nat.strongRecOn with
 | ind n ih =>
  by_cases h:n < 10
  ·rw [Lib.decDigits_one h,zmy h];rfl
  ·rw [Lib.decDigits,dif_neg h,zpb (by omega),ih (n / 10) (by omega),List.map_append];rfl
theorem zbm (n:Nat):(zax n).length=max 1 (nd n):=by
 unfold zax
 split
 ·subst n;rw [nd_zero];rfl
 ·rename_i h;rw [dig_length];have:=nd_pos h;omega
end Go.Proofs.YtkoidgbgoccgmaaGreatDoor
namespace Go.Proofs.YtkoidgbgoccgmaaGreatDoor
open Tryz
open Go.RowKit NM
def Dg (k:IntKind) (ty:TypeId) (base:Nat) (w:World) (A:Option Addr) (cap:Nat) (l:List Nat):Prop :=
 l.length≤cap∧(l=[]∨∃ b off cur,A=some ⟨b,off,none⟩∧base≤b∧w.heap[b]? = some (.cells cur ty (0,0))∧∀ (j d:Nat),l[j]? = some d→cur[off+j]? = some (.int k (d:Int)))
section
variable {k:IntKind} {ty:TypeId} {base base':Nat} {w w':World} {A:Option Addr} {cap:Nat} {l:List Nat}
theorem zH {b:Nat} {o:Obj} (h:w.heap[b]? = some o):b < w.heap.size:=by
 rcases Nat.lt_or_ge b w.heap.size with hl | hl
 ·exact hl
 ·rw [Array.getElem?_eq_none hl] at h;cases h
theorem Dg.nil (A:Option Addr) (cap:Nat):Dg k ty base w A cap []:=⟨Nat.zero_le _,Or.inl rfl⟩
theorem Dg.ext (h:Dg k ty base w A cap l) (hx:Ext w w'):Dg k ty base w' A cap l:=by
 refine ⟨h.1,?_⟩
 rcases h.2 with h | ⟨b,off,cur,h1,h2,h3,h4⟩
 ·exact Or.inl h
 ·exact Or.inr ⟨b,off,cur,h1,h2,by rw [hx.block (zH h3)];exact h3,h4⟩
theorem Dg.mono (h:Dg k ty base w A cap l) (hb:base'≤base):Dg k ty base' w A cap l:=by
 refine ⟨h.1,?_⟩
 rcases h.2 with h | ⟨b,off,cur,h1,h2,h3,h4⟩
 ·exact Or.inl h
 ·exact Or.inr ⟨b,off,cur,h1,by omega,h3,h4⟩
theorem Dg.of_own {v:Value} {n:Nat} (h:w.ownsRow base ty 1 v n (l.map fun d:Nat=>Value.int k (d:Int))):∃ A cap,v = .slice A l.length cap∧Dg k ty base w A cap l∧n=l.length:=by
 obtain ⟨h1,h2⟩:=h
 have hn:n=l.length:=by simpa using h1.symm
 subst hn
 rcases h2 with ⟨rfl,h0⟩ | ⟨g,c,cur,rfl,h3,h4,h5,h6,h7,h8⟩
 ·have:l=[]:=List.eq_nil_of_length_eq_zero h0
  subst this
  exact ⟨none,0,rfl,Dg.nil _ _,rfl⟩
 ·refine ⟨_,_,rfl,⟨h5,Or.inr ⟨g,0,cur,rfl,h3,h4,fun j d hd=>?_⟩⟩,rfl⟩
  have hj:j < l.length:=by
   rcases Nat.lt_or_ge j l.length with hl | hl
   ·exact hl
   ·rw [List.getElem?_eq_none hl] at hd;cases hd
  have:(cur.toList.take (l.length * 1))[j]? = some (.int k (d:Int)):=by rw [h8,List.getElem?_map,hd];rfl
  rw [List.getElem?_take_of_lt (by omega)] at this
  rw [Nat.zero_add];simpa using this
theorem Dg.cons {d:Nat} (h:Dg k ty base w A cap (d::l)):∃ b off,A=some ⟨b,off,none⟩∧base≤b∧w.cell? ⟨b,off,none⟩=some (.int k (d:Int)):=by
 rcases h.2 with h | ⟨b,off,cur,rfl,h2,h3,h4⟩
 ·cases h
 ·refine ⟨b,off,rfl,h2,?_⟩
  have:=h4 0 d rfl
  unfold World.cell?
  rw [h3]
  simpa using this
theorem Dg.tail {d:Nat} {b off:Nat} (h:Dg k ty base w (some ⟨b,off,none⟩) cap (d::l)):Dg k ty base w (some ⟨b,off+1,none⟩) (cap - 1) l:=by
 refine ⟨by have:=h.1;simp at this;omega,?_⟩
 rcases h.2 with h | ⟨b',off',cur,h1,h2,h3,h4⟩
 ·cases h
 ·simp only [Option.some.injEq,Addr.mk.injEq,and_true] at h1
  obtain ⟨rfl,rfl⟩:=h1
  refine Or.inr ⟨b,off+1,cur,rfl,h2,h3,fun j d' hd=>?_⟩
  have:=h4 (j+1) d' (by simpa using hd)
  rw [← this];congr 1;omega
theorem Dg.at {i d:Nat} (h:Dg k ty base w A cap l) (hd:l[i]? = some d):∃ b off,A=some ⟨b,off,none⟩∧base≤b∧w.cell? ⟨b,off+i,none⟩=some (.int k (d:Int))∧w.frozen? ⟨b,off+i,none⟩=false:=by
 rcases h.2 with h | ⟨b,off,cur,rfl,h2,h3,h4⟩
 ·subst h;simp at hd
 ·refine ⟨b,off,rfl,h2,?_,?_⟩
  ·have:=h4 i d hd
   unfold World.cell?
   rw [h3]
   simpa using this
  ·unfold World.frozen?
   rw [h3]
   simp
theorem Dg.set {i d:Nat} {b off:Nat} (h:Dg k ty base w (some ⟨b,off,none⟩) cap l) (hi:i < l.length):Dg k ty base (w.setCell ⟨b,off+i,none⟩ (.int k (d:Int))) (some ⟨b,off,none⟩) cap (l.set i d):=by
 refine ⟨by simpa using h.1,?_⟩
 rcases h.2 with h | ⟨b',off',cur,h1,h2,h3,h4⟩
 ·subst h;simp at hi
 ·simp only [Option.some.injEq,Addr.mk.injEq,and_true] at h1
  obtain ⟨rfl,rfl⟩:=h1
  refine Or.inr ⟨b,off,cur.setIfInBounds (off+i) (.int k (d:Int)),rfl,h2,?_,fun j d' hd=>?_⟩
  ·simp [World.setCell,Array.getElem?_modify,h3]
  ·have hcur:∃ x,cur[off+i]? = some x:=by
    obtain ⟨y,hy⟩:∃ y,l[i]? = some y:=⟨l[i],by simp [hi]⟩
    exact ⟨_,h4 i y hy⟩
   obtain ⟨x,hx⟩:=hcur
   have hlt:off+i < cur.size:=by
    rcases Nat.lt_or_ge (off+i) cur.size with hl | hl
    ·exact hl
    ·rw [Array.getElem?_eq_none hl] at hx;cases hx
   by_cases hji:i=j
   ·subst hji
    rw [List.getElem?_set_self hi] at hd
    obtain rfl:d=d':=by simpa using hd
    rw [Array.getElem?_setIfInBounds_self_of_lt hlt]
   ·rw [List.getElem?_set_ne hji] at hd
    rw [Array.getElem?_setIfInBounds_ne (by omega)]
    exact h4 j d' hd
theorem Dg.take (h:Dg k ty base w A cap l) (n:Nat) (c:Nat) (hc:n≤c):Dg k ty base w A c (l.take n):=by
 refine ⟨by rw [List.length_take];omega,?_⟩
 rcases h.2 with h | ⟨b,off,cur,h1,h2,h3,h4⟩
 ·exact Or.inl (by rw [h];simp)
 ·refine Or.inr ⟨b,off,cur,h1,h2,h3,fun j d hd=>h4 j d ?_⟩
  rw [List.getElem?_take] at hd
  split at hd
  ·exact hd
  ·cases hd
theorem Dg.drop {b off:Nat} (h:Dg k ty base w (some ⟨b,off,none⟩) cap l) (n:Nat):Dg k ty base w (some ⟨b,off+n,none⟩) (cap - n) (l.drop n):=by
 refine ⟨by rw [List.length_drop];have:=h.1;omega,?_⟩
 rcases h.2 with h | ⟨b',off',cur,h1,h2,h3,h4⟩
 ·exact Or.inl (by rw [h];simp)
 ·simp only [Option.some.injEq,Addr.mk.injEq,and_true] at h1
  obtain ⟨rfl,rfl⟩:=h1
  refine Or.inr ⟨b,off+n,cur,rfl,h2,h3,fun j d hd=>?_⟩
  rw [List.getElem?_drop] at hd
  rw [Nat.add_assoc];exact h4 _ _ hd
theorem Dg.rd (h:Dg k ty base w A cap l):Rd base w A (l.map fun d:Nat=>Value.int k (d:Int)):=fun j u hu=>by
 rw [List.getElem?_map] at hu
 cases hd:l[j]? with
 | none=>rw [hd] at hu;cases hu
 | some d =>
  rw [hd] at hu
  obtain rfl:Value.int k (d:Int)=u:=by simpa using hu
  obtain ⟨b,off,hA,hb,hc,_⟩:=h.at hd
  exact ⟨b,off,hA,hb,hc⟩
end
def zcI:Value→Nat
 | .slice _ n _=>n
 | _=>0
theorem zjM (base:Nat) (A:Option Addr) (cap:Nat) (l:List Nat) (w:World) (h:Dg .u8 5 base w A cap l) (hl:l.length≤4611686018427387904) :
  Calls prog 157 #[.slice A l.length cap] w fun e w'=>(∃ A' cap',e = .returned (.slice A' (strip l).length cap')∧Dg .u8 5 base w A' cap' (strip l))∧w=w':=by
 generalize hR:strip l=R
 have HR:=Lib.hid hR
 clear hR
 go_enter func157,ntmps157
 go_wp2
 go_loop [0] (fun s=>∃ (l':List Nat) (A':Option Addr) (cap':Nat),l'.length≤4611686018427387904∧s = .slice A' l'.length cap'∧Dg .u8 5 base w A' cap' l'∧Hid (strip l'=R)) (fun s=>zcI s)
 case atStart=>exact ⟨l,A,cap,hl,rfl,h,HR⟩
 case round =>
  obtain ⟨l',A',cap',hl',rfl,hd,H⟩:=hrel
  clear h hl
  cases l' with
  | nil =>
   obtain rfl:[]=R:=H.out
   go_wp2
   go_ret
   exact ⟨⟨A',cap',rfl,Dg.nil _ _⟩,rfl⟩
  | cons d t =>
   obtain ⟨b,off,rfl,hb,hc⟩:=hd.cons
   have hcap:=hd.1
   rw [List.length_cons] at hl' hcap ⊢
   by_cases h0:d=0
   ·subst h0
    have HH:=Lib.hid hd.tail
    clear hd
    by_cases hc1:cap'=1
    ·subst hc1
     obtain rfl:t=[]:=List.eq_nil_of_length_eq_zero (by omega)
     go_wp2
     exact ⟨⟨[],_,0,by simp,rfl,Dg.nil _ _,H⟩,by simp [zcI]⟩
    ·have hc1':1 < cap':=by omega
     go_wp2
     exact ⟨⟨t,_,_,by omega,rfl,HH.out,by have:=H.out;rw [strip_zero] at this;exact this⟩,by simp [zcI]⟩
   ·have h0':(((d:Int)) == 0)=false:=by simp;omega
    go_wp2
    obtain rfl:d::t=R:=by have:=H.out;rwa [strip_pos _ h0] at this
    go_ret
    exact ⟨⟨_,cap',rfl,hd⟩,rfl⟩
theorem ze7 {P:Program} (w:World) {o:Oper} {a:Act} {K:Act→World→Prop} {Q:Exit→Act→World→Prop} (s x:Operand) (t:TypeId)
  (ho:o.op = .call { callee:=.builtin .append,args:=#[s,x],argTypes:=#[t,t] })
  (e:TypeId) (i:TypeInfo) (z:Value) (size bytes:Nat) (ht:P.underlying t=some (.slice e)) (hi:P.info? e=some i) (hz:i.zero=some z)
  (hsize:i.size=size) (hby:i.bytes=bytes) (hzs:z.cells.size=size) (hsz:0 < size)
  (ad:Addr) (n cap:Nat) (olds:List Value) (hs:a.eval s = .slice (some ad) n cap) (hlo:olds.length=n * size) (hA:Rd 0 w (some ad) olds)
  (B:Option Addr) (m c:Nat) (news:List Value) (hx:a.eval x = .slice B m c) (hln:news.length=m * size) (hB:Rd 0 w B news)
  (hfull:cap < n+m) (hc:n≤cap) (b1:n+m≤maxLen) (b2:(n+m) * bytes≤140737488355328)
  (h:∀ v' os d,(more w os d).ownsRow w.heap.size e size v' (n+m) (olds++news)→K (a.put o.dst v') (more w os d)):o.wp P a w K Q:=by
 have hm:0 < m:=by omega
 have hpos:0 < news.length:=by rw [hln];exact Nat.mul_pos hm hsz
 obtain ⟨b,off,rfl,_,_⟩:=hB 0 news[0] (by simp [hpos])
 obtain ⟨v',w',hrun,hown,hg⟩:=run_append_arg_grows (P:=P) w t o.type e i z size bytes ht hi hz hsize hby hzs hsz ad n cap olds hlo hA.add ⟨b,off,none⟩ m c news hln hB.add hfull b1 b2
 obtain ⟨os,d,rfl⟩:=(Ext.of_grown hg).more
 unfold Oper.wp execOp
 simp only [ho,resolve,invoke,builtin,Sem.run_bind,Sem.run_pure,Result.andThen_ok,List.map_toArray,List.map_cons,List.map_nil,hs,hx,hrun]
 exact h _ _ _ hown
theorem zdD {P:Program} (w:World) {ops:Array Oper} {rest:List Oper} {o:Oper} {a:Act} {Q:Exit→Act→World→Prop} (hgd:o.guard=none) (s x:Operand) (t:TypeId)
  (ho:o.op = .call { callee:=.builtin .append,args:=#[s,x],argTypes:=#[t,t] })
  (e:TypeId) (i:TypeInfo) (z:Value) (size bytes:Nat) (ht:P.underlying t=some (.slice e)) (hi:P.info? e=some i) (hz:i.zero=some z)
  (hsize:i.size=size) (hby:i.bytes=bytes) (hzs:z.cells.size=size) (hsz:0 < size)
  (ad:Addr) (n cap:Nat) (olds:List Value) (hs:a.eval s = .slice (some ad) n cap) (hlo:olds.length=n * size) (hA:Rd 0 w (some ad) olds)
  (B:Option Addr) (m c:Nat) (news:List Value) (hx:a.eval x = .slice B m c) (hln:news.length=m * size) (hB:Rd 0 w B news)
  (hfull:cap < n+m) (hc:n≤cap) (b1:n+m≤maxLen) (b2:(n+m) * bytes≤140737488355328)
  (h:∀ v' os d,(more w os d).ownsRow w.heap.size e size v' (n+m) (olds++news)→wpList P ops Q rest (a.put o.dst v') (more w os d)):wpList P ops Q (o::rest) a w :=
 wpList_plain hgd fun _ hK=>ze7 w s x t ho e i z size bytes ht hi hz hsize hby hzs hsz ad n cap olds hs hlo hA B m c news hx hln hB hfull hc b1 b2 fun v' os d h2=>hK _ _ (h v' os d h2)
theorem Rd.one_ {w:World} {n:Nat} (u:Value) (t:TypeId) (hn:n=w.heap.size):Rd 0 (w.alloc (.cells #[u] t)) (some ⟨n,0,none⟩) [u]:=by
 subst hn
 exact (Rd.one w u t).mono (Nat.zero_le _)
theorem Dg.new {k:IntKind} {ty:TypeId} {base n:Nat} {w:World} (l:List Nat) {C:Array Value} (hC:C=(l.map fun d:Nat=>Value.int k (d:Int)).toArray) (hn:n=w.heap.size) (hb:base≤n):Dg k ty base (w.alloc (.cells C ty)) (some ⟨n,0,none⟩) l.length l:=by
 subst hn hC
 refine ⟨Nat.le_refl _,Or.inr ⟨_,0,_,rfl,hb,Array.getElem?_push_size,fun j d hd=>?_⟩⟩
 simp [hd]
theorem zdP {base:Nat} {w X:World} (h:Below base w X) (hb:base≤X.heap.size) (os:Array Obj) (d:Nat):Below base w (more X os d):=Below.trans h (Below.mono (zP X os d) hb)
structure Kp (base:Nat) (w w':World):Prop where
 bel:Below base w w'
 oth:Lib.OthersKept 5 none w w'
theorem zqH {w w':World} (h:Ext w w'):Lib.OthersKept 5 none w w':=fun k o hk _ _=>by rw [h.block (zH hk)];exact hk
theorem Kp.of_ext {base:Nat} {w w':World} (h:Ext w w') (hb:base≤w.heap.size):Kp base w w':=⟨Below.mono h hb,zqH h⟩
theorem Kp.refl (base:Nat) (w:World):Kp base w w:=⟨Below.refl _ _,Lib.OthersKept.refl _ _ _⟩
theorem Kp.trans {base:Nat} {a b c:World} (h:Kp base a b) (k:Kp base b c):Kp base a c:=⟨h.bel.trans k.bel,h.oth.trans k.oth⟩
theorem Kp.size {base:Nat} {a b:World} (h:Kp base a b):a.heap.size≤b.heap.size:=h.bel.size
theorem Kp.drew {base:Nat} {a b:World} (h:Kp base a b):Kp base a b.drew:=⟨h.bel.drew,h.oth.drew⟩
theorem Kp.then_ext {base:Nat} {a b c:World} (h:Kp base a b) (hx:Ext b c) (hb:base≤a.heap.size):Kp base a c:=h.trans (Kp.of_ext hx (Nat.le_trans hb h.size))
theorem Kp.set {base:Nat} {a w:World} (h:Kp base a w) {b off cap i:Nat} {l:List Nat} (hd:Dg .u8 5 base w (some ⟨b,off,none⟩) cap l) (hl:l≠[]) (v:Value):Kp base a (w.setCell ⟨b,off+i,none⟩ v):=by
 rcases hd.2 with h0 | ⟨b',off',cur,h1,h2,h3,h4⟩
 ·exact absurd h0 hl
 ·simp only [Option.some.injEq,Addr.mk.injEq,and_true] at h1
  obtain ⟨rfl,rfl⟩:=h1
  refine ⟨h.bel.setCell h2 _,fun k o hk hb ho=>?_⟩
  have h5:=h.oth k o hk hb ho
  have hne:k≠b:=fun he=>by
   subst he
   rw [h3] at h5
   exact ho cur (0,0) (Option.some.inj h5).symm
  rw [RowKit.Below.heap_setCell _ _ _ _ hne]
  exact h5
theorem zcW:(Tryz.prog.info? 5).map (fun i=>(i.zero,i.size,i.bytes))=some (some (.int .u8 0),1,1):=by kernel_rfl
theorem zjt {l:List Nat} (h:AllD l) (h0:val l=0):strip l=[]:=by rw [← dig_val h,h0,dig_zero]
theorem zpc {l:List Nat} (h0:val l≠0):0 < (strip l).length:=by
 rcases Nat.eq_zero_or_pos (strip l).length with h | h
 ·exact absurd (by rw [← val_strip,List.eq_nil_of_length_eq_zero h];rfl) h0
 ·exact h
structure CutIn (base:Nat) (w:World) (b off cap n len:Nat) (hd:List Nat) (r0:Nat) (rest:List Nat):Prop where
 dg:Dg .u8 5 base w (some ⟨b,off,none⟩) cap (hd++r0::rest)
 hn:hd.length=n
 hlen:n+1+rest.length=len
 big:len≤1000000
section
variable {base:Nat} {w:World} {b off cap n len:Nat} {hd:List Nat} {r0:Nat} {rest:List Nat}
theorem CutIn.facts (h:CutIn base w b off cap n len hd r0 rest):n≤cap∧n < cap∧¬ cap=n∧n≤len∧n < len∧0 < len - n∧len≤cap∧base≤b∧b < w.heap.size∧w.cell? ⟨b,off+n,none⟩=some (.int .u8 (r0:Int)):=by
 obtain ⟨b',off',hA,hb,hc,hf⟩:=h.dg.at (i:=n) (d:=r0) (by rw [← h.hn];simp)
 obtain ⟨rfl,rfl⟩:=aI hA
 have h1:=h.dg.1
 have h2:=h.hn
 have h3:=h.hlen
 have h4:=zg hc
 simp at h1 h4
 exact ⟨by omega,by omega,by omega,by omega,by omega,by omega,by omega,hb,h4,hc⟩
theorem CutIn.head (h:CutIn base w b off cap n len hd r0 rest) (c:Nat) (hc:n≤c):Dg .u8 5 base w (some ⟨b,off,none⟩) c hd:=by
 have:=h.dg.take n c hc
 rwa [← h.hn,List.take_left] at this
end
theorem zpd (base b off cap n len r0:Nat) (hd rest:List Nat) (w:World) (h:CutIn base w b off cap n len hd r0 rest) (hr:r0 < 5) :
  Tl prog 158 #[.slice (some ⟨b,off,none⟩) len cap,.int .i64 (n:Int)] w (.slice (some ⟨b,off,none⟩) n n):=by
 have h5:((r0:Int) == 5)=false:=by simp;omega
 have h6:decide (5 < (r0:Int))=false:=by simp;omega
 have hbig:=h.big
 obtain ⟨hn1,hn2,hn3,hn4,hn5,hn6,hn7,hb,hbw,hc⟩:=h.facts;have H:=Lib.hid h;clear h
 go_enter func158,ntmps158
 go_wp2
 refine plP [(0,0),(1,0),(2,0),(3,0),(4,0),(5,0),(6,0),(7,0),(8,0)] [] (by kernel_rfl) (fun _ _ d _ _ h=>by cases d <;> exact h) ?_
 iterate 9 (apply rdP rfl rfl;(intros;go_simp;first | done | rfl);try simp only [zq])
 refine zj ?_
 go_wp2
 go_ret
 exact ⟨rfl,by simp [go_sem]⟩
theorem CutIn.rest_ {base:Nat} {w:World} {b off cap n len:Nat} {hd:List Nat} {r0:Nat} {rest:List Nat} (h:CutIn base w b off cap n len hd r0 rest) :
  rest.length=len - n - 1∧(cap - n=1→Dg .u8 5 base w (some ⟨b,off+n,none⟩) 0 rest)∧Dg .u8 5 base w (some ⟨b,off+n+1,none⟩) (cap - n - 1) rest:=by
 have h1:=h.hn
 have h2:=h.hlen
 have h3:=h.dg.1
 simp at h3
 refine ⟨by omega,fun hc=>?_,?_⟩
 ·have:rest=[]:=List.eq_nil_of_length_eq_zero (by omega)
  rw [this];exact Dg.nil _ _
 ·have:=h.dg.drop (n+1)
  rw [← h1,show List.drop (hd.length+1) (hd++r0::rest)=rest by simp [List.drop_append]] at this
  rw [← h1,Nat.add_assoc,Nat.sub_sub];exact this
theorem zlN {base:Nat} {w:World} {b off cap n:Nat} {hd:List Nat} (hn:hd.length=n) (h0:1≤n) (h:Dg .u8 5 base w (some ⟨b,off,none⟩) cap hd) :
  ∃ dl:Nat,w.cell? ⟨b,off+(n - 1),none⟩=some (.int .u8 (dl:Int))∧val hd % 2=dl % 2:=by
 obtain ⟨dl,hdl⟩:∃ dl,hd[n - 1]? = some dl:=⟨hd[n - 1]'(by omega),by rw [List.getElem?_eq_getElem]⟩
 obtain ⟨b',off',hA,hb,hc,hf⟩:=h.at hdl
 obtain ⟨rfl,rfl⟩:=aI hA
 refine ⟨dl,hc,?_⟩
 have he:hd=hd.take (n - 1)++[dl]:=by
  have h1:=List.take_append_drop (n - 1) hd
  have h2:hd.drop (n - 1)=[dl]:=by
   apply List.ext_getElem?
   intro i
   rw [List.getElem?_drop]
   cases i with
   | zero=>simpa using hdl
   | succ i=>rw [List.getElem?_eq_none (by omega)];simp
  rw [h2] at h1;exact h1.symm
 rw [he,val_snoc];omega
theorem zcX (base:Nat) (A:Option Addr) (cap m:Nat) (l:List Nat) (w:World) (hm:l.length=m) (h:Dg .u8 5 base w A cap l) (hl:m≤4611686018427387904) :
  Calls prog 157 #[.slice A m cap] w fun e w'=>(∃ A' cap',e = .returned (.slice A' (strip l).length cap'))∧w=w':=by
 subst hm
 exact (zjM base A cap l w h hl).mono fun e w' ⟨⟨A',cap',h1,_⟩,h2⟩=>⟨⟨A',cap',h1⟩,h2⟩
theorem zqI (base b off cap n len:Nat) (hd rest:List Nat) (w:World) (h:CutIn base w b off cap n len hd 5 rest) (hr:strip rest=[]) (hq:val hd % 2=0) :
  Tl prog 158 #[.slice (some ⟨b,off,none⟩) len cap,.int .i64 (n:Int)] w (.slice (some ⟨b,off,none⟩) n n):=by
 have hbig:=h.big
 have HS:Hid ((strip rest).length=0):=by show _=_;rw [hr];rfl
 have hdd:=h.head n (Nat.le_refl _)
 have HN:=Lib.hid h.hn
 clear hr
 obtain ⟨hrl,hr1,hr2⟩:=h.rest_;have hrb:rest.length≤4611686018427387904:=(by omega);rw [hrl] at hrb
 obtain ⟨hn1,hn2,hn3,hn4,hn5,hn6,hn7,hb,hbw,hc⟩:=h.facts;have H:=Lib.hid h;clear h
 have HL:=Lib.hid hrl
 clear hrl
 by_cases hn0:n=0
 ·have e0:decide (0 < n)=false:=by simp;omega
  have HZ:=Lib.hid hn0
  clear hn0
  by_cases hc1:cap - n=1
  ·have HR:=Lib.hid (hr1 hc1)
   clear hr1 hr2
   go_enter func158,ntmps158
   go_wp2
   refine plP [(0,0),(1,0),(2,0),(3,0),(4,0),(5,0),(6,0),(7,0),(8,0)] [] (by kernel_rfl) (fun _ _ d _ _ h=>by cases d <;> exact h) ?_
   iterate 9 (apply rdP rfl rfl;(intros;go_simp;first | done | rfl);try simp only [zq])
   refine zj ?_
   go_wp2_with (go_at_call 157;refine (zcX base _ _ _ rest _ HL.out (HR.out.ext (by simp [go_sem])) hrb).mono ?_;rintro e w' ⟨⟨A',cap',rfl⟩,rfl⟩;rw [HS.out])
   go_ret
   exact ⟨rfl,by simp [go_sem]⟩
  ·have HR:=Lib.hid hr2
   clear hr1 hr2
   go_enter func158,ntmps158
   go_wp2
   refine plP [(0,0),(1,0),(2,0),(3,0),(4,0),(5,0),(6,0),(7,0),(8,0)] [] (by kernel_rfl) (fun _ _ d _ _ h=>by cases d <;> exact h) ?_
   iterate 9 (apply rdP rfl rfl;(intros;go_simp;first | done | rfl);try simp only [zq])
   refine zj ?_
   go_wp2_with (go_at_call 157;refine (zcX base _ _ _ rest _ HL.out (HR.out.ext (by simp [go_sem])) hrb).mono ?_;rintro e w' ⟨⟨A',cap',rfl⟩,rfl⟩;rw [HS.out])
   go_ret
   exact ⟨rfl,by simp [go_sem]⟩
 ·have e0:decide (0 < n)=true:=by simp;omega
  have hn0':1≤n:=by omega
  obtain ⟨dl,hdl,hdm⟩:=zlN HN.out hn0' hdd
  have e1:(((dl:Int)) % 2 == 1)=false:=by simp;omega
  have hdl10:dl % 2=0:=by omega
  clear hq hdm hn0
  by_cases hc1:cap - n=1
  ·have HR:=Lib.hid (hr1 hc1)
   clear hr1 hr2
   go_enter func158,ntmps158
   go_wp2
   refine plP [(0,0),(1,0),(2,0),(3,0),(4,0),(5,0),(6,0),(7,0),(8,0)] [] (by kernel_rfl) (fun _ _ d _ _ h=>by cases d <;> exact h) ?_
   iterate 9 (apply rdP rfl rfl;(intros;go_simp;first | done | rfl);try simp only [zq])
   refine zj ?_
   go_wp2_with (go_at_call 157;refine (zcX base _ _ _ rest _ HL.out (HR.out.ext (by simp [go_sem])) hrb).mono ?_;rintro e w' ⟨⟨A',cap',rfl⟩,rfl⟩;rw [HS.out])
   go_ret
   exact ⟨rfl,by simp [go_sem]⟩
  ·have HR:=Lib.hid hr2
   clear hr1 hr2
   go_enter func158,ntmps158
   go_wp2
   refine plP [(0,0),(1,0),(2,0),(3,0),(4,0),(5,0),(6,0),(7,0),(8,0)] [] (by kernel_rfl) (fun _ _ d _ _ h=>by cases d <;> exact h) ?_
   iterate 9 (apply rdP rfl rfl;(intros;go_simp;first | done | rfl);try simp only [zq])
   refine zj ?_
   go_wp2_with (go_at_call 157;refine (zcX base _ _ _ rest _ HL.out (HR.out.ext (by simp [go_sem])) hrb).mono ?_;rintro e w' ⟨⟨A',cap',rfl⟩,rfl⟩;rw [HS.out])
   go_ret
   exact ⟨rfl,by simp [go_sem]⟩
theorem zjN {l:List Nat} (h:0 < l.length):l≠[]:=fun he=>by rw [he] at h;exact absurd h (by simp)
theorem za2 {hd:List Nat} {j d:Nat} (h:hd[j]? = some d):hd.take (j+1)=hd.take j++[d]:=by
 have hj:j < hd.length:=by
  rcases Nat.lt_or_ge j hd.length with h1 | h1
  ·exact h1
  ·rw [List.getElem?_eq_none h1] at h;cases h
 rw [List.take_succ_eq_append_getElem hj]
 rw [List.getElem?_eq_getElem hj] at h
 rw [Option.some.inj h]
theorem zhy {hd R:List Nat} {j d:Nat} (x:Nat) (h:hd[j]? = some d):(hd.take (j+1)++R).set j x=hd.take j++x::R:=by
 have hj:j < hd.length:=by
  rcases Nat.lt_or_ge j hd.length with h1 | h1
  ·exact h1
  ·rw [List.getElem?_eq_none h1] at h;cases h
 have hl:(hd.take j).length=j:=by simp;omega
 rw [za2 h,List.append_assoc,List.singleton_append,List.set_append_right _ _ (by omega),hl,Nat.sub_self,List.set_cons_zero]
theorem zqJ {hd:List Nat} {j n d:Nat} (hn:hd.length=n) (hj:j < n) (h:hd[j]? = some d) (he:hd=hd.take (j+1)++List.replicate (n - (j+1)) 9) (ha:AllD hd) (h9:d < 9) :
  AllD (hd.take j++(d+1)::List.replicate (n - (j+1)) 0)∧val (hd.take j++(d+1)::List.replicate (n - (j+1)) 0)=val hd+1∧(hd.take j++(d+1)::List.replicate (n - (j+1)) 0).length=n:=by
 refine ⟨(ha.take j).append (AllD.cons (by omega) (AllD.rep _ _ (by omega))),?_,by simp;omega⟩
 rw [val_incr]
 rw [za2 h,List.append_assoc,List.singleton_append] at he
 rw [← he]
theorem zpe {w:World} {base n:Nat} {v:Value} (hn:0 < n) (h:w.ownsRow base 5 1 v (n+1) ((1::List.replicate (n - 1) 0).map (fun d:Nat=>Value.int .u8 (d:Int))++[.int .u8 0])) :
  ∃ A' cap',v = .slice A' (n+1) cap'∧Dg .u8 5 base w A' cap' (1::List.replicate n 0):=by
 have e:(1::List.replicate (n - 1) 0).map (fun d:Nat=>Value.int .u8 (d:Int))++[.int .u8 0]=(1::List.replicate n 0).map (fun d:Nat=>Value.int .u8 (d:Int)):=by
  rw [show n=(n - 1)+1 by omega,List.replicate_succ']
  simp
 rw [e] at h
 obtain ⟨A,c,rfl,h1,_⟩:=Dg.of_own h
 exact ⟨A,c,by simp,h1⟩
def zsr (base:Nat) (w:World) (n:Nat) (hd:List Nat) (e:Ending) (w':World):Prop :=
 ∃ A' cap' r,e = .returned (.slice A' r.length cap')∧Dg .u8 5 base w' A' cap' r∧AllD r∧val r=val hd+1∧(r.length=n∨r.length=n+1∧val r=T n)∧Kp base w w'
theorem CutIn.slice1 {base:Nat} {w:World} {b off cap n len:Nat} {hd:List Nat} {r0:Nat} {rest:List Nat} (h:CutIn base w b off cap n len hd r0 rest) :
  ∃ A1 c1,(∀ W,(Instr.sliceAt 124 (.slice (some ⟨b,off+n,none⟩) (len - n) (cap - n)) (some (.int .i64 1)) none none).run prog W = .ok (.slice A1 (len - n - 1) c1) W)∧Dg .u8 5 base w A1 c1 rest:=by
 obtain ⟨hn1,hn2,hn3,hn4,hn5,hn6,hn7,hb,hbw,hc⟩:=h.facts
 obtain ⟨hrl,hr1,hr2⟩:=h.rest_
 have hbig:=h.big
 by_cases hc1:cap - n=1
 ·refine ⟨_,_,fun W=>?_,hr1 hc1⟩
  go_simp
  intro hx
  omega
 ·refine ⟨_,_,fun W=>?_,hr2⟩
  go_simp
  intro hx
  omega
def zrq (r0:Nat) (hd rest:List Nat):Prop:=5 < r0∨r0=5∧0 < (strip rest).length∨r0=5∧(strip rest).length=0∧val hd % 2=1
theorem zpf (base b off cap n len r0:Nat) (hd rest:List Nat) (w:World) (h:CutIn base w b off cap n len hd r0 rest) (hup:zrq r0 hd rest) (hall:AllD hd) :
  Calls prog 158 #[.slice (some ⟨b,off,none⟩) len cap,.int .i64 (n:Int)] w (zsr base w n hd):=by
 have hbig:=h.big
 have hdd:=h.head n (Nat.le_refl _)
 have HN:=Lib.hid h.hn
 obtain ⟨A1,c1,hsl,hr2⟩:=h.slice1
 obtain ⟨hrl,_,_⟩:=h.rest_
 have hrb:len - n - 1≤4611686018427387904:=by omega
 obtain ⟨hn1,hn2,hn3,hn4,hn5,hn6,hn7,hb,hbw,hc⟩:=h.facts;have H:=Lib.hid h;clear h
 have HL:=Lib.hid hrl
 have HR:=Lib.hid hr2
 have HA:=Lib.hid hall
 clear hrl hr2 hall
 rcases hup with hr | ⟨rfl,hr⟩ | ⟨rfl,hr,hq⟩
 focus
  have h5:((r0:Int) == 5)=false:=by simp;omega
  have h6:decide (5 < (r0:Int))=true:=by simp;omega
  have HD:=Lib.hid hdd
  clear hdd
  go_enter func158,ntmps158
  go_wp2
  refine plP [(0,0),(1,0),(2,0),(3,0),(4,0),(5,0),(6,0),(7,0),(8,0)] [] (by kernel_rfl) (fun _ _ d _ _ h=>by cases d <;> exact h) ?_
  iterate 9 (apply rdP rfl rfl;(intros;go_simp;first | done | rfl);try simp only [zq])
  refine zj ?_
  go_wp2_with fail
 rotate_left
 focus
  have HD:=Lib.hid hdd
  clear hdd
  go_enter func158,ntmps158
  go_wp2
  refine plP [(0,0),(1,0),(2,0),(3,0),(4,0),(5,0),(6,0),(7,0),(8,0)] [] (by kernel_rfl) (fun _ _ d _ _ h=>by cases d <;> exact h) ?_
  iterate 9 (apply rdP rfl rfl;(intros;go_simp;first | done | rfl);try simp only [zq])
  refine zj ?_
  go_wp2_with (go_at_call 157;refine (zcX base _ _ _ rest _ HL.out (HR.out.ext (by simp [go_sem])) hrb).mono ?_;rintro e w' ⟨⟨A',cap',rfl⟩,rfl⟩)
 rotate_left
 focus
  have HS:=Lib.hid hr
  have hn0':1≤n:=by
   rcases Nat.eq_zero_or_pos n with h0 | h0
   ·have:hd=[]:=List.eq_nil_of_length_eq_zero (by rw [HN.out,h0])
    rw [this] at hq;cases hq
   ·exact h0
  have e0:decide (0 < n)=true:=by simp;omega
  obtain ⟨dl,hdl,hdm⟩:=zlN HN.out hn0' hdd
  have e1:(((dl:Int)) % 2 == 1)=true:=by simp;omega
  have HD:=Lib.hid hdd
  clear hdd hq hdm hr
  go_enter func158,ntmps158
  go_wp2
  refine plP [(0,0),(1,0),(2,0),(3,0),(4,0),(5,0),(6,0),(7,0),(8,0)] [] (by kernel_rfl) (fun _ _ d _ _ h=>by cases d <;> exact h) ?_
  iterate 9 (apply rdP rfl rfl;(intros;go_simp;first | done | rfl);try simp only [zq])
  refine zj ?_
  go_wp2_with (go_at_call 157;refine (zcX base _ _ _ rest _ HL.out (HR.out.ext (by simp [go_sem])) hrb).mono ?_;rintro e w' ⟨⟨A',cap',rfl⟩,rfl⟩;rw [HS.out])
 rotate_left
 all_goals
  go_loopw [8] (fun i wr=>∃ j:Nat,j≤n∧i = .int .i64 ((j:Int) - 1)∧Hid (hd=hd.take j++List.replicate (n - j) 9)∧Hid (Dg .u8 5 base wr (some ⟨b,off,none⟩) n (hd.take j++List.replicate (n - j) 0))∧Kp base w wr) (fun i _=>(intOf i+1).toNat)
  case atStart=>exact ⟨n,Nat.le_refl _,rfl,by show _=_;rw [← HN.out];simp,by show Dg _ _ _ _ _ _ _;rw [Nat.sub_self,← HN.out,List.take_length];simp only [List.replicate_zero,List.append_nil];rw [HN.out];exact HD.out.ext (by simp [go_sem]),(Kp.refl _ _).drew⟩
  case round =>
   obtain ⟨j,hj,rfl,HE,HW,hbel⟩:=hrel
   by_cases hj0:j=0
   ·have e1:((j:Nat):Int) - 1 = -1:=by omega
    simp only [e1]
    clear e1
    have HE0:Hid (hd=List.replicate n 9):=by show _=_;have:=HE.out;rw [hj0] at this;simpa using this
    have HW0:Hid (Dg .u8 5 base wr (some ⟨b,off,none⟩) n (List.replicate n 0)):=by show Dg _ _ _ _ _ _ _;have:=HW.out;rw [hj0] at this;simpa using this
    clear hj0 HE HW hj
    by_cases hn0:n=0
    ·have e0:((n:Int) == 0)=true:=by simp [hn0]
     have e0b:(n == 0)=true:=by simp [hn0]
     have HZ:=Lib.hid hn0
     clear hn0
     go_wp2
     go_ret
     have hsz:=hbel.size
     refine ⟨_,1,[1],rfl,Dg.new [1] rfl rfl (by omega),AllD.cons (by omega) AllD.nil,?_,Or.inr ⟨?_,?_⟩,hbel.then_ext (by repeat (first | exact Ext.refl _ | apply Ext.drew | apply Ext.alloc | apply Ext.more_)) (by omega)⟩
     ·rw [HE0.out,HZ.out];rfl
     ·rw [HZ.out];rfl
     ·rw [HZ.out];rfl
    ·have e0:((n:Int) == 0)=false:=by simp [hn0]
     have e0b:(n == 0)=false:=by simp [hn0]
     have hn0':0 < n:=by omega
     obtain ⟨b',off',hA',_,hcj,hfj⟩:=HW0.out.at (i:=0) (d:=0) (by rw [List.getElem?_replicate,if_pos hn0'])
     simp only [Option.some.injEq,Addr.mk.injEq,and_true] at hA'
     obtain ⟨rfl,rfl⟩:=hA'
     rw [Nat.add_zero] at hcj hfj
     clear hn0
     obtain ⟨i0,hi,hz0,hz1,hz2⟩:=info_parts zcW
     have HST:Hid (Dg .u8 5 base (wr.setCell ⟨b,off,none⟩ (.int .u8 1)) (some ⟨b,off,none⟩) n (1::List.replicate (n - 1) 0)):=by
      have:=HW0.out.set (i:=0) (d:=1) (by simp;omega)
      rw [Nat.add_zero,show n=(n - 1)+1 by omega,List.replicate_succ,List.set_cons_zero,← show n=(n - 1)+1 by omega] at this
      exact this
     go_wp2_with (at_builtin;refine zdD _ rfl _ _ _ rfl 5 i0 (.int .u8 0) 1 1 Tryz.underlying124 hi hz0 hz1 hz2 rfl (by decide) ⟨b,off,none⟩ n n ((1::List.replicate (n - 1) 0).map fun d:Nat=>Value.int .u8 (d:Int)) rfl (by simp;omega) ((HST.out.ext (by simp [go_sem])).rd.mono (Nat.zero_le _)) _ 1 1 [.int .u8 0] rfl rfl (Rd.one_ _ _ (by simp)) (by omega) (Nat.le_refl _) (by simp [maxLen];omega) (by omega) ?_;intro v' os d hown;obtain ⟨A',cap',rfl,hdg⟩:=zpe hn0' hown;clear hown)
     have hsz:=hbel.size
     go_ret
     refine ⟨A',cap',1::List.replicate n 0,?_,hdg.mono (by simp;omega),AllD.cons (by omega) (AllD.rep _ _ (by omega)),?_,Or.inr ⟨by simp,?_⟩,(hbel.set (i:=0) HW0.out (zjN (by rw [List.length_replicate];omega)) _).then_ext (by repeat (first | exact Ext.refl _ | apply Ext.drew | apply Ext.alloc | apply Ext.more_)) (by omega)⟩
     ·rw [List.length_cons,List.length_replicate];rfl
     ·rw [HE0.out,val_over]
     ·rw [val_cons,val_rep0];simp
   ·obtain ⟨j,rfl⟩:∃ i,j=i+1:=⟨j - 1,by omega⟩
    obtain ⟨d,hdj⟩:∃ d,hd[j]? = some d:=⟨hd[j]'(by have:=HN.out;omega),by rw [List.getElem?_eq_getElem]⟩
    have hd10:=HA.out.at hdj
    obtain ⟨b',off',hA',_,hcj,hfj⟩:=HW.out.at (i:=j) (d:=d) (by rw [List.getElem?_append_left (by have:=HN.out;simp;omega),List.getElem?_take_of_lt (by omega)];exact hdj)
    simp only [Option.some.injEq,Addr.mk.injEq,and_true] at hA'
    obtain ⟨rfl,rfl⟩:=hA'
    have e1:((j+1:Nat):Int) - 1=j:=by omega
    simp only [e1]
    clear e1
    have hjn:j < n:=by omega
    have HJ:=Lib.hid hdj
    clear hdj
    by_cases h9:d < 9
    ·have e9:decide ((d:Int) < 9)=true:=by simp;omega
     go_wp2
     have hst:=HW.out.set (i:=j) (d:=d+1) (by have:=HN.out;simp;omega)
     rw [zhy _ HJ.out] at hst
     obtain ⟨g1,g2,g3⟩:=zqJ HN.out hjn HJ.out HE.out HA.out h9
     rw [show ((d+1:Nat):Int)=(d:Int)+1 by omega] at hst
     go_ret
     refine ⟨_,n,_,?_,hst,g1,g2,Or.inl g3,hbel.set HW.out (zjN (by have:=HN.out;rw [List.length_append,List.length_take,List.length_replicate];omega)) _⟩
     rw [g3];rfl
    ·have e9:decide ((d:Int) < 9)=false:=by simp;omega
     go_wp2
     obtain rfl:d=9:=by omega
     have hst:=HW.out.set (i:=j) (d:=0) (by have:=HN.out;simp;omega)
     rw [zhy _ HJ.out] at hst
     refine ⟨⟨j,by omega,rfl,?_,?_,hbel.set HW.out (zjN (by have:=HN.out;rw [List.length_append,List.length_take,List.length_replicate];omega)) _⟩,by simp [intOf]⟩
     ·show _=_
      have he:=HE.out
      rw [za2 HJ.out,List.append_assoc,List.singleton_append,← List.replicate_succ] at he
      rw [show n - j=n - (j+1)+1 by omega];exact he
     ·show Dg _ _ _ _ _ _ _
      rw [show n - j=n - (j+1)+1 by omega,List.replicate_succ];exact hst
def zjO (base:Nat) (w:World) (n:Nat) (l:List Nat) (e:Ending) (w':World):Prop :=
 ∃ A' cap' r,e = .returned (.slice A' r.length cap')∧Dg .u8 5 base w' A' cap' r∧AllD r∧val r=cutN (val l) (l.length - n) false∧(r.length=n∨r.length=n+1∧val r=T n)∧Kp base w w'
theorem zlO (base cap n len:Nat) (A:Option Addr) (l:List Nat) (w:World) (h:Dg .u8 5 base w A cap l) (hlen:l.length=len) (hn:n < len) (hbig:len≤1000000) (hall:AllD l) :
  Calls prog 158 #[.slice A len cap,.int .i64 (n:Int)] w (zjO base w n l):=by
 obtain ⟨r0,hr0⟩:∃ r0,l[n]? = some r0:=⟨l[n]'(by omega),by rw [List.getElem?_eq_getElem]⟩
 have hnl:n < l.length:=by omega
 have hdrop:l.drop n=r0::l.drop (n+1):=by
  rw [List.drop_eq_getElem_cons hnl]
  rw [List.getElem?_eq_getElem hnl] at hr0
  rw [Option.some.inj hr0]
 obtain ⟨b,off,rfl,hb,_,_⟩:=h.at hr0
 have hin:CutIn base w b off cap n len (l.take n) r0 (l.drop (n+1)):=⟨by rw [← hdrop,List.take_append_drop];exact h,by simp;omega,by simp;omega,hbig⟩
 have hv:=cut_up hall n r0 (l.drop (n+1)) false hdrop
 have hbw:=hin.facts.2.2.2.2.2.2.2.2.1
 have hrest:=hall.drop (n+1)
 have htk:=hall.take n
 have hdd:=hin.head n (Nat.le_refl _)
 have stay:upB (val (l.take n)) r0 (l.drop (n+1)) false=false→∀ e w',(e = .returned (.slice (some ⟨b,off,none⟩) n n)∧Ext w w')→zjO base w n l e w':=fun hu e w' ⟨he,hx⟩=>by
  rw [hu] at hv
  have hl:(l.take n).length=n:=by simp;omega
  refine ⟨some ⟨b,off,none⟩,n,l.take n,by rw [hl];exact he,hdd.ext hx,htk,by rw [hv];rfl,Or.inl hl,Kp.of_ext hx (by omega)⟩
 have go:upB (val (l.take n)) r0 (l.drop (n+1)) false=true→zrq r0 (l.take n) (l.drop (n+1))→Calls prog 158 #[.slice (some ⟨b,off,none⟩) len cap,.int .i64 (n:Int)] w (zjO base w n l):=fun hu hup =>
  (zpf base b off cap n len r0 _ _ w hin hup htk).mono fun e w' ⟨A',cap',r,h1,h2,h3,h4,h5,h6⟩=>by
   rw [hu] at hv
   exact ⟨A',cap',r,h1,h2,h3,by rw [hv,h4];rfl,h5,h6⟩
 by_cases h1:r0 < 5
 ·exact (zpd base b off cap n len r0 _ _ w hin h1).mono (stay (by unfold upB;simp;omega))
 ·by_cases h2:5 < r0
  ·exact go (by unfold upB;simp [h2]) (Or.inl h2)
  ·obtain rfl:r0=5:=by omega
   by_cases h3:val (l.drop (n+1))=0
   ·have hs:=zjt hrest h3
    by_cases h4:val (l.take n) % 2=0
    ·exact (zqI base b off cap n len _ _ w hin hs h4).mono (stay (by unfold upB;simp [h3,h4]))
    ·exact go (by unfold upB;simp [h3];omega) (Or.inr (Or.inr ⟨rfl,by rw [hs];rfl,by omega⟩))
   ·exact go (by unfold upB;simp [h3]) (Or.inr (Or.inl ⟨rfl,zpc h3⟩))
abbrev b8 (l:List Nat):List Value:=l.map fun d:Nat=>Value.int .u8 (d:Int)
theorem zbk {w w':World} {base:Nat} {e:TypeId} {v:Value} {n:Nat} {xs:List Value} (h:w.ownsRow base e 1 v n xs) (hb:∀ (g:Nat) (cur:Array Value),w.heap[g]? = some (Obj.cells cur e (0,0))→w'.heap[g]? = w.heap[g]?):w'.ownsRow base e 1 v n xs:=by
 obtain ⟨h1,h2⟩:=h
 refine ⟨h1,?_⟩
 rcases h2 with h2 | ⟨g,cap,cur,h3,h4,h5,h6⟩
 ·exact Or.inl h2
 ·exact Or.inr ⟨g,cap,cur,h3,h4,by rw [hb g cur h5];exact h5,h6⟩
theorem zdQ {w:World} {base:Nat} {e:TypeId} {v:Value} {n:Nat} {xs:List Value} (h:w.ownsRow base e 1 v n xs):∀ g,v.ownBlock=some g→base≤g∧∃ cur,w.heap[g]? = some (.cells cur e (0,0)):=by
 intro g hg
 obtain ⟨h1,h2⟩:=h
 rcases h2 with ⟨rfl,_⟩ | ⟨g',cap,cur,rfl,h4,h5,h6⟩
 ·cases hg
 ·simp only [Value.ownBlock,Option.some.injEq] at hg
  subst hg
  exact ⟨h4,cur,h5⟩
structure DigLoop (w:World) (s:ByteArray) (k:Nat) (l:List Nat) (pos:Nat) (v:Value) (wr:World):Prop where
 own:wr.ownsRow w.heap.size 5 1 v pos (b8 (l.take pos))
 it:wr.heap[k]? = some (.stringIter s pos)
 ext:Ext w wr
 lo:w.heap.size≤k
theorem DigLoop.mid {w:World} {s:ByteArray} {k:Nat} {l:List Nat} {pos:Nat} {v:Value} {wr:World} (h:DigLoop w s k l pos v wr) (o:Obj) :
  ((wr.iterAt k s (pos+1)).alloc o).ownsRow w.heap.size 5 1 v pos (b8 (l.take pos)):=by
 refine zbk h.own fun g cur hg=>?_
 have hgl:=zH hg
 have hne:g≠k:=fun he=>by rw [he,h.it] at hg;cases hg
 rw [RowKit.Below.heap_alloc _ o g (by rw [Lib.iterAt_size];exact hgl),Lib.iterAt_other _ _ _ _ _ hne]
theorem DigLoop.step {w:World} {s:ByteArray} {k:Nat} {l:List Nat} {pos:Nat} {v v3:Value} {wr w3:World} {o:Obj} (h:DigLoop w s k l pos v wr) {d:Nat} (hd:l[pos]? = some d)
  (hg:((wr.iterAt k s (pos+1)).alloc o).grownBy w3 v.ownBlock) (ho:w3.ownsRow w.heap.size 5 1 v3 (pos+1) (b8 (l.take pos)++[.int .u8 (d:Int)])):DigLoop w s k l (pos+1) v3 w3:=by
 have hk:=zH h.it
 have hb:=zdQ h.own
 have hne:some k≠v.ownBlock:=fun he=>by
  obtain ⟨_,cur,hc⟩:=hb k he.symm
  rw [h.it] at hc;cases hc
 refine ⟨?_,?_,?_,h.lo⟩
 ·rw [za2 hd,b8,List.map_append];exact ho
 ·rw [hg.block k (by simp [Lib.iterAt_size];omega) hne,RowKit.Below.heap_alloc _ o k (by rw [Lib.iterAt_size];exact hk)]
  exact Lib.iterAt_heap wr k s pos (pos+1) h.it
 ·refine ⟨hg.os.trans h.ext.os,hg.tape.trans h.ext.tape,hg.output.trans h.ext.output,?_,fun j hj=>?_⟩
  ·have h1:=h.ext.size
   have h2:=hg.size
   simp [Lib.iterAt_size] at h2
   omega
  ·have h1:=h.ext.size
   have h2:=h.lo
   rw [hg.block j (by simp [Lib.iterAt_size];omega) (fun he=>by have:=(hb j he.symm).1;omega),RowKit.Below.heap_alloc _ o j (by rw [Lib.iterAt_size];omega),Lib.iterAt_other _ _ _ _ _ (by omega),h.ext.block hj]
theorem ze8 (x:Int):∀ u∈[Value.int .u8 x],u.oneCell'=true:=by
 intro u hu
 obtain rfl:=List.mem_singleton.1 hu
 rfl
theorem DigLoop.start {w X:World} {s:ByteArray} {D:List Nat} {n c:Nat} (hx:Ext w X) (hn:n=X.heap.size) (hc:c≤maxLen) :
  DigLoop w s (n+1) D 0 (.slice (some ⟨n,0,none⟩) 0 c) ((X.alloc (.cells (madeCells #[.int .u8 0] c) 5)).iter s 0):=by
 subst hn
 have h0:=World.ownsRow_made (base:=w.heap.size) (e:=5) (size:=1) X (madeCells #[.int .u8 0] c) c hx.size hc (by rw [size_madeCells];simp)
 refine ⟨?_,?_,?_,by have:=hx.size;omega⟩
 ·refine zbk (by simpa using h0) fun g cur hg=>?_
  exact RowKit.Below.heap_alloc _ _ g (zH hg)
 ·have:=World.iter_heap (X.alloc (.cells (madeCells #[.int .u8 0] c) 5)) s 0
  simpa using this
 ·exact (hx.alloc _).alloc _
theorem zc6 (u:Nat) (hu:u < 18446744073709551616) (w:World) (htab:Tab w) :
  Calls prog 125 #[.int .u64 u] w fun e w'=>∃ v,e = .returned v∧w'.ownsRow w.heap.size 5 1 v (zax u).length (b8 (zax u))∧Ext w w':=by
 have hfmt:=zqG u hu w htab
 have hl20:(zax u).length≤20:=by rw [zbm];have:=(nd_le_iff u 20).2 (Nat.lt_of_lt_of_le hu (by decide));omega
 have hl1:1≤(zax u).length:=by rw [zbm];omega
 have hsz:(⟨(Lib.decDigits u).toArray⟩:ByteArray).size=(zax u).length:=by rw [zil];simp [ByteArray.size]
 have hat:∀ (pos d:Nat) (h:pos < (⟨(Lib.decDigits u).toArray⟩:ByteArray).size),(zax u)[pos]? = some d→((⟨(Lib.decDigits u).toArray⟩:ByteArray)[pos]'h).toNat=48+d:=by
  intro pos d h hd
  have hd10:=(zcQ u).at hd
  have h1:(⟨(Lib.decDigits u).toArray⟩:ByteArray)[pos]'h=(Lib.decDigits u)[pos]'(by rw [hsz] at h;rw [zil];simpa using h):=rfl
  rw [h1]
  have h2:(Lib.decDigits u)[pos]? = some (UInt8.ofNat (48+d)):=by rw [zil,List.getElem?_map,hd];rfl
  obtain ⟨h3,h4⟩:=List.getElem?_eq_some_iff.1 h2
  rw [h4,UInt8.toNat_ofNat']
  omega
 generalize (⟨(Lib.decDigits u).toArray⟩:ByteArray)=s at *
 generalize hD:zax u=D at *
 have HAT:=Lib.hid hat
 have HALL:Hid (AllD D):=by show AllD D;rw [← hD];exact zcQ u
 have HSZ:=Lib.hid hsz
 have hsb:s.size≤20:=by omega
 clear hat hD hsz htab
 obtain ⟨i0,hi,hz0,hz1,hz2⟩:=info_parts zcW
 have hmk:∀ W:World,(Instr.makeSlice 124 (.int .i64 0) (.int .i64 (s.size:Int))).run prog W = .ok (.slice (some ⟨W.heap.size,0,none⟩) 0 s.size) (W.alloc (.cells (madeCells #[.int .u8 0] s.size) 5)):=fun W=>by
  have:=run_make (P:=prog) W 124 5 i0 _ Tryz.underlying124 hi hz0 .i64 .i64 0 (s.size:Int) (by omega) (by omega) (by rw [hz2];omega) (by omega)
  simpa [hz1,Value.cells] using this
 go_enter func125,ntmps125
 go_wp2_with (go_at_call 160;refine hfmt.mono ?_;rintro e w' ⟨rfl,hb⟩;obtain ⟨os,d,rfl⟩:=hb.more)
 have hx0:Ext w (more w os d):=hb
 go_loopw [4] (fun v wr=>∃ pos:Nat,pos≤s.size∧Hid (DigLoop w s (w.heap.size+os.size+1) D pos v wr)) (fun _ wr=>s.size - wr.iterPos (w.heap.size+os.size+1))
 case atStart =>
  refine ⟨0,Nat.zero_le _,?_⟩
  exact DigLoop.start hx0 (by simp) (by simp [maxLen];omega)
 case round =>
  obtain ⟨pos,hpos,H⟩:=hrel
  by_cases hp:pos < s.size
  ·obtain ⟨d',hd'⟩:∃ d',D[pos]? = some d':=⟨D[pos]'(by have:=HSZ.out;omega),by rw [List.getElem?_eq_getElem]⟩
   have hbt:=HAT.out pos d' hp hd'
   have h10:=HALL.out.at hd'
   have hnx:∀ ty,(Instr.next (.pointer (some ⟨w.heap.size+os.size+1,0,none⟩)) true ty).run prog wr=_:=fun ty=>Lib.run_next_ascii_at wr (w.heap.size+os.size+1) s pos ty H.out.it hp (by omega)
   rw [hbt] at hnx
   have HD':=Lib.hid hd'
   clear hbt hd'
   have hsz0:=H.out.ext.size
   go_wp2_with (at_builtin;refine wpList_append_own _ rfl _ _ _ rfl w.heap.size 5 i0 (.int .u8 0) 1 1 Tryz.underlying124 hi hz0 hz1 hz2 rfl (by decide) _ pos (b8 (D.take pos)) rfl (H.out.mid _) _ 1 1 [.int .u8 (48+(d':Int) - 48)] rfl rfl (Rd.one_ _ _ rfl).add (ze8 _) (by simp [maxLen];omega) (by omega) (by simp [Lib.iterAt_size];omega) ?_;intro v3 w3 ho3 hg3 _)
   have hdd:48+(d':Int) - 48=d':=by omega
   rw [hdd] at ho3
   have h2:=H.out.step HD'.out hg3 ho3
   refine ⟨⟨pos+1,by omega,h2⟩,?_⟩
   simp only [World.iterPos,h2.it,H.out.it]
   omega
  ·have hnx:∀ ty,(Instr.next (.pointer (some ⟨w.heap.size+os.size+1,0,none⟩)) true ty).run prog wr=_:=fun ty=>Lib.run_next_end_at wr (w.heap.size+os.size+1) s pos ty H.out.it hp
   go_wp2_with fail
   go_ret
   have h3:=H.out
   obtain rfl:pos=D.length:=by have:=HSZ.out;omega
   have h4:=h3.own
   rw [List.take_length] at h4
   exact ⟨_,rfl,h4,h3.ext⟩
theorem zgT (neg : Bool) (N : Nat) (ex : Int) (w : World) (hN : N < 9223372036854775808) (he : -4611686018427387904 ≤ ex ∧ ex ≤ 4611686018427387904) :
    Tl prog 159 #[.bool neg, .int .u64 (N : Int), .int .i64 ex] w (NV (sg neg (trim N ex).1) (trim N ex).2) := by
  by_cases h0 : N = 0
  · subst h0
    rw [trim_zero]
    have hs : sg neg 0 = 0 := by unfold sg; split <;> rfl
    simp only [hs]
    go_enter func159, ntmps159
    go_wp2
    exact rc1 rfl rfl (by simp [go_sem]) ⟨rfl, by simp [go_sem]⟩
  · have h0' : ((N : Int) == 0) = false := by simp [h0]
    have h0b : (N == 0) = false := by simp [h0]
    generalize hR : trim N ex = R
    have HR := Lib.hid hR
    have HN := Lib.hid hN
    have hnd : nd N ≤ 19 := (nd_le_iff N 19).2 (by have : T 19 = 10000000000000000000 := by decide
                                                   omega)
    clear hR hN
    have h0c : 0 < N := by omega
    clear h0
    go_enter func159, ntmps159
    go_wp2
    go_loop [1, 2] (fun a b => ∃ (M : Nat) (e' : Int), 0 < M ∧ Hid (M < 9223372036854775808) ∧ a = .int .u64 (M : Int) ∧ b = .int .i64 e' ∧ Hid (trim M e' = R) ∧ Hid (e' + nd M = ex + nd N)) (fun a _ => (intOf a).toNat)
    case atStart => exact ⟨N, ex, h0c, HN, rfl, rfl, HR, by show _ = _; rfl⟩
    case round =>
      obtain ⟨M, e', hM, HM, rfl, rfl, HT, HE⟩ := hrel
      have hb1 : -4611686018427387904 ≤ e' + 19 ∧ e' ≤ 4611686018427387923 := by
        have h1 := HE.out
        have : nd M ≤ 19 := (nd_le_iff M 19).2 (by have : T 19 = 10000000000000000000 := by decide
                                                   have := HM.out
                                                   omega)
        omega
      by_cases hm : M % 10 = 0
      · have e1 : ((M : Int) % 10 == 0) = true := by simp; omega
        have e2 : IntKind.u64.wrap ((M : Int) / 10) = (M : Int) / 10 := by rw [IntKind.wrap_u64]; have := HM.out; omega
        have HMM := Lib.hid hm
        clear hm
        go_wp2
        refine ⟨⟨M / 10, e' + 1, ?_, ?_, by go_num, rfl, ?_, ?_⟩, by simp [intOf]; omega⟩
        · have := HMM.out; omega
        · show _ < _; have := HM.out; omega
        · show _ = _; rw [← trim_ten e' (by omega) HMM.out]; exact HT.out
        · show _ = _; have h1 := HE.out; rw [nd_pos (show M ≠ 0 by omega)] at h1; omega
      · have e1 : ((M : Int) % 10 == 0) = false := by simp; omega
        have e3 : wrap64 (M : Int) = M := IntWalk.wrap64_in _ (by have := HM.out; omega)
        have HMM := Lib.hid hm
        clear hm
        have e4 : wrap64 (-(M : Int)) = -(M : Int) := IntWalk.wrap64_in _ (by have := HM.out; omega)
        obtain rfl : (M, e') = R := by have := HT.out; rwa [trim_done _ HMM.out] at this
        cases neg
        · go_wp2
          exact rc1 (v := NV (M : Int) e') rfl rfl (by simp [go_sem]) ⟨rfl, by simp [go_sem]⟩
        · go_wp2
          exact rc1 (v := NV (-(M : Int)) e') rfl rfl (by simp [go_sem]) ⟨rfl, by simp [go_sem]⟩
theorem znF {n:Nat} (h:n≠0):cnt n=nd n:=by
 induction n using Nat.strongRecOn with
 | ind n ih =>
  by_cases h1:n < 10
  ·rw [zf4 h1,nd_pos h,show n / 10=0 by omega,nd_zero]
  ·rw [zf5 (by omega),nd_pos h,ih (n / 10) (by omega) (by omega)]
theorem zck (m e:Int):zK m e=decide (Rt m e):=by
 have hT:T 15=1000000000000000:=by decide
 unfold zK
 by_cases h0:m=0
 ·subst h0
  rw [if_pos rfl,Bool.eq_iff_iff]
  simp [Rt]
 ·rw [if_neg h0]
  have hs:=zep m
  have hc:za0 (zah m)=nd m.natAbs:=by unfold za0;rw [hs,Int.toNat_natCast,znF (by omega)]
  rw [hc,hs]
  have hn:=nd_pos (show m.natAbs≠0 by omega)
  split
  ·symm
   rw [decide_eq_false_iff_not]
   unfold Rt
   rw [hT]
   omega
  ·rw [Bool.eq_iff_iff,decide_eq_true_eq,decide_eq_true_eq]
   unfold Rt
   rw [hT]
   omega
def rm (r:Option (Int×Int)):Int:=(r.getD (0,0)).1
def re (r:Option (Int×Int)):Int:=(r.getD (0,0)).2
abbrev rnV (r:Option (Int×Int)):Value:=.tuple #[NV (rm r) (re r),.bool r.isSome]
theorem zhz {w:World} {b:Nat} {x y:Value} {t:TypeId} (h:w.heap[b]? = some (.cells #[x,y] t (0,0))):b < w.heap.size∧w.cell? ⟨b,0,none⟩=some x∧w.cell? ⟨b,1,none⟩=some y∧w.frozen? ⟨b,0,none⟩=false∧w.frozen? ⟨b,1,none⟩=false:=by
 refine ⟨zH h,?_,?_,?_,?_⟩ <;> simp [World.cell?,World.frozen?,h]
def St1 (base:Nat) (w:World) (N:Nat) (ex:Int) (s1 s2:Value) (wx:World):Prop :=
 ∃ A cap D1 e1,s1 = .slice A D1.length cap∧s2 = .int .i64 e1∧Dg .u8 5 base wx A cap D1∧AllD D1∧D1.length=nd (val D1)∧val D1=n1 N false∧e1=ex+(nd N - 15:Nat)∧Kp base (w.alloc (.cells #[.int .i64 0,.int .i64 0] 35)) wx
def St2 (base:Nat) (w:World) (N:Nat) (ex:Int) (s1 s2:Value) (wx:World):Prop :=
 ∃ A cap D2,s1 = .slice A D2.length cap∧s2 = .int .i64 (e2 N ex)∧Dg .u8 5 base wx A cap D2∧AllD D2∧D2.length≤17∧val D2=n2 N false ex∧Kp base (w.alloc (.cells #[.int .i64 0,.int .i64 0] 35)) wx
theorem Kp.pair {base:Nat} {w wx:World} (h:Kp base (w.alloc (.cells #[.int .i64 0,.int .i64 0] 35)) wx):wx.heap[w.heap.size]? = some (.cells #[.int .i64 0,.int .i64 0] 35 (0,0)) :=
 h.oth _ _ Array.getElem?_push_size (by simp) (fun c fz he=>by cases he)
theorem zqK {D r:List Nat} {n:Nat} (hl:D.length=nd (val D)) (hn:n < D.length) (hn0:0 < n) (hr:AllD r) (hv:val r=cutN (val D) (D.length - n) false) (hln:r.length=n∨r.length=n+1∧val r=T n):r.length=nd (val r):=by
 have h0:val D≠0:=fun h=>by rw [h,nd_zero] at hl;omega
 rcases hln with h1 | ⟨h1,h2⟩
 ·have ha:=val_lt hr
  rw [h1] at ha
  have hb:T (n - 1)≤val r:=by
   rw [hv]
   exact cutN_ge_T false (by rw [show D.length - n+(n - 1)=nd (val D) - 1 by omega];exact T_le_of_nd h0)
  rw [h1,nd_eq (k:=n - 1) hb (by rw [show n - 1+1=n by omega];exact ha)];omega
 ·rw [h1,h2,nd_T]
theorem zbJ {n:Int} (h1 : -9223372036854775808≤n) (h2:n≤9223372036854775807):IntKind.i64.wrap n=n:=by rw [IntKind.wrap_i64];omega
theorem ziP (base:Nat) (neg:Bool) (A:Option Addr) (cap:Nat) (l:List Nat) (ex:Int) (w:World) (h:Dg .u8 5 base w A cap l) (hall:AllD l) (hl:l.length≤1000) (hb:base≤w.heap.size) (he : -9223372036854775808≤ex) :
  Calls prog 124 #[.bool neg,.slice A l.length cap,.int .i64 ex] w fun e w'=>e = .returned (rnV (rnd neg (val l) false ex))∧Below base w w':=by
 have hbare:=zjM base A cap l (w.alloc (.cells #[.int .i64 0,.int .i64 0] 35)) (h.ext (by simp [go_sem])) (by omega)
 have hD:=strip_all hall
 have hDl:=strip_length hall
 have hDv:=val_strip l
 generalize hDD:strip l=D at *
 generalize hNN:val l=N at *
 have HDL:=Lib.hid hDl
 have HDV:=Lib.hid hDv
 have HD:=Lib.hid hD
 have hDL:D.length≤1000:=by rw [← hDD];exact Nat.le_trans (List.dropWhile_sublist _).length_le hl
 clear hDl hDv hD hDD hNN h hall
 by_cases hN:N=0
 ·have hd0:D.length=0:=by rw [HDL.out,hN,nd_zero]
  have HD0:=Lib.hid hd0
  have hr:rnd neg N false ex=some (0,0):=rnd_of_zero (by rw [hN];exact n2_zero _ _)
  rw [hr]
  clear hd0 hN hr
  go_enter func124,ntmps124
  go_wp2_with (go_at_call 157;refine hbare.mono ?_;rintro e w' ⟨⟨A',cap',rfl,hdg⟩,rfl⟩;rw [HD0.out])
  exact rct (v:=NV 0 0) rfl rfl (by simp [go_sem]) ⟨rfl,Below.mono (show Ext _ _ from by simp [go_sem]) hb⟩
 ·have hlen0:(D.length == 0)=false:=by have:=nd_pos hN;simp;rw [← List.length_eq_zero_iff,HDL.out];omega
  have hlen0':((D.length:Int) == 0)=false:=by simpa using hlen0
  by_cases h40:40≤ex
  ·rw [rnd_far_up hN h40]
   clear hN
   go_enter func124,ntmps124
   go_wp2_with (go_at_call 157;refine hbare.mono ?_;rintro e w' ⟨⟨A',cap',rfl,hdg⟩,rfl⟩)
   exact rct (v:=NV 0 0) rfl rfl (by simp [go_sem]) ⟨rfl,Below.mono (show Ext _ _ from by simp [go_sem]) hb⟩
  ·have h40':ex < 40:=by omega
   go_enter func124,ntmps124
   go_upto_if 27 with (go_at_call 157;refine hbare.mono ?_;rintro e w' ⟨⟨A',cap',rfl,hdg⟩,rfl⟩)
   have HDG:=Lib.hid hdg
   clear hdg
   go_cut [1,2] (fun s1 s2 wx=>St1 base w N ex s1 s2 wx)
   case first =>
    by_cases h15:15 < D.length
    ·have e15:decide ((15:Int) < D.length)=true:=by simp;omega
     go_wp2_with (go_at_call 158;refine (zlO base cap' 15 D.length A' D _ HDG.out rfl h15 (by omega) HD.out).mono ?_;rintro e w' ⟨A2,cap2,r,rfl,g1,g2,g3,g4,g5⟩)
     go_meet
     refine ⟨A2,cap2,r,_,rfl,rfl,g1,g2,zqK (by rw [HDL.out,HDV.out]) h15 (by omega) g2 g3 g4,?_,?_,g5⟩
     ·rw [g3,HDV.out,HDL.out];rfl
     ·rw [← HDL.out];omega
    ·go_wp2
     go_meet
     refine ⟨A',cap',D,_,rfl,rfl,HDG.out,HD.out,by rw [HDL.out,HDV.out],?_,?_,Kp.refl _ _⟩
     ·unfold n1;rw [← HDL.out,show D.length - 15=0 by omega,cutN_zero];exact HDV.out
     ·rw [← HDL.out,show D.length - 15=0 by omega];simp
   case rest =>
    obtain ⟨A1,c1,D1,e1,rfl,rfl,hdg1,hall1,hl1,hv1,he1,hk1⟩:=hcut
    have hb1:1≤D1.length∧D1.length≤16:=by
     rw [hl1,hv1]
     have h1:=n1_pos false hN
     have h2:=nd_pos h1
     have h3:=(nd_le_iff (n1 N false) 16).2 (Nat.lt_of_le_of_lt (n1_le N false) (T_lt (by omega)))
     omega
    have hndN:nd N≤1000:=by rw [← HDL.out];exact hDL
    have hb2 : -9223372036854775808≤e1∧e1≤2000:=by omega
    have HDG1:=Lib.hid hdg1
    have HALL1:=Lib.hid hall1
    have HL1:=Lib.hid hl1
    have HV1:=Lib.hid hv1
    have HE1:=Lib.hid he1
    clear hdg1 hall1 hl1 hv1 he1 hndN HDG HD hbare
    obtain ⟨q0,q1,q2,q3,q4⟩:=zhz hk1.pair
    go_upto_if 34 with fail
    go_cut [1,2] (fun s1 s2 wx=>St2 base w N ex s1 s2 wx)
    case first =>
     by_cases hlow:e1 < -40
     ·obtain ⟨k,rfl⟩:∃ k:Nat,e1 = -40 - (k:Int):=⟨(-40 - e1).toNat,by omega⟩
      have hkk : -40 - (-40 - (k:Int))=k:=by omega
      have hk2:(-40 - (ex+(nd N - 15:Nat))).toNat=k:=by have:=HE1.out;omega
      have HK2:=Lib.hid hk2
      clear hk2
      by_cases hfar:D1.length < k
      ·have hfar':((D1.length:Int) < (k:Int)):=by omega
       go_wp2
       have hr0:rnd neg N false ex=some (0,0):=rnd_of_zero (by unfold n2;rw [HK2.out];exact cutN_far _ (by rw [← HV1.out,← HL1.out];exact hfar))
       rw [hr0]
       exact bodyPost_ret (v:=.tuple #[NV 0 0,.bool true]) (by simp [results,results124,go_sem,q0,q1,q2]) rfl ⟨rfl,(((Below.mono ((Ext.refl w).alloc _) hb).trans hk1.bel).setCell hb _).setCell hb _⟩
      ·have hfar':¬ ((D1.length:Int) < (k:Int)):=by omega
       have hsub:(D1.length:Int) - (k:Int)=((D1.length - k:Nat):Int):=by omega
       go_wp2_with (go_at_call 158;refine (zlO base c1 (D1.length - k) D1.length A1 D1 _ HDG1.out rfl (by omega) (by omega) HALL1.out).mono ?_;rintro e w' ⟨A2,cap2,r,rfl,g1,g2,g3,g4,g5⟩)
       go_meet
       refine ⟨A2,cap2,r,rfl,?_,g1,g2,by omega,?_,hk1.trans g5⟩
       ·unfold e2;rw [← HE1.out,show max (-40 - (k:Int)) (-40) = -40 by omega]
       ·unfold n2;rw [g3,HV1.out,HK2.out,show D1.length - (D1.length - k)=k by omega]
     ·go_wp2
      go_meet
      refine ⟨A1,c1,D1,rfl,?_,HDG1.out,HALL1.out,by omega,?_,hk1⟩
      ·unfold e2;rw [← HE1.out,show max e1 (-40)=e1 by omega]
      ·unfold n2;rw [← HE1.out,show (-40 - e1).toNat=0 by omega,cutN_zero];exact HV1.out
    case rest =>
     obtain ⟨A2,c2,D2,rfl,rfl,hdg2,hall2,hl2,hv2,hk2⟩:=hcut
     clear q0 q1 q2 q3 q4 hk1 HDG1 HALL1 HL1 HV1 HE1
     obtain ⟨q0,q1,q2,q3,q4⟩:=zhz hk2.pair
     have hdl:∀ j,j≤D2.length→val (D2.take j) < 100000000000000000:=fun j hj=>by
      have h1:=val_lt (hall2.take j)
      have h2:T (D2.take j).length≤T 17:=T_mono (by rw [List.length_take];omega)
      have h3:T 17=100000000000000000:=by decide
      omega
     have HDL2:=Lib.hid hdl
     have HDG2:=Lib.hid hdg2
     have HALL2:=Lib.hid hall2
     have HV2:=Lib.hid hv2
     have hwb:=hk2.size
     clear hdg2 hall2 hv2 hdl
     go_wp2_with fail
     go_loop [10,50] (fun a b=>∃ j:Nat,j≤D2.length∧b = .int .i64 (j:Int)∧a = .int .u64 ((val (D2.take j):Nat):Int)) (fun _ b=>D2.length - (intOf b).toNat)
     case atStart=>exact ⟨0,Nat.zero_le _,rfl,rfl⟩
     case round =>
      obtain ⟨j,hj,rfl,rfl⟩:=hrel
      have hVb:=HDL2.out j hj
      by_cases hlt:j < D2.length
      ·obtain ⟨d,hd⟩:∃ d,D2[j]? = some d:=⟨D2[j],by rw [List.getElem?_eq_getElem]⟩
       obtain ⟨bb,off,rfl,_,hcj,_⟩:=HDG2.out.at hd
       have hd10:=HALL2.out.at hd
       have hV2:val (D2.take (j+1))=10 * val (D2.take j)+d:=by rw [za2 hd,val_snoc]
       have HV3:=Lib.hid hV2
       clear hV2 hd
       generalize hV:val (D2.take j)=V at *
       have e1:IntKind.u64.wrap ((V:Int) * 10)=(V:Int) * 10:=by rw [IntKind.wrap_u64];omega
       have e2:IntKind.u64.wrap ((V:Int) * 10+(d:Int))=(V:Int) * 10+d:=by rw [IntKind.wrap_u64];omega
       have HV:=Lib.hid hV
       clear hV
       go_wp2
       refine ⟨⟨j+1,by omega,by go_num,?_⟩,by simp [intOf];omega⟩
       rw [HV3.out];congr 1;omega
      ·have hM:val (D2.take j)=n2 N false ex:=by rw [List.take_of_length_le (by omega)];exact HV2.out
       have hE : -40≤e2 N ex∧e2 N ex≤2000:=by unfold e2;have:=HDL.out;omega
       generalize val (D2.take j)=M at *
       have htr:=zgT neg M (e2 N ex) wc (by omega) (by omega)
       have hmb:(trim M (e2 N ex)).1≤M:=by
        by_cases h0:M=0
        ·rw [h0,trim_zero];exact Nat.le_refl _
        ·obtain ⟨k,ha,_,_⟩:=trim_spec M (e2 N ex) h0
         have h1:=Nat.mul_le_mul_left (trim M (e2 N ex)).1 (T_pos k)
         omega
       have hI:I64 (sg neg (trim M (e2 N ex)).1):=by unfold sg I64;split <;> omega
       have hkey:rnV (rnd neg N false ex)=if zK (sg neg (trim M (e2 N ex)).1) (trim M (e2 N ex)).2=true then .tuple #[NV (sg neg (trim M (e2 N ex)).1) (trim M (e2 N ex)).2,.bool true] else .tuple #[NV 0 0,.bool false]:=by
        rw [zck]
        by_cases h0:M=0
        ·rw [rnd_of_zero (by rw [← hM];exact h0),h0,trim_zero]
         have:sg neg 0=0:=by unfold sg;split <;> rfl
         rw [this,if_pos (by decide)];rfl
        ·obtain ⟨h1,h2⟩:=rnd_of_pos (neg:=neg) (N:=N) (more:=false) (e:=ex) (by rw [← hM];exact h0)
         rw [← hM] at h1 h2
         by_cases hr:Rt (sg neg (trim M (e2 N ex)).1) (trim M (e2 N ex)).2
         ·rw [h1 hr,if_pos (by simpa using hr)];rfl
         ·rw [h2 hr,if_neg (by simpa using hr)];rfl
       clear hmb hVb
       generalize sg neg (trim M (e2 N ex)).1=m' at *
       generalize (trim M (e2 N ex)).2=ee at *
       have HM:=Lib.hid hM
       have hI64:=Lib.hid hI
       clear hM hI
       have hfin:Below base w wc:=(Below.mono ((Ext.refl w).alloc _) hb).trans hk2.bel
       by_cases hR:zK m' ee=true
       ·rw [if_pos hR] at hkey
        have HKEY:=Lib.hid hkey
        clear hkey
        go_wp2_with (first | (go_at_call 159;refine htr.mono ?_;rintro e w' ⟨rfl,hb9⟩;obtain ⟨os,d,rfl⟩:=hb9.more) | (go_at_call 108;refine aM (zc5 m' ee _ hI64.out) fun os2 d2=>?_))
        refine bodyPost_ret (v:=.tuple #[NV m' ee,.bool true]) (by simp [results,results124,go_sem,q0,q1,q2]) rfl ⟨?_,?_⟩
        ·rw [HKEY.out]
        ·have hz:=hfin.size
         exact zdP ((zdP ((hfin.setCell hb _).setCell hb _) (by simp;omega) _ _).alloc (by simp;omega) _) (by simp;omega) _ _
       ·rw [if_neg hR] at hkey
        have hR':zK m' ee=false:=by simpa using hR
        have HKEY:=Lib.hid hkey
        clear hkey hR
        go_wp2_with (first | (go_at_call 159;refine htr.mono ?_;rintro e w' ⟨rfl,hb9⟩;obtain ⟨os,d,rfl⟩:=hb9.more) | (go_at_call 108;refine aM (zc5 m' ee _ hI64.out) fun os2 d2=>?_))
        refine bodyPost_ret (v:=.tuple #[NV 0 0,.bool false]) (by simp [results,results124,go_sem,q0,q1,q2]) rfl ⟨?_,?_⟩
        ·rw [HKEY.out]
        ·have hz:=hfin.size
         exact zdP ((zdP ((hfin.setCell hb _).setCell hb _) (by simp;omega) _ _).alloc (by simp;omega) _) (by simp;omega) _ _
end Go.Proofs.YtkoidgbgoccgmaaGreatDoor
namespace Go.Proofs.YtkoidgbgoccgmaaGreatDoor
open Tryz
open Go.RowKit
theorem zbI (w:World) (os os':Array Obj) (d d':Nat):Ext (more w os d) (more w (os++os') d'):=by
 rw [← za w os os' d d'];exact zP _ _ _
theorem zb0 (w:World) (os os' os'':Array Obj) (d d':Nat):Ext (more w (os++os') d) (more w (os++(os'++os'')) d'):=by
 rw [← Array.append_assoc];exact zbI _ _ _ _ _
@[go_sem] theorem zta {x y:Nat} (s0 s1 s2 s3 s4 s5:Nat) (h:x < y):(x < y+s0+s1+s2+s3+s4+s5)=True:=by simp only [eq_iff_iff,iff_true];omega
@[go_sem] theorem ztb {x y:Nat} (s0 s1 s2 s3 s4 s5 s6:Nat) (h:x < y):(x < y+s0+s1+s2+s3+s4+s5+s6)=True:=by simp only [eq_iff_iff,iff_true];omega
@[go_sem] theorem ztc {x y:Nat} (s0 s1 s2 s3 s4 s5 s6 s7:Nat) (h:x < y):(x < y+s0+s1+s2+s3+s4+s5+s6+s7)=True:=by simp only [eq_iff_iff,iff_true];omega
@[go_sem] theorem ztd {x y:Nat} (s0 s1 s2 s3 s4 s5 s6 s7 s8:Nat) (h:x < y):(x < y+s0+s1+s2+s3+s4+s5+s6+s7+s8)=True:=by simp only [eq_iff_iff,iff_true];omega
@[go_sem] theorem zs0 {x y:Nat} (s0 s1 s2 s3 s4 s5 s6 s7 s8 s9:Nat) (h:x < y):(x < y+s0+s1+s2+s3+s4+s5+s6+s7+s8+s9)=True:=by simp only [eq_iff_iff,iff_true];omega
@[go_sem] theorem zs1 {x y:Nat} (s0 s1 s2 s3 s4 s5 s6 s7 s8 s9 s10:Nat) (h:x < y):(x < y+s0+s1+s2+s3+s4+s5+s6+s7+s8+s9+s10)=True:=by simp only [eq_iff_iff,iff_true];omega
@[go_sem] theorem zs2 {x y:Nat} (s0 s1 s2 s3 s4 s5 s6 s7 s8 s9 s10 s11:Nat) (h:x < y):(x < y+s0+s1+s2+s3+s4+s5+s6+s7+s8+s9+s10+s11)=True:=by simp only [eq_iff_iff,iff_true];omega
theorem zdw (w:World) (os:Array Obj) (d d':Nat):Ext (more w os d) (more w os d'):=⟨rfl,rfl,rfl,Nat.le_refl _,fun _ _=>rfl⟩
theorem zb1 (w:World) (a b c t:Array Obj) (d d':Nat):Ext (more w (a++(b++c)) d) (more w (a++(b++(c++t))) d'):=by
 have:=zbI w (a++(b++c)) t d d'
 simpa only [Array.append_assoc] using this
theorem zaV {w:World} {os os':Array Obj} {d d':Nat} (h:∃ t,os'=os++t):Ext (more w os d) (more w os' d'):=by
 obtain ⟨t,rfl⟩:=h;exact zbI _ _ _ _ _
theorem zz {P:Program} {c:Code} {Q:Exit→Act→World→Prop} {a:Act} {w:World} (h:∀ W,W=w→Code.wp P c Q a W):Code.wp P c Q a w:=h w rfl
end Go.Proofs.YtkoidgbgoccgmaaGreatDoor
namespace Go.Proofs.YtkoidgbgoccgmaaGreatDoor
open Tryz
open Go.RowKit NM
theorem zeq (X:World) (neg:Bool) (v:Value) (l:List Nat) (ex:Int) (W:World) (n:Nat) (hx:Ext X W) (h:W.ownsRow X.heap.size 5 1 v n (b8 l)) (hall:AllD l) (hl:l.length≤1000) (he : -9223372036854775808≤ex) :
  Calls prog 124 #[.bool neg,v,.int .i64 ex] W fun e w'=>e = .returned (rnV (rnd neg (val l) false ex))∧∃ os d,w'=more X os d:=by
 obtain ⟨A,cap,rfl,hd,_⟩:=Dg.of_own h
 exact (ziP X.heap.size neg A cap l ex W hd hall hl hx.size he).mono fun e w' ⟨h1,h2⟩=>⟨h1,(show Ext X w' from Below.trans hx h2).more⟩
theorem zjP (m ex:Int) (w:World) (htab:Tab w) (hm:I64 m) (he:I64 ex) :
  Tl prog 66 #[.int .i64 m,.int .i64 ex] w (rnV (rnd (decide (m < 0)) m.natAbs false ex)):=by
 have hs:=zep m
 have hu:m.natAbs < 18446744073709551616:=by obtain ⟨h1,h2⟩:=hm;omega
 have hd:=zc6 m.natAbs hu (w.alloc (.cells #[.int .i64 0,.int .i64 0] 35)) (htab.ext (by simp [go_sem]))
 rw [← hs] at hd
 have HD:=Lib.hid (zfn m.natAbs)
 have hl:(zax m.natAbs).length≤1000:=by rw [zbm];have:=(nd_le_iff m.natAbs 20).2 (Nat.lt_of_lt_of_le hu (by decide));omega
 clear hs hu
 go_enter func66,ntmps66
 go_wp2_with (first | (go_at_call 126;refine (zcP m _ hm).mono ?_;rintro e w' ⟨rfl,rfl⟩) | (go_at_call 125;refine hd.mono ?_;rintro e w' ⟨v,rfl,ho,hx⟩) | (go_at_call 124;refine (zeq (w.alloc (.cells #[.int .i64 0,.int .i64 0] 35)) _ _ (zax m.natAbs) _ _ _ hx ho (zcQ _) hl he.1).mono ?_;rintro e w2 ⟨rfl,os2,d2,rfl⟩;rw [HD.out]))
 exact rct rfl rfl (by simp [go_sem]) ⟨rfl,by simp [go_sem]⟩
theorem zcR (n:Int) (w:World) (h:I64 n) :
  Calls prog 126 #[.int .i64 n] w fun e w'=>e = .returned (.int .u64 (n.natAbs:Int))∧w=w':=by
 have:=zcP n w h
 rw [zep] at this
 exact this
def rtB (m e:Int):Bool:=decide (Rt m e)
theorem zab {m e:Int} (h:Rt m e):rtB m e=true:=decide_eq_true h
theorem zbi {m e:Int} (h:¬ Rt m e):rtB m e=false:=decide_eq_false h
theorem zaf (m ex:Int) (w:World) (h:I64 m) :
  Tl prog 108 #[NV m ex] w (.bool (rtB m ex)):=by
 have:=zc5 m ex w h
 rw [zck] at this
 exact this
theorem zaE {m e:Int} (h:Rt m e):m.natAbs < 1000000000000000 ∧ -40≤e∧e≤39:=by
 have hT:T 15=1000000000000000:=by decide
 rcases h with ⟨h1,h2⟩ | ⟨h1,h2,h3,h4,h5⟩
 ·omega
 ·have:=nd_pos (show m.natAbs≠0 by omega)
  omega
def ngB (a b:Int):Bool:=!(decide (a < 0) == decide (b < 0))
set_option maxRecDepth 100000
theorem zsI (w:World) :
  Calls prog 189 #[.int .u64 1000000000000000] w fun e w'=>e = .returned (.int .i64 14)∧w=w' :=
 (Tryz.bits_LeadingZeros64 1000000000000000 w (by omega) (by omega)).mono fun e w' ⟨h1,h2⟩=>⟨by rw [h1,show (64:Int) - (Lib.bitLen (1000000000000000:Int).toNat:Int)=14 by decide],h2.symm⟩
theorem zlb (lo:Nat) (w:World) (hlo:lo < 18446744073709551616) :
  Tl prog 164 #[.int .u64 0,.int .u64 (lo:Int),.int .u64 1000000000000000] w (.tuple #[.int .u64 ((lo / 1000000000000000:Nat):Int),.int .u64 ((lo % 1000000000000000:Nat):Int)]):=by
 have q1:(lo:Int) / 1000000000000000=((lo / 1000000000000000:Nat):Int):=by omega
 have q2:(lo:Int) % 1000000000000000=((lo % 1000000000000000:Nat):Int):=by omega
 have q3:(lo:Int).tmod 1000000000000000=((lo % 1000000000000000:Nat):Int):=rfl
 have w1:IntKind.u64.wrap ((lo / 1000000000000000:Nat):Int)=((lo / 1000000000000000:Nat):Int):=by rw [IntKind.wrap_u64];omega
 have w2:IntKind.u64.wrap ((lo % 1000000000000000:Nat):Int)=((lo % 1000000000000000:Nat):Int):=by rw [IntKind.wrap_u64];omega
 generalize lo / 1000000000000000=Q at *
 generalize lo % 1000000000000000=R at *
 clear hlo
 go_enter func164,ntmps164
 go_wp2
 refine plP [(0,0),(1,0),(2,0),(3,0),(4,0),(5,0),(6,0),(7,0)] [] (by kernel_rfl) (fun _ _ d _ _ h=>by cases d <;> exact h) ?_
 iterate 8 (apply rdP rfl rfl;(intros;go_simp;first | done | rfl);try simp only [zq])
 refine zj ?_
 go_wp2
 go_ret2
 exact ⟨rfl,by simp [go_sem]⟩
theorem zqL (h l:Nat) (hh:h < 1125899906842624) (hl:l < 16384):bits .or .u64 ((h * 16384:Nat):Int) (l:Int)=((h * 16384+l:Nat):Int):=by
 rw [bits_or_u64_nat _ _ (by omega) (by omega)]
 congr 1
 have:=Nat.shiftLeft_add_eq_or_of_lt (b:=l) (i:=14) (by omega) h
 rw [Nat.shiftLeft_eq] at this
 exact this.symm
theorem zlP (x:Nat) (hx:x < 18446744073709551616):bits .and .u64 (x:Int) 4294967295=((x % 4294967296:Nat):Int):=by
 rw [show (4294967295:Int)=((4294967295:Nat):Int) from rfl,bits_and_u64_nat _ _ hx (by omega)]
 congr 1
 exact Nat.and_two_pow_sub_one_eq_mod x 32
def M64:Nat:=18446744073709551616
theorem ze9 (a c:Nat):IntKind.u64.wrap ((a:Int) * (c:Int))=((a * c % M64:Nat):Int):=by
 rw [IntKind.wrap_u64,← Int.natCast_mul];rfl
theorem zhg (a:Nat):IntKind.u64.wrap ((a:Int) * 4294967296)=((a * 4294967296 % M64:Nat):Int):=ze9 a 4294967296
theorem zjQ (a b:Nat):IntKind.u64.wrap (((a % M64:Nat):Int)+(b:Int))=(((a+b) % M64:Nat):Int):=by
 unfold M64;rw [IntKind.wrap_u64];omega
theorem znG {a b t:Nat} (h:a=b+t) (ht:t < M64):IntKind.u64.wrap (((a % M64:Nat):Int) - ((b % M64:Nat):Int))=(t:Int):=by
 unfold M64 at *;rw [IntKind.wrap_u64];omega
theorem zmz {a:Nat} (h:a < M64):a % M64=a:=Nat.mod_eq_of_lt h
theorem ziQ {a b t:Nat} (h:a=b+t) (ht:t < M64):IntKind.u64.wrap ((a:Int) - (b:Int))=(t:Int):=by
 unfold M64 at *;rw [IntKind.wrap_u64];omega
theorem znH {U u v v1 v0 q1 t q0 rr:Nat} (hsp:u * 18446744073709551616+v=U * 16384) (hv1:v1=v / 4294967296) (hv0:v0=v % 4294967296) (hq1:q1=(u * 4294967296+v1) / 16384000000000000000) (ht:t=(u * 4294967296+v1) % 16384000000000000000)
  (hq0:q0=(t * 4294967296+v0) / 16384000000000000000) (hrr:rr=(t * 4294967296+v0) % 16384000000000000000):U / 1000000000000000=q1 * 4294967296+q0∧U % 1000000000000000=rr / 16384:=by omega
structure DA (u v q r:Nat):Prop where
 eq:r+q * 3814697265=u
 lt:u * 4294967296+v < (q+1) * 16384000000000000000
 qb:q≤4294967296
 rb:r < 4294967296
 vb:v < 4294967296
 ub:u < 16384000000000000000
theorem DA.more {u v q r:Nat} (h:DA u v q r) (hc:4294967296≤q∨4294967296 * r+v < q * 2684354560):1≤q∧u * 4294967296+v < q * 16384000000000000000:=by
 obtain ⟨h1,h2,h3,h4,h5,h6⟩:=h
 rcases hc with hc | hc <;> omega
theorem DA.step {u v q r q' r':Nat} (h:DA u v q r) (hc:4294967296≤q∨4294967296 * r+v < q * 2684354560) (hq:q'=q - 1) (hr':r'=r+3814697265) (hr:r' < 4294967296):DA u v q' r':=by
 have h0:=h.more hc
 obtain ⟨h1,h2,h3,h4,h5,h6⟩:=h
 have a1:r'+q' * 3814697265=u:=by omega
 have hq2:q'+1=q:=by omega
 have a2:u * 4294967296+v < (q'+1) * 16384000000000000000:=by rw [hq2];exact h0.2
 have a3:q'≤4294967296:=by omega
 exact ⟨a1,a2,a3,hr,h5,h6⟩
theorem DA.brk {u v q r:Nat} (h:DA u v q r) (hc:4294967296≤q∨4294967296 * r+v < q * 2684354560) (hr:4294967296≤r+3814697265):q - 1=(u * 4294967296+v) / 16384000000000000000:=by
 have h0:=h.more hc
 obtain ⟨h1,h2,h3,h4,h5,h6⟩:=h
 omega
theorem DA.done {u v q r:Nat} (h:DA u v q r) (hc:¬ (4294967296≤q∨4294967296 * r+v < q * 2684354560)):q=(u * 4294967296+v) / 16384000000000000000:=by
 obtain ⟨h1,h2,h3,h4,h5,h6⟩:=h
 omega
theorem DA.start {u v:Nat} (hu:u < 16384000000000000000) (hv:v < 4294967296):DA u v (u / 3814697265) (u % 3814697265):=by
 refine ⟨by omega,by omega,by omega,by omega,hv,hu⟩
structure DF (Y Yn a b hi lo u ll v v1 v0 q1 t q0 rr QQ RR s1 s2 s3 s4 s5 s6 s7 s8 s9 qa ra qb rb hh:Nat):Prop where
 or4:bits .or .u64 (hh:Int) (ll:Int)=(u:Int)
 hi16:IntKind.u64.wrap ((hi:Int) * 16384)=(hh:Int)
 sh:(lo:Int) / 1125899906842624=(ll:Int)
 lo16:IntKind.u64.wrap ((lo:Int) * 16384)=(v:Int)
 hi32:(v:Int) / 4294967296=(v1:Int)
 lo32:bits .and .u64 (v:Int) 4294967295=(v0:Int)
 yn:IntKind.u64.wrap ((Y:Int) * 16384)=(Yn:Int)
 yna:(Yn:Int) / 4294967296=(a:Int)
 ynb:bits .and .u64 (Yn:Int) 4294967295=(b:Int)
 dA:DA u v1 qa ra
 dB:DA t v0 qb rb
 q1e:q1=(u * 4294967296+v1) / 16384000000000000000
 q0e:q0=(t * 4294967296+v0) / 16384000000000000000
 x1:IntKind.u64.wrap ((u:Int) * 4294967296)=(s1:Int)
 x2:IntKind.u64.wrap ((s1:Int)+(v1:Int))=(s2:Int)
 x3:IntKind.u64.wrap ((q1:Int) * (Yn:Int))=(s3:Int)
 x4:IntKind.u64.wrap ((s2:Int) - (s3:Int))=(t:Int)
 z1:(u:Int) / (a:Int)=(qa:Int)
 z2:IntKind.u64.wrap ((qa:Int) * (a:Int))=(s8:Int)
 z3:IntKind.u64.wrap ((u:Int) - (s8:Int))=(ra:Int)
 z4:(t:Int) / (a:Int)=(qb:Int)
 z5:IntKind.u64.wrap ((qb:Int) * (a:Int))=(s9:Int)
 z6:IntKind.u64.wrap ((t:Int) - (s9:Int))=(rb:Int)
 p1:IntKind.u64.wrap ((q1:Int) * 4294967296)=(s7:Int)
 p2:IntKind.u64.wrap ((s7:Int)+(q0:Int))=(QQ:Int)
 p3:IntKind.u64.wrap ((t:Int) * 4294967296)=(s4:Int)
 p4:IntKind.u64.wrap ((s4:Int)+(v0:Int))=(s5:Int)
 p5:IntKind.u64.wrap ((q0:Int) * (Yn:Int))=(s6:Int)
 p6:IntKind.u64.wrap ((s5:Int) - (s6:Int))=(rr:Int)
 p7:(rr:Int) / 16384=(RR:Int)
 a0:a=3814697265
 b0:b=2684354560
 y0:Y=1000000000000000
 hib:hi < 100000000000
theorem zrr (hi lo:Nat) (hlo:lo < 18446744073709551616) (hU:hi * 18446744073709551616+lo < 1000000000000000000000000000000) :
  ∃ Yn a b u ll v v1 v0 q1 t q0 rr s1 s2 s3 s4 s5 s6 s7 s8 s9 qa ra qb rb hh,DF 1000000000000000 Yn a b hi lo u ll v v1 v0 q1 t q0 rr ((hi * 18446744073709551616+lo) / 1000000000000000) ((hi * 18446744073709551616+lo) % 1000000000000000) s1 s2 s3 s4 s5 s6 s7 s8 s9 qa ra qb rb hh:=by
 have hhb:hi < 100000000000:=by omega
 obtain ⟨u,hu⟩:∃ u,u=hi * 16384+lo / 1125899906842624:=⟨_,rfl⟩
 obtain ⟨v,hv⟩:∃ v,v=lo * 16384 % 18446744073709551616:=⟨_,rfl⟩
 have hub:u < 1000000000000000:=by omega
 have hvb:v < 18446744073709551616:=by omega
 have hsp:u * 18446744073709551616+v=(hi * 18446744073709551616+lo) * 16384:=by omega
 have f4:=zqL hi (lo / 1125899906842624) (by omega) (by omega)
 rw [← hu] at f4
 have f5:IntKind.u64.wrap ((lo:Int) * 16384)=(v:Int):=by rw [hv];exact ze9 lo 16384
 clear hu hv
 obtain ⟨U,hUU⟩:∃ U,U=hi * 18446744073709551616+lo:=⟨_,rfl⟩
 rw [← hUU] at hU hsp ⊢
 clear hUU
 obtain ⟨v1,hv1⟩:∃ v1,v1=v / 4294967296:=⟨_,rfl⟩
 obtain ⟨v0,hv0⟩:∃ v0,v0=v % 4294967296:=⟨_,rfl⟩
 have hv1b:v1 < 4294967296:=by rw [hv1];exact Nat.div_lt_of_lt_mul hvb
 have hv0b:v0 < 4294967296:=by rw [hv0];exact Nat.mod_lt _ (by decide)
 obtain ⟨q1,hq1⟩:∃ q1,q1=(u * 4294967296+v1) / 16384000000000000000:=⟨_,rfl⟩
 obtain ⟨t,ht⟩:∃ t,t=(u * 4294967296+v1) % 16384000000000000000:=⟨_,rfl⟩
 obtain ⟨q0,hq0⟩:∃ q0,q0=(t * 4294967296+v0) / 16384000000000000000:=⟨_,rfl⟩
 obtain ⟨rr,hrr⟩:∃ rr,rr=(t * 4294967296+v0) % 16384000000000000000:=⟨_,rfl⟩
 have ht0:t < 16384000000000000000:=by rw [ht];exact Nat.mod_lt _ (by decide)
 obtain ⟨hQ,hR⟩:=znH hsp hv1 hv0 hq1 ht hq0 hrr
 have k1:u * 4294967296+v1=q1 * 16384000000000000000+t:=by rw [hq1,ht];exact (Nat.div_add_mod' _ _).symm
 have k2:t * 4294967296+v0=q0 * 16384000000000000000+rr:=by rw [hq0,hrr];exact (Nat.div_add_mod' _ _).symm
 have k3:t < M64:=Nat.lt_trans ht0 (by unfold M64;decide)
 have k4:rr < M64:=by rw [hrr];exact Nat.lt_trans (Nat.mod_lt _ (by decide)) (by unfold M64;decide)
 have k7:q1 * 4294967296+q0 < M64:=by rw [← hQ];exact Nat.div_lt_of_lt_mul (Nat.lt_of_lt_of_le hU (by unfold M64;decide))
 have k8:u / 3814697265 * 3814697265 < M64:=Nat.lt_of_le_of_lt (Nat.div_mul_le_self _ _) (Nat.lt_trans hub (by unfold M64;decide))
 have k9:t / 3814697265 * 3814697265 < M64:=Nat.lt_of_le_of_lt (Nat.div_mul_le_self _ _) k3
 have z2:=ze9 (u / 3814697265) 3814697265
 rw [zmz k8] at z2
 have z5:=ze9 (t / 3814697265) 3814697265
 rw [zmz k9] at z5
 have p2:=zjQ (q1 * 4294967296) q0
 rw [zmz k7,← hQ] at p2
 have f7:=zlP v hvb
 rw [← hv0] at f7
 refine ⟨16384000000000000000,3814697265,2684354560,u,lo / 1125899906842624,v,v1,v0,q1,t,q0,rr,_,_,_,_,_,_,_,_,_,u / 3814697265,u % 3814697265,t / 3814697265,t % 3814697265,hi * 16384,
  {or4:=f4,hi16:=by rw [IntKind.wrap_u64];omega,sh:=rfl,lo16:=f5,hi32:=by rw [hv1];rfl,lo32:=f7,yn:=by decide,yna:=by decide,ynb:=by rw [zlP _ (by decide)],dA:=DA.start (Nat.lt_trans hub (by decide)) hv1b,dB:=DA.start ht0 hv0b,q1e:=hq1,q0e:=hq0,
   x1:=zhg u,x2:=zjQ _ _,x3:=ze9 _ _,x4:=znG k1 k3,z1:=rfl,z2:=z2,z3:=ziQ (Nat.div_add_mod' _ _).symm (Nat.lt_trans (Nat.mod_lt u (show 0 < 3814697265 by decide)) (by unfold M64;decide)),z4:=rfl,z5:=z5,z6:=ziQ (Nat.div_add_mod' _ _).symm (Nat.lt_trans (Nat.mod_lt t (show 0 < 3814697265 by decide)) (by unfold M64;decide)),
   p1:=zhg q1,p2:=p2,p3:=zhg t,p4:=zjQ _ _,p5:=ze9 _ _,p6:=znG k2 k4,p7:=by rw [hR];rfl,a0:=rfl,b0:=rfl,y0:=rfl,hib:=hhb }⟩
theorem zpg {Y Yn a b hi lo u ll v v1 v0 q1 t q0 rr QQ RR s1 s2 s3 s4 s5 s6 s7 s8 s9 qa ra qb rb hh:Nat} (w:World) (hhi:0 < hi) (h:DF Y Yn a b hi lo u ll v v1 v0 q1 t q0 rr QQ RR s1 s2 s3 s4 s5 s6 s7 s8 s9 qa ra qb rb hh)
  (hlz:∀ w,Calls prog 189 #[.int .u64 (Y:Int)] w fun e w'=>e = .returned (.int .i64 14)∧w=w') :
  Tl prog 164 #[.int .u64 (hi:Int),.int .u64 (lo:Int),.int .u64 (Y:Int)] w (.tuple #[.int .u64 (QQ:Int),.int .u64 (RR:Int)]):=by
 obtain ⟨f4,f16,f4',f5,f6,f7,y5,y6,y7,dA,dB,hq1,hq0,x1,x2,x3,x4,z1,z2,z3,z4,z5,z6,p1,p2,p3,p4,p5,p6,p7,ha,hb,hY,hhb⟩:=h
 have e1:((hi:Int) == 0)=false:=by simp;omega
 have e2:(hi == 0)=false:=by simp;omega
 have y3:¬ (Y≤hi):=by omega
 have y1:¬ ((Y:Int)≤(hi:Int)):=by omega
 have y4:(Y == 0)=false:=by simp;omega
 have y2:((Y:Int) == 0)=false:=by simp;omega
 have d2:(a == 0)=false:=by simp;omega
 have d3:((a:Int) == 0)=false:=by simp;omega
 have d4:¬ a=0:=by omega
 have HDA:=Lib.hid dA
 have HDB:=Lib.hid dB
 have HQ1:=Lib.hid hq1
 have HQ0:=Lib.hid hq0
 have HA:=Lib.hid ha
 have HB:=Lib.hid hb
 have qaw:IntKind.u64.wrap (qa:Int)=qa:=by have:=dA.qb;rw [IntKind.wrap_u64];omega
 have qbw:IntKind.u64.wrap (qb:Int)=qb:=by have:=dB.qb;rw [IntKind.wrap_u64];omega
 have z1':(u:Int).tdiv (a:Int)=(qa:Int):=z1
 have z4':(t:Int).tdiv (a:Int)=(qb:Int):=z4
 clear dA dB hq1 hq0 ha hb hY hhb
 go_enter func164,ntmps164
 go_upto_block 0 with (go_at_call 189;refine (hlz _).mono ?_;rintro e w' ⟨rfl,rfl⟩)
 go_cut [15] (fun s15 wx=>s15 = .int .u64 (q1:Int)∧wx=w)
 case first =>
  go_wp2_with fail
  go_loop [16,15] (fun sr sq=>∃ q r:Nat,sq = .int .u64 (q:Int)∧sr = .int .u64 (r:Int)∧Hid (DA u v1 q r)) (fun _ sq=>(intOf sq).toNat)
  case atStart=>exact ⟨_,_,rfl,rfl,HDA⟩
  case round =>
   obtain ⟨q,r,rfl,rfl,H⟩:=hrel
   obtain ⟨P,hP⟩:∃ P,P=q * b:=⟨_,rfl⟩
   obtain ⟨S,hS⟩:∃ S,S=4294967296 * r:=⟨_,rfl⟩
   obtain ⟨Z,hZ⟩:∃ Z,Z=S+v1:=⟨_,rfl⟩
   obtain ⟨r2,hr2⟩:∃ r2,r2=r+a:=⟨_,rfl⟩
   have hq32:=H.out.qb
   have hPb:P≤4294967296 * 2684354560:=by rw [hP,HB.out];exact Nat.mul_le_mul_right _ hq32
   have g1:(q:Int) * (b:Int)=(P:Int):=by rw [hP,Int.natCast_mul]
   have g1w:IntKind.u64.wrap (P:Int)=P:=by rw [IntKind.wrap_u64];omega
   have g2:(4294967296:Int) * (r:Int)=(S:Int):=by rw [hS,Int.natCast_mul];rfl
   have g2w:IntKind.u64.wrap (S:Int)=S:=by have:=H.out.rb;rw [IntKind.wrap_u64];omega
   have g3:(S:Int)+(v1:Int)=(Z:Int):=by omega
   have g3w:IntKind.u64.wrap (Z:Int)=Z:=by have:=H.out.rb;have:=H.out.vb;rw [IntKind.wrap_u64];omega
   have g4:(r:Int)+(a:Int)=(r2:Int):=by omega
   have g4w:IntKind.u64.wrap (r2:Int)=r2:=by have:=H.out.rb;have:=HA.out;rw [IntKind.wrap_u64];omega
   have HCC:Hid ((4294967296≤q∨4294967296 * r+v1 < q * 2684354560)↔(4294967296≤q∨Z < P)):=by show _↔_;rw [hZ,hS,hP,HB.out]
   have HR2:Hid (r2=r+3814697265):=by show _=_;rw [hr2,HA.out]
   clear hP hS hZ hr2 hPb
   by_cases hc:4294967296≤q∨Z < P
   ·have hc':=HCC.out.2 hc
    have hq1:1≤q:=(H.out.more hc').1
    have HM:=Lib.hid hc'
    have g5:(q:Int) - 1=((q - 1:Nat):Int):=by omega
    have g5w:IntKind.u64.wrap ((q - 1:Nat):Int)=((q - 1:Nat):Int):=by rw [IntKind.wrap_u64];omega
    clear hc'
    by_cases hr32:4294967296≤r2
    ·have c5:decide ((4294967296:Int)≤(r2:Int))=true:=by simp;omega
     have c6:decide (4294967296≤r2)=true:=by simp;omega
     have HD:Hid (q - 1=q1):=by show _=_;rw [H.out.brk HM.out (by rw [← HR2.out];exact hr32)];exact HQ1.out.symm
     rcases (show 4294967296≤q∨¬ 4294967296≤q∧Z < P by omega) with h1 | ⟨h1,h2⟩
     ·have c1:decide ((4294967296:Int)≤(q:Int))=true:=by simp;omega
      have c2:decide (4294967296≤q)=true:=by simp;omega
      clear hq32 hc h1 hr32
      go_wp2_with fail
      go_meet
      exact ⟨by first | rw [HD.out] | (rw [← HD.out];rw [g5]),rfl⟩
     ·have c1:decide ((4294967296:Int)≤(q:Int))=false:=by simp;omega
      have c2:decide (4294967296≤q)=false:=by simp;omega
      clear hq32 hc h1 hr32
      go_wp2_with fail
      go_meet
      exact ⟨by first | rw [HD.out] | (rw [← HD.out];rw [g5]),rfl⟩
    ·have c5:decide ((4294967296:Int)≤(r2:Int))=false:=by simp;omega
     have c6:decide (4294967296≤r2)=false:=by simp;omega
     have HD:Hid (DA u v1 (q - 1) r2):=by
      exact H.out.step HM.out rfl HR2.out (by omega)
     rcases (show 4294967296≤q∨¬ 4294967296≤q∧Z < P by omega) with h1 | ⟨h1,h2⟩
     ·have c1:decide ((4294967296:Int)≤(q:Int))=true:=by simp;omega
      have c2:decide (4294967296≤q)=true:=by simp;omega
      clear hq32 hc h1 hr32
      go_wp2_with fail
      exact ⟨⟨q - 1,r2,by first | rfl | rw [g5],rfl,HD⟩,by simp [intOf];omega⟩
     ·have c1:decide ((4294967296:Int)≤(q:Int))=false:=by simp;omega
      have c2:decide (4294967296≤q)=false:=by simp;omega
      clear hq32 hc h1 hr32
      go_wp2_with fail
      exact ⟨⟨q - 1,r2,by first | rfl | rw [g5],rfl,HD⟩,by simp [intOf];omega⟩
   ·have HD:Hid (q=q1):=by show _=_;rw [H.out.done (fun h=>hc (HCC.out.1 h))];exact HQ1.out.symm
    have h1:¬ 4294967296≤q:=by omega
    have h2:¬ Z < P:=by omega
    have c1:decide ((4294967296:Int)≤(q:Int))=false:=by simp;omega
    have c2:decide (4294967296≤q)=false:=by simp;omega
    clear hq32 hc h1
    go_wp2_with fail
    go_meet
    exact ⟨by first | rw [HD.out] | (rw [← HD.out];rw [g5]),rfl⟩
 case rest =>
 obtain ⟨rfl,rfl⟩:=hcut
 go_upto_block 2 with fail
 go_cut [18] (fun s18 wx=>s18 = .int .u64 (q0:Int)∧wx=wc)
 case first =>
  go_wp2_with fail
  go_loop [16,18] (fun sr sq=>∃ q r:Nat,sq = .int .u64 (q:Int)∧sr = .int .u64 (r:Int)∧Hid (DA t v0 q r)) (fun _ sq=>(intOf sq).toNat)
  case atStart=>exact ⟨_,_,rfl,rfl,HDB⟩
  case round =>
   obtain ⟨q,r,rfl,rfl,H⟩:=hrel
   obtain ⟨P,hP⟩:∃ P,P=q * b:=⟨_,rfl⟩
   obtain ⟨S,hS⟩:∃ S,S=4294967296 * r:=⟨_,rfl⟩
   obtain ⟨Z,hZ⟩:∃ Z,Z=S+v0:=⟨_,rfl⟩
   obtain ⟨r2,hr2⟩:∃ r2,r2=r+a:=⟨_,rfl⟩
   have hq32:=H.out.qb
   have hPb:P≤4294967296 * 2684354560:=by rw [hP,HB.out];exact Nat.mul_le_mul_right _ hq32
   have g1:(q:Int) * (b:Int)=(P:Int):=by rw [hP,Int.natCast_mul]
   have g1w:IntKind.u64.wrap (P:Int)=P:=by rw [IntKind.wrap_u64];omega
   have g2:(4294967296:Int) * (r:Int)=(S:Int):=by rw [hS,Int.natCast_mul];rfl
   have g2w:IntKind.u64.wrap (S:Int)=S:=by have:=H.out.rb;rw [IntKind.wrap_u64];omega
   have g3:(S:Int)+(v0:Int)=(Z:Int):=by omega
   have g3w:IntKind.u64.wrap (Z:Int)=Z:=by have:=H.out.rb;have:=H.out.vb;rw [IntKind.wrap_u64];omega
   have g4:(r:Int)+(a:Int)=(r2:Int):=by omega
   have g4w:IntKind.u64.wrap (r2:Int)=r2:=by have:=H.out.rb;have:=HA.out;rw [IntKind.wrap_u64];omega
   have HCC:Hid ((4294967296≤q∨4294967296 * r+v0 < q * 2684354560)↔(4294967296≤q∨Z < P)):=by show _↔_;rw [hZ,hS,hP,HB.out]
   have HR2:Hid (r2=r+3814697265):=by show _=_;rw [hr2,HA.out]
   clear hP hS hZ hr2 hPb
   by_cases hc:4294967296≤q∨Z < P
   ·have hc':=HCC.out.2 hc
    have hq1:1≤q:=(H.out.more hc').1
    have HM:=Lib.hid hc'
    have g5:(q:Int) - 1=((q - 1:Nat):Int):=by omega
    have g5w:IntKind.u64.wrap ((q - 1:Nat):Int)=((q - 1:Nat):Int):=by rw [IntKind.wrap_u64];omega
    clear hc'
    by_cases hr32:4294967296≤r2
    ·have c5:decide ((4294967296:Int)≤(r2:Int))=true:=by simp;omega
     have c6:decide (4294967296≤r2)=true:=by simp;omega
     have HD:Hid (q - 1=q0):=by show _=_;rw [H.out.brk HM.out (by rw [← HR2.out];exact hr32)];exact HQ0.out.symm
     rcases (show 4294967296≤q∨¬ 4294967296≤q∧Z < P by omega) with h1 | ⟨h1,h2⟩
     ·have c1:decide ((4294967296:Int)≤(q:Int))=true:=by simp;omega
      have c2:decide (4294967296≤q)=true:=by simp;omega
      clear hq32 hc h1 hr32
      go_wp2_with fail
      go_meet
      exact ⟨by first | rw [HD.out] | (rw [← HD.out];rw [g5]),rfl⟩
     ·have c1:decide ((4294967296:Int)≤(q:Int))=false:=by simp;omega
      have c2:decide (4294967296≤q)=false:=by simp;omega
      clear hq32 hc h1 hr32
      go_wp2_with fail
      go_meet
      exact ⟨by first | rw [HD.out] | (rw [← HD.out];rw [g5]),rfl⟩
    ·have c5:decide ((4294967296:Int)≤(r2:Int))=false:=by simp;omega
     have c6:decide (4294967296≤r2)=false:=by simp;omega
     have HD:Hid (DA t v0 (q - 1) r2):=by
      exact H.out.step HM.out rfl HR2.out (by omega)
     rcases (show 4294967296≤q∨¬ 4294967296≤q∧Z < P by omega) with h1 | ⟨h1,h2⟩
     ·have c1:decide ((4294967296:Int)≤(q:Int))=true:=by simp;omega
      have c2:decide (4294967296≤q)=true:=by simp;omega
      clear hq32 hc h1 hr32
      go_wp2_with fail
      exact ⟨⟨q - 1,r2,by first | rfl | rw [g5],rfl,HD⟩,by simp [intOf];omega⟩
     ·have c1:decide ((4294967296:Int)≤(q:Int))=false:=by simp;omega
      have c2:decide (4294967296≤q)=false:=by simp;omega
      clear hq32 hc h1 hr32
      go_wp2_with fail
      exact ⟨⟨q - 1,r2,by first | rfl | rw [g5],rfl,HD⟩,by simp [intOf];omega⟩
   ·have HD:Hid (q=q0):=by show _=_;rw [H.out.done (fun h=>hc (HCC.out.1 h))];exact HQ0.out.symm
    have h1:¬ 4294967296≤q:=by omega
    have h2:¬ Z < P:=by omega
    have c1:decide ((4294967296:Int)≤(q:Int))=false:=by simp;omega
    have c2:decide (4294967296≤q)=false:=by simp;omega
    clear hq32 hc h1
    go_wp2_with fail
    go_meet
    exact ⟨by first | rw [HD.out] | (rw [← HD.out];rw [g5]),rfl⟩
 case rest =>
 obtain ⟨rfl,rfl⟩:=hcut
 go_wp2_with fail
 go_ret2
 exact ⟨rfl,by simp [go_sem]⟩
theorem znI (hi lo:Nat) (w:World) (hlo:lo < 18446744073709551616) (hU:hi * 18446744073709551616+lo < 1000000000000000000000000000000) :
  Tl prog 164 #[.int .u64 (hi:Int),.int .u64 (lo:Int),.int .u64 1000000000000000] w (.tuple #[.int .u64 (((hi * 18446744073709551616+lo) / 1000000000000000:Nat):Int),.int .u64 (((hi * 18446744073709551616+lo) % 1000000000000000:Nat):Int)]):=by
 rcases Nat.eq_zero_or_pos hi with h0 | h0
 ·rw [h0,Nat.zero_mul,Nat.zero_add]
  exact zlb lo w hlo
 ·obtain ⟨Yn,a,b,u,ll,v,v1,v0,q1,t,q0,rr,s1,s2,s3,s4,s5,s6,s7,s8,s9,qa,ra,qb,rb,hh,hdf⟩:=zrr hi lo hlo hU
  exact zpg w h0 hdf zsI
end Go.Proofs.YtkoidgbgoccgmaaGreatDoor
namespace Go.Proofs.YtkoidgbgoccgmaaGreatDoor
open Tryz
open Go.RowKit
theorem w64 {n:Int} (h:I64 n):wrap64 n=n:=IntWalk.wrap64_in n h
theorem zjR {l:List Int} : ∀ u∈l.map (Value.int .i64),u.oneCell'=true:=by
 intro u hu
 obtain ⟨x,_,rfl⟩:=List.mem_map.1 hu
 rfl
theorem zph:(Tryz.prog.info? 3).map (fun i=>(i.zero,i.size,i.bytes))=some (some (.int .i64 0),1,8):=by kernel_rfl
theorem zhA (n:Int) (w:World) (h:I64 n) :
  Calls prog 61 #[.int .i64 n] w fun e w'=>∃ A c,e = .returned (.slice A (zay n).length c)∧SlI w.heap.size w' A (zay n)∧Ext w w'∧(zay n).length≤c:=by
 obtain ⟨i0,hi,hz0,hz1,hz2⟩:=info_parts zph
 have hI:=Lib.hid (show I64 n from h)
 have hL:=zgR n.natAbs (by obtain ⟨h1,h2⟩:=h;omega)
 clear h
 go_enter func61,ntmps61
 go_wp2
 go_loopw [0,3] (fun a v wr=>∃ (q:Int) (A:Option Addr) (c:Nat) (ds:List Int),Hid (I64 q)∧a = .int .i64 q∧v = .slice A ds.length c∧SlI w.heap.size wr A ds∧Ext w wr∧(A=none→ds=[])∧ds.length≤c∧Hid (zay q++ds=zay n)) (fun a _ _=>(intOf a).natAbs)
 case atStart=>exact ⟨n,none,0,[],hI,rfl,rfl,Rd.nil _ _ _,Ext.refl _,fun _=>rfl,Nat.le_refl _,by show _=_;simp⟩
 case round =>
  obtain ⟨q,A,c,ds,HQ,rfl,rfl,hs,hx,hA,hcc,H⟩:=hrel
  by_cases hq:q=0
  ·subst hq
   go_wp2
   go_ret
   have he:ds=zay n:=by have:=H.out;rwa [show zay 0=[] from by simp [zay,zeo],List.nil_append] at this
   subst he
   exact ⟨A,c,rfl,hs,hx,hcc⟩
  ·have hq1:(q == 0)=false:=by simp [hq]
   have hq2:(q != 0)=true:=by simp [hq]
   have hds:ds.length≤20:=by have:=congrArg List.length H.out;simp [zay] at this;omega
   obtain ⟨ht1,ht2,ht3,ht4,ht5,ht6⟩:=zqE q
   have hstep:zay q=zay (q.tdiv 10)++[((q.natAbs % 10:Nat):Int)]:=by
    unfold zay
    rw [zhe (by omega),ht4]
    simp
   have HN:Hid (I64 (q.tdiv 10)):=by
    obtain ⟨h1,h2⟩:=HQ.out
    refine ⟨?_,?_⟩ <;> omega
   have hms:(q.tdiv 10).natAbs < q.natAbs:=by omega
   have HM:=Lib.hid hms
   clear ht3 ht6 hms
   have Hst:=Lib.hid hstep
   clear hstep
   by_cases hneg:q.tmod 10 < 0
   ·have hd : -q.tmod 10=((q.natAbs % 10:Nat):Int):=by omega
    have Hd:=Lib.hid hd
    clear hd ht4 ht5
    go_wp2_with (at_builtin;refine zbp _ rfl _ _ _ rfl 3 i0 (.int .i64 0) 1 8 Tryz.underlying71 hi hz0 hz1 hz2 rfl (by decide) w.heap.size _ 1 [.int .i64 (-q.tmod 10)] rfl (by simp) rfl ((Rd.one _ _ _).mono hx.size) (by have:=hx.size;simp;omega) A ds.length c (ds.map (.int .i64)) rfl (by simp) ((Rd.alloc hs _).mono (Nat.zero_le _)) zjR (by simp [maxLen];omega) (by omega) ?_;intro A' c' os d hr hn' hc')
    rw [w64 HN.out]
    refine ⟨⟨q.tdiv 10,A',c',(-q.tmod 10)::ds,HN,rfl,by simp [Nat.add_comm],hr,by simp [go_sem, *],fun h=>absurd (hn' h) (by omega),by simp;omega,?_⟩,HM.out⟩
    show _=_
    rw [← H.out,Hst.out,← Hd.out,List.append_assoc,List.singleton_append]
   ·have hd:q.tmod 10=((q.natAbs % 10:Nat):Int):=by omega
    have Hd:=Lib.hid hd
    clear hd ht4 ht5
    go_wp2_with (at_builtin;refine zbp _ rfl _ _ _ rfl 3 i0 (.int .i64 0) 1 8 Tryz.underlying71 hi hz0 hz1 hz2 rfl (by decide) w.heap.size _ 1 [.int .i64 (q.tmod 10)] rfl (by simp) rfl ((Rd.one _ _ _).mono hx.size) (by have:=hx.size;simp;omega) A ds.length c (ds.map (.int .i64)) rfl (by simp) ((Rd.alloc hs _).mono (Nat.zero_le _)) zjR (by simp [maxLen];omega) (by omega) ?_;intro A' c' os d hr hn' hc')
    rw [w64 HN.out]
    refine ⟨⟨q.tdiv 10,A',c',(q.tmod 10)::ds,HN,rfl,by simp [Nat.add_comm],hr,by simp [go_sem, *],fun h=>absurd (hn' h) (by omega),by simp;omega,?_⟩,HM.out⟩
    show _=_
    rw [← H.out,Hst.out,← Hd.out,List.append_assoc,List.singleton_append]
theorem ziR (m ex:Int) (w:World) (h:I64 m) :
  Calls prog 146 #[NV m ex] w fun e w'=>∃ A c,e = .returned (.agg #[.bool (decide (m < 0)),.slice A (zay m).length c,.int .i64 ex])∧SlI w.heap.size w' A (zay m)∧Ext w w'∧(zay m).length≤c:=by
 go_enter func146,ntmps146
 go_wp2
 refine plP [(0,0),(1,0),(2,0),(3,0),(4,0),(6,0),(7,0),(5,1),(8,0),(9,2)] [9] (by kernel_rfl) (fun _ _ d _ _ h=>by cases d <;> exact h) ?_
 iterate 7 (apply rdP rfl rfl;(intros;go_simp;first | done | rfl);try simp only [zq])
 (refine zh rfl ?_ (fun K hK=>?_);rfl;go_simp;refine (zhA _ _ h).mono ?_;rintro e w' ⟨A,c,rfl,hs,hb,hcc⟩;obtain ⟨os,d,rfl⟩:=hb.more;refine hK _ _ ?_ ?_;(simp [go_sem]))
 try simp only [zq]
 (apply rdP rfl rfl;(intros;go_simp;first | done | rfl))
 try simp only [zq]
 (refine zaa rfl ?_ (fun K hK=>?_);rfl;go_simp;refine hK _ _ ?_)
 try simp only [Act.put]
 refine zj ?_
 go_wp2
 refine bodyPost_ret (v:=.agg #[.bool (decide (m < 0)),.slice A (zay m).length c,.int .i64 ex]) (by simp [results,results146,go_sem]) rfl ⟨A,c,rfl,Rd.swap hs (by simp) (by simp) (by simp;omega),by simp [go_sem],hcc⟩
theorem zes (m ex:Int) (w:World) (h:I64 m) :
  Tl prog 140 #[NV m ex] w (.bool (zO m ex)):=by
 by_cases h0:m=0
 ·have e:zO m ex=(ex == 0):=by simp [zO,h0]
  rw [e]
  have h0:(m == 0)=true:=by simp [h0]
  go_enter func140,ntmps140
  go_wp2
  go_ret
  exact ⟨rfl,by simp [go_sem]⟩
 ·have h0':(m == 0)=false:=by simp [h0]
  by_cases h1:1000000000000000≤m
  ·have e:zO m ex=false:=by simp [zO,h0,h1]
   rw [e];clear h0 e
   go_enter func140,ntmps140;go_wp2;go_ret;exact ⟨rfl,by simp [go_sem]⟩
  by_cases h2:m ≤ -1000000000000000
  ·have e:zO m ex=false:=by simp [zO,h0,h2]
   rw [e];clear h0 e
   go_enter func140,ntmps140;go_wp2;go_ret;exact ⟨rfl,by simp [go_sem]⟩
  by_cases h3:m.tmod 10=0
  ·have e:zO m ex=false:=by simp [zO,h0,h3]
   rw [e];clear h0 e
   have h3:(m.tmod 10 == 0)=true:=by simp [h3]
   go_enter func140,ntmps140;go_wp2;go_ret;exact ⟨rfl,by simp [go_sem]⟩
  have h3':(m.tmod 10 == 0)=false:=by simp [h3]
  by_cases h4:ex < -40
  ·have e:zO m ex=false:=by simp [zO,h0,h4]
   rw [e];clear h0 e h3
   go_enter func140,ntmps140;go_wp2;go_ret;exact ⟨rfl,by simp [go_sem]⟩
  by_cases h5:40 < ex
  ·have e:zO m ex=false:=by simp [zO,h0,h5]
   rw [e];clear h0 e h3
   go_enter func140,ntmps140;go_wp2;go_ret;exact ⟨rfl,by simp [go_sem]⟩
  have e:zO m ex=decide (za0 (zah m)+ex≤40):=by unfold zO;rw [if_neg h0,if_neg (by omega)]
  have hl:za0 (zah m)=(zay m).length:=by
   unfold za0 zay
   rw [zep,Int.toNat_natCast,List.length_map,zeS 20 _ (by omega) (by omega)]
  rw [e,hl];clear h0 e h3
  have hL:=zgR m.natAbs (by obtain ⟨h1,h2⟩:=h;omega)
  have hL':(zay m).length≤20:=by simpa [zay] using hL
  clear hL hl
  have hw:IntKind.i64.wrap (((zay m).length:Int)+ex)=((zay m).length:Int)+ex:=by rw [IntKind.wrap_i64];omega
  go_enter func140,ntmps140
  go_wp2
  refine plP [(0,0),(4,0),(5,0),(1,1),(2,0),(3,0),(6,0),(7,0),(8,0)] [] (by kernel_rfl) (fun _ _ d _ _ h=>by cases d <;> exact h) ?_
  iterate 3 (apply rdP rfl rfl;(intros;go_simp;first | done | rfl);try simp only [zq])
  (refine zh rfl ?_ (fun K hK=>?_);rfl;go_simp;refine (ziR _ _ _ h).mono ?_;rintro e w' ⟨A,c,rfl,hs,hb,hcc⟩;obtain ⟨os,d,rfl⟩:=hb.more;refine hK _ _ ?_ ?_;(simp [go_sem]))
  try simp only [zq]
  iterate 5 (apply rdP rfl rfl;(intros;go_simp;first | done | rfl);try simp only [zq])
  refine zj ?_
  go_wp2
  go_ret
  exact ⟨rfl,by simp [go_sem]⟩
end Go.Proofs.YtkoidgbgoccgmaaGreatDoor
namespace Go.Proofs.YtkoidgbgoccgmaaGreatDoor
open Tryz
open Go.RowKit NM
abbrev i6 (l:List Nat):List Value:=l.map fun d:Nat=>Value.int .i64 (d:Int)
theorem Rd.tail {base b off:Nat} {w:World} {x:Value} {cs:List Value} (h:Rd base w (some ⟨b,off,none⟩) (x::cs)):Rd base w (some ⟨b,off+1,none⟩) cs:=fun j u hu=>by
 obtain ⟨b',off',hA,hb,hc⟩:=h (j+1) u (by simpa using hu)
 obtain ⟨rfl,rfl⟩:=aI hA
 exact ⟨b,off+1,rfl,hb,by rw [← hc];congr 2;omega⟩
theorem Rd.head {base:Nat} {w:World} {A:Option Addr} {x:Value} {cs:List Value} (h:Rd base w A (x::cs)):∃ b off,A=some ⟨b,off,none⟩∧base≤b∧w.cell? ⟨b,off,none⟩=some x:=by
 obtain ⟨b,off,hA,hb,hc⟩:=h 0 x rfl
 exact ⟨b,off,hA,hb,by simpa using hc⟩
theorem Rd.take {base:Nat} {w:World} {A:Option Addr} {cs:List Value} (h:Rd base w A cs) (n:Nat):Rd base w A (cs.take n):=fun j u hu=>h j u (by
 rw [List.getElem?_take] at hu
 split at hu
 ·exact hu
 ·cases hu)
theorem Rd.at_ {base:Nat} {w:World} {A:Option Addr} {l:List Nat} {j d:Nat} (h:Rd base w A (i6 l)) (hd:l[j]? = some d):∃ b off,A=some ⟨b,off,none⟩∧base≤b∧w.cell? ⟨b,off+j,none⟩=some (.int .i64 (d:Int)) :=
 h j _ (by rw [List.getElem?_map,hd];rfl)
def zjS (base:Nat) (w':World) (R:List Nat) (e:Ending):Prop:=∃ A' cap',e = .returned (.slice A' R.length cap')∧Rd base w' A' (i6 R)∧R.length≤cap'
theorem zmA (base:Nat) (A:Option Addr) (cap:Nat) (l:List Nat) (w:World) (h:Rd base w A (i6 l)) (hl:l.length≤4611686018427387904) (hcp:l.length≤cap) :
  Calls prog 111 #[.slice A l.length cap] w fun e w'=>zjS base w (strip l) e∧w=w':=by
 generalize hR:strip l=R
 have HR:=Lib.hid hR
 clear hR
 go_enter func111,ntmps111
 go_wp2
 go_loop [0] (fun s=>∃ (l':List Nat) (A':Option Addr) (cap':Nat),l'.length≤4611686018427387904∧s = .slice A' l'.length cap'∧l'.length≤cap'∧Rd base w A' (i6 l')∧Hid (strip l'=R)) (fun s=>zcI s)
 case atStart=>exact ⟨l,A,cap,hl,rfl,hcp,h,HR⟩
 case round =>
  obtain ⟨l',A',cap',hl',rfl,hcap,hd,H⟩:=hrel
  clear h hl hcp
  cases l' with
  | nil =>
   obtain rfl:[]=R:=H.out
   go_wp2
   go_ret
   exact ⟨⟨A',cap',rfl,Rd.nil _ _ _,Nat.zero_le _⟩,rfl⟩
  | cons d t =>
   obtain ⟨b,off,rfl,hb,hc⟩:=hd.head
   rw [List.length_cons] at hl' hcap ⊢
   by_cases h0:d=0
   ·subst h0
    have HH:=Lib.hid hd.tail
    clear hd
    by_cases hc1:cap'=1
    ·subst hc1
     obtain rfl:t=[]:=List.eq_nil_of_length_eq_zero (by omega)
     go_wp2
     exact ⟨⟨[],_,0,by simp,rfl,by simp,Rd.nil _ _ _,H⟩,by simp [zcI]⟩
    ·have hc1':1 < cap':=by omega
     go_wp2
     exact ⟨⟨t,_,_,by omega,rfl,by omega,HH.out,by have:=H.out;rw [strip_zero] at this;exact this⟩,by simp [zcI]⟩
   ·have h0':(((d:Int)) == 0)=false:=by simp;omega
    go_wp2
    obtain rfl:d::t=R:=by have:=H.out;rwa [strip_pos _ h0] at this
    go_ret
    exact ⟨⟨_,cap',rfl,hd,by simpa using hcap⟩,rfl⟩
theorem zdR (base:Nat) (A:Option Addr) (cap len:Nat) (l:List Nat) (N:Nat) (w:World) (hlen:l.length=len) (h:Rd base w A (i6 l)) (hl:len≤4611686018427387904) (hcp:len≤cap) (ha:AllD l) (hv:val l=N) :
  Calls prog 111 #[.slice A len cap] w fun e w'=>zjS base w (dig N) e∧w=w':=by
 subst hlen hv
 have:=zmA base A cap l w h hl hcp
 rw [← dig_val ha] at this
 exact this
structure RCut (base:Nat) (w:World) (b off cap len k:Nat) (hd:List Nat) (r0:Nat) (rest:List Nat):Prop where
 rd:Rd base w (some ⟨b,off,none⟩) (i6 (hd++r0::rest))
 hn:hd.length+k=len
 hlen:1+rest.length=k
 cap:len≤cap
 big:len≤1000000
theorem zpi (A:Option Addr) (cap len k:Nat) (more:Bool) (w:World) (hk:len < k) :
  Calls prog 112 #[.slice A len cap,.int .i64 (k:Int),.bool more] w fun e w'=>e = .returned (.slice none 0 0)∧w=w':=by
 have h1:((len:Int) < (k:Int)):=by omega
 go_enter func112,ntmps112
 go_wp2
 go_ret
 exact ⟨rfl,rfl⟩
theorem zbq:(Tryz.prog.info? 3).map (fun i=>(i.zero,i.size,i.bytes))=some (some (.int .i64 0),1,8):=by kernel_rfl
theorem zcr (l:List Nat):∀ u∈i6 l,u.oneCell'=true:=by
 intro u hu
 obtain ⟨x,_,rfl⟩:=List.mem_map.1 hu
 rfl
theorem zlQ {w:World} {base n:Nat} {ty:TypeId} (u:Value) (hn:n=w.heap.size) (hb:base≤n):(w.alloc (.cells #[u] ty)).ownsRow base ty 1 (.slice (some ⟨n,0,none⟩) 1 1) 1 [u]:=by
 subst hn
 exact ⟨by simp,Or.inr ⟨w.heap.size,1,#[u],rfl,hb,Array.getElem?_push_size,Nat.le_refl _,by decide,by simp,by simp⟩⟩
theorem zbr {X W w3:World} {ty:TypeId} {v:Value} {n:Nat} {xs:List Value} (hx:Ext X W) (ho:W.ownsRow X.heap.size ty 1 v n xs) (hg:W.grownBy w3 v.ownBlock):Ext X w3:=by
 have hb:=zdQ ho
 have h1:=hx.size
 refine ⟨hg.os.trans hx.os,hg.tape.trans hx.tape,hg.output.trans hx.output,Nat.le_trans h1 hg.size,fun j hj=>?_⟩
 rw [hg.block j (by omega) (fun he=>by have:=(hb j he.symm).1;omega),hx.block hj]
theorem zpj {w:World} {base n:Nat} {v:Value} {hd:List Nat} (hn:hd.length=n) (h:w.ownsRow base 3 1 v (1+n) ([Value.int .i64 0]++i6 hd)):∃ A cap,v = .slice A (1+n) cap∧Dg .i64 3 base w A cap (0::hd):=by
 obtain ⟨A,c,rfl,h1,h2⟩:=Dg.of_own (l:=0::hd) (k:=.i64) (by simpa using h)
 exact ⟨A,c,by rw [List.length_cons,hn,Nat.add_comm],h1⟩
theorem zqM {q r0 dl:Nat} {rest:List Nat} {more mm:Bool} (h:5 < (r0:Int)∨((r0:Int) == 5)=true∧(mm=true∨(((dl:Int).tmod 2 == 1)=true))) (hm:mm=(more || decide (val rest≠0))) (hd:q % 2=dl % 2):upB q r0 rest more=true:=by
 have ht:(dl:Int).tmod 2=((dl % 2:Nat):Int):=rfl
 rw [ht,← hd] at h
 unfold upB
 rcases h with h | ⟨h1,h2⟩
 ·simp;left;omega
 ·simp at h1
  have h1':r0=5:=by omega
  subst h1'
  rcases h2 with h2 | h2
  ·rw [hm] at h2;cases more
   ·simp at h2;simp [h2]
   ·simp
  ·simp at h2;have:q % 2=1:=by omega
   simp [this]
theorem zpk {q r0 dl:Nat} {rest:List Nat} {more mm:Bool} (h:(r0:Int)≤5∧(((r0:Int) == 5)=false∨mm=false∧(((dl:Int).tmod 2 == 1)=false))) (hm:mm=(more || decide (val rest≠0))) (hd:q % 2=dl % 2):upB q r0 rest more=false:=by
 have ht:(dl:Int).tmod 2=((dl % 2:Nat):Int):=rfl
 rw [ht,← hd] at h
 unfold upB
 obtain ⟨h0,h | ⟨h1,h2⟩⟩:=h
 ·simp at h
  have:¬ r0=5:=by omega
  simp [this];omega
 ·rw [hm] at h1
  have h3:q % 2≠1:=fun he=>by rw [he] at h2;simp at h2
  have h4:¬ 5 < r0:=by omega
  cases more
  ·simp at h1;simp [h1,h3,h4]
  ·simp at h1
theorem zpl (base b off cap len k:Nat) (hd:List Nat) (r0:Nat) (rest:List Nat) (more:Bool) (w:World) (h:RCut base w b off cap len k hd r0 rest) (hall:AllD (hd++r0::rest)) :
  Calls prog 112 #[.slice (some ⟨b,off,none⟩) len cap,.int .i64 (k:Int),.bool more] w fun e w'=>zjS w.heap.size w' (dig (if upB (val hd) r0 rest more then val hd+1 else val hd)) e∧Ext w w':=by
 obtain ⟨hrd,hn,hlen,hcap,hbig⟩:=h
 generalize hMV:(if upB (val hd) r0 rest more then val hd+1 else val hd)=MV
 have HMV:=Lib.hid hMV
 clear hMV
 have f1:¬ ((len:Int) < (k:Int)):=by omega
 have f2:(len:Int) - (k:Int)=(hd.length:Int):=by omega
 have f3:hd.length≤cap:=by omega
 have f4:hd.length≤len:=by omega
 have f5:¬ cap=hd.length:=by omega
 have f6:(k == 0)=false:=by simp;omega
 have f7:((k:Int) == 0)=false:=by simp;omega
 have f8:len - hd.length=k:=by omega
 have f9:0 < k:=by omega
 have hl2:hd.length≤1000000:=by omega
 obtain ⟨i0,hi,hz0,hz1,hz2⟩:=info_parts zbq
 have HRD:=Lib.hid hrd
 have HN:=Lib.hid hn
 have HL:=Lib.hid hlen
 have HALL:=Lib.hid hall
 generalize hm:hd.length=n at *
 have HM:=Lib.hid hm
 clear hrd hn hlen hm hall
 go_enter func112,ntmps112
 go_wp2_with (at_builtin;refine wpList_append_own _ rfl _ _ _ rfl w.heap.size 3 i0 (.int .i64 0) 1 8 Tryz.underlying71 hi hz0 hz1 hz2 rfl (by decide) _ 1 [.int .i64 0] rfl (zlQ _ rfl (Nat.le_refl _)) _ n cap (i6 hd) rfl (by simp [HM.out]) (Rd.add (Rd.mono (Rd.ext (by have:=Rd.take HRD.out n;rw [← HM.out] at this;simpa using this) ((Ext.refl _).alloc _)) (Nat.zero_le _))) (zcr _) (by simp [maxLen];omega) (by omega) (by simp) ?_;intro v3 w3 ho3 hg3 hiff;clear hiff;have hx3:=zbr ((Ext.refl w).alloc _) (zlQ _ rfl (Nat.le_refl _)) hg3;obtain ⟨A3,c3,rfl,hk3⟩:=zpj HM.out ho3;clear ho3 hg3)
 have HK3:=Lib.hid hk3
 clear hk3
 go_loop [2,9] (fun a i=>∃ (j:Nat) (mm:Bool),1≤j∧j≤k∧i = .int .i64 (j:Int)∧a = .bool mm∧Hid (mm=(more || decide (val (rest.take (j - 1))≠0)))) (fun _ i=>k - (intOf i).toNat)
 case atStart=>exact ⟨1,more,by omega,by have:=HL.out;omega,rfl,rfl,by show _=_;simp [val_nil]⟩
 case round =>
  obtain ⟨j,mm,hj1,hj2,rfl,rfl,HMM⟩:=hrel
  by_cases hjk:j < k
  ·obtain ⟨x,hx⟩:∃ x,rest[j - 1]? = some x:=⟨rest[j - 1]'(by have:=HL.out;omega),by rw [List.getElem?_eq_getElem]⟩
   have hcx:w3.cell? ⟨b,off+n+j,none⟩=some (.int .i64 (x:Int)):=by
    obtain ⟨b',off',hA,_,hc⟩:=Rd.at_ (Rd.ext HRD.out hx3) (j:=n+j) (d:=x) (by rw [← HM.out,List.getElem?_append_right (by omega),show hd.length+j - hd.length=(j - 1)+1 by omega,List.getElem?_cons_succ];exact hx)
    obtain ⟨rfl,rfl⟩:=aI hA
    rw [Nat.add_assoc];exact hc
   have HX:Hid (val (rest.take j)=10 * val (rest.take (j - 1))+x):=by
    show _=_
    have:=za2 hx
    rw [show j - 1+1=j by omega] at this
    rw [this,val_snoc]
   clear hx
   cases mm with
   | true =>
    go_wp2
    refine ⟨⟨j+1,true,by omega,by omega,by go_num,rfl,?_⟩,by simp [intOf];omega⟩
    show _=_
    have:=HMM.out
    rw [Nat.add_sub_cancel,HX.out]
    cases more
    ·simp at this ⊢;omega
    ·simp
   | false =>
    go_wp2
    refine ⟨⟨j+1,(!((x:Int) == 0)),by omega,by omega,by go_num,rfl,?_⟩,by simp [intOf];omega⟩
    show _=_
    have:=HMM.out
    rw [Nat.add_sub_cancel,HX.out]
    cases more
    ·simp at this;rw [this];by_cases h0:x=0 <;> simp [h0]
    ·simp at this
  ·have hmm:mm=(more || decide (val rest≠0)):=by
    have:=HMM.out
    rw [List.take_of_length_le (by have:=HL.out;omega)] at this
    exact this
   have HM2:=Lib.hid hmm
   clear hmm HMM
   have hr0:w3.cell? ⟨b,off+n,none⟩=some (.int .i64 (r0:Int)):=by
    obtain ⟨b',off',hA,_,hc⟩:=Rd.at_ (Rd.ext HRD.out hx3) (j:=n) (d:=r0) (by rw [← HM.out];simp)
    obtain ⟨rfl,rfl⟩:=aI hA
    exact hc
   obtain ⟨dl,hdl⟩:∃ dl,(0::hd)[n]? = some dl:=⟨(0::hd)[n]'(by have:=HM.out;simp;omega),by rw [List.getElem?_eq_getElem]⟩
   obtain ⟨b3,o3,rfl,hb3,hcl,_⟩:=HK3.out.at hdl
   have HDL:Hid (val hd % 2=dl % 2):=by
    show _=_
    have h1:=za2 hdl
    rw [List.take_of_length_le (by have:=HM.out;simp;omega)] at h1
    have h2:val (0::hd)=val hd:=by rw [val_cons];omega
    rw [← h2,h1,val_snoc];omega
   clear hdl
   go_upto_region 12 with (fail)
   refine wp_region_lit ?_
   iterate 15 ((first | (refine zbj (v:=?_) rfl ?_ ?_;rotate_left 1;(go_simp;first | done | rfl)) | (refine za1 (v:=?_) (c:=?_) rfl rfl rfl ?_ (fun hc=>?_) ?_;rotate_left 2;(first | exact zak _ | exact zal _ | exact zQ _ _ | exact zR _ _);((try simp only [zn hc]);(try (have hc1:=zx hc;(try simp only [zn hc1]);(try (have hc2:=zx hc1;(try simp only [zn hc2])))));go_simp;first | done | rfl)));try simp only [zq])
   first | (refine zch rfl rfl rfl rfl rfl rfl rfl ?_ ?_;(first | exact zak _ | exact zal _ | exact zQ _ _ | exact zR _ _)) | (refine zcq rfl rfl rfl rfl rfl rfl rfl ?_ ?_;(first | exact zak _ | exact zal _ | exact zQ _ _ | exact zR _ _))
   try simp only [zq]
   first | (refine zch rfl rfl rfl rfl rfl rfl rfl ?_ ?_;(first | exact zak _ | exact zal _ | exact zQ _ _ | exact zR _ _)) | (refine zcq rfl rfl rfl rfl rfl rfl rfl ?_ ?_;(first | exact zak _ | exact zal _ | exact zQ _ _ | exact zR _ _))
   try simp only [zq]
   first | (refine zas rfl rfl rfl rfl rfl ?_) | (refine zaC rfl rfl rfl rfl rfl ?_)
   try simp only [zq]
   refine wpList_nil ?_
   try go_simp
   go_wp2_with fail
   ·have HU:=Lib.hid (zqM (r0:=r0) (dl:=dl) (mm:=mm) (by assumption) HM2.out HDL.out)
    clear hcl
    go_loopw [11] (fun i wr=>∃ j:Nat,j≤n∧i = .int .i64 (j:Int)∧Hid (0::hd=(0::hd).take (j+1)++List.replicate (n - j) 9)∧Hid (Dg .i64 3 w.heap.size wr (some ⟨b3,o3,none⟩) c3 ((0::hd).take (j+1)++List.replicate (n - j) 0))∧Ext w wr) (fun i _=>(intOf i).toNat)
    case atStart=>exact ⟨n,Nat.le_refl _,by go_num,by show _=_;rw [← HM.out];simp,by show Dg _ _ _ _ _ _ _;rw [Nat.sub_self,← HM.out];simpa using HK3.out,hx3⟩
    case round =>
     obtain ⟨j,hj,rfl,HE,HW,hxr⟩:=hrel
     obtain ⟨d,hdj⟩:∃ d,(0::hd)[j]? = some d:=⟨(0::hd)[j]'(by have:=HM.out;simp;omega),by rw [List.getElem?_eq_getElem]⟩
     have hd10:d < 10:=(AllD.cons (by omega) (fun x hx=>HALL.out x (by simp [hx])):AllD (0::hd)).at hdj
     obtain ⟨b',off',hA',_,hcj,hfj⟩:=HW.out.at (i:=j) (d:=d) (by rw [List.getElem?_append_left (by have:=HM.out;simp;omega),List.getElem?_take_of_lt (by omega)];exact hdj)
     simp only [Option.some.injEq,Addr.mk.injEq,and_true] at hA'
     obtain ⟨rfl,rfl⟩:=hA'
     have HJ:=Lib.hid hdj
     clear hdj
     by_cases h9:d=9
     ·have e9:((d:Int) == 9)=true:=by simp;omega
      have hj0:1≤j:=by
       rcases Nat.eq_zero_or_pos j with h0 | h0
       ·have:=HJ.out;rw [h0] at this;simp at this;omega
       ·exact h0
      have HD9:=Lib.hid h9
      clear h9
      go_wp2_with fail
      have hst:=HW.out.set (i:=j) (d:=0) (by have:=HM.out;simp;omega)
      rw [zhy _ HJ.out] at hst
      have hj1:j - 1+1=j:=by omega
      have hnj:n - (j - 1)=n - j+1:=by omega
      refine ⟨⟨j - 1,by omega,by congr 1;omega,?_,?_,hxr.set _ hb3⟩,by simp [intOf];omega⟩
      ·show _=_
       rw [hj1,hnj,List.replicate_succ]
       have he:=HE.out
       rw [za2 HJ.out,List.append_assoc,List.singleton_append,HD9.out] at he
       exact he
      ·show Dg _ _ _ _ _ _ _
       rw [hj1,hnj,List.replicate_succ];exact hst
     ·have e9:((d:Int) == 9)=false:=by simp;omega
      have hst:=HW.out.set (i:=j) (d:=d+1) (by have:=HM.out;simp;omega)
      rw [zhy _ HJ.out,show ((d+1:Nat):Int)=(d:Int)+1 by omega] at hst
      have hK:AllD (0::hd):=AllD.cons (by omega) (fun x hx=>HALL.out x (by simp [hx]))
      have hall2:AllD ((0::hd).take j++(d+1)::List.replicate (n - j) 0):=(hK.take j).append (AllD.cons (by omega) (AllD.rep _ _ (by omega)))
      have hval:val ((0::hd).take j++(d+1)::List.replicate (n - j) 0)=MV:=by
       rw [← HMV.out,HU.out,if_pos rfl,val_incr]
       have he:=HE.out
       rw [za2 HJ.out,List.append_assoc,List.singleton_append] at he
       rw [← he,val_cons];omega
      have hln:((0::hd).take j++(d+1)::List.replicate (n - j) 0).length=1+n:=by have:=HM.out;simp;omega
      have hcs:=zdR w.heap.size (some ⟨b3,o3,none⟩) c3 (1+n) _ _ _ hln hst.rd (by omega) (by have:=hst.1;omega) hall2 hval
      clear hst hK hall2 hval hln
      go_wp2_with (go_at_call 111;refine hcs.mono ?_;rintro e w' ⟨⟨A',cap',rfl,hr,hcp⟩,rfl⟩)
      go_ret
      exact ⟨⟨A',cap',rfl,hr,hcp⟩,hxr.set _ hb3⟩
   ·have HU:=Lib.hid (zpk (r0:=r0) (dl:=dl) (mm:=mm) (by assumption) HM2.out HDL.out)
    clear hcl
    have hK:AllD (0::hd):=AllD.cons (by omega) (fun x hx=>HALL.out x (by simp [hx]))
    have hval:val (0::hd)=MV:=by
     rw [← HMV.out,HU.out,if_neg (by simp),val_cons];omega
    have hln:(0::hd).length=1+n:=by have:=HM.out;simp;omega
    have hcs:=zdR w.heap.size (some ⟨b3,o3,none⟩) c3 (1+n) _ _ w3 hln HK3.out.rd (by omega) (by have:=HK3.out.1;omega) hK hval
    clear hK hval hln
    go_wp2_with (go_at_call 111;refine hcs.mono ?_;rintro e w' ⟨⟨A',cap',rfl,hr,hcp⟩,rfl⟩)
    go_ret
    exact ⟨⟨A',cap',rfl,hr,hcp⟩,hx3⟩
theorem zjT (base:Nat) (A:Option Addr) (cap len k N:Nat) (more:Bool) (w:World) (hk:0 < k) (hlen:nd N=len) (h:Rd base w A (i6 (dig N))) (hcp:len≤cap) (hbig:len≤1000000) (hb:base≤w.heap.size) :
  Calls prog 112 #[.slice A len cap,.int .i64 (k:Int),.bool more] w fun e w'=>zjS base w' (dig (cutN N k more)) e∧Ext w w':=by
 have hdl:=dig_length N
 by_cases hf:len < k
 ·rw [cutN_far more (by omega),dig_zero]
  exact (zpi A cap len k more w hf).mono fun e w' ⟨h1,h2⟩=>⟨⟨none,0,h1,Rd.nil _ _ _,Nat.zero_le _⟩,by rw [← h2];exact Ext.refl _⟩
 ·obtain ⟨r0,hr0⟩:∃ r0,(dig N)[len - k]? = some r0:=⟨(dig N)[len - k]'(by omega),by rw [List.getElem?_eq_getElem]⟩
  have hnl:len - k < (dig N).length:=by omega
  have hdrop:(dig N).drop (len - k)=r0::(dig N).drop (len - k+1):=by
   rw [List.drop_eq_getElem_cons hnl]
   rw [List.getElem?_eq_getElem hnl] at hr0
   rw [Option.some.inj hr0]
  obtain ⟨b,off,rfl,_,_⟩:=Rd.at_ h hr0
  have hin:RCut base w b off cap len k ((dig N).take (len - k)) r0 ((dig N).drop (len - k+1)):=⟨by rw [← hdrop,List.take_append_drop];exact h,by simp;omega,by simp;omega,hcp,hbig⟩
  have hv:=cut_up (dig_all N) (len - k) r0 _ more hdrop
  rw [val_dig,hdl,hlen,show len - (len - k)=k by omega] at hv
  rw [hv]
  exact (zpl base b off cap len k _ r0 _ more w hin (by rw [← hdrop,List.take_append_drop];exact dig_all N)).mono fun e w' ⟨⟨A',c',h1,h2,h3⟩,h4⟩=>⟨⟨A',c',h1,h2.mono hb,h3⟩,h4⟩
theorem zfT (z:Value) (n:Nat):Builtin.zeroCells #[z] n=(List.replicate n z).toArray:=by
 apply Array.ext_getElem?
 intro j
 unfold Builtin.zeroCells
 by_cases h:j < n
 ·rw [Array.getElem?_eq_getElem (by simpa using h),Array.getElem?_eq_getElem (by simpa using h)]
  simp [Nat.mod_one]
 ·rw [Array.getElem?_eq_none (by simp;omega),Array.getElem?_eq_none (by simp;omega)]
theorem zjU {P:Program} (w:World) (base:Nat) (t tn ty e:TypeId) (i:TypeInfo) (z:Value) (kn:IntKind) (bytes:Nat) (ht:P.underlying t=some (.slice e)) (htn:P.underlying tn=some (.int kn)) (hi:P.info? e=some i) (hz:i.zero=some z)
  (hsize:i.size=1) (hby:i.bytes=bytes) (hzc:z.cells = #[z]) (h1:z.oneCell'=true)
  (v:Value) (n:Nat) (xs:List Value) (hown:w.ownsRow base e 1 v n xs) (hn0:0 < n) (m:Nat) (h63:n+m≤1000000) (hbytes:bytes≤1000) (hbase:base≤w.heap.size) :
  ∃ v' w',(Builtin.append_ #[t,tn] ty #[v,.int .i64 (m:Int)]).run P w = .ok v' w'∧w'.ownsRow base e 1 v' (n+m) (xs++List.replicate m z)∧w.grownBy w' v.ownBlock:=by
 have hw:IntKind.i64.wrap (m:Int)=m:=by rw [IntKind.wrap_i64];omega
 have hneg:¬ ((m:Int) < 0):=by omega
 have hmb:m * i.bytes≤1000000 * 1000:=Nat.mul_le_mul (by omega) (by omega)
 have h48i:¬ (281474976710656 < (m:Int) * (i.bytes:Int)):=by rw [← Int.natCast_mul];omega
 rcases hown.2 with ⟨_,h0⟩ | ⟨g,cap,cur,rfl,hbg,hg,hnc,hcm,hcs,htake⟩
 ·omega
 have hlen:(xs++List.replicate m z).length=(n+m) * 1:=by rw [List.length_append,hown.1,List.length_replicate];omega
 by_cases hm:m=0
 ·subst hm
  have hw0:IntKind.i64.wrap 0=0:=by decide
  refine ⟨.slice (some ⟨g,0,none⟩) n cap,w,?_,by simpa using hown,⟨rfl,rfl,rfl,Nat.le_refl _,fun _ _ _=>rfl⟩⟩
  simp [Builtin.append_,run_underlying ht,run_underlying htn,sizeOf,typeInfo,hi,asInt,asIntOf,hw0,hnc,storeCells]
 ·have hms:¬ (m * i.size=0):=by rw [hsize];omega
  have hms1:¬ (m=0):=hm
  by_cases hroom:n+m≤cap
  ·have hst:=run_storeCells_at P g n e (List.replicate m z) 0 cur w hg (by rw [List.length_replicate];omega) (fun u hu=>by rw [List.eq_of_mem_replicate hu];exact h1)
   simp only [Nat.add_zero] at hst
   refine ⟨.slice (some ⟨g,0,none⟩) (n+m) cap,_,?_,⟨hlen,.inr ⟨g,cap,(cur.toList.take n++List.replicate m z++cur.toList.drop (n+(List.replicate m z).length)).toArray,rfl,hbg,setRow_heap w g cur _ e _ hg,hroom,hcm,?_,?_⟩⟩,⟨rfl,rfl,rfl,by simp,fun k _ hk=>setRow_other w g k _ (fun e=>hk (by simp [Value.ownBlock,e]))⟩⟩
   ·simp [Builtin.append_,run_underlying ht,run_underlying htn,sizeOf,typeInfo,zeroValue,hi,hz,asInt,asIntOf,hw,hneg,h48i,hms1,hroom,hsize,hzc,zfT,Addr.add_lit]
    rw [hst]
    simp
   ·simp only [List.size_toArray,List.length_append,List.length_take,List.length_drop,Array.length_toList,List.length_replicate]
    omega
   ·rw [Nat.mul_one] at htake
    rw [htake,← hlen]
    exact List.take_left
  ·have holds:∀ j u,xs[j]? = some u→w.cell? ((⟨g,0,none⟩:Addr).add j)=some u:=hown.cells (g:=g) rfl
   have hf:=run_firstCells_some (P:=P) w.drew i.size n ⟨g,0,none⟩ n cap xs (by rw [hsize];exact hown.1) (by simpa using holds)
   rw [hsize] at hf
   have h63':¬ (9223372036854775807 < ((n:Int)+(m:Int))):=by omega
   have hfit:=growslice_fits (need:=n+m) (old:=cap) (bytes:=i.bytes) (by omega) (Nat.le_trans (Nat.mul_le_mul (show n+m≤1000000 by omega) (show i.bytes≤1000 by omega)) (by decide))
   have h48':¬ (281474976710656 < Builtin.nextslicecap (n+m) cap * i.bytes):=by omega
   have hge:=grownCap_ge w (n+m) cap e
   have hcm':grownCap w (n+m) cap e≤maxLen:=grownCap_le_maxLen w (n+m) cap e (by simp [maxLen];omega)
   refine ⟨.slice (some ⟨w.heap.size,0,none⟩) (n+m) (grownCap w (n+m) cap e),w.drew.alloc (.cells (xs.toArray++(List.replicate m z).toArray++Builtin.zeroCells z.cells (grownCap w (n+m) cap e - (n+m))) e),?_,⟨hlen,.inr ⟨w.heap.size,_,_,rfl,hbase,heap_alloc_new w.drew _,hge,hcm',?_,?_⟩⟩,⟨rfl,rfl,rfl,by simp,fun j hj _=>RowKit.Below.heap_alloc w.drew _ j hj⟩⟩
   ·simp [Builtin.append_,run_underlying ht,run_underlying htn,sizeOf,typeInfo,zeroValue,hi,hz,asInt,asIntOf,hw,hneg,h48i,hms1,hroom,hsize,hzc,zfT,h63',h48',Question.forced,hf,newRow,grownCap]
   ·simp only [Array.size_append,List.size_toArray,size_zeroCells,hzc,hown.1,List.length_replicate]
    simp;omega
   ·simp only [Array.toList_append,List.append_assoc]
    rw [← List.append_assoc,← hlen]
    exact List.take_left
theorem zjV {w:World} {base base':Nat} {e:TypeId} {v:Value} {n:Nat} {xs:List Value} (h:w.ownsRow base e 1 v n xs) (hb:base'≤base):w.ownsRow base' e 1 v n xs:=by
 refine ⟨h.1,?_⟩
 rcases h.2 with h2 | ⟨g,cap,cur,h3,h4,h5⟩
 ·exact Or.inl h2
 ·exact Or.inr ⟨g,cap,cur,h3,by omega,h5⟩
theorem zpm (l:List Nat) (k:Nat):b8 l++List.replicate k (Value.int .u8 0)=b8 (l++List.replicate k 0):=by unfold b8;simp
theorem zqN:Tryz.prog.underlying 3=some (.int .i64):=Tryz.underlying3
def zcS (m:Int) (k:Nat):List Nat:=zax m.natAbs++List.replicate k 0
theorem zhB (m ex low:Int) (k:Nat) (w:World) (htab:Tab w) (hm:I64 m) (hk:ex - low=(k:Int)) (hkb:k≤1000) :
  Calls prog 134 #[NV m ex,.int .i64 low] w fun e w'=>∃ v,e = .returned v∧w'.ownsRow w.heap.size 5 1 v (zcS m k).length (b8 (zcS m k))∧Ext w w':=by
 have hu:m.natAbs < 18446744073709551616:=by obtain ⟨h1,h2⟩:=hm;omega
 have hl20:(zax m.natAbs).length≤20:=by rw [zbm];have:=(nd_le_iff m.natAbs 20).2 (Nat.lt_of_lt_of_le hu (by decide));omega
 have hl1:1≤(zax m.natAbs).length:=by rw [zbm];omega
 have hdg:=fun W hW=>zc6 m.natAbs hu W hW
 have hsz:=fun W=>zcR m W hm
 have hsp:zcS m k=zax m.natAbs++List.replicate k 0:=rfl
 obtain ⟨i0,hi,hz0,hz1,hz2⟩:=info_parts zcW
 generalize zax m.natAbs=D at *
 generalize zcS m k=R at *
 generalize m.natAbs=N at *
 have HT:=Lib.hid htab
 have HSP:=Lib.hid hsp
 have w1:IntKind.i64.wrap (ex - low)=(k:Int):=by rw [hk];exact zbJ (by omega) (by omega)
 have w2:wrap64 (ex - low)=(k:Int):=by rw [hk];exact IntWalk.wrap64_in _ (by omega)
 have w3:IntKind.i64.wrap (k:Int)=(k:Int):=zbJ (by omega) (by omega)
 clear htab hsp
 go_enter func134,ntmps134
 go_wp2
 refine zz fun W hW=>?_
 have c0:W.cell? ⟨w.heap.size,0,none⟩=some (.int .i64 m):=by rw [hW];go_simp
 have c1:W.cell? ⟨w.heap.size,1,none⟩=some (.int .i64 ex):=by rw [hW];go_simp
 have hz:w.heap.size < W.heap.size:=by rw [hW];simp
 have hxW:Ext w W:=by rw [hW];exact by simp [go_sem]
 clear hW
 have hdgW:=hdg W.drew (HT.out.ext hxW.drew)
 clear hdg
 refine plP [(0,0),(1,0),(4,0),(5,0),(6,0),(7,0),(2,1),(3,1),(8,1),(9,0)] [] (by kernel_rfl) (fun _ _ d _ _ h=>by cases d <;> exact h) ?_
 iterate 6 (apply rdP rfl rfl;(intros;go_simp;first | done | rfl);try simp only [zq])
 (refine zh rfl ?_ (fun K hK=>?_);rfl;go_simp;(go_at_call 126;(with_reducible refine (hsz _).mono ?_);rintro e w' ⟨rfl,rfl⟩);refine hK _ _ ?_ ?_;(simp [go_sem]))
 try simp only [zq]
 (refine zh rfl ?_ (fun K hK=>?_);rfl;go_simp;(go_at_call 125;(with_reducible refine hdgW.mono ?_);rintro e w' ⟨v,rfl,ho,hx⟩;obtain ⟨os,d,rfl⟩:=hx.more);refine hK _ _ ?_ ?_;(simp [go_sem]))
 try simp only [zq]
 (refine zh rfl ?_ (fun K hK=>?_);rfl;obtain ⟨v2,w2,hr,ho2,hg2⟩:=zjU (P:=prog) _ W.heap.size 124 3 124 5 i0 (.int .u8 0) .i64 1 Tryz.underlying124 zqN hi hz0 hz1 hz2 rfl rfl _ _ _ ho hl1 k (by omega) (by omega) (by simp);refine Lib.wp_append_run _ _ _ _ _ rfl _ _ rfl rfl _ _ hr ?_;have hx2:Ext W _:=zbr (Ext.trans (Ext.drew (Ext.refl W)) hx) ho hg2;refine hK _ _ hx2 ?_)
 try simp only [zq]
 (apply rdP rfl rfl;(intros;go_simp;first | done | rfl))
 try simp only [zq]
 refine zj ?_
 go_wp2
 go_ret
 rw [zpm] at ho2
 have hl2:D.length+k=R.length:=by rw [HSP.out];simp
 rw [hl2,← HSP.out] at ho2
 exact ⟨_,rfl,zjV ho2 (by omega),hxW.trans hx2⟩
end Go.Proofs.YtkoidgbgoccgmaaGreatDoor
namespace Go.Proofs.YtkoidgbgoccgmaaGreatDoor.NM
def rndI (x:Int) (e:Int):Option (Int×Int):=rnd (decide (x < 0)) x.natAbs false e
theorem rnd_nought (neg more:Bool) (e:Int):rnd neg 0 more e=some (0,0):=rnd_of_zero (n2_zero _ _)
theorem rnd_sg (neg:Bool) (N:Nat) (e:Int):rnd neg N false e=rndI (sg neg N) e:=by
 unfold rndI
 rw [sg_natAbs]
 by_cases h:N=0
 ·subst h;rw [rnd_nought,rnd_nought]
 ·congr 1
  cases neg <;> simp [sg] <;> omega
theorem rndI_neg (x e:Int):rndI (-x) e=(rndI x e).map fun r=>(-r.1,r.2):=by
 have h:=rnd_neg (decide (x < 0)) x.natAbs false e
 have h1:sg (!decide (x < 0)) x.natAbs = -x:=by unfold sg;by_cases hx:x < 0 <;> simp [hx] <;> omega
 rw [rnd_sg,h1] at h
 exact h
theorem sg_nat (x:Int):sg (decide (x < 0)) x.natAbs=x:=by unfold sg;by_cases hx:x < 0 <;> simp [hx] <;> omega
def sumI (ma ea mb eb:Int):Int:=ma * (T (ea - min ea eb).toNat:Nat)+mb * (T (eb - min ea eb).toNat:Nat)
def addS (ma ea mb eb:Int):Option (Int×Int):=if Rt ma ea∧Rt mb eb then rndI (sumI ma ea mb eb) (min ea eb) else none
def mulS (ma ea mb eb:Int):Option (Int×Int):=if Rt ma ea∧Rt mb eb then rndI (ma * mb) (ea+eb) else none
def plusN (na nb:Bool) (Na Nb:Nat):Bool×Nat:=if na=nb then (na,Na+Nb) else if Na < Nb then (nb,Nb - Na) else (na,Na - Nb)
theorem plusN_sg (na nb:Bool) (Na Nb:Nat):sg (plusN na nb Na Nb).1 (plusN na nb Na Nb).2=sg na Na+sg nb Nb:=by
 unfold plusN
 cases na <;> cases nb <;> simp [sg]
 ·split <;> simp <;> omega
 ·split <;> simp <;> omega
 ·omega
theorem sg_mul_nat (neg:Bool) (N k:Nat):sg neg (N * k)=sg neg N * (k:Int):=by
 cases neg <;> simp [sg,Int.neg_mul]
theorem rnd_plus (ma ea mb eb:Int):rnd (plusN (decide (ma < 0)) (decide (mb < 0)) (ma.natAbs * T (ea - min ea eb).toNat) (mb.natAbs * T (eb - min ea eb).toNat)).1 (plusN (decide (ma < 0)) (decide (mb < 0)) (ma.natAbs * T (ea - min ea eb).toNat) (mb.natAbs * T (eb - min ea eb).toNat)).2 false (min ea eb)=rndI (sumI ma ea mb eb) (min ea eb):=by
 rw [rnd_sg,plusN_sg,sg_mul_nat,sg_mul_nat,sg_nat,sg_nat];rfl
def valI (l:List Int):Int:=l.foldl (fun a d=>10 * a+d) 0
theorem foldl_valI (l:List Int):∀ a:Int,l.foldl (fun a d=>10 * a+d) a=a * (T l.length:Nat)+valI l:=by
 induction l with
 | nil=>intro a;simp [valI,T]
 | cons d l ih =>
  intro a
  have h1:=ih (10 * a+d)
  have h2:=ih (10 * 0+d)
  simp only [valI,List.foldl_cons,List.length_cons] at *
  rw [h1,h2,T_succ,Int.natCast_mul,Int.add_mul,Int.add_mul,Int.mul_comm 10 a,Int.mul_assoc]
  simp;omega
theorem valI_cons (d:Int) (l:List Int):valI (d::l)=d * (T l.length:Nat)+valI l:=by
 have:=foldl_valI l (10 * 0+d)
 simp only [valI,List.foldl_cons] at *
 rw [this];simp
theorem valI_nil:valI []=0:=rfl
theorem valI_nat (l:List Nat):valI (l.map fun d:Nat=>(d:Int))=(val l:Int):=by
 induction l with
 | nil=>rfl
 | cons d l ih=>rw [List.map_cons,valI_cons,val_cons,ih,List.length_map,Int.natCast_add,Int.natCast_mul]
theorem valI_neg (l:List Int):valI (l.map fun d=>-d) = - valI l:=by
 induction l with
 | nil=>rfl
 | cons d l ih=>rw [List.map_cons,valI_cons,valI_cons,ih,List.length_map,Int.neg_mul];omega
theorem valI_rep0 (n:Nat):valI (List.replicate n 0)=0:=by
 induction n with
 | zero=>rfl
 | succ n ih=>rw [List.replicate_succ,valI_cons,ih];omega
theorem valI_zip:∀ (a b:List Int),a.length=b.length→valI (List.zipWith (· + ·) a b)=valI a+valI b
 | [],[],_=>rfl
 | x::a,y::b,h=>by
  have h':a.length=b.length:=by simpa using h
  rw [List.zipWith_cons_cons,valI_cons,valI_cons,valI_cons,valI_zip a b h',List.length_zipWith,h',Nat.min_self,Int.add_mul];omega
theorem valI_small {l:List Int} (h:∀ d∈l,-9≤d∧d≤9) : -((T l.length:Nat):Int) < valI l∧valI l < (T l.length:Nat):=by
 induction l with
 | nil=>simp [valI_nil,T]
 | cons d l ih =>
  have h1:=ih (fun x hx=>h x (List.mem_cons_of_mem _ hx))
  have h2:=h d (List.mem_cons_self ..)
  rw [valI_cons,List.length_cons,T_succ,Int.natCast_mul]
  have a1:d * ((T l.length:Nat):Int)≤9 * ((T l.length:Nat):Int):=Int.mul_le_mul_of_nonneg_right h2.2 (by omega)
  have a2:(-9) * ((T l.length:Nat):Int)≤d * ((T l.length:Nat):Int):=Int.mul_le_mul_of_nonneg_right h2.1 (by omega)
  generalize ((T l.length:Nat):Int)=t at *
  omega
def DOk (l:List Int):Prop:=(∀ d∈l,-9≤d∧d≤9)∨(∀ d∈l,0≤d∧d≤18)∨(∀ d∈l,-18≤d∧d≤0)
theorem valI_nonneg {l:List Int} (h:∀ d∈l,0≤d):0≤valI l:=by
 induction l with
 | nil=>simp [valI_nil]
 | cons d l ih =>
  have h1:=ih (fun x hx=>h x (List.mem_cons_of_mem _ hx))
  have h2:=Int.mul_nonneg (h d (List.mem_cons_self ..)) (show (0:Int)≤(T l.length:Nat) by omega)
  rw [valI_cons];omega
theorem valI_nonpos {l:List Int} (h:∀ d∈l,d≤0):valI l≤0:=by
 have:=valI_nonneg (l:=l.map fun d=>-d) (by
  intro d hd
  obtain ⟨x,hx,rfl⟩:=List.mem_map.1 hd
  have:=h x hx;omega)
 rw [valI_neg] at this;omega
theorem DOk.tail {d:Int} {l:List Int} (h:DOk (d::l)):DOk l:=by
 rcases h with h | h | h
 ·exact Or.inl fun x hx=>h x (List.mem_cons_of_mem _ hx)
 ·exact Or.inr (Or.inl fun x hx=>h x (List.mem_cons_of_mem _ hx))
 ·exact Or.inr (Or.inr fun x hx=>h x (List.mem_cons_of_mem _ hx))
def sgn:List Int→Bool
 | []=>false
 | d::l=>if d=0 then sgn l else decide (d < 0)
theorem sgn_spec {l:List Int} (h:DOk l):sgn l=decide (valI l < 0):=by
 induction l with
 | nil=>simp [sgn,valI_nil]
 | cons d l ih =>
  rw [sgn,valI_cons]
  by_cases h0:d=0
  ·rw [if_pos h0,ih h.tail,h0];simp
  ·rw [if_neg h0]
   have hT:=T_pos l.length
   rcases h with h | h | h
   ·have h1:=valI_small (l:=l) (fun x hx=>h x (List.mem_cons_of_mem _ hx))
    generalize ((T l.length:Nat):Int)=t at *
    by_cases hd:d < 0
    ·have:=Int.mul_le_mul_of_nonneg_right (show d ≤ -1 by omega) (show 0≤t by omega)
     simp [hd];omega
    ·have:=Int.mul_le_mul_of_nonneg_right (show 1≤d by omega) (show 0≤t by omega)
     simp [hd];omega
   ·have h1:=valI_nonneg (l:=l) (fun x hx=>(h x (List.mem_cons_of_mem _ hx)).1)
    have h2:=(h d (List.mem_cons_self ..)).1
    have:=Int.mul_nonneg h2 (show (0:Int)≤(T l.length:Nat) by omega)
    have e1:¬ d < 0:=by omega
    simp only [e1,decide_false]
    symm
    rw [decide_eq_false_iff_not]
    omega
   ·have h1:=valI_nonpos (l:=l) (fun x hx=>(h x (List.mem_cons_of_mem _ hx)).2)
    have h2:=(h d (List.mem_cons_self ..)).2
    have:=Int.mul_le_mul_of_nonneg_right (show d ≤ -1 by omega) (show (0:Int)≤(T l.length:Nat) by omega)
    have e1:d < 0:=by omega
    have hT':(0:Int) < ((T l.length:Nat):Int):=by omega
    simp only [e1,decide_true]
    symm
    rw [decide_eq_true_eq]
    omega
theorem drop_at {l:List Nat} {j x:Nat} (h:l[j]? = some x):l.drop j=x::l.drop (j+1):=by
 have hj:j < l.length:=by
  rcases Nat.lt_or_ge j l.length with h1 | h1
  ·exact h1
  ·rw [List.getElem?_eq_none h1] at h;cases h
 rw [List.drop_eq_getElem_cons hj]
 rw [List.getElem?_eq_getElem hj] at h
 rw [Option.some.inj h]
theorem lt_at {α:Type} {l:List α} {j:Nat} {x:α} (h:l[j]? = some x):j < l.length:=by
 rcases Nat.lt_or_ge j l.length with h1 | h1
 ·exact h1
 ·rw [List.getElem?_eq_none h1] at h;cases h
theorem add_step {X Y S:List Nat} {j x y c:Nat} (hx:X[j]? = some x) (hy:Y[j]? = some y) (hl:X.length=Y.length) (hs:S.length=X.length - (j+1)) (h:val (X.drop (j+1))+val (Y.drop (j+1))=c * T S.length+val S) :
  val (X.drop j)+val (Y.drop j)=(x+y+c) / 10 * T (S.length+1)+val ((x+y+c) % 10::S):=by
 have l1:(X.drop (j+1)).length=S.length:=by simp;omega
 have l2:(Y.drop (j+1)).length=S.length:=by simp;omega
 rw [drop_at hx,drop_at hy,val_cons,val_cons,val_cons,l1,l2,T_succ]
 generalize T S.length=t at *
 have h3:x * t+val (X.drop (j+1))+(y * t+val (Y.drop (j+1)))=(x+y+c) * t+val S:=by
  rw [Nat.add_mul,Nat.add_mul];omega
 rw [h3]
 have h4:=Nat.div_add_mod (x+y+c) 10
 generalize (x+y+c) / 10=q at *
 generalize (x+y+c) % 10=r at *
 rw [← h4,Nat.add_mul,Nat.mul_comm 10 q,Nat.mul_assoc]
 omega
theorem sub_step {X Y S:List Nat} {j x y c d c':Nat} (hx:X[j]? = some x) (hy:Y[j]? = some y) (hl:X.length=Y.length) (hs:S.length=X.length - (j+1)) (h:val (X.drop (j+1))+c * T S.length=val (Y.drop (j+1))+val S) (hd:x+10 * c'=y+c+d) :
  val (X.drop j)+c' * T (S.length+1)=val (Y.drop j)+val (d::S):=by
 have l1:(X.drop (j+1)).length=S.length:=by simp;omega
 have l2:(Y.drop (j+1)).length=S.length:=by simp;omega
 rw [drop_at hx,drop_at hy,val_cons,val_cons,val_cons,l1,l2,T_succ]
 generalize T S.length=t at *
 have h1:x * t+10 * c' * t=y * t+c * t+d * t:=by rw [← Nat.add_mul,hd,Nat.add_mul,Nat.add_mul]
 rw [← Nat.mul_assoc,Nat.mul_comm c' 10]
 omega
theorem val_set {l:List Nat} {p d:Nat} (d':Nat) (h:l[p]? = some d):val (l.set p d')+d * T (l.length - 1 - p)=val l+d' * T (l.length - 1 - p):=by
 have hp:=lt_at h
 have h1:l=l.take p++d::l.drop (p+1):=by rw [← drop_at h,List.take_append_drop]
 have h2:l.set p d'=l.take p++d'::l.drop (p+1):=by
  conv=>lhs;rw [h1]
  rw [List.set_append_right _ _ (by simp;omega)]
  congr 1
  rw [show p - (l.take p).length=0 by simp;omega];rfl
 have h3:(l.drop (p+1)).length=l.length - 1 - p:=by simp;omega
 have e1:val (l.set p d')=val (l.take p) * T (l.drop (p+1)).length * 10+d' * T (l.drop (p+1)).length+val (l.drop (p+1)):=by
  rw [h2,val_append,val_cons,List.length_cons,T_succ,Nat.mul_comm 10,← Nat.mul_assoc,Nat.add_assoc]
 have e2:val l=val (l.take p) * T (l.drop (p+1)).length * 10+d * T (l.drop (p+1)).length+val (l.drop (p+1)):=by
  conv=>lhs;rw [h1]
  rw [val_append,val_cons,List.length_cons,T_succ,Nat.mul_comm 10,← Nat.mul_assoc,Nat.add_assoc]
 rw [e1,e2,h3];omega
theorem AllD.set {l:List Nat} (h:AllD l) {p d:Nat} (hd:d < 10):AllD (l.set p d):=fun x hx=>by
 rcases List.mem_or_eq_of_mem_set hx with h1 | h1
 ·exact h x h1
 ·subst h1;exact hd
end Go.Proofs.YtkoidgbgoccgmaaGreatDoor.NM
