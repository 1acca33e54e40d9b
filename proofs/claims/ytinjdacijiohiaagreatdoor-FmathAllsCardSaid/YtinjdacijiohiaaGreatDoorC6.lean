/- What the rows' proofs lean on: the contracts of the functions that they reach, and plain facts (part C6). -/
import Derived.Deep.RegionWith
import Derived.Test.YtinjdacijiohiaaGreatDoorC5
set_option linter.unusedSimpArgs false
set_option linter.unusedVariables false
set_option maxRecDepth 100000
set_option maxHeartbeats 8000000
namespace Go.Proofs.YtinjdacijiohiaaGreatDoor
open _root_.Go.Proofs.Tryz
open Go.RowKit NM
theorem zah (f w) :
  Tl prog 63 #[.int .i64 f] w (VV 4 0 0 ⟨#[]⟩ false (zE f)):=by
 by_cases h:f<1∨9<f
 ·have hb:zE f=9:=by simp[zE,h]
  rw[hb];rcases h with h | h
  ·go_enter func63,ntmps63;go_wp2;exact rc1 rfl rfl (by simp[go_sem]) ⟨rfl,by simp[go_sem]⟩
  ·have h1:¬ f<1:=by omega
   go_enter func63,ntmps63;go_wp2;exact rc1 rfl rfl (by simp[go_sem]) ⟨rfl,by simp[go_sem]⟩
 ·have hb:zE f=f:=by simp[zE,h]
  rw[hb];have h1:¬ f<1:=by omega
  have h2:¬ 9<f:=by omega
  go_enter func63,ntmps63;go_wp2;exact rc1 rfl rfl (by simp[go_sem]) ⟨rfl,by simp[go_sem]⟩
theorem zaK (m e w) :
  Calls prog 67 #[NV m e] w λr w'=>r = .returned (VV 1 m e ⟨#[]⟩ false 0)∧Ext w w':=by
 go_enter func67,ntmps67;go_wp2;exact rc1 rfl rfl (by simp[go_sem]) ⟨rfl,by simp[go_sem]⟩
theorem zch (b w) :
  Calls prog 183 #[.bool b] w λr w'=>r = .returned (VV 3 0 0 ⟨#[]⟩ b 0)∧Ext w w':=by
 go_enter func183,ntmps183;go_wp2;exact rc1 rfl rfl (by simp[go_sem]) ⟨rfl,by simp[go_sem]⟩
theorem zi4 (t w) (ht:t.size<=9223372036854775807) :
  Tl prog 128 #[.string t] w (VV (zQ t).kind 0 0 (zQ t).text false (zQ t).fault):=by
 by_cases h:255<t.size
 ·have hv:zQ t=⟨4,0,0,⟨#[]⟩,false,2⟩:=by simp[zQ,h]
  rw[hv];have hbad:=λW=>zah 2 W;rw[show zE 2=2 by decide] at hbad;go_enter func128,ntmps128;go_wp2_with (go_at_call 63;with_reducible refine aM (hbad _) λos d=>?_);exact rc1 rfl rfl (by simp[go_sem]) ⟨rfl,by simp[go_sem]⟩
 ·have hv:zQ t=⟨2,0,0,t,false,0⟩:=by simp[zQ,h]
  rw[hv];go_enter func128,ntmps128;go_wp2_with fail;exact rc1 rfl rfl (by simp[go_sem]) ⟨rfl,by simp[go_sem]⟩
theorem zl7:I64 0:=by unfold I64;omega
theorem zai (l m w) :
  Tl prog 223 #[.bool l,.bool m] w (.int .i64 (zbW l m)):=by
 cases l <;> cases m
 all_goals
  simp only[zbW,if_true,Bool.false_eq_true,if_false];go_enter func223,ntmps223;go_wp2_with fail;go_ret;exact⟨rfl,by simp[go_sem]⟩
theorem zui   (w) :
  Tl prog 182 #[VV 0 0 0 ⟨#[]⟩ false 0,VV 0 0 0 ⟨#[]⟩ false 0] w (.int .i64 (0)):=by
 have hs:=λW=>zai false false W;rw[show zbW false false=0 from rfl] at hs;go_enter func182,ntmps182;go_wp2_with ((go_at_call 223;with_reducible refine aM (hs _) λos d=>?_));go_ret;exact⟨rfl,by simp[go_sem]⟩
theorem zuj  (bm be) (hbm:I64 bm) (w) :
  Tl prog 182 #[VV 0 0 0 ⟨#[]⟩ false 0,VV 1 bm be ⟨#[]⟩ false 0] w (.int .i64 (zat 0 0 bm be)):=by
 have hc:=λW=>ze9 0 0 bm be W zl7 hbm;generalize zat 0 0 bm be=z at *;go_enter func182,ntmps182;go_wp2_with ((go_at_call 65;with_reducible refine aM (hc _) λos d=>?_));go_ret;exact⟨rfl,by simp[go_sem]⟩
theorem zuk  (bt) (hbt:bt.size<=255) (w) :
  Tl prog 182 #[VV 0 0 0 ⟨#[]⟩ false 0,VV 2 0 0 bt false 0] w (.int .i64 (zg7 (⟨#[]⟩) (bt))):=by
 have h1:=λW=>zcB (⟨#[]⟩:ByteArray) W (Nat.zero_le _);have h2:=λW=>zcB bt W (by omega);unfold zg7;generalize zam (⟨#[]⟩:ByteArray)=X at *;generalize zam bt=Y at *;have hs:=λW=>zai (Op.bytesLess X.toList Y.toList) (!Op.bytesLess X.toList Y.toList && !X.toList==Y.toList) W;have he:zbW (Op.bytesLess X.toList Y.toList) (!Op.bytesLess X.toList Y.toList && !X.toList==Y.toList)=Lib.compareBytes (tl X) (tl Y):=by rw[ByteArray.toList_eq,ByteArray.toList_eq,<-Bool.not_or];exact zjA _ _
 rw[he] at hs;clear he;generalize Lib.compareBytes (tl X) (tl Y)=z at *;go_enter func182,ntmps182;go_upto_region 10 with fail;refine plP [(0,0),(1,0),(3,0),(4,0),(2,1),(5,1),(6,0),(7,0)] [] (by kernel_rfl) (λ_ _ d _ _ h=>by cases d <;> exact h) ?_;iterate 4(apply rdP rfl rfl;(intros;go_simp;first | done | rfl);try simp only[zq])
 (refine zg rfl ?_ (λK hK=>?_);rfl;go_simp;refine aM (h1 _) λos1 d1=>?_;refine hK _ _ ?_ ?_;(simp[go_sem]))
 try simp only[zq]
 (refine zg rfl ?_ (λK hK=>?_);rfl;go_simp;refine aM (h2 _) λos2 d2=>?_;refine hK _ _ ?_ ?_;(simp[go_sem]))
 try simp only[zq]
 iterate 2(apply rdP rfl rfl;(intros;go_simp;first | done | rfl);try simp only[zq])
 refine zi ?_;go_wp2_with (go_at_call 223;refine aM (hs _) λos d=>?_);go_ret;exact⟨rfl,by simp[go_sem]⟩
theorem zul  (bb w) :
  Tl prog 182 #[VV 0 0 0 ⟨#[]⟩ false 0,VV 3 0 0 ⟨#[]⟩ bb 0] w (.int .i64 (sgB false bb)):=by
 have hs:=λW=>zai (!false&&bb) (false && !bb) W;rw[zg8] at hs;cases bb
 all_goals
  go_enter func182,ntmps182;go_wp2_with ((go_at_call 223;refine aM (hs _) λos d=>?_));go_ret;exact⟨rfl,by simp[go_sem]⟩
theorem zum  (bf w) :
  Tl prog 182 #[VV 0 0 0 ⟨#[]⟩ false 0,VV 4 0 0 ⟨#[]⟩ false bf] w (.int .i64 (-1)):=by
 have hs:=λl W=>zai l true W;simp only[zbW] at hs;go_enter func182,ntmps182;go_wp2_with ((go_at_call 223;with_reducible refine aM (hs _ _) λos d=>?_));go_ret;exact⟨rfl,by simp[go_sem]⟩
theorem zun (am ae) (ham:I64 am) (w) :
  Tl prog 182 #[VV 1 am ae ⟨#[]⟩ false 0,VV 0 0 0 ⟨#[]⟩ false 0] w (.int .i64 (zat am ae 0 0)):=by
 have hc:=λW=>ze9 am ae 0 0 W ham zl7;generalize zat am ae 0 0=z at *;go_enter func182,ntmps182;go_wp2_with ((go_at_call 65;with_reducible refine aM (hc _) λos d=>?_));go_ret;exact⟨rfl,by simp[go_sem]⟩
theorem zuo (am ae) (ham:I64 am) (bm be) (hbm:I64 bm) (w) :
  Tl prog 182 #[VV 1 am ae ⟨#[]⟩ false 0,VV 1 bm be ⟨#[]⟩ false 0] w (.int .i64 (zat am ae bm be)):=by
 have hc:=λW=>ze9 am ae bm be W ham hbm;generalize zat am ae bm be=z at *;go_enter func182,ntmps182;go_wp2_with ((go_at_call 65;with_reducible refine aM (hc _) λos d=>?_));go_ret;exact⟨rfl,by simp[go_sem]⟩
theorem zup (am ae) (ham:I64 am) (bt) (hbt:bt.size<=255) (w) :
  Tl prog 182 #[VV 1 am ae ⟨#[]⟩ false 0,VV 2 0 0 bt false 0] w (.int .i64 (-1)):=by
 have hs:=λl W=>zai l true W;simp only[zbW] at hs;go_enter func182,ntmps182;go_wp2_with ((go_at_call 223;with_reducible refine aM (hs _ _) λos d=>?_));go_ret;exact⟨rfl,by simp[go_sem]⟩
theorem zuq (am ae) (ham:I64 am) (bb w) :
  Tl prog 182 #[VV 1 am ae ⟨#[]⟩ false 0,VV 3 0 0 ⟨#[]⟩ bb 0] w (.int .i64 (-1)):=by
 have hs:=λl W=>zai l true W;simp only[zbW] at hs;go_enter func182,ntmps182;go_wp2_with ((go_at_call 223;with_reducible refine aM (hs _ _) λos d=>?_));go_ret;exact⟨rfl,by simp[go_sem]⟩
theorem zur (am ae) (ham:I64 am) (bf w) :
  Tl prog 182 #[VV 1 am ae ⟨#[]⟩ false 0,VV 4 0 0 ⟨#[]⟩ false bf] w (.int .i64 (-1)):=by
 have hs:=λl W=>zai l true W;simp only[zbW] at hs;go_enter func182,ntmps182;go_wp2_with ((go_at_call 223;with_reducible refine aM (hs _ _) λos d=>?_));go_ret;exact⟨rfl,by simp[go_sem]⟩
theorem zus (at_) (hat:at_.size<=255) (w) :
  Tl prog 182 #[VV 2 0 0 at_ false 0,VV 0 0 0 ⟨#[]⟩ false 0] w (.int .i64 (zg7 (at_) (⟨#[]⟩))):=by
 have h1:=λW=>zcB at_ W (by omega);have h2:=λW=>zcB (⟨#[]⟩:ByteArray) W (Nat.zero_le _);unfold zg7;generalize zam at_=X at *;generalize zam (⟨#[]⟩:ByteArray)=Y at *;have hs:=λW=>zai (Op.bytesLess X.toList Y.toList) (!Op.bytesLess X.toList Y.toList && !X.toList==Y.toList) W;have he:zbW (Op.bytesLess X.toList Y.toList) (!Op.bytesLess X.toList Y.toList && !X.toList==Y.toList)=Lib.compareBytes (tl X) (tl Y):=by rw[ByteArray.toList_eq,ByteArray.toList_eq,<-Bool.not_or];exact zjA _ _
 rw[he] at hs;clear he;generalize Lib.compareBytes (tl X) (tl Y)=z at *;go_enter func182,ntmps182;go_upto_region 10 with fail;refine plP [(0,0),(1,0),(3,0),(4,0),(2,1),(5,1),(6,0),(7,0)] [] (by kernel_rfl) (λ_ _ d _ _ h=>by cases d <;> exact h) ?_;iterate 4(apply rdP rfl rfl;(intros;go_simp;first | done | rfl);try simp only[zq])
 (refine zg rfl ?_ (λK hK=>?_);rfl;go_simp;refine aM (h1 _) λos1 d1=>?_;refine hK _ _ ?_ ?_;(simp[go_sem]))
 try simp only[zq]
 (refine zg rfl ?_ (λK hK=>?_);rfl;go_simp;refine aM (h2 _) λos2 d2=>?_;refine hK _ _ ?_ ?_;(simp[go_sem]))
 try simp only[zq]
 iterate 2(apply rdP rfl rfl;(intros;go_simp;first | done | rfl);try simp only[zq])
 refine zi ?_;go_wp2_with (go_at_call 223;refine aM (hs _) λos d=>?_);go_ret;exact⟨rfl,by simp[go_sem]⟩
theorem zut (at_) (hat:at_.size<=255) (bm be) (hbm:I64 bm) (w) :
  Tl prog 182 #[VV 2 0 0 at_ false 0,VV 1 bm be ⟨#[]⟩ false 0] w (.int .i64 (1)):=by
 have hs:=λl W=>zai l true W;simp only[zbW] at hs;go_enter func182,ntmps182;go_wp2_with ((go_at_call 223;with_reducible refine aM (hs _ _) λos d=>?_));go_ret;exact⟨rfl,by simp[go_sem]⟩
theorem zuu (at_) (hat:at_.size<=255) (bt) (hbt:bt.size<=255) (w) :
  Tl prog 182 #[VV 2 0 0 at_ false 0,VV 2 0 0 bt false 0] w (.int .i64 (zg7 (at_) (bt))):=by
 have h1:=λW=>zcB at_ W (by omega);have h2:=λW=>zcB bt W (by omega);unfold zg7;generalize zam at_=X at *;generalize zam bt=Y at *;have hs:=λW=>zai (Op.bytesLess X.toList Y.toList) (!Op.bytesLess X.toList Y.toList && !X.toList==Y.toList) W;have he:zbW (Op.bytesLess X.toList Y.toList) (!Op.bytesLess X.toList Y.toList && !X.toList==Y.toList)=Lib.compareBytes (tl X) (tl Y):=by rw[ByteArray.toList_eq,ByteArray.toList_eq,<-Bool.not_or];exact zjA _ _
 rw[he] at hs;clear he;generalize Lib.compareBytes (tl X) (tl Y)=z at *;go_enter func182,ntmps182;go_upto_region 10 with fail;refine plP [(0,0),(1,0),(3,0),(4,0),(2,1),(5,1),(6,0),(7,0)] [] (by kernel_rfl) (λ_ _ d _ _ h=>by cases d <;> exact h) ?_;iterate 4(apply rdP rfl rfl;(intros;go_simp;first | done | rfl);try simp only[zq])
 (refine zg rfl ?_ (λK hK=>?_);rfl;go_simp;refine aM (h1 _) λos1 d1=>?_;refine hK _ _ ?_ ?_;(simp[go_sem]))
 try simp only[zq]
 (refine zg rfl ?_ (λK hK=>?_);rfl;go_simp;refine aM (h2 _) λos2 d2=>?_;refine hK _ _ ?_ ?_;(simp[go_sem]))
 try simp only[zq]
 iterate 2(apply rdP rfl rfl;(intros;go_simp;first | done | rfl);try simp only[zq])
 refine zi ?_;go_wp2_with (go_at_call 223;refine aM (hs _) λos d=>?_);go_ret;exact⟨rfl,by simp[go_sem]⟩
theorem zuv (at_) (hat:at_.size<=255) (bb w) :
  Tl prog 182 #[VV 2 0 0 at_ false 0,VV 3 0 0 ⟨#[]⟩ bb 0] w (.int .i64 (-1)):=by
 have hs:=λl W=>zai l true W;simp only[zbW] at hs;go_enter func182,ntmps182;go_wp2_with ((go_at_call 223;with_reducible refine aM (hs _ _) λos d=>?_));go_ret;exact⟨rfl,by simp[go_sem]⟩
theorem zuw (at_) (hat:at_.size<=255) (bf w) :
  Tl prog 182 #[VV 2 0 0 at_ false 0,VV 4 0 0 ⟨#[]⟩ false bf] w (.int .i64 (-1)):=by
 have hs:=λl W=>zai l true W;simp only[zbW] at hs;go_enter func182,ntmps182;go_wp2_with ((go_at_call 223;with_reducible refine aM (hs _ _) λos d=>?_));go_ret;exact⟨rfl,by simp[go_sem]⟩
theorem zux (ab w) :
  Tl prog 182 #[VV 3 0 0 ⟨#[]⟩ ab 0,VV 0 0 0 ⟨#[]⟩ false 0] w (.int .i64 (sgB ab false)):=by
 have hs:=λW=>zai (!ab&&false) (ab && !false) W;rw[zg8] at hs;cases ab
 all_goals
  go_enter func182,ntmps182;go_wp2_with ((go_at_call 223;refine aM (hs _) λos d=>?_));go_ret;exact⟨rfl,by simp[go_sem]⟩
theorem zuy (ab bm be) (hbm:I64 bm) (w) :
  Tl prog 182 #[VV 3 0 0 ⟨#[]⟩ ab 0,VV 1 bm be ⟨#[]⟩ false 0] w (.int .i64 (1)):=by
 have hs:=λl W=>zai l true W;simp only[zbW] at hs;go_enter func182,ntmps182;go_wp2_with ((go_at_call 223;with_reducible refine aM (hs _ _) λos d=>?_));go_ret;exact⟨rfl,by simp[go_sem]⟩
theorem zuz (ab bt) (hbt:bt.size<=255) (w) :
  Tl prog 182 #[VV 3 0 0 ⟨#[]⟩ ab 0,VV 2 0 0 bt false 0] w (.int .i64 (1)):=by
 have hs:=λl W=>zai l true W;simp only[zbW] at hs;go_enter func182,ntmps182;go_wp2_with ((go_at_call 223;with_reducible refine aM (hs _ _) λos d=>?_));go_ret;exact⟨rfl,by simp[go_sem]⟩
theorem zuA (ab bb w) :
  Tl prog 182 #[VV 3 0 0 ⟨#[]⟩ ab 0,VV 3 0 0 ⟨#[]⟩ bb 0] w (.int .i64 (sgB ab bb)):=by
 have hs:=λW=>zai (!ab&&bb) (ab && !bb) W;rw[zg8] at hs;cases ab <;> cases bb
 all_goals
  go_enter func182,ntmps182;go_wp2_with ((go_at_call 223;refine aM (hs _) λos d=>?_));go_ret;exact⟨rfl,by simp[go_sem]⟩
theorem zuB (ab bf w) :
  Tl prog 182 #[VV 3 0 0 ⟨#[]⟩ ab 0,VV 4 0 0 ⟨#[]⟩ false bf] w (.int .i64 (-1)):=by
 have hs:=λl W=>zai l true W;simp only[zbW] at hs;go_enter func182,ntmps182;go_wp2_with ((go_at_call 223;with_reducible refine aM (hs _ _) λos d=>?_));go_ret;exact⟨rfl,by simp[go_sem]⟩
theorem zuC (af w) :
  Tl prog 182 #[VV 4 0 0 ⟨#[]⟩ false af,VV 0 0 0 ⟨#[]⟩ false 0] w (.int .i64 (1)):=by
 have hs:=λl W=>zai l true W;simp only[zbW] at hs;go_enter func182,ntmps182;go_wp2_with ((go_at_call 223;with_reducible refine aM (hs _ _) λos d=>?_));go_ret;exact⟨rfl,by simp[go_sem]⟩
theorem zuD (af bm be) (hbm:I64 bm) (w) :
  Tl prog 182 #[VV 4 0 0 ⟨#[]⟩ false af,VV 1 bm be ⟨#[]⟩ false 0] w (.int .i64 (1)):=by
 have hs:=λl W=>zai l true W;simp only[zbW] at hs;go_enter func182,ntmps182;go_wp2_with ((go_at_call 223;with_reducible refine aM (hs _ _) λos d=>?_));go_ret;exact⟨rfl,by simp[go_sem]⟩
theorem zuE (af bt) (hbt:bt.size<=255) (w) :
  Tl prog 182 #[VV 4 0 0 ⟨#[]⟩ false af,VV 2 0 0 bt false 0] w (.int .i64 (1)):=by
 have hs:=λl W=>zai l true W;simp only[zbW] at hs;go_enter func182,ntmps182;go_wp2_with ((go_at_call 223;with_reducible refine aM (hs _ _) λos d=>?_));go_ret;exact⟨rfl,by simp[go_sem]⟩
theorem zuF (af bb w) :
  Tl prog 182 #[VV 4 0 0 ⟨#[]⟩ false af,VV 3 0 0 ⟨#[]⟩ bb 0] w (.int .i64 (1)):=by
 have hs:=λl W=>zai l true W;simp only[zbW] at hs;go_enter func182,ntmps182;go_wp2_with ((go_at_call 223;with_reducible refine aM (hs _ _) λos d=>?_));go_ret;exact⟨rfl,by simp[go_sem]⟩
theorem zuG (af bf w) :
  Tl prog 182 #[VV 4 0 0 ⟨#[]⟩ false af,VV 4 0 0 ⟨#[]⟩ false bf] w (.int .i64 (sgI af bf)):=by
 have hs:=λW=>zai (decide (af<bf)) (decide (bf<af)) W;rw[zrC] at hs;generalize sgI af bf=z at *;go_enter func182,ntmps182;go_wp2_with ((go_at_call 223;refine aM (hs _) λos d=>?_));go_ret;exact⟨rfl,by simp[go_sem]⟩
theorem zb5 (a b w) (ha:a.right) (hb:b.right) :
  Tl prog 182 #[VV a.kind a.mant a.exp a.text a.truth a.fault,VV b.kind b.mant b.exp b.text b.truth b.fault] w (.int .i64 (zaB a b)):=by
 rcases ha.form with rfl | ⟨m,e,rfl,hr⟩ | ⟨t,rfl,ht⟩ | ⟨x,rfl⟩ | ⟨f,rfl,hf⟩
 ·rcases hb.form with rfl | ⟨m',e',rfl,hr'⟩ | ⟨t',rfl,ht'⟩ | ⟨x',rfl⟩ | ⟨f',rfl,hf'⟩
  ·exact zui   w
  ·exact zuj  m' e' (zR hr').1 w
  ·exact zuk  t' ht' w
  ·exact zul  x' w
  ·exact zum  f' w
 ·rcases hb.form with rfl | ⟨m',e',rfl,hr'⟩ | ⟨t',rfl,ht'⟩ | ⟨x',rfl⟩ | ⟨f',rfl,hf'⟩
  ·exact zun m e (zR hr).1  w
  ·exact zuo m e (zR hr).1 m' e' (zR hr').1 w
  ·exact zup m e (zR hr).1 t' ht' w
  ·exact zuq m e (zR hr).1 x' w
  ·exact zur m e (zR hr).1 f' w
 ·rcases hb.form with rfl | ⟨m',e',rfl,hr'⟩ | ⟨t',rfl,ht'⟩ | ⟨x',rfl⟩ | ⟨f',rfl,hf'⟩
  ·exact zus t ht  w
  ·exact zut t ht m' e' (zR hr').1 w
  ·exact zuu t ht t' ht' w
  ·exact zuv t ht x' w
  ·exact zuw t ht f' w
 ·rcases hb.form with rfl | ⟨m',e',rfl,hr'⟩ | ⟨t',rfl,ht'⟩ | ⟨x',rfl⟩ | ⟨f',rfl,hf'⟩
  ·exact zux x  w
  ·exact zuy x m' e' (zR hr').1 w
  ·exact zuz x t' ht' w
  ·exact zuA x x' w
  ·exact zuB x f' w
 ·rcases hb.form with rfl | ⟨m',e',rfl,hr'⟩ | ⟨t',rfl,ht'⟩ | ⟨x',rfl⟩ | ⟨f',rfl,hf'⟩
  ·exact zuC f  w
  ·exact zuD f m' e' (zR hr').1 w
  ·exact zuE f t' ht' w
  ·exact zuF f x' w
  ·exact zuG f f' w
theorem zb6 (f w) :
  Tl prog 27 #[.int .i64 f] w (VV 4 0 0 ⟨#[]⟩ false (zE f)):=by
 have hb:=λW=>zah f W;go_enter func27,ntmps27;go_wp2_with (go_at_call 63;with_reducible refine aM (hb _) λos d=>?_);exact rc1 rfl rfl (by simp[go_sem]) ⟨rfl,by simp[go_sem]⟩
theorem zdk (r:Option Nm) (w) :
  Tl prog 74 #[NV (rm r) (re r),.bool r.isSome] w (VV (zo r).kind (zo r).mant (zo r).exp (zo r).text (zo r).truth (zo r).fault):=by
 have hbad:=λW=>zb6 5 W;rw[show zE 5=5 by decide] at hbad;cases r with
 | none=>
  show Calls _ _ #[NV 0 0,.bool false] w λe w'=>e = .returned (VV 4 0 0 ⟨#[]⟩ false 5)∧Ext w w';go_enter func74,ntmps74;go_wp2_with (go_at_call 27;with_reducible refine aM (hbad _) λos d=>?_);exact rc1 rfl rfl (by simp[go_sem]) ⟨rfl,by simp[go_sem]⟩
 | some p=>
  have hof:=λW=>zaK p.1 p.2 W;show Calls _ _ #[NV p.1 p.2,.bool true] w λe w'=>e = .returned (VV 1 p.1 p.2 ⟨#[]⟩ false 0)∧Ext w w';go_enter func74,ntmps74;go_wp2_with (go_at_call 67;with_reducible refine aM (hof _) λos d=>?_);exact rc1 rfl rfl (by simp[go_sem]) ⟨rfl,by simp[go_sem]⟩
theorem zek (n w) (hn:n.natAbs<T 15) :
  Tl prog 66 #[.int .i64 n] w (VV 1 (zl n).1 (zl n).2 ⟨#[]⟩ false 0):=by
 have hi:I64 n:=by have:T 15=1000000000000000:=(by decide);unfold I64;omega
 have hm:=λW=>zj4 n 0 W hi;rw[show rnd (decide (n<0)) n.natAbs false 0=some (zl n) from(zbu hn).1] at hm;have hd:=λW=>zdk (some (zl n)) W;simp only[rnV,zo,rm,re,Option.getD_some,Option.isSome_some,if_true] at hm hd;generalize zl n=p at *;clear hn hi;go_enter func66,ntmps66;go_wp2_with (first | (go_at_call 141;with_reducible refine aM (hm _) λos1 d1=>?_) | (go_at_call 74;with_reducible refine aM (hd _) λos2 d2=>?_));exact rc1 rfl rfl (by simp[go_sem]) ⟨rfl,by simp[go_sem]⟩
theorem zi5 (r c r' c' A A' n cap n' cap' w) :
  Tl prog 145 #[AV r c (.slice A n cap),AV r' c' (.slice A' n' cap')] w (.bool (r==r'&&c==c')):=by
 by_cases h1:r=r'
 ·subst h1;have h1':(r==r)=true:=by simp
  rw[h1',Bool.true_and];go_enter func145,ntmps145;go_wp2;exact rt1 rfl rfl ⟨rfl,by simp[go_sem]⟩
 ·have h1':(r==r')=false:=by simpa using h1
  rw[h1',Bool.false_and];clear h1;go_enter func145,ntmps145;go_wp2;exact rt1 rfl rfl ⟨rfl,by simp[go_sem]⟩
theorem zi6 (x w) (hx:x.right) (y:Int×Int) (hy:zal x=y) :
  Tl prog 84 #[VV x.kind x.mant x.exp x.text x.truth x.fault] w (.tuple #[.int .i64 y.1,.int .i64 y.2]):=by
 have ht:=λW=>zaS x W hx;have hi1:I64 (tnP x).1:=zF (zay hx);have hfs:Rt (zB (tnP x).1 (tnP x).2).1 (zB (tnP x).1 (tnP x).2).2:=(zcI (zay hx)).1;simp only[tnV] at ht;unfold zal at hy;generalize tnP x=p at *;generalize tnF x=f at *;subst hy;clear hx;by_cases hf:f=0
 ·subst hf;rw[if_pos rfl];have hfl:=λW=>zgw p.1 p.2 W hi1;have hi2:I64 (zB p.1 p.2).1:=zF hfs;generalize zB p.1 p.2=q at *;have hin:=λW=>zlw q.1 q.2 W hi2;cases hI:zbo q.1 q.2
  all_goals
   rw[hI] at hin;simp only[inV,Option.getD_none,Option.isSome_none,Option.getD_some,Option.isSome_some,if_true,Bool.false_eq_true,if_false] at hin⊢;clear hI hi1 hi2 hfs;go_enter func84,ntmps84;go_wp2_with (first | (go_at_call 64;with_reducible refine aM (ht _) λos1 d1=>?_) | (go_at_call 68;with_reducible refine aM (hfl _) λos2 d2=>?_) | (go_at_call 134;with_reducible refine aM (hin _) λos3 d3=>?_));exact rt2 rfl rfl ⟨rfl,by simp[go_sem]⟩
 ·rw[if_neg hf];have hf':(f != 0)=true:=by simpa using hf
  clear hf hi1 hfs;go_enter func84,ntmps84;go_wp2_with (go_at_call 64;with_reducible refine aM (ht _) λos d=>?_);exact rt2 rfl rfl ⟨rfl,by simp[go_sem]⟩
def takesT:List (List UInt8×Nat×Nat):=[([65,66,83],1,1),([65,86,69,82,65,71,69],1,32),([67,79,85,78,84],1,32),([67,79,85,78,84,65],1,32),([67,79,85,78,84,73,70],2,2),([73,78,84],1,1),([76,65,82,71,69],2,2),([77,65,88],1,32),([77,69,68,73,65,78],1,32),([77,73,78],1,32),([77,79,68],2,2),([80,79,87,69,82],2,2),([80,82,79,68,85,67,84],1,32),([82,79,85,78,68],2,2),([83,73,71,78],1,1),([83,77,65,76,76],2,2),([83,85,77],1,32),([83,85,77,73,70],2,3),([83,85,77,80,82,79,68,85,67,84],1,32)]
def names19:List (List UInt8):=takesT.map (·.1)
theorem zdq (s lo hi w) (h:(s,lo,hi)∈takesT) :
  Tl prog 18 #[.string ⟨s.toArray⟩] w (.tuple #[.int .i64 (lo:Int),.int .i64 (hi:Int)]):=by
 simp only[takesT,List.mem_cons,List.not_mem_nil,or_false,Prod.mk.injEq] at h;rcases h with⟨rfl,rfl,rfl⟩ | ⟨rfl,rfl,rfl⟩ | ⟨rfl,rfl,rfl⟩ | ⟨rfl,rfl,rfl⟩ | ⟨rfl,rfl,rfl⟩ | ⟨rfl,rfl,rfl⟩ | ⟨rfl,rfl,rfl⟩ | ⟨rfl,rfl,rfl⟩ | ⟨rfl,rfl,rfl⟩ | ⟨rfl,rfl,rfl⟩ | ⟨rfl,rfl,rfl⟩ | ⟨rfl,rfl,rfl⟩ | ⟨rfl,rfl,rfl⟩ | ⟨rfl,rfl,rfl⟩ | ⟨rfl,rfl,rfl⟩ | ⟨rfl,rfl,rfl⟩ | ⟨rfl,rfl,rfl⟩ | ⟨rfl,rfl,rfl⟩ | ⟨rfl,rfl,rfl⟩
 all_goals
  go_enter func18,ntmps18;go_wp2_with fail;exact rt2 rfl rfl ⟨rfl,by simp[go_sem]⟩
theorem zqk (s w) (h:s.data.toList ∉ names19) :
  Tl prog 18 #[.string s] w (.tuple #[.int .i64 (-1),.int .i64 (-1)]):=by
 have hn:∀ n∈names19,(s.toList==n)=false:=λn hn=>by
  cases hq:s.toList==n with
  | false=>rfl
  | true=>exact absurd (by rw[ByteArray.toList_eq] at hq;rw[show s.data.toList=n by simpa using hq];exact hn) h
 simp only[names19,takesT,List.map_cons,List.map_nil,List.forall_mem_cons] at hn;obtain⟨n0,n1,n2,n3,n4,n5,n6,n7,n8,n9,n10,n11,n12,n13,n14,n15,n16,n17,n18,_⟩:=hn;clear h;go_enter func18,ntmps18;go_wp2_with fail;exact rt2 rfl rfl ⟨rfl,by simp[go_sem]⟩
theorem zr5 (a b w) (ha:Rt a.1 a.2) (hb:Rt b.1 b.2) (z) (hz:zhf a b=z) :
  Tl prog 83 #[NV a.1 a.2,NV b.1 b.2] w (VV z.kind z.mant z.exp z.text z.truth z.fault):=by
 obtain⟨am,ae⟩:=a;obtain⟨bm,be⟩:=b;simp only at ha hb⊢;have hbad:=λf W=>zb6 f W;unfold zhf at hz;simp only at hz;by_cases h0:bm=0
 ·subst h0;rw[if_pos rfl] at hz;subst hz;show Calls _ _ _ w λe w'=>e = .returned (VV 4 0 0 ⟨#[]⟩ false (zE 1))∧Ext w w';clear ha hb;go_enter func83,ntmps83;go_wp2_with (go_at_call 27;(with_reducible refine(hbad _ _).mono ?_);rintro e w' ⟨rfl,hb⟩;obtain⟨os,d,rfl⟩:=hb.more;clear hb);exact rc1 rfl rfl (by simp[go_sem]) ⟨rfl,by simp[go_sem]⟩
 ·rw[if_neg h0] at hz;have h0':(bm==0)=false:=by simpa using h0
  have hdv:=λW=>zfb am ae bm be W (zF ha) (zF hb);cases hd:divS am ae bm be with
  | none=>
   rw[hd] at hdv hz;simp only[rnV,rm,re,Option.getD_none,Option.isSome_none] at hdv hz;subst hz;show Calls _ _ _ w λe w'=>e = .returned (VV 4 0 0 ⟨#[]⟩ false (zE 5))∧Ext w w';clear hd ha hb h0;go_enter func83,ntmps83;go_wp2_with (first | (go_at_call 133;with_reducible refine aM (hdv _) λos1 d1=>?_) | (go_at_call 27;(with_reducible refine(hbad _ _).mono ?_);rintro e w' ⟨rfl,hb⟩;obtain⟨os2,d2,rfl⟩:=hb.more;clear hb));exact rc1 rfl rfl (by simp[go_sem]) ⟨rfl,by simp[go_sem]⟩
  | some q=>
   obtain⟨qm,qe⟩:=q;have hq:Rt qm qe:=ze2 hd;rw[hd] at hdv hz;simp only[rnV,rm,re,Option.getD_some,Option.isSome_some] at hdv hz;have hfl:=λW=>zgw qm qe W (zF hq);have hfr:Rt (zB qm qe).1 (zB qm qe).2:=(zcI hq).1;generalize zB qm qe=g at *;obtain⟨gm,ge⟩:=g;simp only at hfl hfr hz;have hml:=λW=>zgl bm be gm ge W (zF hb) (zF hfr);cases hm:mulS bm be gm ge with
   | none=>
    rw[hm] at hml hz;simp only[rnV,rm,re,Option.getD_none,Option.isSome_none] at hml hz;subst hz;show Calls _ _ _ w λe w'=>e = .returned (VV 4 0 0 ⟨#[]⟩ false (zE 5))∧Ext w w';clear hd hm ha hb h0 hq hfr;go_enter func83,ntmps83;go_upto_region 6 with(first | (go_at_call 133;with_reducible refine aM (hdv _) λos1 d1=>?_));refine zby [(7,4),(0,0),(1,0),(2,1),(3,1),(4,0),(5,0),(6,2),(7,3)] [8,9] [8,9] [6] (by kernel_rfl) (by kernel_rfl) (by kernel_rfl) (λ_ _ d _ _ h=>by cases d <;> exact h) (λ_ _ d _ _ h=>by cases d <;> exact h) ?_
    (refine zbH (t:=7) (.cells #[.int .i64 0,.int .i64 0] 36) zcH rfl rfl rfl (λw1=>?_) ?_;(first | rfl | (simp[go_sem,zcH];done) | (go_simp;rfl)))
    iterate 2(apply rdG rfl rfl;(intros;go_simp;first | done | rfl);try simp only[zq])
    (refine zaX rfl ?_ (λwf hXf hE K hK=>?_);rfl;obtain⟨osf,df,rfl⟩:=hXf.more;go_simp;refine(hfl _).mono ?_;rintro e w' ⟨rfl,hb⟩;refine hK _ _ (λ_=>True) (by(try simp only[zh,zc,Array.append_assoc]);exact hb) (λ_ _ _ _=>trivial) trivial ?_)
    try simp only[zq]
    (refine zaX rfl ?_ (λwf hXf hE K hK=>?_);rfl;obtain⟨osf,df,rfl⟩:=hXf.more;go_simp;refine(hml _).mono ?_;rintro e w' ⟨rfl,hb⟩;refine hK _ _ (λ_=>True) (by(try simp only[zh,zc,Array.append_assoc]);exact hb) (λ_ _ _ _=>trivial) trivial ?_)
    try simp only[zq]
    iterate 3((first | (apply rdG rfl rfl;(intros;go_simp;first | done | rfl)) | (refine zbK (v:=?_) rfl ?_ (λw1=>?_) ?_;rotate_left 1;rfl;(go_simp;first | done | rfl)));try simp only[zq])
    refine zce λosa da osb db hE=>?_;try simp only[zq]
    (refine zaz rfl ?_ (λK hK=>?_);rfl;go_simp;refine hK _ _ ?_)
    try simp only[zq]
    (refine zaz rfl ?_ (λK hK=>?_);rfl;go_simp;refine hK _ _ ?_)
    try simp only[zq]
    refine zbS ?_;go_wp2_with (go_at_call 27;(with_reducible refine(hbad _ _).mono ?_);rintro e w' ⟨rfl,hb⟩;obtain⟨os2,d2,rfl⟩:=hb.more;clear hb);exact rc1 rfl rfl (by simp[go_sem]) ⟨rfl,by simp[go_sem]⟩
   | some p=>
    obtain⟨pm,pe⟩:=p;have hp:Rt pm pe:=zfh hm;rw[hm] at hml hz;simp only[rnV,rm,re,Option.getD_some,Option.isSome_some] at hml hz;have hsb:=λW=>zlf am ae pm pe W (zF ha) (zF hp);have hmd:=λW=>zdk (subS am ae pm pe) W;rw[hz] at hmd;generalize subS am ae pm pe=r at *;simp only[rnV] at hsb;clear hd hm ha hb h0 hq hfr hp hz;go_enter func83,ntmps83;go_upto_region 6 with(first | (go_at_call 133;with_reducible refine aM (hdv _) λos1 d1=>?_));refine zby [(7,4),(0,0),(1,0),(2,1),(3,1),(4,0),(5,0),(6,2),(7,3)] [8,9] [8,9] [6] (by kernel_rfl) (by kernel_rfl) (by kernel_rfl) (λ_ _ d _ _ h=>by cases d <;> exact h) (λ_ _ d _ _ h=>by cases d <;> exact h) ?_
    (refine zbH (t:=7) (.cells #[.int .i64 0,.int .i64 0] 36) zcH rfl rfl rfl (λw1=>?_) ?_;(first | rfl | (simp[go_sem,zcH];done) | (go_simp;rfl)))
    iterate 2(apply rdG rfl rfl;(intros;go_simp;first | done | rfl);try simp only[zq])
    (refine zaX rfl ?_ (λwf hXf hE K hK=>?_);rfl;obtain⟨osf,df,rfl⟩:=hXf.more;go_simp;refine(hfl _).mono ?_;rintro e w' ⟨rfl,hb⟩;refine hK _ _ (λ_=>True) (by(try simp only[zh,zc,Array.append_assoc]);exact hb) (λ_ _ _ _=>trivial) trivial ?_)
    try simp only[zq]
    (refine zaX rfl ?_ (λwf hXf hE K hK=>?_);rfl;obtain⟨osf,df,rfl⟩:=hXf.more;go_simp;refine(hml _).mono ?_;rintro e w' ⟨rfl,hb⟩;refine hK _ _ (λ_=>True) (by(try simp only[zh,zc,Array.append_assoc]);exact hb) (λ_ _ _ _=>trivial) trivial ?_)
    try simp only[zq]
    iterate 3((first | (apply rdG rfl rfl;(intros;go_simp;first | done | rfl)) | (refine zbK (v:=?_) rfl ?_ (λw1=>?_) ?_;rotate_left 1;rfl;(go_simp;first | done | rfl)));try simp only[zq])
    refine zce λosa da osb db hE=>?_;try simp only[zq]
    (refine zaz rfl ?_ (λK hK=>?_);rfl;go_simp;refine hK _ _ ?_)
    try simp only[zq]
    (refine zaz rfl ?_ (λK hK=>?_);rfl;go_simp;refine hK _ _ ?_)
    try simp only[zq]
    refine zbS ?_;go_wp2_with (first | (go_at_call 131;with_reducible refine aM (hsb _) λos5 d5=>?_) | (go_at_call 74;with_reducible refine aM (hmd _) λos6 d6=>?_));exact rc1 rfl rfl (by simp[go_sem]) ⟨rfl,by simp[go_sem]⟩
theorem zgI (A n cap l w) (h:ArrIn w A n cap l) :
  Tl prog 73 #[.slice A n cap] w (.int .i64 (ffL l)):=by
 have hlen:=h.len;have H:=Lib.hid h;have HL:=Lib.hid hlen;clear h hlen;generalize hFF:ffL l=F at *;have HF:=Lib.hid hFF;clear hFF;go_enter func73,ntmps73;go_wp2_with fail;go_loopw [3] (λi wr=>∃ k:Nat,k<=n∧i = .int .i64 (k:Int)∧Hid (noF (l.take k))∧Ext w wr) (λi _=>n-(intOf i).toNat)
 case atStart=>exact⟨0,Nat.zero_le _,rfl,λx hx=>by simp at hx,Ext.refl _⟩
 case round=>
  obtain⟨k,hk,rfl,HN,hxr⟩:=hrel;by_cases hlt:k<n
  ·obtain⟨x,b,off,hx,hxo,rfl,hat⟩:=H.out.at hlt;have hcap:=H.out.cap;have hsm:=H.out.small;obtain⟨v0,v1,v2,v3,v4,v5⟩:=hat.ext hxr;have hbl:=za v0;obtain⟨xk,xm,xe,xt,xb,xf⟩:=x;simp only at v0 v1 v2 v3 v4 v5;by_cases h4:xk=4
   ·subst h4;have hf:=zpZ HN.out hx rfl;rw[HF.out] at hf;simp only at hf;subst hf;clear HN hat hx HF;go_wp2_with fail;go_ret;exact⟨rfl,hxr⟩
   ·have h4':(xk==4)=false:=by simpa using h4
    have HN2:Hid (noF (l.take (k+1))):=Lib.hid (zlO HN.out hx h4);clear hx hat HN h4;go_wp2_with fail;exact⟨⟨k+1,by omega,by go_num,HN2,hxr⟩,by simp[intOf];omega⟩
  ·obtain rfl:k=n:=by omega
   have htk:l.take k=l:=by rw[<-HL.out];exact List.take_length
   obtain rfl:0=F:=by rw[<-HF.out];exact(zpY (by have:=HN.out;rwa[htk] at this)).symm
   clear HF htk;go_wp2_with fail;go_ret;exact⟨rfl,hxr⟩
theorem zfn (A n cap l w) (h:ArrIn w A n cap l) (hn:n<=1000000) :
  Calls prog 70 #[.slice A n cap] w λe w'=>∃ v,e = .returned v∧Nms w.heap.size w' v (zu l)∧Ext w w':=by
 obtain⟨i0,hi0,hz0,hz1,hz2⟩:=info_parts zdK;have hlen:=h.len;have H:=Lib.hid h;have HL:=Lib.hid hlen;clear h hlen;go_enter func70,ntmps70;go_wp2_with fail;go_loopw [3,4] (λv i wr=>∃ k:Nat,k<=n∧i = .int .i64 (k:Int)∧Hid (Nms w.heap.size wr v (zu (l.take k)))∧Ext w wr) (λ_ i _=>n-(intOf i).toNat)
 case atStart=>exact⟨0,Nat.zero_le _,rfl,World.ownsRow_nil _ _ _ _,Ext.refl _⟩
 case round=>
  obtain⟨k,hk,rfl,HW,hxr⟩:=hrel;have hsz:=hxr.size;by_cases hlt:k<n
  ·obtain⟨x,b,off,hx,hxo,rfl,hat⟩:=H.out.at hlt;have hcap:=H.out.cap;obtain⟨v0,v1,v2,v3,v4,v5⟩:=hat.ext hxr;have hbl:=za v0;obtain⟨xk,xm,xe,xt,xb,xf⟩:=x;simp only at v0 v1 v2 v3 v4 v5;have HS:=Lib.hid (zi2 hx);by_cases h1:xk=1
   ·subst h1;have hle:(zu (l.take k)).length<=1000000:=by have:=zbf (l.take k);rw[List.length_take] at this;omega
    clear hx hat;go_wp2_with (at_builtin;refine wpList_append_own _ rfl _ _ _ rfl w.heap.size 36 i0 (NV 0 0) 2 16 Tryz.underlying62 hi0 hz0 hz1 hz2 rfl (by decide) _ (zu (l.take k)).length (zN (zu (l.take k))) rfl (zL HW.out (by simp[go_sem])) _ 1 1 [.int .i64 xm,.int .i64 xe] rfl rfl (zap _ _ _ (by first | rfl | (simp;done)) rfl _) (zcf [(xm,xe)]) (by simp only[maxLen];omega) (by omega) (by simp;omega) ?_;intro v4 w4 ho4 hg4 _);have hx4:=za2 (hxr.trans (by simp[go_sem])) (zL HW.out (by simp[go_sem])) hg4;refine⟨⟨k+1,by omega,by go_num,?_,hx4⟩,by simp[intOf];omega⟩;show World.ownsRow _ _ _ _ _ _ _;rw[HS.out,if_pos rfl,za0,List.length_append];exact ho4
   ·have h1':(xk==1)=false:=by simpa using h1
    clear hx hat;go_wp2_with fail;refine⟨⟨k+1,by omega,by go_num,?_,hxr.trans (by simp[go_sem])⟩,by simp[intOf];omega⟩;show World.ownsRow _ _ _ _ _ _ _;rw[HS.out,if_neg h1,List.append_nil];exact zL HW.out (by simp[go_sem])
  ·obtain rfl:k=n:=by omega
   have htk:l.take k=l:=by rw[<-HL.out];exact List.take_length
   rw[htk] at HW;clear htk;go_wp2_with fail;go_ret;exact⟨_,rfl,HW.out,hxr⟩
theorem zr6 (A n cap xs w) (h:ArgsIn w A n cap xs) (hn:n<=100) :
  Calls prog 69 #[.slice A n cap] w λe w'=>∃ D m c,e = .returned (.slice D m c)∧ArrN w.heap.size w' D m c (zs xs)∧m<=409600∧Ext w w':=by
 obtain⟨i0,hi0,hz0,hz1,hz2⟩:=info_parts zcn;have H:=Lib.hid h;have HL:=Lib.hid h.len;have hR:=Lib.hid (zcg h);clear h;go_enter func69,ntmps69;go_wp2_with fail;go_loopw [3,4] (λv i wr=>∃ k:Nat,k<=n∧i = .int .i64 (k:Int)∧(zs (xs.take k)).length<=k*4096∧Hid (wr.ownsRow w.heap.size 38 6 v (zs (xs.take k)).length (zJ (zs (xs.take k))))∧Ext w wr) (λ_ i _=>n-(intOf i).toNat)
 case atStart=>exact⟨0,Nat.zero_le _,rfl,Nat.zero_le _,World.ownsRow_nil _ _ _ _,Ext.refl _⟩
 case round=>
  obtain⟨k,hk,rfl,hle,HW,hxr⟩:=hrel;have hsz:=hxr.size;by_cases hlt:k<n
  ·obtain⟨R,C,l,b1,off1,n1,cap1,b,off,x,ha,rfl,⟨v0,v1,v2⟩,hn1,hc1,_,_,_,hbl,_,_,_,harr,_⟩:=H.out.first hlt;obtain⟨r1,r2,r3,r4,_⟩:=zC.1 (H.out.all _ (List.mem_of_getElem? ha)).right;have hln:=harr.len;have hcap:=H.out.cap;simp only at v0 v1 v2 r3 r4;replace v0:=hxr.cell_some v0;replace v1:=hxr.cell_some v1;replace v2:=hxr.cell_some v2;replace hbl:=za v0;have hle1:n1<=4096:=by omega
   have hrd:=(harr.rd:Rd 0 w _ (zJ l)).ext hxr;have HS:=Lib.hid (zkn ha);have hlen:(zJ l).length=n1*6:=by rw[zdu,hln]
   have HLN:=Lib.hid hln;clear ha r3 r4 harr hln;generalize hO:zs (xs.take k)=O at *;go_wp2_with (at_builtin;refine wpList_append_own _ rfl _ _ _ rfl w.heap.size 38 i0 (VV 0 0 0 ⟨#[]⟩ false 0) 6 56 Tryz.underlying25 hi0 hz0 hz1 hz2 rfl (by decide) _ O.length (zJ O) rfl (zL HW.out (by simp[go_sem])) _ n1 _ (zJ l) rfl hlen (λj u hu=>(hrd.ext (by simp[go_sem])).add j u hu) zeH (by simp only[maxLen];omega) (by omega) (by first | omega | (simp;omega)) ?_;intro v4 w4 ho4 hg4 _);have hx4:=za2 (hxr.trans (by simp[go_sem])) (zL HW.out (by simp[go_sem])) hg4;refine⟨⟨k+1,by omega,by go_num,?_,?_,hx4⟩,by simp[intOf];omega⟩
   ·rw[HS.out,List.length_append,HLN.out];omega
   ·show World.ownsRow _ _ _ _ _ _ _;rw[HS.out,zcM,List.length_append,HLN.out];exact ho4
  ·obtain rfl:k=n:=by omega
   have htk:xs.take k=xs:=by rw[<-HL.out];exact List.take_length
   rw[htk] at hle HW;obtain⟨D,c,rfl,hrd,hc⟩:=Rd.of_own HW.out;go_wp2_with fail;exact rt1 rfl rfl ⟨_,_,_,rfl,⟨hrd,rfl,hc,by omega,λy hy=>(hR.out y hy).ok⟩,by omega,hxr⟩
def zdB (f:Int->Int->Int->Int->Option Nm):Option Nm->List Nm->Option Nm
 | o,[]=>o
 | none,_=>none
 | some t,n::l=>zdB f (f t.1 t.2 n.1 n.2) l
theorem zeR (f:Int->Int->Int->Int->Option Nm):∀ l:List Nm,zdB f none l=none
 | []=>rfl
 | _::_=>rfl
theorem zkr:∀ (l:List Nm) (t:Nm),zdB addS (some t) l=zbC t l
 | [],_=>rfl
 | n::l,t=>by
  show zdB addS (addS t.1 t.2 n.1 n.2) l=(addS t.1 t.2 n.1 n.2).bind λu=>zbC u l;cases addS t.1 t.2 n.1 n.2 with
  | none=>rw[zeR];rfl
  | some u=>exact zkr l u
theorem zks:∀ (l:List Nm) (t:Nm),zdB mulS (some t) l=zbD t l
 | [],_=>rfl
 | n::l,t=>by
  show zdB mulS (mulS t.1 t.2 n.1 n.2) l=(mulS t.1 t.2 n.1 n.2).bind λu=>zbD u l;cases mulS t.1 t.2 n.1 n.2 with
  | none=>rw[zeR];rfl
  | some u=>exact zks l u
theorem zis (A n cap l w) (h:NmIn w A n cap l) :
  Tl prog 75 #[.slice A n cap] w (.tuple #[NV (rm (zbC (0,0) l)) (re (zbC (0,0) l)),.bool (zbC (0,0) l).isSome]):=by
 have H:=Lib.hid h;have HL:=Lib.hid h.len;have hsm:=h.small;have hcap:=h.cap;clear h;rw[<-zkr];generalize hR:zdB addS (some (0,0)) l=r at *;have HR:=Lib.hid hR;clear hR;go_enter func75,ntmps75;go_wp2_with fail;go_loopw [5,6] (λok i wr=>∃ (k:Nat) (o:Option Nm) (os:Array Obj) (d:Nat),k<=n∧i = .int .i64 (k:Int)∧ok = .bool o.isSome∧wr=more ((w.alloc (Obj.cells #[.int .i64 0,.int .i64 0] 36)).alloc (Obj.cells #[.int .i64 (rm o),.int .i64 (re o)] 36)) os d∧Hid (zdB addS o (l.drop k)=r)∧Hid (∀ p,o=some p->Rt p.1 p.2)) (λ_ i _=>n-(intOf i).toNat)
 case atStart=>exact⟨0,some (0,0),#[],_,Nat.zero_le _,rfl,rfl,(zc6 _).symm,HR.out,λp hp=>by obtain rfl:=Option.some.inj hp;exact zcY⟩
 case round=>
  obtain⟨k,o,os,d,hk,rfl,rfl,rfl,HD,HI⟩:=hrel;by_cases hlt:k<n
  ·obtain⟨p,b,off,hp,hpr,rfl,c0,c1⟩:=H.out.at hlt;have hbl:=za c0;have hd:=HD.out;rw[zfi hp] at hd;cases o with
   | none=>
    rw[zeR] at hd;subst hd;clear hp hpr HD HI HR;simp only[rm,re,Option.getD_none,Option.isSome_none];go_wp2_with fail;exact rct rfl rfl (by simp[go_sem,rm,re]) ⟨rfl,by simp[go_sem]⟩
   | some q=>
    obtain⟨m,ex⟩:=q;obtain⟨pm,pe⟩:=p;have hi:=HI.out _ rfl;simp only at c0 c1 hi;have hop:=λW=>ze8 m ex pm pe W (zF hi) (zF hpr);have HD2:Hid (zdB addS (addS m ex pm pe) (l.drop (k+1))=r):=hd;have HI2:Hid (∀ p,addS m ex pm pe=some p->Rt p.1 p.2):=λp hp=>zdS (show addS m ex pm pe=some (p.1,p.2) from hp);generalize addS m ex pm pe=o2 at *;simp only[rnV] at hop;simp only[rm,re,Option.getD_some,Option.isSome_some];clear hp hpr HD HI HR hd hi;go_upto_region 6 with fail;refine zby [(0,0),(1,0),(2,0),(3,0),(4,0),(5,1),(6,0),(7,0),(8,2)] [9,10] [9,10] [8] (by kernel_rfl) (by kernel_rfl) (by kernel_rfl) (λ_ _ d _ _ h=>by cases d <;> exact h) (λ_ _ d _ _ h=>by cases d <;> exact h) ?_;iterate 5(apply rdG rfl rfl;(intros;go_simp;first | done | rfl);try simp only[zq])
    (refine zaX rfl ?_ (λwf hXf hE K hK=>?_);rfl;obtain⟨osf,df,rfl⟩:=hXf.more;go_simp;refine(hop _).mono ?_;rintro e w' ⟨rfl,hb⟩;refine hK _ _ (λ_=>True) (by(try simp only[zh,zc,Array.append_assoc]);exact hb) (λ_ _ _ _=>trivial) trivial ?_)
    try simp only[zq]
    iterate 3((first | (apply rdG rfl rfl;(intros;go_simp;first | done | rfl)) | (refine zbK (v:=?_) rfl ?_ (λw1=>?_) ?_;rotate_left 1;rfl;(go_simp;first | done | rfl)));try simp only[zq])
    (refine zhd λwz hXz hE=>?_;obtain⟨osa,da,rfl⟩:=hXz.more)
    try simp only[zq]
    (refine zaz rfl ?_ (λK hK=>?_);rfl;go_simp;refine hK _ _ ?_)
    try simp only[zq]
    (refine zaz rfl ?_ (λK hK=>?_);rfl;go_simp;refine hK _ _ ?_)
    try simp only[zq]
    refine zbS ?_;go_wp2_with fail;exact⟨⟨k+1,o2,_,_,by omega,by go_num,rfl,(by(try simp only[zc,zj,zh]);first | rfl | (simp[go_sem];done)),HD2,HI2⟩,by simp[intOf];omega⟩
  ·obtain rfl:k=n:=by omega
   have hd:=HD.out;rw[List.drop_eq_nil_of_le (by rw[HL.out];exact Nat.le_refl _)] at hd;have hd2:o=r:=by cases o <;> exact hd
   subst hd2;clear HD HI HR hd;go_wp2_with fail;exact rct rfl rfl (by simp[go_sem]) ⟨rfl,by simp[go_sem]⟩
theorem zhk (A n cap l w) (h:NmIn w A n cap l) :
  Tl prog 80 #[.slice A n cap] w (.tuple #[NV (rm (zbD (1,0) l)) (re (zbD (1,0) l)),.bool (zbD (1,0) l).isSome]):=by
 have H:=Lib.hid h;have HL:=Lib.hid h.len;have hsm:=h.small;have hcap:=h.cap;clear h;rw[<-zks];generalize hR:zdB mulS (some (1,0)) l=r at *;have HR:=Lib.hid hR;clear hR;go_enter func80,ntmps80;go_wp2_with fail;go_loopw [5,6] (λok i wr=>∃ (k:Nat) (o:Option Nm) (os:Array Obj) (d:Nat),k<=n∧i = .int .i64 (k:Int)∧ok = .bool o.isSome∧wr=more ((w.alloc (Obj.cells #[.int .i64 0,.int .i64 0] 36)).alloc (Obj.cells #[.int .i64 (rm o),.int .i64 (re o)] 36)) os d∧Hid (zdB mulS o (l.drop k)=r)∧Hid (∀ p,o=some p->Rt p.1 p.2)) (λ_ i _=>n-(intOf i).toNat)
 case atStart=>exact⟨0,some (1,0),#[],_,Nat.zero_le _,rfl,rfl,(zc6 _).symm,HR.out,λp hp=>by obtain rfl:=Option.some.inj hp;exact zcP⟩
 case round=>
  obtain⟨k,o,os,d,hk,rfl,rfl,rfl,HD,HI⟩:=hrel;by_cases hlt:k<n
  ·obtain⟨p,b,off,hp,hpr,rfl,c0,c1⟩:=H.out.at hlt;have hbl:=za c0;have hd:=HD.out;rw[zfi hp] at hd;cases o with
   | none=>
    rw[zeR] at hd;subst hd;clear hp hpr HD HI HR;simp only[rm,re,Option.getD_none,Option.isSome_none];go_wp2_with fail;exact rct rfl rfl (by simp[go_sem,rm,re]) ⟨rfl,by simp[go_sem]⟩
   | some q=>
    obtain⟨m,ex⟩:=q;obtain⟨pm,pe⟩:=p;have hi:=HI.out _ rfl;simp only at c0 c1 hi;have hop:=λW=>zgl m ex pm pe W (zF hi) (zF hpr);have HD2:Hid (zdB mulS (mulS m ex pm pe) (l.drop (k+1))=r):=hd;have HI2:Hid (∀ p,mulS m ex pm pe=some p->Rt p.1 p.2):=λp hp=>zfh (show mulS m ex pm pe=some (p.1,p.2) from hp);generalize mulS m ex pm pe=o2 at *;simp only[rnV] at hop;simp only[rm,re,Option.getD_some,Option.isSome_some];clear hp hpr HD HI HR hd hi;go_upto_region 6 with fail;refine zby [(0,0),(1,0),(2,0),(3,0),(4,0),(5,1),(6,0),(7,0),(8,2)] [9,10] [9,10] [8] (by kernel_rfl) (by kernel_rfl) (by kernel_rfl) (λ_ _ d _ _ h=>by cases d <;> exact h) (λ_ _ d _ _ h=>by cases d <;> exact h) ?_;iterate 5(apply rdG rfl rfl;(intros;go_simp;first | done | rfl);try simp only[zq])
    (refine zaX rfl ?_ (λwf hXf hE K hK=>?_);rfl;obtain⟨osf,df,rfl⟩:=hXf.more;go_simp;refine(hop _).mono ?_;rintro e w' ⟨rfl,hb⟩;refine hK _ _ (λ_=>True) (by(try simp only[zh,zc,Array.append_assoc]);exact hb) (λ_ _ _ _=>trivial) trivial ?_)
    try simp only[zq]
    iterate 3((first | (apply rdG rfl rfl;(intros;go_simp;first | done | rfl)) | (refine zbK (v:=?_) rfl ?_ (λw1=>?_) ?_;rotate_left 1;rfl;(go_simp;first | done | rfl)));try simp only[zq])
    (refine zhd λwz hXz hE=>?_;obtain⟨osa,da,rfl⟩:=hXz.more)
    try simp only[zq]
    (refine zaz rfl ?_ (λK hK=>?_);rfl;go_simp;refine hK _ _ ?_)
    try simp only[zq]
    (refine zaz rfl ?_ (λK hK=>?_);rfl;go_simp;refine hK _ _ ?_)
    try simp only[zq]
    refine zbS ?_;go_wp2_with fail;exact⟨⟨k+1,o2,_,_,by omega,by go_num,rfl,(by(try simp only[zc,zj,zh]);first | rfl | (simp[go_sem];done)),HD2,HI2⟩,by simp[intOf];omega⟩
  ·obtain rfl:k=n:=by omega
   have hd:=HD.out;rw[List.drop_eq_nil_of_le (by rw[HL.out];exact Nat.le_refl _)] at hd;have hd2:o=r:=by cases o <;> exact hd
   subst hd2;clear HD HI HR hd;go_wp2_with fail;exact rct rfl rfl (by simp[go_sem]) ⟨rfl,by simp[go_sem]⟩
theorem zjO {N i} (hN:N<T 15) (hi:60<=i):R (N*T i)=N*T i:=by
 by_cases h0:N=0
 ·subst h0;rw[Nat.zero_mul,R_zero]
 ·have hn:nd N<=15:=(nd_le_iff _ _).2 hN;have hS:S15 (N*T i)=N*T i:=by
   unfold S15;rw[nd_mul_T i h0,cutN_mul _ _ _ (by omega),Nat.mul_assoc,<-T_add];congr 2;omega
  unfold R;rw[hS,cutN_mul _ _ _ hi,Nat.mul_assoc,<-T_add];congr 2;omega
theorem zql {X M M' i} (hM:M<T 15) (hi:60<=i) (h1:M'*T i<=X) (h2:X<=M*T i):M'*T i<=R X∧R X<=M*T i:=by
 have hM':M'<T 15:=by
  have:M'*T i<=M*T i:=Nat.le_trans h1 h2;have:=Nat.le_of_mul_le_mul_right this (T_pos i);omega
 have a:=R_mono h1;have b:=R_mono h2;rw[zjO hM' hi] at a;rw[zjO hM hi] at b;exact⟨a,b⟩
theorem zeS {a} (ha:a.natAbs<T 15) (h0:a≠0):∃ k,(zl a).2=(k:Nat)∧a=(zl a).1*(T k:Nat)∧(zl a).1≠0:=by
 obtain⟨_,h1,h2,h3,h4⟩:=zbu ha;refine⟨(zl a).2.toNat,by omega,?_,λh=>h0 (h3.1 h)⟩;rw[zlJ h4,zdU] at h2;have hp:=zlI;have hne:HX≠0:=by omega
 exact(Int.eq_of_mul_eq_mul_right hne (show(zl a).1*((T (zl a).2.toNat:Nat):Int)*HX=a*HX from h2)).symm
theorem zeT:zl 0=(0,0):=by unfold zl;rw[show rndI 0 0=some (0,0) from rnd_nought _ _ _];rfl
theorem zoK:zB 0 0=(0,0):=by
 unfold zB;simp
theorem zmL {P Q ka kb A B j} (hP:0<P) (hQ:0<Q) (hA:A=P*T ka) (hB:B=Q*T kb) (hka:ka<=9) (hkb:kb<=9) (hj:j<=10) {M} (m) (hm:m=decide (P*T 40%Q≠0)) (X) (hX:X=if m then(10*(P*T 40/Q)+1)*T ((ka:Int)-kb+59).toNat else(P*T 40/Q)*T ((ka:Int)-kb+60).toNat) :
  (M*B<=A*T j->M*T (100-j)<=X)∧(A*T j<=M*B->X<=M*T (100-j)):=by
 obtain⟨u,hu⟩:∃ u:Nat,u+ka+j=40+kb:=⟨40+kb-ka-j,by omega⟩;have e1:((ka:Int)-kb+59).toNat+(u+1)=100-j:=by omega
 have e2:((ka:Int)-kb+60).toNat+u=100-j:=by omega
 generalize ((ka:Int)-kb+59).toNat=f1 at *;generalize ((ka:Int)-kb+60).toNat=f2 at *;have hd:=Nat.div_add_mod (P*T 40) Q;have hr:=Nat.mod_lt (P*T 40) hQ;have hs:A*T j*T u=P*T 40*T kb:=by
  rw[hA,Nat.mul_assoc,Nat.mul_assoc,<-T_add,<-T_add,Nat.mul_assoc,<-T_add];congr 2;omega
 constructor
 ·intro h;have h1:M*T u*Q<=P*T 40:=by
   have h2:=Nat.mul_le_mul_right (T u) h;rw[hs,hB] at h2;have h3:M*T u*Q*T kb<=P*T 40*T kb:=by
    calc M*T u*Q*T kb=M*(Q*T kb)*T u:=by ac_rfl
     _<=_:=h2
   exact Nat.le_of_mul_le_mul_right h3 (T_pos kb)
  have h2:M*T u<=P*T 40/Q:=(Nat.le_div_iff_mul_le hQ).2 h1;rw[hX];cases m with
  | true=>
   rw[if_pos rfl,<-e1,Nat.add_comm f1,T_add,show T (u+1)=10*T u from T_succ u,<-Nat.mul_assoc];refine Nat.mul_le_mul_right _ ?_;have:M*(10*T u)=10*(M*T u):=by ac_rfl
   omega
  | false=>
   rw[if_neg (by simp),<-e2,Nat.add_comm f2,T_add,<-Nat.mul_assoc];exact Nat.mul_le_mul_right _ h2
 ·intro h;have h1:P*T 40<=M*T u*Q:=by
   have h2:=Nat.mul_le_mul_right (T u) h;rw[hs,hB] at h2;have h3:P*T 40*T kb<=M*T u*Q*T kb:=by
    calc P*T 40*T kb<=M*(Q*T kb)*T u:=h2
     _=_:=by ac_rfl
   exact Nat.le_of_mul_le_mul_right h3 (T_pos kb)
  rw[hX];cases m with
  | true=>
   rw[if_pos rfl,<-e1,Nat.add_comm f1,T_add,show T (u+1)=10*T u from T_succ u,<-Nat.mul_assoc];refine Nat.mul_le_mul_right _ ?_;have hne:P*T 40%Q≠0:=by simpa using hm.symm
   have h2:P*T 40/Q<M*T u:=by
    rw[Nat.div_lt_iff_lt_mul hQ];rcases Nat.lt_or_ge (P*T 40) (M*T u*Q) with h | h'
    ·exact h
    ·exfalso
     have:P*T 40=M*T u*Q:=Nat.le_antisymm h1 h';rw[this,Nat.mul_mod_left] at hne;exact hne rfl
   have:M*(10*T u)=10*(M*T u):=by ac_rfl
   omega
  | false=>
   rw[if_neg (by simp),<-e2,Nat.add_comm f2,T_add,<-Nat.mul_assoc];refine Nat.mul_le_mul_right _ ?_;have:P*T 40/Q<=M*T u*Q/Q:=Nat.div_le_div_right h1;rwa[Nat.mul_div_cancel _ hQ] at this
theorem zgJ {m e n} (h:Rt m e) (hn:n.natAbs<T 15) (h1:n*HX<=sc m e) (h2:sc m e<(n+1)*HX):zB m e=zl n:=by
 obtain⟨a,b,c,d⟩:=zcI h;obtain⟨_,w1,w2,_,_⟩:=zbu hn;generalize hf:zB m e=f at *;have h3:=zlJ (m:=f.1) b;generalize f.1*((T f.2.toNat:Nat):Int)=z at h3;have hp:=zlI;have hz:z=n:=by
  rw[h3] at c d;have q1:z*HX<(n+1)*HX:=Int.lt_of_le_of_lt c h2;have q2:n*HX<(z+1)*HX:=by rw[Int.add_mul,Int.one_mul];exact Int.lt_of_le_of_lt h1 d
  have q3:=Int.lt_of_mul_lt_mul_right q1 (by omega);have q4:=Int.lt_of_mul_lt_mul_right q2 (by omega);omega
 subst hz;rw[zdU] at w2;obtain⟨u1,u2⟩:=zjJ a w1 (by rw[h3,w2];rfl);exact Prod.ext u1 u2
theorem zqm {a b} (ha:a.natAbs<T 15) (hb:b.natAbs<T 15):mulS (zl a).1 (zl a).2 (zl b).1 (zl b).2=rndI (a*b) 0:=by
 obtain⟨_,a1,_,_,a4⟩:=zbu ha;obtain⟨_,b1,_,_,b4⟩:=zbu hb;unfold mulS;rw[if_pos ⟨a1,b1⟩];by_cases h0:a=0
 ·subst h0;rw[zeT];simp only[Int.zero_mul];rw[show rndI 0 (0+(zl b).2)=some (0,0) from rnd_nought _ _ _,show rndI 0 0=some (0,0) from rnd_nought _ _ _]
 ·by_cases h1:b=0
  ·subst h1;rw[zeT];simp only[Int.mul_zero];rw[show rndI 0 ((zl a).2+0)=some (0,0) from rnd_nought _ _ _,show rndI 0 0=some (0,0) from rnd_nought _ _ _]
  ·obtain⟨ka,e1,e2,_⟩:=zeS ha h0;obtain⟨kb,f1,f2,_⟩:=zeS hb h1;have h:=zi0 ((zl a).1*(zl b).1) ((zl a).2+(zl b).2) (ka+kb);rw[<-h,e1,f1];congr 1
   ·rw[T_add,Int.natCast_mul];conv=>rhs;rw[e2,f2]
    ac_rfl
   ·omega
theorem zcC {b x y} (h:b*x=y) (h1:-b<y) (h2:y<b):x=0:=by
 rcases Int.lt_trichotomy x 0 with h0 | h0 | h0
 ·exfalso
  have:b*x<=b*(-1):=Int.mul_le_mul_of_nonneg_left (by omega) (by omega);omega
 ·exact h0
 ·exfalso
  have:b*1<=b*x:=Int.mul_le_mul_of_nonneg_left (by omega) (by omega);omega
theorem zhM:(2147483648:Nat)<T 10:=by decide
def zl8 (a b n m:Int):Prop:=a=b*n+m∧(0<b->0<=m∧m<b)∧(b<0->b<m∧m<=0)
theorem zr7 {a b n m} (h:zl8 a b n m) (hb:b≠0) (h0:a≠0) :
  n=if(decide (a<0)==decide (b<0)) then((a.natAbs/b.natAbs:Nat):Int) else if a.natAbs%b.natAbs=0 then -((a.natAbs/b.natAbs:Nat):Int) else -((a.natAbs/b.natAbs:Nat):Int)-1:=by
 obtain⟨h1,h2,h3⟩:=h;have hd:=Nat.div_add_mod a.natAbs b.natAbs;have hr:=Nat.mod_lt a.natAbs (show b.natAbs>0 by omega);generalize a.natAbs/b.natAbs=k at *;generalize a.natAbs%b.natAbs=r at *;have hz:((b.natAbs*k+r:Nat):Int)=(a.natAbs:Int):=by rw[hd]
 rw[Int.natCast_add,Int.natCast_mul] at hz;rcases Int.lt_or_gt_of_ne hb with hb0 | hb0 <;> rcases Int.lt_or_gt_of_ne h0 with ha0 | ha0
 ·rw[show(b.natAbs:Int)=-b by omega,show(a.natAbs:Int)=-a by omega] at hz;rw[if_pos (by simp[ha0,hb0])];have:=zcC (b:=-b) (x:=n-k) (y:=r-(-m)) (by rw[Int.mul_sub];have:=Int.neg_mul b n;omega) (by omega) (by omega);omega
 ·rw[show(b.natAbs:Int)=-b by omega,show(a.natAbs:Int)=a by omega] at hz;rw[if_neg (by simp[hb0];omega)];by_cases hr0:r=0
  ·rw[if_pos hr0];have:=zcC (b:=-b) (x:=n+k) (y:=m) (by rw[Int.mul_add];have:=Int.neg_mul b n;omega) (by omega) (by omega);omega
  ·rw[if_neg hr0];have:=zcC (b:=-b) (x:=n+k+1) (y:=-b-r+m) (by rw[Int.mul_add,Int.mul_add];have:=Int.neg_mul b n;omega) (by omega) (by omega);omega
 ·rw[show(b.natAbs:Int)=b by omega,show(a.natAbs:Int)=-a by omega] at hz;rw[if_neg (by simp[ha0];omega)];by_cases hr0:r=0
  ·rw[if_pos hr0];have:=zcC (b:=b) (x:=n+k) (y:=-m) (by rw[Int.mul_add];omega) (by omega) (by omega);omega
  ·rw[if_neg hr0];have:=zcC (b:=b) (x:=n+k+1) (y:=b-r-m) (by rw[Int.mul_add,Int.mul_add];omega) (by omega) (by omega);omega
 ·rw[show(b.natAbs:Int)=b by omega,show(a.natAbs:Int)=a by omega] at hz;rw[if_pos (by simp;omega)];have:=zcC (b:=b) (x:=n-k) (y:=r-m) (by rw[Int.mul_sub];omega) (by omega) (by omega);omega
theorem zuH {P Q ka kb A B} (hP:0<P) (hQ:0<Q) (hA:A=P*T ka) (hB:B=Q*T kb) (hA':A<=2147483648) (hB':B<=2147483648) (neg) :
  ∃ q,divR neg P Q ((ka:Int)-kb)=some q∧Rt q.1 q.2∧∃ Z:Nat,sc q.1 q.2=sg neg Z∧(A%B=0->Z=A/B*T 100)∧(A%B≠0->A/B*T 100<Z∧Z<(A/B+1)*T 100):=by
 have hka:ka<=9:=by
  rcases Nat.lt_or_ge 9 ka with h | h
  ·exfalso
   have h1:T 10<=T ka:=T_mono h;have h2:1*T ka<=P*T ka:=Nat.mul_le_mul_right _ hP;have:=zhM;omega
  ·exact h
 have hkb:kb<=9:=by
  rcases Nat.lt_or_ge 9 kb with h | h
  ·exfalso
   have h1:T 10<=T kb:=T_mono h;have h2:1*T kb<=Q*T kb:=Nat.mul_le_mul_right _ hQ;have:=zhM;omega
  ·exact h
 have hB0:0<B:=by rw[hB];exact Nat.mul_pos hQ (T_pos kb)
 have hQB:Q<=B:=by rw[hB];exact Nat.le_mul_of_pos_right _ (T_pos kb)
 obtain⟨m,hm⟩:∃ m,m=decide (P*T 40%Q≠0):=⟨_,rfl⟩;obtain⟨X,hX⟩:∃ X,X=if m then(10*(P*T 40/Q)+1)*T ((ka:Int)-kb+59).toNat else(P*T 40/Q)*T ((ka:Int)-kb+60).toNat:=⟨_,rfl⟩
 have hqb := λj hj M => zmL (j := j) (M := M) hP hQ hA hB hka hkb hj m hm X hX; -- the quotient as one value without something more
 have hrun:∃ Y E,divR neg P Q ((ka:Int)-kb)=rnd neg Y false E∧-100<=E∧Y*T (E+100).toNat=X:=by
  unfold divR;rw[<-hm];cases m with
  | false=>exact⟨_,_,rfl,by omega,by rw[hX,if_neg (by simp)];congr 2;omega⟩
  | true=>
   have hN:16<=nd (P*T 40/Q):=by
    have h1:T 16<=P*T 40/Q:=by
     rw[Nat.le_div_iff_mul_le hQ];have h2:T 16*Q<=T 16*T 10:=Nat.mul_le_mul_left _ (by have:=zhM;omega);have h3:T 16*T 10<=T 40:=by rw[<-T_add];exact T_mono (by omega)
     have h4:1*T 40<=P*T 40:=Nat.mul_le_mul_right _ hP;rw[Nat.one_mul] at h4;exact Nat.le_trans h2 (Nat.le_trans h3 h4)
    have:=(lt_nd_iff (P*T 40/Q) 16).2 h1;omega
   have h1:=rnd_sticky neg (P*T 40/Q) 1 1 false ((ka:Int)-kb-40) hN (by decide);simp only[ne_eq,Nat.add_one_ne_zero,not_false_eq_true,decide_true,Bool.true_or] at h1;refine⟨_,_,h1.symm,by omega,?_⟩;rw[hX,if_pos rfl];congr 1
   ·simp[T];omega
   ·congr 1;omega
 obtain⟨Y,E,hY,hE,hYX⟩:=hrun;have hd:=Nat.div_add_mod A B;have hr:=Nat.mod_lt A hB0;have hbig:∀ Z,Z<(A/B+1)*T 100∨Z<=A/B*T 100->Z<T 140:=by
  intro Z hZ;have h1:A/B<=A:=Nat.div_le_self _ _;have h2:A/B+1<=T 10:=by have:=zhM;omega
  have h3:(A/B+1)*T 100<=T 10*T 100:=Nat.mul_le_mul_right _ h2;rw[<-T_add] at h3;have h4:T (10+100)<=T 140:=T_mono (by omega);have h5:A/B*T 100<=(A/B+1)*T 100:=Nat.mul_le_mul_right _ (by omega);have h6:T (10+100)<T 140:=T_lt (by omega);omega
 have hfin:∀ Z,R X=Z->Z<T 140->∃ q,divR neg P Q ((ka:Int)-kb)=some q∧Rt q.1 q.2∧sc q.1 q.2=sg neg Z:=by
  intro Z hZ hZ';rw[hY];cases hq:rnd neg Y false E with
  | none=>
   have:=(rnd_none (neg:=neg) (N:=Y) hE).1 hq;rw[hYX,hZ] at this;omega
  | some q=>
   have:=sc_rnd hE hq;rw[hYX,hZ] at this;exact⟨q,rfl,rnd_right hq,this⟩
 by_cases hr0:A%B=0
 ·have hAB:A=A/B*B:=by rw[hr0] at hd;rw[Nat.mul_comm];omega
  have hq:=hqb 0 (by omega) (A/B);have x1:=hq.1 (by rw[<-hAB];simp[T]);have x2:=hq.2 (by rw[<-hAB];simp[T]);have hX2:X=A/B*T 100:=Nat.le_antisymm x2 x1;have hk:A/B<T 15:=by have h1:A/B<=A:=Nat.div_le_self _ _;have:=zhM;have:T 10<=T 15:=T_mono (by omega);omega
  have hRX:R X=A/B*T 100:=by rw[hX2];exact zjO hk (by omega)
  obtain⟨q,h1,h2,h3⟩:=hfin _ hRX (hbig _ (Or.inr (Nat.le_refl _)));exact⟨q,h1,h2,_,h3,λ_=>rfl,λh=>absurd hr0 h⟩
 ·obtain⟨j,hj⟩:∃ j,j=nd B:=⟨_,rfl⟩;have hj10:j<=10:=by rw[hj];exact(nd_le_iff _ _).2 (by have:=zhM;omega)
  have hBj:B<T j:=by rw[hj];exact lt_T_nd B
  have hBj2:T j<=10*B:=by
   have h1:=T_le_of_nd (n:=B) (by omega);have h2:nd B≠0:=by have:=nd_pos (n:=B) (by omega);omega
   rw[hj,show nd B=(nd B-1)+1 by omega,T_succ];omega
  generalize A/B=k at *;generalize A%B=r at *;have hM0:0<(k+1)*T j:=Nat.mul_pos (by omega) (T_pos j);have l1:(k*T j+1)*B<=A*T j:=by
   rw[<-hd];have h1:r*T j ≥ 1*T j:=Nat.mul_le_mul_right _ (by omega);have h2:(k*T j+1)*B=B*k*T j+B:=by rw[Nat.add_mul,Nat.one_mul];congr 1;ac_rfl
   have h3:(B*k+r)*T j=B*k*T j+r*T j:=Nat.add_mul _ _ _;rw[h2,h3];omega
  have l2:A*T j<=((k+1)*T j-1)*B:=by
   rw[<-hd,Nat.sub_mul,Nat.one_mul];have h1:(B*k+r)*T j+T j<=(k+1)*T j*B:=by
    have h2:(B*k+r)*T j+T j=(B*k+r+1)*T j:=by rw[Nat.add_mul (B*k+r),Nat.one_mul]
    have h3:(k+1)*T j*B=(B*k+B)*T j:=by
     rw[show B*k+B=B*(k+1) by rw[Nat.mul_succ]];ac_rfl
    rw[h2,h3];exact Nat.mul_le_mul_right _ (by omega)
   omega
  have x1:=(hqb j hj10 (k*T j+1)).1 l1;have x2:=(hqb j hj10 ((k+1)*T j-1)).2 l2;have hM:(k+1)*T j-1<T 15:=by
   have h1:(k+1)*T j<=(k+1)*(10*B):=Nat.mul_le_mul_left _ hBj2;have h2:(k+1)*(10*B)=10*(B*k+B):=by rw[show B*k+B=B*(k+1) by rw[Nat.mul_succ]];ac_rfl
   have h3:T 15=1000000000000000:=by decide
   omega
  obtain⟨y1,y2⟩:=zql hM (by omega) x1 x2;have hT:T 100=T j*T (100-j):=by rw[<-T_add];congr 1;omega
  have hp:=T_pos (100-j);have z1:k*T 100<R X:=by
   refine Nat.lt_of_lt_of_le ?_ y1;rw[hT,<-Nat.mul_assoc];exact Nat.mul_lt_mul_of_pos_right (by omega) hp
  have z2:R X<(k+1)*T 100:=by
   refine Nat.lt_of_le_of_lt y2 ?_;rw[hT,<-Nat.mul_assoc];exact Nat.mul_lt_mul_of_pos_right (by omega) hp
  obtain⟨q,h1,h2,h3⟩:=hfin _ rfl (hbig _ (Or.inl z2));exact⟨q,h1,h2,_,h3,λh=>absurd h hr0,λ_=>⟨z1,z2⟩⟩
theorem zoL {a b n m} (h:zl8 a b n m) (hb:b≠0) (ha':a.natAbs<=2147483648) (hb':b.natAbs<=2147483648) :
  ∃ q,divS (zl a).1 (zl a).2 (zl b).1 (zl b).2=some q∧Rt q.1 q.2∧zB q.1 q.2=zl n:=by
 have hT:T 15=1000000000000000:=by decide
 obtain⟨_,a1,_,a3,_⟩:=zbu (n:=a) (by omega);obtain⟨_,b1,_,b3,_⟩:=zbu (n:=b) (by omega);unfold divS;rw[if_pos ⟨a1,b1,λh=>hb (b3.1 h)⟩];by_cases h0:a=0
 ·subst h0;have hn:n=0:=by
   obtain⟨h1,h2,h3⟩:=h;rcases Int.lt_or_gt_of_ne hb with hb0 | hb0
   ·exact zcC (b:=-b) (y:=m) (by have:=Int.neg_mul b n;omega) (by omega) (by omega)
   ·exact zcC (b:=b) (y:=-m) (by omega) (by omega) (by omega)
  subst hn;refine⟨(0,0),?_,Or.inl ⟨rfl,rfl⟩,by rw[zeT];exact zoK⟩;rw[zeT];unfold divR;rw[show(0:Int).natAbs=0 from rfl,Nat.zero_mul,Nat.zero_div];exact rnd_nought _ _ _
 ·obtain⟨ka,e1,e2,e3⟩:=zeS (a:=a) (by omega) h0;obtain⟨kb,f1,f2,f3⟩:=zeS (a:=b) (by omega) hb;have hn:=zr7 h hb h0;have hA:a.natAbs=(zl a).1.natAbs*T ka:=by
   have h9:a.natAbs=((zl a).1*((T ka:Nat):Int)).natAbs:=congrArg Int.natAbs e2;rw[h9,Int.natAbs_mul,Int.natAbs_natCast]
  have hB:b.natAbs=(zl b).1.natAbs*T kb:=by
   have h9:b.natAbs=((zl b).1*((T kb:Nat):Int)).natAbs:=congrArg Int.natAbs f2;rw[h9,Int.natAbs_mul,Int.natAbs_natCast]
  have hsa:decide ((zl a).1<0)=decide (a<0):=by
   have:=T_pos ka;by_cases hx:(zl a).1<0
   ·have:(zl a).1*(T ka:Nat)<0:=Int.mul_neg_of_neg_of_pos hx (by omega);rw[decide_eq_true hx,decide_eq_true (show a<0 by omega)]
   ·have:0<=(zl a).1*(T ka:Nat):=Int.mul_nonneg (by omega) (by omega);rw[decide_eq_false hx,decide_eq_false (show ¬ a<0 by omega)]
  have hsb:decide ((zl b).1<0)=decide (b<0):=by
   have:=T_pos kb;by_cases hx:(zl b).1<0
   ·have:(zl b).1*(T kb:Nat)<0:=Int.mul_neg_of_neg_of_pos hx (by omega);rw[decide_eq_true hx,decide_eq_true (show b<0 by omega)]
   ·have:0<=(zl b).1*(T kb:Nat):=Int.mul_nonneg (by omega) (by omega);rw[decide_eq_false hx,decide_eq_false (show ¬ b<0 by omega)]
  obtain⟨q,h1,h2,Z,h3,h4,h5⟩:=zuH (P:=(zl a).1.natAbs) (Q:=(zl b).1.natAbs) (by omega) (by omega) hA hB ha' hb' (ngB (zl a).1 (zl b).1);rw[e1,f1];refine⟨q,h1,h2,?_⟩;have hng:ngB (zl a).1 (zl b).1 = !(decide (a<0)==decide (b<0)):=by unfold ngB;rw[hsa,hsb]
  rw[hng] at h3;have hk:a.natAbs/b.natAbs<=a.natAbs:=Nat.div_le_self _ _;have hp:=T_pos 100;generalize a.natAbs/b.natAbs=k at *;generalize a.natAbs%b.natAbs=r at *;cases hs:(decide (a<0)==decide (b<0)) with
  | true=>
   rw[hs] at h3 hn;rw[if_pos rfl] at hn;have h3':sc q.1 q.2=(Z:Int):=h3;refine zgJ h2 (by omega) ?_ ?_
   ·rw[h3',hn];unfold HX;rw[<-Int.natCast_mul];by_cases hr:r=0
    ·rw[h4 hr];exact Int.le_refl _
    ·have:=(h5 hr).1;omega
   ·rw[h3',hn];unfold HX;rw[show((k:Nat):Int)+1=((k+1:Nat):Int) by omega,<-Int.natCast_mul];by_cases hr:r=0
    ·rw[h4 hr];have:=Nat.mul_lt_mul_of_pos_right (show k<k+1 by omega) hp;omega
    ·have:=(h5 hr).2;omega
  | false=>
   rw[hs] at h3 hn;rw[if_neg (by simp)] at hn;have h3':sc q.1 q.2=-(Z:Int):=h3;by_cases hr:r=0
   ·rw[if_pos hr] at hn;have hz:=h4 hr;refine zgJ h2 (by omega) ?_ ?_
    ·rw[h3',hn,hz];unfold HX;rw[Int.neg_mul,<-Int.natCast_mul];omega
    ·rw[h3',hn,hz];unfold HX;rw[Int.add_mul,Int.neg_mul,<-Int.natCast_mul];omega
   ·rw[if_neg hr] at hn;obtain⟨u1,u2⟩:=h5 hr;rw[Nat.add_mul] at u2;refine zgJ h2 (by omega) ?_ ?_
    ·rw[h3',hn];unfold HX;rw[Int.sub_mul,Int.neg_mul,<-Int.natCast_mul];omega
    ·rw[h3',hn,show -((k:Nat):Int)-1+1=-((k:Nat):Int) by omega];unfold HX;rw[Int.neg_mul,<-Int.natCast_mul];omega
theorem zts {a b n m} (h:zl8 a b n m) (hb:b≠0) (ha':a.natAbs<=2147483648) (hb':b.natAbs<=2147483648):(b*n).natAbs<=4294967296∧m.natAbs<=2147483648∧n.natAbs<=4294967296:=by
 obtain⟨h1,h2,h3⟩:=h;have hm:m.natAbs<=2147483648:=by omega
 have hbn:(b*n).natAbs<=4294967296:=by omega
 refine⟨hbn,hm,?_⟩;have:n.natAbs<=(b*n).natAbs:=by rw[Int.natAbs_mul];exact Nat.le_mul_of_pos_left _ (by omega)
 omega
theorem zoM {a b n m} (h:zl8 a b n m) (hb:b≠0) (ha':a.natAbs<=2147483648) (hb':b.natAbs<=2147483648) :
  mulS (zl b).1 (zl b).2 (zl n).1 (zl n).2=some (zl (b*n))∧subS (zl a).1 (zl a).2 (zl (b*n)).1 (zl (b*n)).2=some (zl m):=by
 have hT:T 15=1000000000000000:=by decide
 obtain⟨c1,c2,c3⟩:=zts h hb ha' hb';rw[zqm (by omega) (by omega),zpM (by omega) (by omega),(zbu (n:=b*n) (by omega)).1];refine⟨rfl,?_⟩;rw[show a-b*n=m by have:=h.1;omega];exact(zbu (by omega)).1
@[go_sem] theorem zvA (p):(nV p).kind=1:=rfl
@[go_sem] theorem zvB (p):(nV p).mant=p.1:=rfl
@[go_sem] theorem zvN (p):(nV p).exp=p.2:=rfl
@[go_sem] theorem zvC (p):(nV p).text=⟨#[]⟩:=rfl
@[go_sem] theorem zvn (p):(nV p).truth=false:=rfl
@[go_sem] theorem zvo (p):(nV p).fault=0:=rfl
theorem zit {W p cs} (h:∀ j u,cs[j]? = some u->W.cell? ⟨p,j,none⟩=some u):Rd 0 W (some ⟨p,0,none⟩) cs:=λj u hu=>⟨p,0,rfl,Nat.zero_le _,by rw[Nat.zero_add];exact h j u hu⟩
theorem zi7 {W p x} (hv:zb7 W p 0 x) (hx:x.ok):ArrIn W (some ⟨p,0,none⟩) 1 1 [x]:=by
 obtain⟨h0,h1,h2,h3,h4,h5⟩:=hv;refine⟨zit λj u hu=>?_,rfl,Nat.le_refl _,by decide,λy hy=>by rw[List.mem_singleton.1 hy];exact hx⟩;have e:zJ [x]=[.int .i64 x.kind,.int .i64 x.mant,.int .i64 x.exp,.string x.text,.bool x.truth,.int .i64 x.fault]:=rfl;rw[e] at hu;match j,hu with
 | 0,hu=>obtain rfl:=Option.some.inj hu;exact h0
 | 1,hu=>obtain rfl:=Option.some.inj hu;exact h1
 | 2,hu=>obtain rfl:=Option.some.inj hu;exact h2
 | 3,hu=>obtain rfl:=Option.some.inj hu;exact h3
 | 4,hu=>obtain rfl:=Option.some.inj hu;exact h4
 | 5,hu=>obtain rfl:=Option.some.inj hu;exact h5
 | j+6,hu=>simp at hu
theorem zu8 {W p x y} (hv:zb7 W p 0 x) (hw:zb7 W p 6 y) (hx:x.ok) (hy:y.ok):ArrIn W (some ⟨p,0,none⟩) 2 2 [x,y]:=by
 obtain⟨h0,h1,h2,h3,h4,h5⟩:=hv;obtain⟨g0,g1,g2,g3,g4,g5⟩:=hw;refine⟨zit λj u hu=>?_,rfl,Nat.le_refl _,by decide,λz hz=>by rcases List.mem_cons.1 hz with rfl | hz;exact hx;rw[List.mem_singleton.1 hz];exact hy⟩;have e:zJ [x,y]=[.int .i64 x.kind,.int .i64 x.mant,.int .i64 x.exp,.string x.text,.bool x.truth,.int .i64 x.fault,.int .i64 y.kind,.int .i64 y.mant,.int .i64 y.exp,.string y.text,.bool y.truth,.int .i64 y.fault]:=rfl;rw[e] at hu;match j,hu with
 | 0,hu=>obtain rfl:=Option.some.inj hu;exact h0
 | 1,hu=>obtain rfl:=Option.some.inj hu;exact h1
 | 2,hu=>obtain rfl:=Option.some.inj hu;exact h2
 | 3,hu=>obtain rfl:=Option.some.inj hu;exact h3
 | 4,hu=>obtain rfl:=Option.some.inj hu;exact h4
 | 5,hu=>obtain rfl:=Option.some.inj hu;exact h5
 | 6,hu=>obtain rfl:=Option.some.inj hu;exact g0
 | 7,hu=>obtain rfl:=Option.some.inj hu;exact g1
 | 8,hu=>obtain rfl:=Option.some.inj hu;exact g2
 | 9,hu=>obtain rfl:=Option.some.inj hu;exact g3
 | 10,hu=>obtain rfl:=Option.some.inj hu;exact g4
 | 11,hu=>obtain rfl:=Option.some.inj hu;exact g5
 | j+12,hu=>simp at hu
theorem zuI {W p a b} (h:zio W p 0 a) (g:zio W p 3 b) (ha:ArOk W a) (hb:ArOk W b):ArgsIn W (some ⟨p,0,none⟩) 2 2 [a,b]:=by
 obtain⟨h0,h1,h2⟩:=h;obtain⟨g0,g1,g2⟩:=g;refine⟨zit λj u hu=>?_,rfl,Nat.le_refl _,by decide,λz hz=>by rcases List.mem_cons.1 hz with rfl | hz;exact ha;rw[List.mem_singleton.1 hz];exact hb⟩;have e:zcR [a,b]=[.int .i64 a.x.R,.int .i64 a.x.C,.slice a.A a.n a.cap,.int .i64 b.x.R,.int .i64 b.x.C,.slice b.A b.n b.cap]:=rfl;rw[e] at hu;match j,hu with
 | 0,hu=>obtain rfl:=Option.some.inj hu;exact h0
 | 1,hu=>obtain rfl:=Option.some.inj hu;exact h1
 | 2,hu=>obtain rfl:=Option.some.inj hu;exact h2
 | 3,hu=>obtain rfl:=Option.some.inj hu;exact g0
 | 4,hu=>obtain rfl:=Option.some.inj hu;exact g1
 | 5,hu=>obtain rfl:=Option.some.inj hu;exact g2
 | j+6,hu=>simp at hu
def zc4 (l:List Val):NA:=⟨1,l.length,l⟩
theorem zeU {l} (h0:0<l.length) (hl:l.length<=4096) (h:∀ x∈l,x.right):(zc4 l).right:=zC.2 ⟨Nat.le_refl _,h0,by show 1*l.length<=4096;omega,by show l.length=1*l.length;omega,h⟩
theorem zl9 {k} (h0:k≠0) (h1:k.natAbs<1000000000000000) (h2:k.natAbs%10≠0):Rt k 0:=zpN h0 h1 h2 (by omega) (by omega)
theorem zge {k} (h0:k≠0) (h1:k.natAbs<1000000000000000) (h2:k.natAbs%10≠0):zl k=(k,0):=by
 unfold zl;rw[zea (zl9 h0 h1 h2)];rfl
theorem zqn {t:Val->Val->Val} {x y} (hx:x.right) (hy:y.right) (ht:(t x y).right) (D1 D2 m1 c1 m2 c2):zej t [zeo (zc4 [x]) D1 m1 c1,zeo (zc4 [y]) D2 m2 c2]=zaj (t x y):=by
 show zaC t 1 1 [x] 1 1 [y]=_;have r1:zA 1 1 [x]=true:=zeU (l:=[x]) (by simp) (by simp) (λz hz=>by rw[List.mem_singleton.1 hz];exact hx);have r2:zA 1 1 [y]=true:=zeU (l:=[y]) (by simp) (by simp) (λz hz=>by rw[List.mem_singleton.1 hz];exact hy);unfold zaC;rw[r1,r2];have:zdA t 1 1 [x] 1 1 [y]=[zaQ (t x y)]:=rfl;rw[zsy ht] at this;simp only[Bool.and_self,if_true];rw[if_pos (by decide)];exact congrArg (NA.mk 1 1) this
theorem zkU (p):tnF (nV p)=0∧tnP (nV p)=p:=⟨rfl,rfl⟩
theorem zoN {a b n m} (h:zl8 a b n m) (hb:b≠0) (ha':a.natAbs<=2147483648) (hb':b.natAbs<=2147483648):modV (nV (zl a)) (nV (zl b))=nV (zl m):=by
 have hT:T 15=1000000000000000:=by decide
 obtain⟨q,h1,h2,h3⟩:=zoL h hb ha' hb';obtain⟨h4,h5⟩:=zoM h hb ha' hb';have hb0:(zl b).1≠0:=λe=>hb ((zbu (by omega)).2.2.2.1.1 e);unfold modV;rw[(zkU _).1,(zkU _).1,(zkU _).2,(zkU _).2,if_neg (by simp),if_neg (by simp)];unfold zhf;rw[if_neg hb0,h1];simp only;rw[h3,h4];simp only;rw[h5];rfl
theorem zu9:zbR ⟨#[49]⟩=some (1,0):=by
 unfold zbR;rw[if_neg (by decide)];exact zea (m:=1) (e:=0) (zpN (by decide) (by decide) (by decide) (by decide) (by decide))
def gt1V:Val:=⟨2,0,0,⟨#[62,49]⟩,false,0⟩
@[go_sem] theorem zvp:gt1V.kind=2:=rfl
@[go_sem] theorem zvq:gt1V.mant=0:=rfl
@[go_sem] theorem zvD:gt1V.exp=0:=rfl
@[go_sem] theorem zvr:gt1V.text=⟨#[62,49]⟩:=rfl
@[go_sem] theorem zvd:gt1V.truth=false:=rfl
@[go_sem] theorem zve:gt1V.fault=0:=rfl
theorem zkt:gt1V.right:=by
 have:=zgr ⟨#[62,49]⟩;exact this
theorem zr8 {s p} (h:zbR s=some p) (h0:s.data.toList≠[]):zbn s=nV p:=by
 unfold zbn;have h1:(s.toList == [])=false:=by rw[ByteArray.toList_eq];simpa using h0
 rw[h1,h,if_neg (by simp),if_pos (show(some p).isSome=true from rfl)];rfl
theorem zr9:zaf gt1V=(.gt,nV (1,0)):=by
 have h1:ziq ⟨#[62,49]⟩=some .gt:=rfl;unfold zaf;rw[if_pos (show gt1V.kind=2 from rfl)];show(match ziq ⟨#[62,49]⟩ with | some c=>(c,zbn ⟨(Lib.trimPrefix (ByteArray.mk #[62,49]).data.toList c.key).toArray⟩) | none=>(CS.eq,gt1V))=_;rw[h1];show(CS.gt,zbn ⟨#[49]⟩)=_;rw[zr8 zu9 (by simp)]
theorem zma (k) (hk:Rt k 0):zbQ .gt (nV (1,0)) (nV (k,0))=decide (1<k):=by
 unfold zbQ;rw[if_pos (show(nV (k,0)).kind=(nV (1,0)).kind from rfl)];have h:zaB (nV (k,0)) (nV (1,0))=zat k 0 1 0:=rfl;have e:sc k 0-sc 1 0=(k-1)*((T 100:Nat):Int):=by rw[zdU,zdU,Int.sub_mul]
 rw[h,zg6 hk zcP,e,ziL];show decide (0<(k-1).sign)=_;rcases Int.lt_trichotomy (k-1) 0 with h1 | h1 | h1
 ·rw[Int.sign_eq_neg_one_of_neg h1,decide_eq_false (by omega),decide_eq_false (by omega)]
 ·rw[h1,decide_eq_false (by decide),decide_eq_false (by omega)]
 ·rw[Int.sign_eq_one_of_pos h1,decide_eq_true (by omega),decide_eq_true (by omega)]
theorem zsa (D1 D2 m1 c1 m2 c2):zdi [zeo (zc4 [nV (1,0),nV (5,0)]) D1 m1 c1,zeo (zc4 [gt1V]) D2 m2 c2]=zaj (nV (1,0)):=by
 unfold zdi;have h1:zaR [zeo (zc4 [nV (1,0),nV (5,0)]) D1 m1 c1,zeo (zc4 [gt1V]) D2 m2 c2] 1=gt1V:=rfl;have h0:(zI [zeo (zc4 [nV (1,0),nV (5,0)]) D1 m1 c1,zeo (zc4 [gt1V]) D2 m2 c2] 0).l=[nV (1,0),nV (5,0)]:=rfl;rw[h1,h0,if_neg (by decide),zr9];unfold zdh;have h5:Rt 5 0:=zl9 (by decide) (by decide) (by decide);have f1:=zma 1 zcP;have f5:=zma 5 h5;have hf:([nV (1,0),nV (5,0)].filter (zbQ CS.gt (nV (1,0))))=[nV (5,0)]:=by
  rw[List.filter_cons_of_neg (by rw[f1];simp),List.filter_cons_of_pos (by rw[f5];simp)];rfl
 simp only;rw[hf];show zaj (zdJ 1)=_;unfold zdJ;rw[zge (k:=1) (by decide) (by decide) (by decide)];rfl
theorem ze3 {A n cap l} (w) (h:ArrIn w A n cap l):Calls prog 12 #[.slice A n cap] w λe w'=>e = .returned (AV 1 n (.slice A n cap))∧ArrIn w' A n cap l∧Ext w w':=
 (zr3 A n cap w h.small).mono λe w' ⟨h1,h2⟩=>⟨h1,h.ext h2,h2⟩
section
variable {W:World} {p:Nat}
theorem znL {o:Nat} {D:Option Addr} {n c:Nat} {l:List Val} (h:ArrIn W D n c l) (c0:W.cell? ⟨p,o,none⟩=some (.int .i64 1)) (c1:W.cell? ⟨p,o+1,none⟩=some (.int .i64 (n:Int))) (c2:W.cell? ⟨p,o+2,none⟩=some (.slice D n c)):zio W p o (zeo (zc4 l) D n c):=
 ⟨c0,by show _=some (Value.int .i64 (l.length:Int));rw[h.len];exact c1,c2⟩
theorem zqo {D D':Option Addr} {n c n' c':Nat} {l l':List Val} (h:ArrIn W D n c l) (hr:(zc4 l).right) (h':ArrIn W D' n' c' l') (hr':(zc4 l').right) (c0:W.cell? ⟨p,0,none⟩=some (.int .i64 1)) (c1:W.cell? ⟨p,1,none⟩=some (.int .i64 (n:Int))) (c2:W.cell? ⟨p,2,none⟩=some (.slice D n c)) (c3:W.cell? ⟨p,3,none⟩=some (.int .i64 1)) (c4:W.cell? ⟨p,4,none⟩=some (.int .i64 (n':Int))) (c5:W.cell? ⟨p,5,none⟩=some (.slice D' n' c')) :
  ArgsIn W (some ⟨p,0,none⟩) 2 2 [zeo (zc4 l) D n c,zeo (zc4 l') D' n' c']:=zuI (znL h c0 c1 c2) (znL h' c3 c4 c5) ⟨h,hr⟩ ⟨h',hr'⟩
end
theorem zjP {x} (hx:x.right):(zc4 [x]).right:=zeU (by simp) (by simp) (λz hz=>by rw[List.mem_singleton.1 hz];exact hx)
theorem ztt {x y} (hx:x.right) (hy:y.right):(zc4 [x,y]).right:=zeU (by simp) (by simp) (λz hz=>by rcases List.mem_cons.1 hz with rfl | hz;exact hx;rw[List.mem_singleton.1 hz];exact hy)
theorem zmb {s A n cap lo hi xs w} {F:List Ar->NA} {X} (h:ArgsIn w A n cap xs) (h1:lo<=n) (h2:n<=hi) (hX:F xs=X) (hc:ArgsG w A n cap (xs.map Ar.toG)->Calls prog 7 #[.string s,.slice A n cap] w (zbh w (zS lo hi (xs.map Ar.toG) (F (zK (xs.map Ar.toG)))))):Calls prog 7 #[.string s,.slice A n cap] w (zbh w X):=by
 have hc:=hc h.toG;rw[zp6,zrR _ (by rw[h.len];exact h1) (by rw[h.len];exact h2) (λa ha=>(h.all a ha).right),hX] at hc;exact hc
theorem zbh.here {w y e w'} (h:zbh w (zaj y) e w'):∃ D c,e = .returned (.tuple #[AV 1 1 (.slice D 1 c),.bool true])∧ArrIn w' D 1 c [y]∧Ext w w':=by
 obtain⟨D,m,cc,rfl,hN,hb⟩:=h;have harr:=hN.arr;have hm:1=m:=harr.len;subst hm;exact⟨D,cc,rfl,harr,hb⟩
end Go.Proofs.YtinjdacijiohiaaGreatDoor
namespace Go.Proofs.YtinjdacijiohiaaGreatDoor
open _root_.Go.Proofs.Tryz
open Go.RowKit
def Lx (lt:Nat->Nat->Bool) (i j:Nat):Prop:=lt i j=true∨(lt j i=false∧i<j)
structure Swo (lt:Nat->Nat->Bool):Prop where
 asym:∀ i j,lt i j=true->lt j i=false
 trans:∀ i j k,lt j i=false->lt k j=false->lt k i=false
section
variable {lt:Nat->Nat->Bool} (h:Swo lt)
include h
theorem Lx.le {i j:Nat} (h1:Lx lt i j):lt j i=false:=by
 rcases h1 with h1 | h1
 ·exact h.asym _ _ h1
 ·exact h1.1
theorem Lx.tr {i j k:Nat} (h1:Lx lt i j) (h2:Lx lt j k):Lx lt i k:=by
 have l1:=Lx.le h h1;have l2:=Lx.le h h2;cases hk:lt i k with
 | true=>exact Or.inl hk
 | false=>
  refine Or.inr ⟨h.trans _ _ _ l1 l2,?_⟩;have e1:lt i j=false:=h.trans _ _ _ l2 hk;have e2:lt j k=false:=h.trans _ _ _ hk l1;rcases h1 with h1 | h1
  ·rw[e1] at h1;cases h1
  ·rcases h2 with h2 | h2
   ·rw[e2] at h2;cases h2
   ·omega
theorem Lx.asymm {i j:Nat} (h1:Lx lt i j) (h2:Lx lt j i):i=j:=by
 have l1:=Lx.le h h1;have l2:=Lx.le h h2;rcases h1 with h1 | h1
 ·rw[l2] at h1;cases h1
 ·rcases h2 with h2 | h2
  ·rw[l1] at h2;cases h2
  ·omega
omit h in
theorem Lx.of_not {i j:Nat} (hij:j<i) (hn:lt i j=false):Lx lt j i:=by
 cases hk:lt j i with
 | true=>exact Or.inl hk
 | false=>exact Or.inr ⟨hn,hij⟩
theorem Lx.one {l l':List Nat} (h1:l.Pairwise (Lx lt)) (h2:l'.Pairwise (Lx lt)) (hp:l.Perm l'):l=l':=
 List.Perm.eq_of_pairwise (λa b _ _ k1 k2=>Lx.asymm h k1 k2) h1 h2 hp
end
def sw1 (D:List Nat) (i j:Nat):List Nat:=(D.set i (D.getD j 0)).set j (D.getD i 0)
theorem zgK (D i j):(sw1 D i j).length=D.length:=by simp[sw1]
theorem znM (p q r x y) {i j} (hi:i=p.length) (hj:j=p.length+1+q.length):sw1 (p++x::(q++y::r)) i j=p++y::(q++x::r):=by
 subst hi hj;have h1:(p++x::(q++y::r)).getD p.length 0=x:=by simp
 have h2:(p++x::(q++y::r)).getD (p.length+1+q.length) 0=y:=by
  have:p++x::(q++y::r)=(p++x::q)++y::r:=by simp
  rw[this];have hl:p.length+1+q.length=(p++x::q).length:=by simp;omega
  rw[hl];simp
 unfold sw1;rw[h1,h2];rw[List.set_append_right _ _ (Nat.le_refl _),Nat.sub_self,List.set_cons_zero];have:p++y::(q++y::r)=(p++y::q)++y::r:=by simp
 rw[this,List.set_append_right _ _ (by simp;omega)];rw[show p.length+1+q.length-(p++y::q).length=0 by simp;omega,List.set_cons_zero];simp
def swp (D:List Nat) (a b:Nat):Nat->List Nat
 | 0=>D
 | i+1=>sw1 (swp D a b i) (a+i) (b+i)
theorem zi8 (D:List Nat) (a b:Nat):∀ n,(swp D a b n).length=D.length
 | 0=>rfl
 | n+1=>by rw[swp,zgK,zi8]
theorem znN:∀ (n:Nat) (pre P M Q post:List Nat) {a b:Nat},P.length=n->Q.length=n->a=pre.length->b=pre.length+n+M.length ->
  swp (pre++(P++(M++(Q++post)))) a b n=pre++(Q++(M++(P++post)))
 | 0,pre,P,M,Q,post,a,b,hP,hQ,ha,hb=>by
  rw[List.eq_nil_of_length_eq_zero hP,List.eq_nil_of_length_eq_zero hQ];rfl
 | n+1,pre,P,M,Q,post,a,b,hP,hQ,ha,hb=>by
  obtain⟨P',p,rfl⟩:∃ P' p,P=P'++[p]:=⟨P.dropLast,P.getLast (by intro e;subst e;simp at hP),(List.dropLast_concat_getLast _).symm⟩;obtain⟨Q',q,rfl⟩:∃ Q' q,Q=Q'++[q]:=⟨Q.dropLast,Q.getLast (by intro e;subst e;simp at hQ),(List.dropLast_concat_getLast _).symm⟩;simp only[List.length_append,List.length_singleton,Nat.add_right_cancel_iff] at hP hQ;have h:=znN n pre P' (p::M) Q' (q::post) (a:=a) (b:=b) hP hQ ha (by simp;omega);rw[swp];have e1:pre++(P'++[p]++(M++(Q'++[q]++post)))=pre++(P'++(p::M++(Q'++q::post))):=by simp
  rw[e1,h];have e2:pre++(Q'++(p::M++(P'++q::post)))=(pre++Q')++p::((M++P')++q::post):=by simp
  rw[e2,znM (pre++Q') (M++P') post p q (by simp;omega) (by simp;omega)];simp
section
variable {lt:Nat->Nat->Bool} (h:Swo lt)
include h
theorem zi9 {X Y:List Nat} (hX:X.Pairwise (Lx lt)) (hY:Y.Pairwise (Lx lt)) (hb:∀ x,X.getLast? = some x->∀ y,Y.head? = some y->Lx lt x y):(X++Y).Pairwise (Lx lt):=by
 rw[List.pairwise_append];refine⟨hX,hY,λx hx y hy=>?_⟩;obtain⟨X',l,rfl⟩:∃ X' l,X=X'++[l]:=⟨X.dropLast,X.getLast (by intro e;subst e;cases hx),(List.dropLast_concat_getLast _).symm⟩;obtain⟨f,Y',rfl⟩:∃ f Y',Y=f::Y':=by
  cases Y with
  | nil=>cases hy
  | cons f Y'=>exact⟨f,Y',rfl⟩
 have hlf:=hb l (by simp) f rfl;have h1:x=l∨Lx lt x l:=by
  rcases List.mem_append.1 hx with hx | hx
  ·right;exact(List.pairwise_append.1 hX).2.2 x hx l (by simp)
  ·left;simpa using hx
 have h2:y=f∨Lx lt f y:=by
  rcases List.mem_cons.1 hy with hy | hy
  ·left;exact hy
  ·right;exact(List.pairwise_cons.1 hY).1 y hy
 have h3:Lx lt x f:=by
  rcases h1 with rfl | h1
  ·exact hlf
  ·exact Lx.tr h h1 hlf
 rcases h2 with rfl | h2
 ·exact h3
 ·exact Lx.tr h h3 h2
theorem zhl {X Y:List Nat} {x:Nat} (hXY:(X++Y).Pairwise (Lx lt)) (h1:∀ l,X.getLast? = some l->Lx lt l x) (h2:∀ f,Y.head? = some f->Lx lt x f):(X++x::Y).Pairwise (Lx lt):=by
 obtain⟨hX,hY,hc⟩:=List.pairwise_append.1 hXY;have hxY:(x::Y).Pairwise (Lx lt):=by
  have:=zi9 h (X:=[x]) (Y:=Y) (List.pairwise_singleton _ _) hY (λa ha y hy=>by
   obtain rfl:x=a:=by simpa using ha
   exact h2 y hy)
  simpa using this
 exact zi9 h hX hxY λl hl y hy=>by
  obtain rfl:x=y:=by simpa using hy
  exact h1 l hl
theorem zmM {X1 X2 Y1 Y2:List Nat} (hX:(X1++X2).Pairwise (Lx lt)) (hY:(Y1++Y2).Pairwise (Lx lt))
  (b1:∀ x,X1.getLast? = some x->∀ y,Y2.head? = some y->Lx lt x y) (b2:∀ y,Y1.getLast? = some y->∀ x,X2.head? = some x->Lx lt y x) :
  ∀ u∈X1++Y1,∀ v∈X2++Y2,Lx lt u v:=by
 obtain⟨x1,x2,xc⟩:=List.pairwise_append.1 hX;obtain⟨y1,y2,yc⟩:=List.pairwise_append.1 hY;have p:=(List.pairwise_append.1 (zi9 h x1 y2 b1)).2.2;have q:=(List.pairwise_append.1 (zi9 h y1 x2 b2)).2.2;intro u hu v hv;rcases List.mem_append.1 hu with hu | hu <;> rcases List.mem_append.1 hv with hv | hv
 ·exact xc u hu v hv
 ·exact p u hu v hv
 ·exact q u hu v hv
 ·exact yc u hu v hv
end
def seg (D:List Nat) (a b:Nat):List Nat:=(D.take b).drop a
theorem zbw {D a b} (hb:b<=D.length):(seg D a b).length=b-a:=by simp[seg];omega
theorem zfE {D a b} (hab:a<=b):D=D.take a++(seg D a b++D.drop b):=by
 unfold seg;have h1:D.take a=(D.take b).take a:=by rw[List.take_take,Nat.min_eq_left hab]
 rw[h1,<-List.append_assoc,List.take_append_drop,List.take_append_drop]
theorem zhm {pre Z post a b} (ha:a=pre.length) (hb:b=pre.length+Z.length):seg (pre++(Z++post)) a b=Z:=by
 subst ha hb;unfold seg;rw[<-List.append_assoc,List.take_append_of_le_length (by simp),show pre.length+Z.length=(pre++Z).length by simp,List.take_length,List.drop_left]
theorem zaL {D a m b} (h1:a<=m) (h2:m<=b):seg D a b=seg D a m++seg D m b:=by
 unfold seg;have e1:D.take m=(D.take b).take m:=by rw[List.take_take,Nat.min_eq_left h2]
 rw[e1];generalize D.take b=E;have:E.drop a=((E.take m).drop a)++E.drop m:=by
  conv=>lhs;rw[<-List.take_append_drop m E]
  rw[List.drop_append];by_cases hm:m<=E.length
  ·rw[show a-(E.take m).length=0 by simp;omega];rfl
  ·rw[List.drop_eq_nil_of_le (show E.length<=m by omega)];simp
 exact this
def Srt (lt:Nat->Nat->Bool) (D:List Nat) (a b:Nat):Prop:=(seg D a b).Perm (List.range' a (b-a))∧(seg D a b).Pairwise (Lx lt)
def zjQ (lt:Nat->Nat->Bool) (i:Nat):List Nat->List Nat
 | []=>[i]
 | x::l=>if lt i x then i::x::l else x::zjQ lt i l
def zci (lt:Nat->Nat->Bool):Nat->List Nat
 | 0=>[]
 | n+1=>zjQ lt n (zci lt n)
theorem zfF (lt:Nat->Nat->Bool) (i:Nat):∀ l,(zjQ lt i l).Perm (i::l)
 | []=>List.Perm.refl _
 | x::l=>by
  unfold zjQ;split
  ·exact List.Perm.refl _
  ·exact(List.Perm.cons x (zfF lt i l)).trans (List.Perm.swap i x l)
section
variable {lt:Nat->Nat->Bool} (h:Swo lt)
include h
theorem zh2 {i:Nat} : ∀ {l:List Nat},(∀ x∈l,x<i)->l.Pairwise (Lx lt)->(zjQ lt i l).Pairwise (Lx lt)
 | [],_,_=>List.pairwise_singleton _ _
 | x::l,hl,hs=>by
  obtain⟨h1,h2⟩:=List.pairwise_cons.1 hs;unfold zjQ;split
  ·rename_i hi;refine List.pairwise_cons.2 ⟨λy hy=>?_,hs⟩;rcases List.mem_cons.1 hy with rfl | hy
   ·exact Or.inl hi
   ·exact Lx.tr h (Or.inl hi) (h1 y hy)
  ·rename_i hi;have hi:lt i x=false:=by simpa using hi
   refine List.pairwise_cons.2 ⟨λy hy=>?_,zh2 (λy hy=>hl y (List.mem_cons_of_mem _ hy)) h2⟩;rcases List.mem_cons.1 ((zfF lt i l).mem_iff.1 hy) with rfl | hy
   ·exact Lx.of_not (hl x (by simp)) hi
   ·exact h1 y hy
theorem zeV:∀ n,(zci lt n).Perm (List.range n)∧(zci lt n).Pairwise (Lx lt)
 | 0=>⟨List.Perm.refl _,List.Pairwise.nil⟩
 | n+1=>by
  obtain⟨p,s⟩:=zeV n;refine⟨?_,zh2 h (λx hx=>by have:=p.mem_iff.1 hx;simpa using this) s⟩;rw[List.range_succ];exact(zfF lt n _).trans ((List.Perm.cons n p).trans (List.perm_append_singleton n _).symm)
theorem zqp {n:Nat} {l:List Nat} (hp:l.Perm (List.range n)) (hs:l.Pairwise (Lx lt)):l=zci lt n:=
 Lx.one h hs (zeV h n).2 (hp.trans (zeV h n).1.symm)
end
theorem zhn (lt:Nat->Nat->Bool):∀ n,(zci lt n).length=n
 | 0=>rfl
 | n+1=>by
  have:=(zfF lt n (zci lt n)).length_eq;rw[List.length_cons,zhn lt n] at this;exact this
end Go.Proofs.YtinjdacijiohiaaGreatDoor
namespace Go.Proofs.YtinjdacijiohiaaGreatDoor
open _root_.Go.Proofs.Tryz
open Go.RowKit NM
theorem zb1 {l:List Nm} {k} (h:k<l.length) {d} : l.getD k d=l[k]:=by rw[List.getD_eq_getElem?_getD,List.getElem?_eq_getElem h];rfl
theorem ztu {l:List Nm} {k} (h:l.length<=k) {d} : l.getD k d=d:=by rw[List.getD_eq_getElem?_getD,List.getElem?_eq_none h];rfl
def scN (p:Nm):Int:=sc p.1 p.2
def leN (a b:Nm):Bool:=decide (scN a<=scN b)
def zZ (l:List Nm):List Nm:=l.mergeSort leN
def atN (l:List Nm) (k:Nat):Nm:=l.getD k (0,0)
theorem zcr (l):(zZ l).Perm l:=List.mergeSort_perm l leN
theorem zho (l):(zZ l).Pairwise (λa b=>scN a<=scN b):=by
 have h:=List.pairwise_mergeSort (le:=leN) (λa b c h1 h2=>by simp only[leN,decide_eq_true_eq] at *;omega) (λa b=>by simp only[leN,Bool.or_eq_true,decide_eq_true_eq];omega) l;exact h.imp λh=>of_decide_eq_true h
theorem zc1 (l):(zZ l).length=l.length:=(zcr l).length_eq
theorem ziu {l l'} (hr:NRt l) (hp:l'.Perm l) (hs:l'.Pairwise (λa b=>scN a<=scN b)):l'=zZ l:=
 List.Perm.eq_of_pairwise (λa b ha hb h1 h2=>by
  have ra:=hr a (hp.mem_iff.1 ha)
  have rb:=hr b ((zcr l).mem_iff.1 hb)
  obtain⟨e1,e2⟩:=zjJ ra rb (Int.le_antisymm h1 h2)
  exact Prod.ext e1 e2) hs (zho l) (hp.trans (zcr l).symm)
theorem zsb {l l'} (hr:NRt l) (hp:l'.Perm l) (hs:l'.Pairwise (λa b=>scN b<=scN a)):l'=(zZ l).reverse:=by
 have h:=ziu hr ((List.reverse_perm l').trans hp) (List.pairwise_reverse.2 hs);rw[<-h,List.reverse_reverse]
theorem zmc {l l'} (hr:NRt l) (hp:l'.Perm l):NRt l':=λp h=>hr p (hp.mem_iff.1 h)
theorem zfo {l} (hr:NRt l) (k):Rt (atN l k).1 (atN l k).2:=by
 unfold atN;by_cases h:k<l.length
 ·rw[zb1 h];exact hr _ (List.getElem_mem h)
 ·rw[ztu (by omega)];exact Or.inl ⟨rfl,rfl⟩
theorem zfp {l} (hr:NRt l):NRt (zZ l):=zmc hr (zcr l)
def zdl (great:Bool) (l:List Nm):List Nm:=if great then(zZ l).reverse else zZ l
theorem znO {l} (great) (hr:NRt l):NRt (zdl great l):=by
 unfold zdl;split
 ·exact zmc (zfp hr) (List.reverse_perm _)
 ·exact zfp hr
def zgL (great:Bool) (xs:List Ar):NA:=
 if ffL (zI xs 0).l=0 then
  (if(zal (zaR xs 1)).2=0 then
   (if(zal (zaR xs 1)).1<1∨((zu (zI xs 0).l).length:Int)<(zal (zaR xs 1)).1 then zT 5
   else zaj (nV (atN (zdl great (zu (zI xs 0).l)) ((zal (zaR xs 1)).1-1).toNat)))
  else zT (zal (zaR xs 1)).2)
 else zT (ffL (zI xs 0).l)
def medV (l:List Nm):Val:=
 if l.length=0 then zz 5
 else if l.length%2=1 then nV (atN (zZ l) (l.length/2))
 else match addS (atN (zZ l) (l.length/2-1)).1 (atN (zZ l) (l.length/2-1)).2 (atN (zZ l) (l.length/2)).1 (atN (zZ l) (l.length/2)).2 with
  | none=>zz 5
  | some t=>zo (divS t.1 t.2 2 0)
theorem zhp:∀ (l:List Nm) (f:Nm),Rt f.1 f.2->NRt l->zcw (-1) f l∈f::l∧∀ x∈f::l,scN (zcw (-1) f l)<=scN x
 | [],f,_,_=>⟨List.mem_singleton.2 rfl,λx hx=>by rw[List.mem_singleton.1 hx];exact Int.le_refl _⟩
 | n::l,f,hf,hl=>by
  have hn:=hl n List.mem_cons_self;have hl':NRt l:=λp hp=>hl p (List.mem_cons_of_mem _ hp);have hc:=zg6 hn hf;unfold zcw;by_cases h:zat n.1 n.2 f.1 f.2=-1
  ·rw[if_pos h];rw[hc] at h;have h1:=Int.neg_of_sign_eq_neg_one h;obtain⟨m1,m2⟩:=zhp l n hn hl';refine⟨List.mem_cons_of_mem _ m1,λx hx=>?_⟩;rcases List.mem_cons.1 hx with rfl | hx
   ·have:=m2 n List.mem_cons_self;show _<=sc x.1 x.2;have e:scN n=sc n.1 n.2:=rfl;omega
   ·exact m2 x hx
  ·rw[if_neg h];have h1:¬ (sc n.1 n.2-sc f.1 f.2)<0:=λh2=>h (by rw[hc];exact Int.sign_eq_neg_one_of_neg h2);obtain⟨m1,m2⟩:=zhp l f hf hl';refine⟨?_,λx hx=>?_⟩
   ·rcases List.mem_cons.1 m1 with e | m1
    ·rw[e];exact List.mem_cons_self
    ·exact List.mem_cons_of_mem _ (List.mem_cons_of_mem _ m1)
   ·rcases List.mem_cons.1 hx with rfl | hx
    ·exact m2 x List.mem_cons_self
    ·rcases List.mem_cons.1 hx with rfl | hx
     ·have:=m2 f List.mem_cons_self;have e:scN f=sc f.1 f.2:=rfl;show _<=sc x.1 x.2;omega
     ·exact m2 x (List.mem_cons_of_mem _ hx)
theorem ziv:∀ (l:List Nm) (f:Nm),Rt f.1 f.2->NRt l->zcw 1 f l∈f::l∧∀ x∈f::l,scN x<=scN (zcw 1 f l)
 | [],f,_,_=>⟨List.mem_singleton.2 rfl,λx hx=>by rw[List.mem_singleton.1 hx];exact Int.le_refl _⟩
 | n::l,f,hf,hl=>by
  have hn:=hl n List.mem_cons_self;have hl':NRt l:=λp hp=>hl p (List.mem_cons_of_mem _ hp);have hc:=zg6 hn hf;unfold zcw;by_cases h:zat n.1 n.2 f.1 f.2=1
  ·rw[if_pos h];rw[hc] at h;have h1:=Int.pos_of_sign_eq_one h;obtain⟨m1,m2⟩:=ziv l n hn hl';refine⟨List.mem_cons_of_mem _ m1,λx hx=>?_⟩;rcases List.mem_cons.1 hx with rfl | hx
   ·have:=m2 n List.mem_cons_self;show sc x.1 x.2<=_;have e:scN n=sc n.1 n.2:=rfl;omega
   ·exact m2 x hx
  ·rw[if_neg h];have h1:¬ 0<(sc n.1 n.2-sc f.1 f.2):=λh2=>h (by rw[hc];exact Int.sign_eq_one_of_pos h2);obtain⟨m1,m2⟩:=ziv l f hf hl';refine⟨?_,λx hx=>?_⟩
   ·rcases List.mem_cons.1 m1 with e | m1
    ·rw[e];exact List.mem_cons_self
    ·exact List.mem_cons_of_mem _ (List.mem_cons_of_mem _ m1)
   ·rcases List.mem_cons.1 hx with rfl | hx
    ·exact m2 x List.mem_cons_self
    ·rcases List.mem_cons.1 hx with rfl | hx
     ·have:=m2 f List.mem_cons_self;have e:scN f=sc f.1 f.2:=rfl;show sc x.1 x.2<=_;omega
     ·exact m2 x (List.mem_cons_of_mem _ hx)
theorem znP {l k} (h:k<l.length):atN l k∈l:=by unfold atN;rw[zb1 h];exact List.getElem_mem h
theorem zoO {l} (h:l.Pairwise (λa b=>scN a<=scN b)) {i j} (hij:i<=j) (hj:j<l.length):scN (atN l i)<=scN (atN l j):=by
 unfold atN;rw[zb1 hj,zb1 (by omega)];rcases Nat.lt_or_ge i j with h1 | h1
 ·exact List.pairwise_iff_getElem.1 h i j (by omega) hj h1
 ·obtain rfl:i=j:=by omega
  exact Int.le_refl _
theorem zsz {a b} (ha:Rt a.1 a.2) (hb:Rt b.1 b.2) (h:scN a=scN b):a=b:=by
 obtain⟨e1,e2⟩:=zjJ ha hb h;exact Prod.ext e1 e2
theorem zqq {l x} (h:x∈l):∃ i,i<l.length∧atN l i=x:=by
 obtain⟨i,hi,rfl⟩:=List.mem_iff_getElem.1 h;exact⟨i,hi,by unfold atN;rw[zb1 hi]⟩
theorem zoP {l} (hr:NRt l) (h0:0<l.length):zbL (-1) l=nV (atN (zZ l) 0):=by
 cases l with
 | nil=>simp at h0
 | cons n l=>
  show nV (zcw (-1) n (n::l))=_;obtain⟨m1,m2⟩:=zhp (n::l) n (hr n List.mem_cons_self) hr;have m3:zcw (-1) n (n::l)∈n::l:=by
   rcases List.mem_cons.1 m1 with e | m1
   ·rw[e];exact List.mem_cons_self
   ·exact m1
  have hz:atN (zZ (n::l)) 0∈n::l:=(zcr _).mem_iff.1 (znP (by rw[zc1];exact h0));obtain⟨i,hi,e⟩:=zqq ((zcr (n::l)).mem_iff.2 m3);have h1:=zoO (zho (n::l)) (Nat.zero_le i) hi;rw[e] at h1;rw[zsz (hr _ m3) (hr _ hz) (Int.le_antisymm (m2 _ (List.mem_cons_of_mem _ hz)) h1)]
theorem zqr {l} (hr:NRt l) (h0:0<l.length):zbL 1 l=nV (atN (zZ l) (l.length-1)):=by
 cases l with
 | nil=>simp at h0
 | cons n l=>
  show nV (zcw 1 n (n::l))=_;obtain⟨m1,m2⟩:=ziv (n::l) n (hr n List.mem_cons_self) hr;have m3:zcw 1 n (n::l)∈n::l:=by
   rcases List.mem_cons.1 m1 with e | m1
   ·rw[e];exact List.mem_cons_self
   ·exact m1
  have hz:atN (zZ (n::l)) ((n::l).length-1)∈n::l:=(zcr _).mem_iff.1 (znP (by rw[zc1];omega));obtain⟨i,hi,e⟩:=zqq ((zcr (n::l)).mem_iff.2 m3);rw[zc1] at hi;have h1:=zoO (zho (n::l)) (i:=i) (j:=(n::l).length-1) (by omega) (by rw[zc1];omega);rw[e] at h1;rw[zsz (hr _ m3) (hr _ hz) (Int.le_antisymm h1 (m2 _ (List.mem_cons_of_mem _ hz)))]
theorem zuJ {l k} (h:k<l.length):atN l.reverse k=atN l (l.length-1-k):=by
 unfold atN;rw[zb1 (by rw[List.length_reverse];exact h),zb1 (by omega),List.getElem_reverse]
def ltN (great:Bool) (l:List Nm) (i j:Nat):Bool:=if great then decide (scN (atN l j)<scN (atN l i)) else decide (scN (atN l i)<scN (atN l j))
theorem zhN (great l):Swo (ltN great l):=by
 cases great <;> constructor <;> (intros;simp only[ltN,if_true,if_false,Bool.false_eq_true,decide_eq_true_eq,decide_eq_false_iff_not] at *;omega)
theorem zqs (l):(List.range l.length).map (atN l)=l:=by
 apply List.ext_getElem
 ·simp
 ·intro i h1 h2;rw[List.getElem_map,List.getElem_range];unfold atN;rw[zb1 h2]
theorem zqt {great l} (hr:NRt l):(zci (ltN great l) l.length).map (atN l)=zdl great l:=by
 obtain⟨hp,hs⟩:=zeV (lt:=ltN great l) (zhN great l) l.length;have hp2:((zci (ltN great l) l.length).map (atN l)).Perm l:=by
  have:=hp.map (atN l);rwa[zqs] at this
 cases great with
 | false=>
  refine ziu hr hp2 (List.pairwise_map.2 (hs.imp fun {i j} h=>?_));have:=Lx.le (zhN false l) h;simp only[ltN,Bool.false_eq_true,if_false,decide_eq_false_iff_not] at this;omega
 | true=>
  refine zsb hr hp2 (List.pairwise_map.2 (hs.imp fun {i j} h=>?_));have:=Lx.le (zhN true l) h;simp only[ltN,if_true,decide_eq_false_iff_not] at this;omega
def ziw (s:List Nm) (x:Nm) (k:Nat):List Nm:=s.take k++x::s.drop k
theorem znQ {l x k} (hr:NRt (l++[x])) (h1:∀ i,i<k->scN (atN (zZ l) i)<=scN x) (h2:k<(zZ l).length->scN x<scN (atN (zZ l) k)):ziw (zZ l) x k=zZ (l++[x]):=by
 have hu:=zho l;have hcat:(zZ l).take k++(zZ l).drop k=zZ l:=List.take_append_drop k _;refine ziu hr ?_ ?_
 ·unfold ziw;refine List.perm_middle.trans ?_;rw[hcat];exact((zcr l).cons x).trans (List.perm_append_singleton x l).symm
 ·rw[<-hcat] at hu;obtain⟨u1,u2,u3⟩:=List.pairwise_append.1 hu;have hlo:∀ a∈(zZ l).take k,scN a<=scN x:=λa ha=>by
   obtain⟨i,hi,rfl⟩:=List.mem_iff_getElem.1 ha;rw[List.length_take] at hi;have:=h1 i (by omega);unfold atN at this;rw[zb1 (by omega)] at this;rw[List.getElem_take];exact this
  have hhi:∀ b∈(zZ l).drop k,scN x<=scN b:=λb hb=>by
   obtain⟨i,hi,rfl⟩:=List.mem_iff_getElem.1 hb;rw[List.length_drop] at hi;have g:=h2 (by omega);have:=zoO (zho l) (i:=k) (j:=k+i) (by omega) (by omega);rw[List.getElem_drop];unfold atN at this g;rw[zb1 (by omega)] at g;rw[zb1 (by omega),zb1 (by omega)] at this;omega
  unfold ziw;refine List.pairwise_append.2 ⟨u1,List.pairwise_cons.2 ⟨hhi,u2⟩,λa ha b hb=>?_⟩;rcases List.mem_cons.1 hb with rfl | hb
  ·exact hlo a ha
  ·exact u3 a ha b hb
theorem zmd {W w ops rest o a Q} (hgd:o.guard=none) (s x) (ho:o.op = .call { callee:=.builtin .append,args:=#[s,x],argTypes:=#[62,62] }) (v olds) (hs:a.eval s=v) (hx:Ext W w) (hv:Nms W.heap.size w v olds) (B m c news) (hxe:a.eval x = .slice B m c) (hm:news.length=m) (hB:Rd 0 w B (zN news)) (b1:olds.length+m<=10000000) (h:∀ v' w',Nms W.heap.size w' v' (olds++news)->Ext W w'->wpList prog ops Q rest (a.put o.dst v') w'):wpList prog ops Q (o::rest) a w:=by
 obtain⟨i0,hi0,hz0,hz1,hz2⟩:=info_parts zdK;by_cases h0:m=0
 ·subst h0;obtain rfl:news=[]:=List.eq_nil_of_length_eq_zero hm;have hv':=hv;obtain⟨A,c',rfl,hrd,hc⟩:=Rd.of_own hv';have hr:=zfJ (P:=prog) w 62 o.type 36 i0 Tryz.underlying62 hi0 A olds.length c' B c hc;refine wpList_plain hgd λK hK=>?_;unfold Oper.wp execOp;simp only[ho,resolve,invoke,builtin,Sem.run_bind,Sem.run_pure,Result.andThen_ok,List.map_toArray,List.map_cons,List.map_nil,hs,hxe,hr];exact hK _ _ (h _ w (by rw[List.append_nil];exact hv) hx)
 ·obtain⟨b,off,rfl,_⟩:=hB 0 (zN news)[0]! (by
   have:0<(zN news).length:=by rw[zcS];omega
   rw[List.getElem?_eq_getElem this];simp[this])
  refine wpList_append_own w hgd s x _ ho W.heap.size 36 i0 (NV 0 0) 2 16 Tryz.underlying62 hi0 hz0 hz1 hz2 rfl (by decide) v olds.length (zN olds) hs hv ⟨b,off,none⟩ m c (zN news) hxe (by rw[zcS,hm]) hB.add (zcf _) (by simp only[maxLen];omega) (by omega) hx.size λv' w' h2 h3 _=>?_;refine h v' w' ?_ (za2 hx hv h3);show World.ownsRow _ _ _ _ _ _ _;rw[za0,List.length_append,hm];exact h2
theorem Nms.ext {base w w' v l} (h:Nms base w v l) (hx:Ext w w'):Nms base w' v l:=zL h hx
theorem Nms.form {base w v l} (h:Nms base w v l):∃ A c,v = .slice A l.length c∧Rd base w A (zN l)∧l.length<=c∧(A=none∧l.length=0∧c=0∨∃ g,A=some ⟨g,0,none⟩):=by
 obtain⟨A,c,hv,hrd,hc⟩:=Rd.of_own h;refine⟨A,c,hv,hrd,hc,?_⟩;rcases h.2 with⟨h1,h2⟩ | ⟨g,cap,cur,h1,_⟩
 ·rw[hv] at h1;injection h1 with e1 e2 e3;exact .inl ⟨e1,h2,e3⟩
 ·rw[hv] at h1;injection h1 with e1;exact .inr ⟨g,e1⟩
theorem zja (l j k u) (h:(zN (l.drop j))[k]? = some u):(zN l)[j*2+k]? = some u:=by
 have e:zN l=zN (l.take j)++zN (l.drop j):=by rw[<-za0,List.take_append_drop]
 have hl:j<=l.length:=by
  rcases Nat.lt_or_ge l.length j with hl | hl
  ·rw[List.drop_eq_nil_of_le (by omega)] at h;simp[zN] at h
  ·exact hl
 rw[e,List.getElem?_append_right (by rw[zcS,List.length_take];omega),zcS,List.length_take,Nat.min_eq_left hl];rw[show j*2+k-j*2=k by omega];exact h
theorem ztv {base w A l} (h:Rd base w A (zN l)) (j):Rd 0 w A (zN (l.take j)):=λk u hu=>by
 have e:zN l=zN (l.take j)++zN (l.drop j):=by rw[<-za0,List.take_append_drop]
 obtain⟨b,off,hA,_,hv⟩:=h k u (by rw[e,List.getElem?_append_left (List.getElem?_eq_some_iff.1 hu).1];exact hu);exact⟨b,off,hA,Nat.zero_le _,hv⟩
theorem znR {base b off w l} (h:Rd base w (some ⟨b,off,none⟩) (zN l)) (j):Rd 0 w (some ⟨b,off+j*2,none⟩) (zN (l.drop j)):=λk u hu=>by
 obtain⟨b',off',hA,_,hv⟩:=h (j*2+k) u (zja l j k u hu);obtain⟨rfl,rfl⟩:=aI hA;exact⟨b,off+j*2,rfl,Nat.zero_le _,by rw[Nat.add_assoc];exact hv⟩
theorem zsc {base b w l} (h:Rd base w (some ⟨b,0,none⟩) (zN l)) (j):Rd 0 w (some ⟨b,j*2,none⟩) (zN (l.drop j)):=by
 have:=znR h j;rwa[Nat.zero_add] at this
theorem zsd {base w l} (h:Rd base w none (zN l)) (j):Rd 0 w none (zN (l.drop j)):=λk u hu=>by
 obtain⟨_,_,e,_⟩:=h (j*2+k) u (zja l j k u hu);cases e
theorem zse {w A} {l:List Nm} {j k} (h:(l.drop j).length=k) (h0:k=0):Rd 0 w A (zN (l.drop j)):=by
 rw[List.eq_nil_of_length_eq_zero (h.trans h0)];exact Rd.nil _ _ _
theorem ztw {base base' w v l} (h:Nms base w v l) (hb:base'<=base):Nms base' w v l:=
 ⟨h.1,h.2.imp id fun⟨g,cap,cur,hv,hg,r⟩=>⟨g,cap,cur,hv,Nat.le_trans hb hg,r⟩⟩
theorem ztx:zZ []=[]:=List.perm_nil.1 (zcr [])
theorem zmN (A n cap l w) (h:NmIn w A n cap l) (hn:n<=1000000) :
  Calls prog 79 #[.slice A n cap] w λe w'=>∃ v,e = .returned v∧Nms w.heap.size w' v (zZ l)∧Ext w w':=by
 obtain⟨i0,hi0,hz0,hz1,hz2⟩:=info_parts zdK;have H:=Lib.hid h;have HL:=Lib.hid h.len;have HR:=Lib.hid (show NRt l from h.rt);have hsm:=h.small;have hcap:=h.cap;clear h;go_enter func79,ntmps79;go_wp2_with fail;go_loopw [3,4] (λv i wr=>∃ k:Nat,k<=n∧i = .int .i64 (k:Int)∧Hid (Nms w.heap.size wr v (zZ (l.take k)))∧Ext w wr) (λ_ i _=>n-(intOf i).toNat)
 case atStart=>exact⟨0,Nat.zero_le _,rfl,by show Nms _ _ _ _;rw[List.take_zero,ztx];exact World.ownsRow_nil _ _ _ _,Ext.refl _⟩
 case round=>
  obtain⟨k,hk,rfl,HW,hxr⟩:=hrel;have hsz:=hxr.size;by_cases hlt:k<n
  ·obtain⟨p,b,off,hp,hpr,rfl,c0,c1⟩:=H.out.at hlt;obtain⟨pm,pe⟩:=p;replace c0:=hxr.cell_some c0;replace c1:=hxr.cell_some c1;have hbl:=za c0;simp only at c0 c1 hpr;have HTK:=Lib.hid (show l.take (k+1)=l.take k++[(pm,pe)] by rw[List.take_add_one,hp];rfl);have HNR:Hid (NRt (l.take k++[(pm,pe)])):=λq hq=>HR.out q (List.mem_of_mem_take (by rw[HTK.out];exact hq));have hls:(zZ (l.take k)).length=k:=by rw[zc1,List.length_take,HL.out];omega
   have hrs:NRt (zZ (l.take k)):=zfp λq hq=>HR.out q (List.mem_of_mem_take hq);generalize hS:zZ (l.take k)=S at *;have HS:=Lib.hid hS;have hown:=HW.out;obtain⟨D,c,rfl,hrd,hc,hform⟩:=hown.form;have HRD:=Lib.hid hrd;have HLS:=Lib.hid hls;rw[hls] at hc HW hform;have HF:=Lib.hid hform;have HRS:=Lib.hid hrs;clear hS hown hrd hls hrs hp hform;go_wp2_with fail;go_loopw [5] (λs wx=>∃ j:Nat,j<=k∧s = .int .i64 (j:Int)∧Hid (∀ i,i<j->scN (atN S i)<=scN (pm,pe))∧Ext wr wx) (λs _=>k-(intOf s).toNat)
   case atStart=>exact⟨0,Nat.zero_le _,rfl,λi hi=>by omega,Ext.refl _⟩
   case round=>
    obtain⟨j,hj,rfl,HJ,hxx⟩:=hrel;replace c0:=hxx.cell_some c0;replace c1:=hxx.cell_some c1;replace hbl:=za c0;have hlt':(k:Int)<n:=by omega
    by_cases hjk:j<k
    focus
     obtain⟨q,hq⟩:∃ q,S[j]? = some q:=⟨_,List.getElem?_eq_getElem (by rw[HLS.out];exact hjk)⟩;obtain⟨qm,qe⟩:=q;have hqr:Rt qm qe:=HRS.out _ (List.mem_of_getElem? hq);have hqa:atN S j=(qm,qe):=by unfold atN;rw[List.getD_eq_getElem?_getD,hq];rfl
     obtain⟨e0,e1⟩:=zfA _ _ _ hq;obtain⟨g,o,hD,_,d0⟩:=HRD.out _ _ e0;obtain⟨g',o',hD',_,d1⟩:=HRD.out _ _ e1;rw[hD] at hD';simp only[Option.some.injEq,Addr.mk.injEq,and_true] at hD';obtain⟨rfl,rfl⟩:=hD';subst hD;replace d0:=hxx.cell_some d0;replace d1:=hxx.cell_some d1;rw[<-Nat.add_assoc] at d1;have hgl:=za d0;have hcm:=λW=>ze9 qm qe pm pe W (zF hqr) (zF hpr);have hle:=Lib.hid (ztY hqr hpr);have HQ:=Lib.hid hqa;generalize zat qm qe pm pe=z at *;rw[HLS.out];clear hq hqa e0 e1;by_cases hz:z<=0
     ·go_upto_region 6 with fail;refine plP [(0,0),(1,0),(2,0),(3,0),(4,0),(5,0),(6,0),(7,0),(8,0),(9,0),(10,0),(11,0),(12,0),(13,1),(14,0),(15,0)] [] (by kernel_rfl) (λ_ _ d _ _ h=>by cases d <;> exact h) ?_;iterate 13((first | refine zaM rfl rfl ?_ | (apply rdP rfl rfl;(intros;go_simp;first | done | rfl)) | (refine zaA (v:=?_) (c:=?_) rfl rfl rfl rfl ?_ (λhc w1 h1=>?_) ?_;rotate_left 2;(first | exact zaO _ | exact zaP _ | exact zaq _ _ | exact zar _ _);(obtain⟨os1,d1,rfl⟩:=h1.more;(try simp only[zv hc]);(try(have hc1:=zO hc;(try simp only[zv hc1]);(try(have hc2:=zO hc1;(try simp only[zv hc2])))));go_simp;first | done | rfl)));try simp only[zq])
      (refine zg rfl ?_ (λK hK=>?_);(first | with_reducible rfl | rfl | (go_simp;done));go_simp;refine aM (hcm _) λos3 d3=>?_;refine hK _ _ ?_ ?_;(simp[go_sem]))
      try simp only[zq]
      iterate 2((first | refine zaM rfl rfl ?_ | refine zaZ rfl rfl rfl rfl rfl rfl ?_ | refine zbb rfl rfl rfl rfl rfl rfl ?_ | (apply rdP rfl rfl;(intros;go_simp;first | done | rfl)) | (refine zaA (v:=?_) (c:=?_) rfl rfl rfl rfl ?_ (λhc w1 h1=>?_) ?_;rotate_left 2;(first | exact zaO _ | exact zaP _ | exact zaq _ _ | exact zar _ _);(obtain⟨os1,d1,rfl⟩:=h1.more;(try simp only[zv hc]);(try(have hc1:=zO hc;(try simp only[zv hc1]);(try(have hc2:=zO hc1;(try simp only[zv hc2])))));go_simp;first | done | rfl)));try simp only[zq])
      refine zi ?_;go_wp2_with fail;refine⟨⟨j+1,by omega,by go_num,λi hi=>?_,hxx.trans (by simp[go_sem])⟩,by simp[intOf];omega⟩;by_cases e:i=j
      ·subst e;rw[HQ.out];exact hle.out.1 hz
      ·exact HJ.out i (by omega)
     go_upto_region 6 with fail;refine plP [(0,0),(1,0),(2,0),(3,0),(4,0),(5,0),(6,0),(7,0),(8,0),(9,0),(10,0),(11,0),(12,0),(13,1),(14,0),(15,0)] [] (by kernel_rfl) (λ_ _ d _ _ h=>by cases d <;> exact h) ?_;iterate 13((first | refine zaM rfl rfl ?_ | (apply rdP rfl rfl;(intros;go_simp;first | done | rfl)) | (refine zaA (v:=?_) (c:=?_) rfl rfl rfl rfl ?_ (λhc w1 h1=>?_) ?_;rotate_left 2;(first | exact zaO _ | exact zaP _ | exact zaq _ _ | exact zar _ _);(obtain⟨os1,d1,rfl⟩:=h1.more;(try simp only[zv hc]);(try(have hc1:=zO hc;(try simp only[zv hc1]);(try(have hc2:=zO hc1;(try simp only[zv hc2])))));go_simp;first | done | rfl)));try simp only[zq])
     (refine zg rfl ?_ (λK hK=>?_);(first | with_reducible rfl | rfl | (go_simp;done));go_simp;refine aM (hcm _) λos3 d3=>?_;refine hK _ _ ?_ ?_;(simp[go_sem]))
     try simp only[zq]
     iterate 2((first | refine zaM rfl rfl ?_ | refine zaZ rfl rfl rfl rfl rfl rfl ?_ | refine zbb rfl rfl rfl rfl rfl rfl ?_ | (apply rdP rfl rfl;(intros;go_simp;first | done | rfl)) | (refine zaA (v:=?_) (c:=?_) rfl rfl rfl rfl ?_ (λhc w1 h1=>?_) ?_;rotate_left 2;(first | exact zaO _ | exact zaP _ | exact zaq _ _ | exact zar _ _);(obtain⟨os1,d1,rfl⟩:=h1.more;(try simp only[zv hc]);(try(have hc1:=zO hc;(try simp only[zv hc1]);(try(have hc2:=zO hc1;(try simp only[zv hc2])))));go_simp;first | done | rfl)));try simp only[zq])
     refine zi ?_;have HT:Hid (ziw S (pm,pe) j=zZ (l.take (k+1))):=by
      show _=_;rw[HTK.out,<-HS.out];exact znQ HNR.out (by rw[HS.out];exact HJ.out) (λ_=>by rw[HS.out,HQ.out];show sc pm pe<sc qm qe;have:=hle.out;omega)
     clear d0 d1 hgl hcm hle HQ hz
    rotate_left
    focus
     have hjk':¬ (j:Int)<(k:Int):=by omega
     have HT:Hid (ziw S (pm,pe) j=zZ (l.take (k+1))):=by
      show _=_;rw[HTK.out,<-HS.out];exact znQ HNR.out (by rw[HS.out];exact HJ.out) (λh=>absurd h (by rw[HS.out,HLS.out];exact hjk))
     rw[HLS.out];clear hjk;rcases HF.out with⟨rfl,-⟩ | ⟨g,rfl⟩
     all_goals
      go_upto_region 6 with fail;refine plP [(0,0),(1,0),(2,0),(3,0),(4,0),(5,0),(6,0),(7,0),(8,0),(9,0),(10,0),(11,0),(12,0),(13,1),(14,0),(15,0)] [] (by kernel_rfl) (λ_ _ d _ _ h=>by cases d <;> exact h) ?_;iterate 13((first | refine zaM rfl rfl ?_ | (apply rdP rfl rfl;(intros;go_simp;first | done | rfl)) | (refine zaA (v:=?_) (c:=?_) rfl rfl rfl rfl ?_ (λhc w1 h1=>?_) ?_;rotate_left 2;(first | exact zaO _ | exact zaP _ | exact zaq _ _ | exact zar _ _);(obtain⟨os1,d1,rfl⟩:=h1.more;(try simp only[zv hc]);(try(have hc1:=zO hc;(try simp only[zv hc1]);(try(have hc2:=zO hc1;(try simp only[zv hc2])))));go_simp;first | done | rfl)));try simp only[zq])
      (refine zc7 rfl ?_ ?_ ?_;(first | with_reducible rfl | rfl | (go_simp;done));(simp[go_sem]))
      try simp only[zq]
      iterate 2((first | refine zaM rfl rfl ?_ | refine zaZ rfl rfl rfl rfl rfl rfl ?_ | refine zbb rfl rfl rfl rfl rfl rfl ?_ | (apply rdP rfl rfl;(intros;go_simp;first | done | rfl)) | (refine zaA (v:=?_) (c:=?_) rfl rfl rfl rfl ?_ (λhc w1 h1=>?_) ?_;rotate_left 2;(first | exact zaO _ | exact zaP _ | exact zaq _ _ | exact zar _ _);(obtain⟨os1,d1,rfl⟩:=h1.more;(try simp only[zv hc]);(try(have hc1:=zO hc;(try simp only[zv hc1]);(try(have hc2:=zO hc1;(try simp only[zv hc2])))));go_simp;first | done | rfl)));try simp only[zq])
      refine zi ?_
    all_goals
     go_upto_region 9 with fail;refine zH λU hU=>?_;have hxU:Ext wr U:=by rw[hU];exact(by simp[go_sem])
     clear hU;replace c0:=hxU.cell_some c0;replace c1:=hxU.cell_some c1;have hRU:=Lib.hid ((HRD.out.ext hxx).ext hxU);have hl1:=Lib.hid (show(S.take j).length=j by rw[List.length_take,HLS.out];omega);have hl2:=Lib.hid (show(S.drop j).length=k-j by rw[List.length_drop,HLS.out]);go_upto_region 10 with(at_builtin;(refine zmd (W:=U) rfl _ _ rfl _ [] rfl (by exact(by simp[go_sem])) (World.ownsRow_nil _ _ _ _) _ j _ (S.take j) rfl hl1.out (Rd.ext (ztv hRU.out j) (by exact(by simp[go_sem]))) (by first | omega | (simp;omega)) ?_;intro v1 w1 hv1 hx1));rw[List.nil_append] at hv1;replace c0:=hx1.cell_some c0;replace c1:=hx1.cell_some c1;have hl3:=hl1.out;go_upto_region 11 with(at_builtin;(refine wpList_append_own _ rfl _ _ _ rfl U.heap.size 36 i0 (NV 0 0) 2 16 Tryz.underlying62 hi0 hz0 hz1 hz2 rfl (by decide) _ (S.take j).length (zN (S.take j)) rfl (zL hv1 (by exact(by simp[go_sem]))) _ 1 1 [.int .i64 pm,.int .i64 pe] rfl rfl (zap _ _ _ (by first | rfl | (simp;done)) rfl _) (zcf [(pm,pe)]) (by simp only[maxLen];omega) (by omega) (by have:=hx1.size;first | omega | (simp;omega)) ?_;intro v2 w2 ho2 hg2 _));have hx2:=za2 (hx1.trans (by simp[go_sem])) (zL hv1 (by simp[go_sem])) hg2;have hv2:Nms U.heap.size w2 v2 (S.take j++[(pm,pe)]):=by
      show World.ownsRow _ _ _ _ _ _ _;rw[za0,List.length_append];exact ho2
     clear ho2 hg2 hv1 hx1;have hRT:=Lib.hid (hRU.out.ext hx2);clear hRU;have hl4:=hl2.out;go_wp2_with (at_builtin;(refine zmd (W:=U) rfl _ _ rfl _ (S.take j++[(pm,pe)]) rfl (hx2.trans (by exact(by simp[go_sem]))) (hv2.ext (by exact(by simp[go_sem]))) _ (k-j) _ (S.drop j) rfl hl4 (by first | exact Rd.ext (znR hRT.out j) (by simp[go_sem]) | exact Rd.ext (zsc hRT.out j) (by simp[go_sem]) | exact Rd.ext (zsd hRT.out j) (by simp[go_sem]) | exact zse hl4 (by omega)) (by rw[List.length_append,hl3];show j+1+(k-j)<=_;omega) ?_;intro v3 w3 hv3 hx3));refine⟨⟨k+1,by omega,by go_num,?_,hxr.trans (hxx.trans (hxU.trans (hx3.trans (by simp[go_sem]))))⟩,by simp[intOf];omega⟩;show Nms _ _ _ _;rw[<-HT.out,show ziw S (pm,pe) j=S.take j++[(pm,pe)]++S.drop j by unfold ziw;simp];exact ztw (hv3.ext (by simp[go_sem])) (Nat.le_trans hsz (hxx.trans hxU).size)
  ·obtain rfl:k=n:=by omega
   have htk:l.take k=l:=by rw[<-HL.out];exact List.take_length
   rw[htk] at HW;clear htk;go_wp2_with fail;go_ret;exact⟨_,rfl,HW.out,hxr⟩
theorem zjb {x} (h:x.right):tnF x=0∨(1<=tnF x∧tnF x<=9):=by
 rcases h.form with rfl | ⟨m,e,rfl,hr⟩ | ⟨t,rfl,ht⟩ | ⟨b,rfl⟩ | ⟨f,rfl,hf⟩
 ·left;rfl
 ·left;rfl
 ·unfold tnF;rw[if_pos rfl];cases(zbR t).isSome
  ·right;simp
  ·left;rfl
 ·left;rfl
 ·right;exact hf
theorem zku {x} (h:x.right):(zal x).2=0∨(1<=(zal x).2∧(zal x).2<=9):=by
 unfold zal;split
 ·show(if _ then(0:Int) else 5)=0∨_;split
  ·left;rfl
  ·right;simp
 ·exact zjb h
def zhO:List (List UInt8×(Nm->Nm)):=[([65,66,83],zed),([83,73,71,78],zeO),([73,78,84],zjL)]
theorem zsf {m e} (h:Rt m e):zat m e 0 0<0↔m<0:=by
 rw[zpq h zcY,zpO];exact zte
theorem zqu (s) (f:Nm->Nm) (h:(s,f)∈zhO) (x w) (hx:x.right) (z) (hz:zcJ f x=z) :
  Tl prog 22 #[.string ⟨s.toArray⟩,VV x.kind x.mant x.exp x.text x.truth x.fault] w (VV z.kind z.mant z.exp z.text z.truth z.fault):=by
 have ht:=λW=>zaS x W hx;have hp:=zay hx;have hb:=zjb hx;have hbad:=λf W=>zb6 f W;simp only[tnV] at ht;unfold zcJ at hz;generalize tnP x=p at *;generalize tnF x=g at *;obtain⟨pm,pe⟩:=p;simp only at hp ht;clear hx;simp only[zhO,List.mem_cons,List.not_mem_nil,or_false,Prod.mk.injEq] at h;by_cases hg:g=0
 ·subst hg;rw[if_pos rfl] at hz;subst hz;have hc:=λW=>ze9 pm pe 0 0 W (zF hp) (by unfold I64;omega);have hcs:=zgG pm pe 0 0;have hcz:=zsf hp;have hct:=λW=>zek (zat pm pe 0 0) W hcs;have hsg:zeO (pm,pe)=zl (zat pm pe 0 0):=rfl;generalize zat pm pe 0 0=c at *;rcases h with⟨rfl,rfl⟩ | ⟨rfl,rfl⟩ | ⟨rfl,rfl⟩
  ·by_cases hn:pm<0
   ·have h1:c<0:=hcz.2 hn;have hi:=zF hp;have hw:IntKind.i64.wrap (-pm)=-pm:=by
     rw[IntKind.wrap_i64];have h15:T 15=1000000000000000:=by decide
     rcases hp with⟨h,_⟩ | ⟨_,h,_⟩ <;> omega
    have hnb:=λW=>zaK (-pm) pe W;show Calls _ _ _ w λe w'=>e = .returned (VV 1 (zed (pm,pe)).1 (zed (pm,pe)).2 ⟨#[]⟩ false 0)∧Ext w w';unfold zed;rw[if_pos hn];clear hn hcz hcs hct hsg hp hi hb;go_enter func22,ntmps22;go_wp2_with (first | (go_at_call 64;with_reducible refine aM (ht _) λos1 d1=>?_) | (go_at_call 65;with_reducible refine aM (hc _) λos2 d2=>?_) | (go_at_call 67;(with_reducible refine(hnb _).mono ?_);rintro e w' ⟨rfl,hb⟩;obtain⟨os3,d3,rfl⟩:=hb.more;clear hb));exact rc1 rfl rfl (by simp[go_sem]) ⟨rfl,by simp[go_sem]⟩
   ·have h1:¬ c<0:=λh=>hn (hcz.1 h);have hnb:=λW=>zaK pm pe W;show Calls _ _ _ w λe w'=>e = .returned (VV 1 (zed (pm,pe)).1 (zed (pm,pe)).2 ⟨#[]⟩ false 0)∧Ext w w';unfold zed;rw[if_neg hn];clear hn hcz hcs hct hsg hp hb;go_enter func22,ntmps22;go_wp2_with (first | (go_at_call 64;with_reducible refine aM (ht _) λos1 d1=>?_) | (go_at_call 65;with_reducible refine aM (hc _) λos2 d2=>?_) | (go_at_call 67;(with_reducible refine(hnb _).mono ?_);rintro e w' ⟨rfl,hb⟩;obtain⟨os3,d3,rfl⟩:=hb.more;clear hb));exact rc1 rfl rfl (by simp[go_sem]) ⟨rfl,by simp[go_sem]⟩
  ·show Calls _ _ _ w λe w'=>e = .returned (VV 1 (zeO (pm,pe)).1 (zeO (pm,pe)).2 ⟨#[]⟩ false 0)∧Ext w w';rw[hsg];generalize zl c=q at *;clear hcz hcs hsg hp hb;go_enter func22,ntmps22;go_wp2_with (first | (go_at_call 64;with_reducible refine aM (ht _) λos1 d1=>?_) | (go_at_call 65;with_reducible refine aM (hc _) λos2 d2=>?_) | (go_at_call 66;(with_reducible refine(hct _).mono ?_);rintro e w' ⟨rfl,hb⟩;obtain⟨os3,d3,rfl⟩:=hb.more;clear hb));exact rc1 rfl rfl (by simp[go_sem]) ⟨rfl,by simp[go_sem]⟩
  ·have hfl:=λW=>zgw pm pe W (zF hp);show Calls _ _ _ w λe w'=>e = .returned (VV 1 (zB pm pe).1 (zB pm pe).2 ⟨#[]⟩ false 0)∧Ext w w';generalize zB pm pe=q at *;have hnb:=λW=>zaK q.1 q.2 W;clear hcz hcs hct hsg hp hb;go_enter func22,ntmps22;go_wp2_with (first | (go_at_call 64;with_reducible refine aM (ht _) λos1 d1=>?_) | (go_at_call 65;with_reducible refine aM (hc _) λos2 d2=>?_) | (go_at_call 68;with_reducible refine aM (hfl _) λos3 d3=>?_) | (go_at_call 67;(with_reducible refine(hnb _).mono ?_);rintro e w' ⟨rfl,hb⟩;obtain⟨os4,d4,rfl⟩:=hb.more;clear hb));exact rc1 rfl rfl (by simp[go_sem]) ⟨rfl,by simp[go_sem]⟩
 ·rw[if_neg hg] at hz;subst hz;have hgp:0<g:=by omega
  show Calls _ _ _ w λe w'=>e = .returned (VV 4 0 0 ⟨#[]⟩ false (zE g))∧Ext w w';clear hg hp hb;rcases h with⟨rfl,rfl⟩ | ⟨rfl,rfl⟩ | ⟨rfl,rfl⟩
  all_goals
   go_enter func22,ntmps22;go_wp2_with (first | (go_at_call 64;with_reducible refine aM (ht _) λos1 d1=>?_) | (go_at_call 27;with_reducible refine aM (hbad _ _) λos2 d2=>?_));exact rc1 rfl rfl (by simp[go_sem]) ⟨rfl,by simp[go_sem]⟩
def zeW:List (List UInt8×(Val->Val->Val)):=[([82,79,85,78,68],zee),([77,79,68],modV)]
theorem zqv (s) (t:Val->Val->Val) (h:(s,t)∈zeW) (x y w) (hx:x.right) (hy:y.right) (z) (hz:t x y=z) :
  Tl prog 28 #[.string ⟨s.toArray⟩,VV x.kind x.mant x.exp x.text x.truth x.fault,VV y.kind y.mant y.exp y.text y.truth y.fault] w (VV z.kind z.mant z.exp z.text z.truth z.fault):=by
 have ht:=λW=>zaS x W hx;have hu:=λW=>zaS y W hy;have hp:=zay hx;have hq:=zay hy;have hb:=zjb hx;have hc:=zjb hy;have hwo:=λW=>zi6 y W hy _ rfl;have hwb:=zku hy;have hwi:=zfW hy;have hw0:tnF y≠0->zal y=(0,tnF y):=λhn=>by unfold zal;rw[if_neg hn]
 have hbad:=λf W=>zb6 f W;simp only[tnV] at ht hu;have hrz:t=zee->(if tnF x≠0 then zx (tnF x) else if(zal y).2≠0 then zx (zal y).2 else nV (z8 (tnP x).1 (tnP x).2 (zal y).1))=z:=λe=>by rw[<-hz,e];rfl
 have hmz:t=modV->(if tnF x≠0 then zx (tnF x) else if tnF y≠0 then zx (tnF y) else zhf (tnP x) (tnP y))=z:=λe=>by rw[<-hz,e];rfl
 generalize tnP x=p at *;generalize tnF x=g at *;generalize tnP y=r at *;generalize tnF y=k at *;generalize zal y=o at *;obtain⟨pm,pe⟩:=p;obtain⟨rm',re'⟩:=r;obtain⟨oi,of'⟩:=o;simp only at hp hq ht hu hwo hwb hwi hrz hmz;clear hx hy hz;have hnm:t=zee∨t=modV:=by
  simp only[zeW,List.mem_cons,List.not_mem_nil,or_false,Prod.mk.injEq] at h;rcases h with⟨_,e⟩ | ⟨_,e⟩
  ·exact .inl e
  ·exact .inr e
 by_cases hg:g=0
 ·subst hg;by_cases hk:k=0
  ·subst hk;simp only[zeW,List.mem_cons,List.not_mem_nil,or_false,Prod.mk.injEq] at h;rcases h with⟨rfl,rfl⟩ | ⟨rfl,rfl⟩
   ·have hz:=hrz rfl;rw[if_neg (λh=>h rfl)] at hz;by_cases ho:of'=0
    ·subst ho;rw[if_neg (λh=>h rfl)] at hz;subst hz;have hrd:=λW=>zn4 pm pe oi W (zF hp) hwi;show Calls _ _ _ w λe w'=>e = .returned (VV 1 (z8 pm pe oi).1 (z8 pm pe oi).2 ⟨#[]⟩ false 0)∧Ext w w';generalize z8 pm pe oi=q at *;have hnb:=λW=>zaK q.1 q.2 W;clear hrz hmz hnm hw0 hwb hwi hp hq hb hc;go_enter func28,ntmps28;go_wp2_with (first | (go_at_call 64;with_reducible refine aM (ht _) λos1 d1=>?_) | (go_at_call 64;with_reducible refine aM (hu _) λos2 d2=>?_) | (go_at_call 84;with_reducible refine aM (hwo _) λos3 d3=>?_) | (go_at_call 85;with_reducible refine aM (hrd _) λos4 d4=>?_) | (go_at_call 67;(with_reducible refine(hnb _).mono ?_);rintro e w' ⟨rfl,hb⟩;obtain⟨os5,d5,rfl⟩:=hb.more;clear hb));exact rc1 rfl rfl (by simp[go_sem]) ⟨rfl,by simp[go_sem]⟩
    ·rw[if_pos ho] at hz;subst hz;have hop:0<of':=by omega
     show Calls _ _ _ w λe w'=>e = .returned (VV 4 0 0 ⟨#[]⟩ false (zE of'))∧Ext w w';clear hrz hmz hnm hw0 hwb hwi hp hq hb hc ho;go_enter func28,ntmps28;go_wp2_with (first | (go_at_call 64;with_reducible refine aM (ht _) λos1 d1=>?_) | (go_at_call 64;with_reducible refine aM (hu _) λos2 d2=>?_) | (go_at_call 84;with_reducible refine aM (hwo _) λos3 d3=>?_) | (go_at_call 27;(with_reducible refine(hbad _ _).mono ?_);rintro e w' ⟨rfl,hb⟩;obtain⟨os4,d4,rfl⟩:=hb.more;clear hb));exact rc1 rfl rfl (by simp[go_sem]) ⟨rfl,by simp[go_sem]⟩
   ·have hz:=hmz rfl;rw[if_neg (λh=>h rfl),if_neg (λh=>h rfl)] at hz;have hmd:=λW=>zr5 (pm,pe) (rm',re') W hp hq z hz;simp only at hmd;clear hrz hmz hnm hw0 hwb hwi hp hq hb hc hz;go_enter func28,ntmps28;go_wp2_with (first | (go_at_call 64;with_reducible refine aM (ht _) λos1 d1=>?_) | (go_at_call 64;with_reducible refine aM (hu _) λos2 d2=>?_) | (go_at_call 83;(with_reducible refine(hmd _).mono ?_);rintro e w' ⟨rfl,hb⟩;obtain⟨os3,d3,rfl⟩:=hb.more;clear hb));exact rc1 rfl rfl (by simp[go_sem]) ⟨rfl,by simp[go_sem]⟩
  ·have hkp:0<k:=by omega
   have ho:=hw0 hk;simp only[Prod.mk.injEq] at ho;obtain⟨rfl,rfl⟩:=ho;have hz:zx of'=z:=by
    rcases hnm with e | e
    ·have:=hrz e;rw[if_neg (λh=>h rfl),if_pos hk] at this;exact this
    ·have:=hmz e;rw[if_neg (λh=>h rfl),if_pos hk] at this;exact this
   subst hz;show Calls _ _ _ w λe w'=>e = .returned (VV 4 0 0 ⟨#[]⟩ false (zE of'))∧Ext w w';simp only[zeW,List.mem_cons,List.not_mem_nil,or_false,Prod.mk.injEq] at h;clear hrz hmz hnm hw0 hwb hwi hp hq hb hc hk;rcases h with⟨rfl,rfl⟩ | ⟨rfl,rfl⟩
   all_goals
    go_enter func28,ntmps28;go_wp2_with (first | (go_at_call 64;with_reducible refine aM (ht _) λos1 d1=>?_) | (go_at_call 64;with_reducible refine aM (hu _) λos2 d2=>?_) | (go_at_call 27;(with_reducible refine(hbad _ _).mono ?_);rintro e w' ⟨rfl,hb⟩;obtain⟨os4,d4,rfl⟩:=hb.more;clear hb));exact rc1 rfl rfl (by simp[go_sem]) ⟨rfl,by simp[go_sem]⟩
 ·have hgp:0<g:=by omega
  have hz:zx g=z:=by
   rcases hnm with e | e
   ·have:=hrz e;rw[if_pos hg] at this;exact this
   ·have:=hmz e;rw[if_pos hg] at this;exact this
  subst hz;show Calls _ _ _ w λe w'=>e = .returned (VV 4 0 0 ⟨#[]⟩ false (zE g))∧Ext w w';simp only[zeW,List.mem_cons,List.not_mem_nil,or_false,Prod.mk.injEq] at h;clear hrz hmz hnm hw0 hwb hwi hp hq hb hc hg;rcases h with⟨rfl,rfl⟩ | ⟨rfl,rfl⟩
  all_goals
   go_enter func28,ntmps28;go_wp2_with (first | (go_at_call 64;with_reducible refine aM (ht _) λos1 d1=>?_) | (go_at_call 27;with_reducible refine aM (hbad _ _) λos2 d2=>?_));exact rc1 rfl rfl (by simp[go_sem]) ⟨rfl,by simp[go_sem]⟩
theorem zqw (A n cap l k w) (h:NmIn w A n cap l) (hk:k.natAbs<T 15) :
  Tl prog 77 #[.slice A n cap,.int .i64 k] w (VV (zec l k).kind (zec l k).mant (zec l k).exp (zec l k).text (zec l k).truth (zec l k).fault):=by
 have hs:=λW hN=>zis A n cap l W hN;have hrt:=λp hp=>zjM (l:=l) (t:=(0,0)) (u:=p) (Or.inl ⟨rfl,rfl⟩) hp;have hbad:=λf W=>zb6 f W;have H:=Lib.hid h;clear h;have hi:I64 k:=by have:T 15=1000000000000000:=(by decide);unfold I64;omega
 have hm:=λW=>zj4 k 0 W hi;rw[show rnd (decide (k<0)) k.natAbs false 0=some (zl k) from(zbu hk).1] at hm;have hwr:Rt (zl k).1 (zl k).2:=(zbu hk).2.1;simp only[rnV,rm,re,Option.getD_some,Option.isSome_some] at hm;unfold zec;generalize zbC (0,0) l=r at *;generalize zl k=q at *;clear hk hi;cases r with
 | none=>
  show Calls _ _ _ w λe w'=>e = .returned (VV 4 0 0 ⟨#[]⟩ false 5)∧Ext w w';rw[show(5:Int)=zE 5 by decide];simp only[rm,re,Option.getD_none,Option.isSome_none] at hs;clear hm hwr hrt;go_enter func77,ntmps77;go_wp2_with (first | (go_at_call 75;with_reducible refine aM (hs _ (H.out.ext (by simp[go_sem]))) λos1 d1=>?_) | (go_at_call 27;with_reducible refine aM (hbad _ _) λos2 d2=>?_));exact rc1 rfl rfl (by simp[go_sem]) ⟨rfl,by simp[go_sem]⟩
 | some t=>
  have htr:=hrt _ rfl;have hdv:=λW=>zfb t.1 t.2 q.1 q.2 W (zF htr) (zF hwr);have hmd:=λW=>zdk (divS t.1 t.2 q.1 q.2) W;simp only[rm,re,Option.getD_some,Option.isSome_some] at hs;show Calls _ _ _ w λe w'=>e = .returned (VV (zo (divS t.1 t.2 q.1 q.2)).kind (zo (divS t.1 t.2 q.1 q.2)).mant (zo (divS t.1 t.2 q.1 q.2)).exp (zo (divS t.1 t.2 q.1 q.2)).text (zo (divS t.1 t.2 q.1 q.2)).truth (zo (divS t.1 t.2 q.1 q.2)).fault)∧Ext w w';generalize divS t.1 t.2 q.1 q.2=d at *;generalize zo d=z at *;simp only[rnV] at hdv;clear hrt htr hwr;go_enter func77,ntmps77;go_wp2_with (first | (go_at_call 75;with_reducible refine aM (hs _ (H.out.ext (by simp[go_sem]))) λos1 d1=>?_) | (go_at_call 141;with_reducible refine aM (hm _) λos2 d2=>?_) | (go_at_call 133;with_reducible refine aM (hdv _) λos3 d3=>?_) | (go_at_call 74;with_reducible refine aM (hmd _) λos4 d4=>?_));exact rc1 rfl rfl (by simp[go_sem]) ⟨rfl,by simp[go_sem]⟩
theorem zmO (A n cap l w) (h:NmIn w A n cap (zZ l)) (h0:0<n) (hn:n<=1000000) :
  Tl prog 78 #[.slice A n cap] w (VV (medV l).kind (medV l).mant (medV l).exp (medV l).text (medV l).truth (medV l).fault):=by
 have hln:l.length=n:=by have:=h.len;rw[zc1] at this;exact this
 have hcap:=h.cap;have hbad:=λf W=>zb6 f W;obtain⟨M,hM⟩:∃ m,n/2=m:=⟨_,rfl⟩;obtain⟨d2,hd2⟩:∃ d2,n%2=d2:=⟨_,rfl⟩;have hq1:(n:Int).tdiv 2=(M:Int):=by rw[<-hM];rfl
 have hq2:(n:Int).tmod 2=(d2:Int):=by rw[<-hd2];rfl
 have hw1:IntKind.i64.wrap (M:Int)=(M:Int):=by rw[IntKind.wrap_i64];omega
 have hw2:IntKind.i64.wrap (d2:Int)=(d2:Int):=by rw[IntKind.wrap_i64];omega
 have hMn:M<n:=by omega
 unfold medV;rw[hln,if_neg (by omega),hM,hd2];obtain⟨p,b,off,hp,hpr,rfl,c0,c1⟩:=h.at hMn;have hpa:atN (zZ l) M=p:=by unfold atN;rw[List.getD_eq_getElem?_getD,hp];rfl
 have hbl:=za c0;obtain⟨pm,pe⟩:=p;simp only at c0 c1 hpr;by_cases h1:d2=1
 ·rw[if_pos h1,hpa];have hnb:=λW=>zaK pm pe W;subst h1;show Calls _ _ _ w λe w'=>e = .returned (VV 1 pm pe ⟨#[]⟩ false 0)∧Ext w w';clear hpa hp h hln hM hd2;go_enter func78,ntmps78;go_wp2_with (first | (go_at_call 67;with_reducible refine aM (hnb _) λos d=>?_));exact rc1 rfl rfl (by simp[go_sem]) ⟨rfl,by simp[go_sem]⟩
 ·rw[if_neg h1];obtain⟨q,b',off',hq,hqr,e,e0,e1⟩:=h.at (k:=M-1) (by omega);obtain⟨rfl,rfl⟩:=aI e;have hqa:atN (zZ l) (M-1)=q:=by unfold atN;rw[List.getD_eq_getElem?_getD,hq];rfl
  obtain⟨qm,qe⟩:=q;simp only at e0 e1 hqr;rw[hpa,hqa];simp only;have had:=λW=>ze8 qm qe pm pe W (zF hqr) (zF hpr);have har:=λp hp=>zdS (a:=qm) (b:=qe) (c:=pm) (d:=pe) (p:=p) hp;obtain rfl:d2=0:=by omega
  have hj:IntKind.i64.wrap ((M:Int)-1)=((M-1:Nat):Int):=by rw[IntKind.wrap_i64];omega
  generalize addS qm qe pm pe=r at *;have hJn:M-1<n:=by omega
  generalize M-1=J at *;clear hpa hqa hp hq h hln h1 hM hd2;cases r with
  | none=>
   show Calls _ _ _ w λe w'=>e = .returned (VV 4 0 0 ⟨#[]⟩ false 5)∧Ext w w';rw[show(5:Int)=zE 5 by decide];simp only[rnV,rm,re,Option.getD_none,Option.isSome_none] at had;clear har hqr hpr;go_enter func78,ntmps78;go_upto_region 4 with fail;refine zby [(13,4),(0,0),(1,0),(2,0),(3,0),(4,0),(5,0),(6,0),(7,0),(8,0),(9,1),(10,0),(11,0),(12,2),(13,3)] [14,15] [14,15] [12] (by kernel_rfl) (by kernel_rfl) (by kernel_rfl) (λ_ _ d _ _ h=>by cases d <;> exact h) (λ_ _ d _ _ h=>by cases d <;> exact h) ?_
   (refine zbH (t:=4) (.cells #[.int .i64 0,.int .i64 0] 36) zcH rfl rfl rfl (λw1=>?_) ?_;(first | rfl | (simp[go_sem,zcH];done) | (go_simp;rfl)))
   iterate 9(apply rdG rfl rfl;(intros;go_simp;first | done | rfl);try simp only[zq])
   (refine zaX rfl ?_ (λwf hXf hE K hK=>?_);rfl;obtain⟨osf,df,rfl⟩:=hXf.more;go_simp;refine(had _).mono ?_;rintro e w' ⟨rfl,hb⟩;refine hK _ _ (λ_=>True) (by(try simp only[zh,zc,Array.append_assoc]);exact hb) (λ_ _ _ _=>trivial) trivial ?_)
   try simp only[zq]
   iterate 3((first | (apply rdG rfl rfl;(intros;go_simp;first | done | rfl)) | (refine zbK (v:=?_) rfl ?_ (λw1=>?_) ?_;rotate_left 1;rfl;(go_simp;first | done | rfl)));try simp only[zq])
   refine zce λosa da osb db hE=>?_;try simp only[zq]
   (refine zaz rfl ?_ (λK hK=>?_);rfl;go_simp;refine hK _ _ ?_)
   try simp only[zq]
   (refine zaz rfl ?_ (λK hK=>?_);rfl;go_simp;refine hK _ _ ?_)
   try simp only[zq]
   refine zbS ?_;go_wp2_with (first | (go_at_call 27;with_reducible refine aM (hbad _ _) λos2 d2=>?_));exact rc1 rfl rfl (by simp[go_sem]) ⟨rfl,by simp[go_sem]⟩
  | some t=>
   obtain⟨tm,te⟩:=t;have htr:Rt tm te:=har _ rfl;have hdv:=λW=>zfb tm te 2 0 W (zF htr) (by unfold I64;omega);have hmd:=λW=>zdk (divS tm te 2 0) W;simp only[rnV,rm,re,Option.getD_some,Option.isSome_some] at had;show Calls _ _ _ w λe w'=>e = .returned (VV (zo (divS tm te 2 0)).kind (zo (divS tm te 2 0)).mant (zo (divS tm te 2 0)).exp (zo (divS tm te 2 0)).text (zo (divS tm te 2 0)).truth (zo (divS tm te 2 0)).fault)∧Ext w w';generalize divS tm te 2 0=d at *;generalize zo d=z at *;simp only[rnV] at hdv;clear har hqr hpr htr;go_enter func78,ntmps78;go_upto_region 4 with fail;refine zby [(13,4),(0,0),(1,0),(2,0),(3,0),(4,0),(5,0),(6,0),(7,0),(8,0),(9,1),(10,0),(11,0),(12,2),(13,3)] [14,15] [14,15] [12] (by kernel_rfl) (by kernel_rfl) (by kernel_rfl) (λ_ _ d _ _ h=>by cases d <;> exact h) (λ_ _ d _ _ h=>by cases d <;> exact h) ?_
   (refine zbH (t:=4) (.cells #[.int .i64 0,.int .i64 0] 36) zcH rfl rfl rfl (λw1=>?_) ?_;(first | rfl | (simp[go_sem,zcH];done) | (go_simp;rfl)))
   iterate 9(apply rdG rfl rfl;(intros;go_simp;first | done | rfl);try simp only[zq])
   (refine zaX rfl ?_ (λwf hXf hE K hK=>?_);rfl;obtain⟨osf,df,rfl⟩:=hXf.more;go_simp;refine(had _).mono ?_;rintro e w' ⟨rfl,hb⟩;refine hK _ _ (λ_=>True) (by(try simp only[zh,zc,Array.append_assoc]);exact hb) (λ_ _ _ _=>trivial) trivial ?_)
   try simp only[zq]
   iterate 3((first | (apply rdG rfl rfl;(intros;go_simp;first | done | rfl)) | (refine zbK (v:=?_) rfl ?_ (λw1=>?_) ?_;rotate_left 1;rfl;(go_simp;first | done | rfl)));try simp only[zq])
   refine zce λosa da osb db hE=>?_;try simp only[zq]
   (refine zaz rfl ?_ (λK hK=>?_);rfl;go_simp;refine hK _ _ ?_)
   try simp only[zq]
   (refine zaz rfl ?_ (λK hK=>?_);rfl;go_simp;refine hK _ _ ?_)
   try simp only[zq]
   refine zbS ?_;go_wp2_with (first | (go_at_call 133;with_reducible refine aM (hdv _) λos5 d5=>?_) | (go_at_call 74;with_reducible refine aM (hmd _) λos6 d6=>?_));exact rc1 rfl rfl (by simp[go_sem]) ⟨rfl,by simp[go_sem]⟩
theorem zel (A n cap l w) (h:NmIn w A n cap l) (hn:n<=1000000) (hr:NRt l) :
  Calls prog 79 #[.slice A n cap] w λe w'=>∃ D c,e = .returned (.slice D n c)∧NmIn w' D n c (zZ l)∧Ext w w':=by
 have hl:=h.len;refine(zmN A n cap l w h hn).mono ?_;rintro e w' ⟨v,rfl,h2,h3⟩;obtain⟨D',c',hv,hI⟩:=h2.in (by rw[zc1];omega) (zfp hr);rw[zc1,hl] at hv hI;exact⟨D',c',by rw[hv],hI,h3⟩
def zcj (great:Bool) (xs:List Ar):Val:=
 if ffL (zI xs 0).l=0 then
  (if(zal (zaR xs 1)).2=0 then
   (if(zal (zaR xs 1)).1<1∨((zu (zI xs 0).l).length:Int)<(zal (zaR xs 1)).1 then zx 5
   else nV (atN (zdl great (zu (zI xs 0).l)) ((zal (zaR xs 1)).1-1).toNat))
  else zx (zal (zaR xs 1)).2)
 else zx (ffL (zI xs 0).l)
theorem zme (great xs):zgL great xs=zaj (zcj great xs):=by
 unfold zgL zcj;split
 ·split
  ·split <;> rfl
  ·rfl
 ·rfl
theorem zjc {l} (h:∀ x∈l,x.right):ffL l=0∨(1<=ffL l∧ffL l<=9):=by
 induction l with
 | nil=>left;rfl
 | cons v l ih=>
  unfold ffL;by_cases h4:v.kind=4
  ·rw[if_pos h4];right;exact(zbG (h v List.mem_cons_self)).2.2.2 h4
  ·rw[if_neg h4];exact ih λx hx=>h x (List.mem_cons_of_mem _ hx)
theorem zmf (great A n cap xs w) (h:ArgsIn w A n cap xs) (hn:2<=n) :
  Tl prog 72 #[.slice A n cap,.bool great] w (VV (zcj great xs).kind (zcj great xs).mant (zcj great xs).exp (zcj great xs).text (zcj great xs).truth (zcj great xs).fault):=by
 obtain⟨R,C,l,b1,off1,n1,cap1,b,off,x0,ha,rfl,⟨v0,v1,v2⟩,hn1,hc1,_,_,_,hbl,_,_,_,harr,_⟩:=h.first (k:=0) (by omega);obtain⟨R',C',l',b2,off2,n2,cap2,b',off',y,ha',e,⟨u0,u1,u2⟩,hn2,hc2,⟨y0,y1,y2,y3,y4,y5⟩,hgv,hyr,_,hb2,hav,_,_,_⟩:=h.first (k:=1) (by omega);obtain⟨rfl,rfl⟩:=aI e;have hxs0:zI xs 0=⟨R,C,l⟩:=by unfold zI;rw[ha]
 have hright:=(h.all _ (List.mem_of_getElem? ha)).right;obtain⟨r1,r2,r3,r4,r5⟩:=zC.1 hright;have hln:=harr.len;have hcap:=h.cap;have hsm:=h.small;simp only[Nat.zero_mul,Nat.add_zero] at v0 v1 v2;simp only at v0 v1 v2 u0 u1 u2 r3 r4 r5;have hfb:=zjc r5;have hbad:=λf W=>zb6 f W;have hfi:=λW hA=>zgI (some ⟨b1,off1,none⟩) n1 cap1 l W hA;have hwo:=λW=>zi6 y W hyr _ rfl;have hwb:=zku hyr;have hwi:=zfW hyr;have hnu:=λW hA=>zfn (some ⟨b1,off1,none⟩) n1 cap1 l W hA (by omega);have hnl:=zbf l;have hnr:=zb4 r5;unfold zcj;rw[hxs0,hav];simp only;generalize hF:ffL l=F at *;generalize zal y=o at *;obtain⟨oi,of'⟩:=o;simp only at hwo hwb hwi⊢;have HA:=Lib.hid harr;by_cases hf:F=0
 ·subst hf;rw[if_pos rfl];by_cases ho:of'=0
  ·subst ho;rw[if_pos rfl];have hsz:(zu l).length<=1000000:=by omega
   generalize zu l=L at *;have HNR:=Lib.hid hnr;have hso:=λW D c (hA:NmIn W D L.length c L)=>zel D L.length c L W hA hsz HNR.out;clear hF hfb hwb hnl hnr ha ha' hav hgv hyr r1 r2 r3 r4 r5 h hright hxs0 hln harr;obtain⟨v,hv⟩:∃ v,(if oi<1∨(L.length:Int)<oi then zx 5 else nV (atN (zdl great L) (oi-1).toNat))=v:=⟨_,rfl⟩;rw[hv];have HV:=Lib.hid hv;clear hv;go_enter func72,ntmps72;go_upto_region 8 with(first | (go_at_call 73;with_reducible refine aM (hfi _ (HA.out.ext (by simp[go_sem]))) λos1 d1=>?_) | (go_at_call 84;with_reducible refine aM (hwo _) λos2 d2=>?_) | (go_at_call 70;(with_reducible refine(hnu _ (HA.out.ext (by simp[go_sem]))).mono ?_);rintro e w' ⟨v3,rfl,hN3,hb⟩;obtain⟨D3,c3,rfl,hI3⟩:=hN3.in (by omega) HNR.out;obtain⟨os3,d3,rfl⟩:=hb.more;clear hb hN3;(try simp only[zc,zj,zh,Array.append_assoc] at hI3)) | (go_at_call 79;(with_reducible refine(hso _ _ _ (hI3.ext (by exact(by simp[go_sem])))).mono ?_);rintro e w' ⟨D4,c4,rfl,hI4,hb⟩;obtain⟨os4,d4,rfl⟩:=hb.more;clear hb hI3;(try simp only[zc,zj,zh,Array.append_assoc] at hI4)));by_cases hrange:oi<1∨(L.length:Int)<oi
   ·obtain rfl:zx 5=v:=by rw[<-HV.out,if_pos hrange]
    clear HV HA hI4;by_cases g2:oi<1
    focus skip
    rotate_left
    focus
     have g1:(L.length:Int)<oi:=by omega
    all_goals
     clear hrange;go_wp2_with (first | (go_at_call 27;with_reducible refine aM (hbad _ _) λos5 d5=>?_));exact rc1 (v:=VV 4 0 0 ⟨#[]⟩ false (zE 5)) rfl rfl (by simp[go_sem];done) ⟨rfl,by simp[go_sem]⟩
   ·have HVE:=Lib.hid (show nV (atN (zdl great L) (oi-1).toNat)=v by rw[<-HV.out,if_neg hrange]);have g1:¬ oi<1:=λh=>hrange (.inl h);have g2:¬ (L.length:Int)<oi:=λh=>hrange (.inr h);clear HV HA hrange;cases great with
    | false=>
     obtain⟨q,bq,oq,hq,hqr,e,d0,d1⟩:=hI4.at (k:=(oi-1).toNat) (by omega);subst e;have hqa:atN (zdl false L) (oi-1).toNat=q:=by show atN (zZ L) _=_;unfold atN;rw[List.getD_eq_getElem?_getD,hq];rfl
     have hj:IntKind.i64.wrap (oi-1)=(((oi-1).toNat:Nat):Int):=by rw[IntKind.wrap_i64];omega
     have hJn:(oi-1).toNat<L.length:=by omega
     have hcc:=hI4.cap;have hve:=Lib.hid (HVE.out.symm.trans (congrArg nV hqa));clear HVE;generalize (oi-1).toNat=J at *;obtain⟨qm,qe⟩:=q;simp only at d0 d1;have hnb:=λW=>zaK qm qe W;clear hqa hq hqr hI4;go_wp2_with (first | (go_at_call 67;with_reducible refine aM (hnb _) λos5 d5=>?_));exact rc1 (v:=VV 1 qm qe ⟨#[]⟩ false 0) rfl rfl (by simp[go_sem];done) ⟨by rw[hve.out];rfl,by simp[go_sem]⟩
    | true=>
     obtain⟨q,bq,oq,hq,hqr,e,d0,d1⟩:=hI4.at (k:=L.length-oi.toNat) (by omega);subst e;have hqa:atN (zdl true L) (oi-1).toNat=q:=by
      show atN (zZ L).reverse _=_;rw[zuJ (by rw[zc1];omega),zc1,show L.length-1-(oi-1).toNat=L.length-oi.toNat by omega];unfold atN;rw[List.getD_eq_getElem?_getD,hq];rfl
     have hj:IntKind.i64.wrap ((L.length:Int)-oi)=((L.length-oi.toNat:Nat):Int):=by rw[IntKind.wrap_i64];omega
     have hJn:L.length-oi.toNat<L.length:=by omega
     have hcc:=hI4.cap;have hve:=Lib.hid (HVE.out.symm.trans (congrArg nV hqa));clear HVE;generalize L.length-oi.toNat=J at *;obtain⟨qm,qe⟩:=q;simp only at d0 d1;have hnb:=λW=>zaK qm qe W;clear hqa hq hqr hI4;go_wp2_with (first | (go_at_call 67;with_reducible refine aM (hnb _) λos5 d5=>?_));exact rc1 (v:=VV 1 qm qe ⟨#[]⟩ false 0) rfl rfl (by simp[go_sem];done) ⟨by rw[hve.out];rfl,by simp[go_sem]⟩
  ·rw[if_neg ho];have hop:(of'==0)=false:=by simpa using ho
   have hop2:0<of':=by omega
   show Calls _ _ _ w λe w'=>e = .returned (VV 4 0 0 ⟨#[]⟩ false (zE of'))∧Ext w w';clear hF hfb hwb hnl hnr ha ha' hav hgv hyr r1 r2 r3 r4 r5 h hright hxs0 hln harr hnu;go_enter func72,ntmps72;go_wp2_with (first | (go_at_call 73;with_reducible refine aM (hfi _ (HA.out.ext (by simp[go_sem]))) λos1 d1=>?_) | (go_at_call 84;with_reducible refine aM (hwo _) λos2 d2=>?_) | (go_at_call 27;with_reducible refine aM (hbad _ _) λos3 d3=>?_));exact rc1 rfl rfl (by simp[go_sem]) ⟨rfl,by simp[go_sem]⟩
 ·rw[if_neg hf];have hfp:0<F:=by omega
  show Calls _ _ _ w λe w'=>e = .returned (VV 4 0 0 ⟨#[]⟩ false (zE F))∧Ext w w';clear hF hfb hwb hnl hnr ha ha' hav hgv hyr r1 r2 r3 r4 r5 h hright hxs0 hln harr hnu hf;go_enter func72,ntmps72;go_wp2_with (first | (go_at_call 73;with_reducible refine aM (hfi _ (HA.out.ext (by simp[go_sem]))) λos1 d1=>?_) | (go_at_call 27;with_reducible refine aM (hbad _ _) λos3 d3=>?_));exact rc1 rfl rfl (by simp[go_sem]) ⟨rfl,by simp[go_sem]⟩
def zeX (v:Val):Nm:=if v.kind=1 then(v.mant,v.exp) else(0,0)
theorem zh3 {x} (hx:x.right):zeX x=(x.mant,x.exp)∧Rt x.mant x.exp:=by
 rcases hx.form with rfl | ⟨m,e,rfl,hr⟩ | ⟨t,rfl,ht⟩ | ⟨b,rfl⟩ | ⟨f,rfl,hf⟩
 ·exact⟨rfl,Or.inl ⟨rfl,rfl⟩⟩
 ·exact⟨rfl,hr⟩
 ·exact⟨rfl,Or.inl ⟨rfl,rfl⟩⟩
 ·exact⟨rfl,Or.inl ⟨rfl,rfl⟩⟩
 ·exact⟨rfl,Or.inl ⟨rfl,rfl⟩⟩
def za6 (xs:List Ar) (k:Nat):List Nm:=xs.map λa=>zeX (zaI a.x.l k)
def zdC:Nm->List (Option Nm)->Option Nm
 | t,[]=>some t
 | _,none::_=>none
 | t,some p::l=>(addS t.1 t.2 p.1 p.2).bind λu=>zdC u l
def zbN (xs:List Ar) (n:Nat):List (Option Nm):=(List.range n).map λk=>zbD (1,0) (za6 xs k)
def zcy (x y:NA):Bool:=x.R==y.R&&x.C==y.C
def spV (xs:List Ar):Val:=
 if ffL (zs xs)=0 then(if ∀ a∈xs,zcy a.x (zI xs 0)=true then zo (zdC (0,0) (zbN xs (zI xs 0).l.length)) else zx 2) else zx (ffL (zs xs))
theorem zjd:∀ (ps:List Nm) (t:Nm),zdC t (ps.map some)=zbC t ps
 | [],_=>rfl
 | p::ps,t=>by
  show(addS t.1 t.2 p.1 p.2).bind (λu=>zdC u (ps.map some))=(addS t.1 t.2 p.1 p.2).bind λu=>zbC u ps;congr 1
  funext u
  exact zjd ps u
theorem zje:∀ (l:List (Option Nm)) (t:Nm),none∈l->zdC t l=none
 | none::_,_,_=>rfl
 | some p::l,t,h=>by
  show(addS t.1 t.2 p.1 p.2).bind (λu=>zdC u l)=none;cases addS t.1 t.2 p.1 p.2 with
  | none=>rfl
  | some u=>exact zje l u (by simpa using h)
theorem zmP (xs k):zbN xs (k+1)=zbN xs k++[zbD (1,0) (za6 xs k)]:=by
 unfold zbN;rw[List.range_succ,List.map_append];rfl
theorem zoQ (xs) {k n} (h:k<n):zbD (1,0) (za6 xs k)∈zbN xs n:=List.mem_map.2 ⟨k,List.mem_range.2 h,rfl⟩
theorem zmg (xs k):(za6 xs k).length=xs.length:=by unfold za6;simp
theorem znS {w A n cap k xs} (h:ArgsIn w A n cap xs):NRt (za6 xs k):=by
 intro p hp;obtain⟨a,ha,rfl⟩:=List.mem_map.1 hp;obtain⟨r1,r2,r3,r4,r5⟩:=zC.1 (h.all a ha).right;unfold zaI;cases hx:a.x.l[k]? with
 | none=>exact Or.inl ⟨rfl,rfl⟩
 | some x=>
  have:=zh3 (r5 x (List.mem_of_getElem? hx));show Rt (zeX x).1 (zeX x).2;rw[this.1];exact this.2
theorem znT {xs j k a} (ha:xs[j]? = some a):(za6 xs k).take (j+1)=(za6 xs k).take j++[zeX (zaI a.x.l k)]:=by
 have:(za6 xs k)[j]? = some (zeX (zaI a.x.l k)):=by unfold za6;rw[List.getElem?_map,ha];rfl
 rw[List.take_add_one,this];rfl
theorem zqx (N:Nat) (hN:N<=4096) (W):(Instr.makeSlice 62 (.int .i64 0) (.int .i64 (N:Int))).run prog W = .ok (.slice (some ⟨W.heap.size,0,none⟩) 0 N) (W.alloc (.cells (madeCells #[.int .i64 0,.int .i64 0] (N*2)) 36)):=by
 obtain⟨i0,hi,hz0,hz1,hz2⟩:=info_parts zdK;have:=run_make (P:=prog) W 62 36 i0 _ Tryz.underlying62 hi hz0 .i64 .i64 0 (N:Int) (by omega) (by omega) (by rw[hz2];omega) (by omega);simpa[hz1,Value.cells] using this
theorem zqy (X:World) (base N) (hN:N<=4096) (hb:base<=X.heap.size):Nms base (X.alloc (.cells (madeCells #[.int .i64 0,.int .i64 0] (N*2)) 36)) (.slice (some ⟨X.heap.size,0,none⟩) 0 N) []:=by
 have h0:=World.ownsRow_made (base:=base) (e:=36) (size:=2) X (madeCells #[.int .i64 0,.int .i64 0] (N*2)) N hb (by simp only[maxLen];omega) (by rw[size_madeCells]);exact h0
theorem zjf (A n cap xs w) (htab:Tab w) (h:ArgsIn w A n cap xs) (h1:1<=n) (hn:n<=100) :
  Calls prog 41 #[.slice A n cap] w λe w'=>zbB w (zaj (spV xs)) e w':=by
 have hR:=Lib.hid (zcg h);have hall:=λW (hW:ArgsIn W A n cap xs)=>zgz A n cap xs W hW hn;have hfa:=λf W=>zaT f W;have hfb:=zjc hR.out;have HT:=Lib.hid htab;have H:=Lib.hid h;have hnr:=λk=>znS (k:=k) h;have HNR:=Lib.hid hnr;have hcap:=h.cap;have hsm:=h.small;have hn0:0<n:=by omega
 obtain⟨X,hX⟩:∃ X,zaj (spV xs)=X:=⟨_,rfl⟩;rw[hX];unfold spV at hX;clear htab hnr;generalize hF:ffL (zs xs)=F at *;by_cases h0:F=0
 ·subst h0;rw[if_pos rfl] at hX;obtain⟨R,C,l,b1,off1,n1,cap1,b,off,x0,ha0,rfl,⟨v0,v1,v2⟩,hn1,hc1,_,_,_,hbl,hb1,_,_,harr,_⟩:=h.first (k:=0) (by omega);simp only[Nat.zero_mul,Nat.add_zero] at v0 v1 v2;have hN0:zI xs 0=⟨R,C,l⟩:=by unfold zI;rw[ha0]
  obtain⟨r1,r2,r3,r4,r5⟩:=zC.1 (h.all _ (List.mem_of_getElem? ha0)).right;simp only at r1 r2 r3 r4;have hln:=harr.len;have hq1:n1<=4096:=by omega
  rw[hN0] at hX;simp only[hln] at hX;have HX:=Lib.hid hX;have HR4:=Lib.hid (show n1=R*C by omega);have HXL:=Lib.hid h.len;clear h hfb hX ha0 hN0 r3 r4 r5 harr hln;go_enter func41,ntmps41;go_upto_region 4 with(first | (go_at_call 90;(with_reducible refine(hall _ (H.out.ext (by simp[go_sem]))).mono ?_);rintro e w' ⟨D1,m1,c1,rfl,hD1,hm1,hb⟩;obtain⟨os1,d1,rfl⟩:=hb.more;clear hb) | (go_at_call 89;(with_reducible refine(zav _ _ _ _ _ (hD1.arr.ext (by simp[go_sem])) (by omega)).mono ?_);rw[hF];rintro e w' ⟨v,rfl,_,hb⟩;obtain⟨os2,d2,rfl⟩:=hb.more;clear hb));clear hD1 hF hall hR;go_wp2_with fail;go_loopw [26] (λi wr=>∃ k:Nat,k<=n∧i = .int .i64 (k:Int)∧Hid (∀ j a,j<k->xs[j]? = some a->zcy a.x ⟨R,C,l⟩=true)∧Ext (w.alloc (Obj.cells #[.int .i64 0,.int .i64 0,.slice none 0 0] 27)) wr) (λi _=>n-(intOf i).toNat)
  case atStart=>exact⟨0,Nat.zero_le _,rfl,λj a hj=>by omega,by simp[go_sem]⟩
  case round=>
   obtain⟨k,hk,rfl,HK,hxr⟩:=hrel;obtain⟨os,d,rfl⟩:=hxr.more;by_cases hlt:k<n
   ·obtain⟨a,b',off',ha,hbo,hat,hok⟩:=H.out.at hlt;obtain⟨rfl,rfl⟩:=aI hbo;obtain⟨u0,u1,u2⟩:=hat;have hal:=λW=>zeQ a.x.R a.x.C R C a.A (some ⟨b1,off1,none⟩) a.n a.cap n1 cap1 W;rw[zdj,zdj] at hal;have hab:zcy a.x ⟨R,C,l⟩=(a.x.R==R&&a.x.C==C):=rfl;rw[<-hab] at hal;have HA:=Lib.hid ha;clear ha hok hab hxr;cases hsh:zcy a.x ⟨R,C,l⟩ with
    | true=>
     rw[hsh] at hal;have HK2:Hid (∀ j a,j<k+1->xs[j]? = some a->zcy a.x ⟨R,C,l⟩=true):=λj a' hj hx=>by
      by_cases e:j=k
      ·subst e;rw[HA.out] at hx;obtain rfl:=Option.some.inj hx;exact hsh
      ·exact HK.out j a' (by omega) hx
     clear hsh HK;go_upto_region 7 with fail;refine plP [(0,0),(1,0),(2,0),(3,0),(4,1),(5,0)] [] (by kernel_rfl) (λ_ _ d _ _ h=>by cases d <;> exact h) ?_;iterate 4(apply rdP rfl rfl;(intros;go_simp;first | done | rfl);try simp only[zq])
     (refine zg rfl ?_ (λK hK=>?_);rfl;go_simp;(refine aM (hal _) λos2 d2=>?_);refine hK _ _ ?_ ?_;(simp[go_sem]))
     try simp only[zq]
     (apply rdP rfl rfl;(intros;go_simp;first | done | rfl))
     try simp only[zq]
     refine zi ?_;go_wp2_with fail;exact⟨⟨k+1,by omega,by go_num,HK2,by simp[go_sem]⟩,by simp[intOf];omega⟩
    | false=>
     rw[hsh] at hal;have hXo:=HX.out;rw[if_neg (λhall=>by have:=hall a (List.mem_of_getElem? HA.out);rw[hsh] at this;cases this)] at hXo;obtain rfl:zT 2=X:=hXo;have hf2:=λW=>hfa 2 W;clear hsh HK HX;go_upto_region 7 with fail;refine plP [(0,0),(1,0),(2,0),(3,0),(4,1),(5,0)] [] (by kernel_rfl) (λ_ _ d _ _ h=>by cases d <;> exact h) ?_;iterate 4(apply rdP rfl rfl;(intros;go_simp;first | done | rfl);try simp only[zq])
     (refine zg rfl ?_ (λK hK=>?_);rfl;go_simp;(refine aM (hal _) λos2 d2=>?_);refine hK _ _ ?_ ?_;(simp[go_sem]))
     try simp only[zq]
     (apply rdP rfl rfl;(intros;go_simp;first | done | rfl))
     try simp only[zq]
     refine zi ?_;go_wp2_with (first | (go_at_call 16;with_reducible refine aR (hf2 _) λD m cc os5 d5 hD=>?_;have hDr:=hD.rd));exact rc1 (v:=AV (zT 2).R (zT 2).C (.slice D m cc)) rfl rfl (by simp[go_sem]) (by(try simp only[zc,zj,zh,Array.append_assoc] at hDr);exact raS hDr hD (by simp <;> omega) (by simp[go_sem]))
   ·obtain rfl:n=k:=by omega
    have hal:∀ a∈xs,zcy a.x ⟨R,C,l⟩=true:=λa ha=>by
     obtain⟨j,hj,rfl⟩:=List.mem_iff_getElem.1 ha;exact HK.out j _ (by rw[HXL.out] at hj;exact hj) (List.getElem?_eq_getElem hj)
    have hXo:=HX.out;rw[if_pos hal] at hXo;have HXo:=Lib.hid hXo;have HAL:=Lib.hid hal;have hmk:=zqx n1 hq1;clear hXo hal HX HK hxr;obtain⟨i0,hi0,hz0,hz1,hz2⟩:=info_parts zdK;go_upto_region 11 with fail;refine zH λU hU=>?_;have hxU:Ext (w.alloc (Obj.cells #[.int .i64 0,.int .i64 0,.slice none 0 0] 27)) U:=by rw[hU];exact(by simp[go_sem])
    have hO:∃ g,g=w.heap.size+1+os.size∧Nms (w.heap.size+1) U (.slice (some ⟨g,0,none⟩) 0 n1) []:=⟨_,rfl,by
     rw[hU]
     have:=zqy (more (w.alloc (Obj.cells #[.int .i64 0,.int .i64 0,.slice none 0 0] 27)) os d) (w.heap.size+1) n1 hq1 (by simp)
     simpa using this⟩
    clear hU;obtain⟨g,hg,hO⟩:=hO;rw[<-hg];clear hg;obtain⟨os3,d3,rfl⟩:=hxU.more;have HB0:=Lib.hid (show w.heap.size+1=(w.alloc (Obj.cells #[.int .i64 0,.int .i64 0,.slice none 0 0] 27)).heap.size by simp);go_wp2_with fail;go_loopw [7,49] (λv i wr=>∃ k:Nat,k<=n1∧i = .int .i64 (k:Int)∧Hid (∃ ps:List Nm,ps.map some=zbN xs k∧NRt ps∧Nms (w.alloc (Obj.cells #[.int .i64 0,.int .i64 0,.slice none 0 0] 27)).heap.size wr v ps)∧Ext (w.alloc (Obj.cells #[.int .i64 0,.int .i64 0,.slice none 0 0] 27)) wr) (λ_ i _=>n1-(intOf i).toNat)
    case atStart=>exact⟨0,Nat.zero_le _,rfl,(show ∃ ps:List Nm,_ from⟨[],rfl,λp hp=>absurd hp List.not_mem_nil,HB0.out ▸ hO⟩),hxU⟩
    case round=>
     clear hO hxU;obtain⟨k,hk,rfl,HP,hxr⟩:=hrel;obtain⟨os,d,rfl⟩:=hxr.more;clear hxr;by_cases hlt:k<n1
     ·go_wp2_with fail;generalize hVV:more (w.alloc (Obj.cells #[.int .i64 0,.int .i64 0,.slice none 0 0] 27)) os d=V at *;have HV:=Lib.hid hVV;have hxV:Ext w V:=by rw[<-hVV];exact(by simp[go_sem])
      have w0:=hxV.cell_some v0;have lw:=za w0;clear hVV;go_loopw [9,54] (λv i wz=>∃ j:Nat,j<=n∧i = .int .i64 (j:Int)∧Hid (Nms V.heap.size wz v ((za6 xs k).take j))∧Ext V wz) (λ_ i _=>n-(intOf i).toNat)
      case atStart=>exact⟨0,Nat.zero_le _,rfl,World.ownsRow_nil _ _ _ _,Ext.refl _⟩
      case round=>
       obtain⟨j,hj,rfl,HW,hxz⟩:=hrel;have hszz:=hxz.size;by_cases hlj:j<n
       ·obtain⟨Ra,Ca,la,ba,offa,na,capa,b',off',y0,ha,hbo,⟨u0,u1,u2⟩,hna,hca,_,_,_,_,_,_,_,harr,_⟩:=H.out.first hlj;obtain⟨rfl,rfl⟩:=aI hbo;have hal:=HAL.out _ (List.mem_of_getElem? ha);obtain⟨q1,q2,q3,q4,q5⟩:=zC.1 (H.out.all _ (List.mem_of_getElem? ha)).right;simp only[zcy,Bool.and_eq_true,beq_iff_eq] at hal u0 u1 u2 q3 q4 q5;have hlna:=harr.len;obtain⟨rfl,rfl⟩:=hal;have hkn:k<na:=by have:=HR4.out;omega
        obtain⟨x,b9,off9,hx,hxo,e9,hat⟩:=harr.at hkn;obtain⟨rfl,rfl⟩:=aI e9;have hxr:=zh3 (q5 x (List.mem_of_getElem? hx));have HS:=Lib.hid (znT (k:=k) ha);have hgx:zeX (zaI la k)=(x.mant,x.exp):=by unfold zaI;rw[hx];exact hxr.1
        have hS:=HS.out;simp only at hS;rw[hgx] at hS;have HS2:=Lib.hid hS;have hxwz:=hxV.trans hxz;replace u0:=hxwz.cell_some u0;replace u1:=hxwz.cell_some u1;replace u2:=hxwz.cell_some u2;have lu:=za u0;obtain⟨z0,z1,z2,z3,z4,z5⟩:=hat.ext hxwz;have lz:=za z0;have hle:((za6 xs k).take j).length<=100:=by rw[List.length_take];omega
        clear ha harr hx hat hS HS hgx hxr q3 q4 q5 hlna;generalize (za6 xs k).take j=F at *;obtain⟨xk,xm,xe,xt,xb,xf⟩:=x;simp only at z0 z1 z2 z3 z4 z5 HS2;go_wp2_with (at_builtin;refine wpList_append_own _ rfl _ _ _ rfl V.heap.size 36 i0 (NV 0 0) 2 16 Tryz.underlying62 hi0 hz0 hz1 hz2 rfl (by decide) _ F.length (zN F) rfl (zL HW.out (by simp[go_sem])) _ 1 1 [.int .i64 xm,.int .i64 xe] rfl rfl (zap _ _ _ (by first | rfl | (simp;done)) rfl _) (zcf [(xm,xe)]) (by simp only[maxLen];omega) (by omega) (by first | omega | (simp;omega)) ?_;intro v4 w4 ho4 hg4 _);have hx4:=za2 (hxz.trans (by simp[go_sem])) (zL HW.out (by simp[go_sem])) hg4;refine⟨⟨j+1,by omega,by go_num,?_,hx4⟩,by simp[intOf];omega⟩;show World.ownsRow _ _ _ _ _ _ _;rw[HS2.out,za0,List.length_append];exact ho4
       ·obtain rfl:n=j:=by omega
        obtain rfl:=HV.out;obtain⟨os4,d4,rfl⟩:=hxz.more;have hlr:(za6 xs k).length=n:=by rw[zmg,HXL.out]
        have htk:(za6 xs k).take n=za6 xs k:=by rw[<-hlr];exact List.take_length
        rw[htk] at HW;obtain⟨D9,c9,rfl,hI9⟩:=HW.out.in (by omega) (HNR.out k);rw[hlr] at hI9;rw[hlr];have HI9:=Lib.hid hI9;obtain⟨ps,hps,hpr,hown⟩:=HP.out;have HOW:=Lib.hid hown;have hpl:ps.length=k:=by have:=congrArg List.length hps;rw[List.length_map] at this;rw[this];unfold zbN;simp
        have HPS:=Lib.hid (And.intro hps hpr);have hmu:=λW hT hI=>zgT D9 n c9 (za6 xs k) W hT hI;clear HW hI9 hlr htk hps hpr hown hxz hxV w0 lw HP;cases hm:zbD (1,0) (za6 xs k) with
        | none=>
         rw[hm] at hmu;simp only[rm,re,Option.getD_none,Option.isSome_none] at hmu;have hXo:=HXo.out;rw[zje _ _ (by rw[<-hm];exact zoQ xs hlt)] at hXo;obtain rfl:zT 5=X:=hXo;have hf5:=λW=>hfa 5 W;clear hm HXo;go_wp2_with (first | (go_at_call 94;with_reducible refine aM (hmu _ (HT.out.ext (by simp[go_sem])) (HI9.out.ext (by simp[go_sem]))) λos6 d6=>?_) | (go_at_call 16;with_reducible refine aR (hf5 _) λD m cc os5 d5 hD=>?_;have hDr:=hD.rd));exact rc1 (v:=AV (zT 5).R (zT 5).C (.slice D m cc)) rfl rfl (by simp[go_sem]) (by(try simp only[zc,zj,zh,Array.append_assoc] at hDr);exact raS hDr hD (by simp <;> omega) (by simp[go_sem]))
        | some p=>
         obtain⟨pm,pe⟩:=p;rw[hm] at hmu;simp only[rm,re,Option.getD_some,Option.isSome_some] at hmu;have hprt:Rt pm pe:=zjN zcP hm;have HM:=Lib.hid hm;clear hm;go_wp2_with (first | (go_at_call 94;with_reducible refine aM (hmu _ (HT.out.ext (by simp[go_sem])) (HI9.out.ext (by simp[go_sem]))) λos6 d6=>?_) | (at_builtin;refine wpList_append_own _ rfl _ _ _ rfl (w.alloc (Obj.cells #[.int .i64 0,.int .i64 0,.slice none 0 0] 27)).heap.size 36 i0 (NV 0 0) 2 16 Tryz.underlying62 hi0 hz0 hz1 hz2 rfl (by decide) _ ps.length (zN ps) rfl (zL HOW.out (by simp[go_sem])) _ 1 1 [.int .i64 pm,.int .i64 pe] rfl rfl (zap _ _ _ (by first | rfl | (simp;done)) rfl _) (zcf [(pm,pe)]) (by simp only[maxLen];omega) (by omega) (by simp;omega) ?_;intro v4 w4 ho4 hg4 _));have hx4:=za2 (X:=(w.alloc (Obj.cells #[.int .i64 0,.int .i64 0,.slice none 0 0] 27))) (by simp[go_sem]) (zL HOW.out (by simp[go_sem])) hg4;refine⟨⟨k+1,by omega,by go_num,?_,hx4⟩,by simp[intOf];omega⟩;refine⟨ps++[(pm,pe)],?_,?_,?_⟩
         ·rw[List.map_append,HPS.out.1,zmP,HM.out];rfl
         ·intro q hq;rcases List.mem_append.1 hq with hq | hq
          ·exact HPS.out.2 q hq
          ·rw[List.mem_singleton.1 hq];exact hprt
         ·show World.ownsRow _ _ _ _ _ _ _;rw[za0,List.length_append];exact ho4
     ·obtain rfl:n1=k:=by omega
      obtain⟨ps,hps,hpr,hown⟩:=HP.out;have hpl:ps.length=n1:=by have:=congrArg List.length hps;rw[List.length_map] at this;rw[this];unfold zbN;simp
      obtain⟨D9,c9,rfl,hI9⟩:=hown.in (by omega) hpr;rw[hpl] at hI9;rw[hpl];have HI9:=Lib.hid hI9;have hsu:=λW hT hI=>zgA D9 n1 c9 ps W hT hI;have hXo:=HXo.out;rw[<-hps,zjd] at hXo;have hone:=λW=>zdT (sumV ps) W (zbZ hpr).ok (zbZ hpr);rw[show zaj (sumV ps)=X from hXo] at hone;clear hXo HXo hps hpr hown hI9 HP hpl;generalize sumV ps=y at *;go_wp2_with (first | (go_at_call 31;with_reducible refine aM (hsu _ (HT.out.ext (by simp[go_sem])) (HI9.out.ext (by simp[go_sem]))) λos6 d6=>?_) | (go_at_call 56;with_reducible refine aR (hone _) λD m cc os5 d5 hD=>?_;have hDr:=hD.rd));exact rc1 (v:=AV X.R X.C (.slice D m cc)) rfl rfl (by simp[go_sem]) (by(try simp only[zc,zj,zh,Array.append_assoc] at hDr);exact raS hDr hD (by simp <;> omega) (by simp[go_sem]))
 ·rw[if_neg h0] at hX;subst hX;have hfF:=λW=>hfa F W;have h0':(F != 0)=true:=by simpa using h0
  clear h h0 hfb;go_enter func41,ntmps41;go_upto_region 2 with(first | (go_at_call 90;(with_reducible refine(hall _ (H.out.ext (by simp[go_sem]))).mono ?_);rintro e w' ⟨D1,m1,c1,rfl,hD1,hm1,hb⟩;obtain⟨os1,d1,rfl⟩:=hb.more;clear hb) | (go_at_call 89;(with_reducible refine(zav _ _ _ _ _ (hD1.arr.ext (by simp[go_sem])) (by omega)).mono ?_);rw[hF];rintro e w' ⟨v,rfl,_,hb⟩;obtain⟨os2,d2,rfl⟩:=hb.more;clear hb));clear hD1;go_wp2_with (first | (go_at_call 16;with_reducible refine aR (hfF _) λD m cc os5 d5 hD=>?_;have hDr:=hD.rd));exact rc1 (v:=AV (zT F).R (zT F).C (.slice D m cc)) rfl rfl (by simp[go_sem]) (by(try simp only[zc,zj,zh,Array.append_assoc] at hDr);exact raS hDr hD (by simp <;> omega) (by simp[go_sem]))
def spO (xs:List Ar):NA:=zaj (spV xs)
theorem zix (A n cap gs w) (htab:Tab w) (h:ArgsG w A n cap gs):Calls prog 7 #[.string ⟨#[83,85,77,80,82,79,68,85,67,84]⟩,.slice A n cap] w (zbh w (zS 1 32 gs (spO (zK gs)))):=
 zaw ⟨#[83,85,77,80,82,79,68,85,67,84]⟩ 1 32 41 (λp=>#[]) (by decide) (λ_=>rfl) (λargs W=>by go_simp) (by decide) (by decide) A n cap gs w h _ (λhr h1 h2 p W hW hB=>
  zjf A n cap (zK gs) W (htab.ext hW) ((zX h hr).ext hW) h1 (by omega))
abbrev CV (c:CS) (s:Val):Value:=.agg #[.string c.str,.int .i64 s.kind,.int .i64 s.mant,.int .i64 s.exp,.string s.text,.bool s.truth,.int .i64 s.fault]
theorem zqz (c:CS) (s x w) (hx:x.right) (hs:s.right) :
  Tl prog 146 #[CV c s,VV x.kind x.mant x.exp x.text x.truth x.fault] w (.bool (zbQ c s x)):=by
 have hc:=λW=>zb5 x s W hx hs;have htri:=zlM x s;unfold zbQ;by_cases hk:x.kind=s.kind
 ·rw[if_pos hk];have hk':(x.kind==s.kind)=true:=by simpa using hk
  clear hk hx hs;generalize zaB x s=n at *;cases c <;> (rcases htri with rfl | rfl | rfl) <;> (simp only[CV,CS.str,CS.key];go_enter func146,ntmps146;go_wp2_with (first | (go_at_call 182;with_reducible refine aM (hc _) λos d=>?_));go_ret;exact⟨rfl,by simp[go_sem]⟩)
 ·rw[if_neg hk];have hk':(x.kind==s.kind)=false:=by simpa using hk
  clear hk hx hs htri;generalize zaB x s=n at *;cases c <;> (simp only[CV,CS.str,CS.key];go_enter func146,ntmps146;go_wp2_with (first | (go_at_call 182;with_reducible refine aM (hc _) λos d=>?_));go_ret;exact⟨rfl,by simp[go_sem]⟩)
theorem zmQ (w) :
  Calls prog 242 #[] w λe w'=>∃ b,e = .returned (.slice (some ⟨b,0,none⟩) 10 10)∧(∀ k,k<10->w'.cell? ⟨b,k,none⟩=some (.string (zef k)))∧Ext w w':=by
 go_enter func242,ntmps242;go_wp2_with fail;go_ret;refine⟨_,rfl,λk hk=>?_,by simp[go_sem]⟩;rcases(show k=0∨k=1∨k=2∨k=3∨k=4∨k=5∨k=6∨k=7∨k=8∨k=9 by omega) with rfl | rfl | rfl | rfl | rfl | rfl | rfl | rfl | rfl | rfl
 all_goals(first | (simp[go_sem,zef,zdV];done) | (rw[World.cell?_alloc_at _ _ _ _ rfl];rfl))
theorem zmh (s w) (hs:s.size<=9223372036854775807) :
  Tl prog 225 #[.string s] w (.int .i64 (zcT (zam s))):=by
 have hF:=λW=>zcB s W hs;have hA:=λW=>zmQ W;obtain⟨r,hr⟩:∃ r,zcT (zam s)=r:=⟨_,rfl⟩;rw[hr];unfold zcT at hr;have HR:=Lib.hid hr;clear hr;generalize zam s=X at *;go_enter func225,ntmps225;go_wp2_with fail;go_loopw [3] (λi wr=>∃ k:Nat,1<=k∧k<=10∧i = .int .i64 (k:Int)∧Ext w wr∧Hid (zbz X (10-k) k=r)) (λi _=>10-(intOf i).toNat)
 case atStart=>exact⟨1,by omega,by omega,rfl,Ext.refl _,HR.out⟩
 case round=>
  obtain⟨k,h1,h2,rfl,hxr,HK⟩:=hrel;by_cases hlt:k<=9
  ·have hk:=HK.out;rw[show 10-k=(9-k)+1 by omega] at hk;unfold zbz at hk;have hlt2:(k:Int)<10:=by omega
   have hlt3:k<10:=by omega
   have hA3:∀ W,Calls prog 242 #[] W λe w'=>∃ b,e = .returned (.slice (some ⟨b,0,none⟩) 10 10)∧w'.cell? ⟨b,k,none⟩=some (.string (zef k))∧b<w'.heap.size∧Ext W w':=λW=>(hA W).mono λe w' ⟨b,h1,h2,h3⟩=>⟨b,h1,h2 k hlt3,za (h2 k hlt3),h3⟩;generalize zef k=Y at *;rw[show(X.toList==Y.toList)=(Y.toList==X.toList) by rw[Bool.eq_iff_iff,beq_iff_eq,beq_iff_eq];exact⟨Eq.symm,Eq.symm⟩] at hk;have HK2:=Lib.hid hk;clear hk HK hA;go_upto_region 4 with fail;go_region_with (first | (go_at_call 242;refine(hA3 _).mono ?_;rintro e wf ⟨bf,rfl,hcf,hlf,hxf⟩) | (go_at_call 224;with_reducible refine aM (hF _) λos2 d2=>?_))
   all_goals
    have hk:=HK2.out;clear HK2;generalize (Y.toList==X.toList)=q at *;cases q
    ·rw[if_neg (by simp)] at hk;have HK3:=Lib.hid hk;clear hk;go_wp2_with fail;refine⟨⟨k+1,by omega,by omega,by go_num,hxr.trans ((((Ext.refl _).drew).trans hxf).trans (by simp[go_sem])),?_⟩,by simp[intOf];omega⟩;rw[show 10-(k+1)=9-k by omega];exact HK3
    ·rw[if_pos rfl] at hk;subst hk;go_wp2_with fail;go_ret;exact⟨rfl,hxr.trans ((((Ext.refl _).drew).trans hxf).trans (by simp[go_sem]))⟩
  ·obtain rfl:k=10:=by omega
   have hk:=HK.out;unfold zbz at hk;simp only[Nat.sub_self] at hk;subst hk;clear HK HR;go_wp2_with fail;go_ret;exact⟨rfl,hxr⟩
theorem zqD (s w) (hs:s.size<=255) :
  Tl prog 193 #[.string s] w (VV (zbn s).kind (zbn s).mant (zbn s).exp (zbn s).text (zbn s).truth (zbn s).fault):=by
 have hF:=λW=>zcB s W (by omega);have hP:=λW=>ziO s W (by omega);rw[if_neg (by omega),<-zj9 _ (by unfold bl;simp;omega),show zgo (bl s)=zbR s by unfold zbR;rw[if_neg (by omega)]] at hP;have hO:=λW=>zmh s W (by omega);have hX:=λW=>zi4 s W (by omega);have hB:=λf W=>zah f W;unfold zbn;cases h0:s.toList == [] with
 | true=>
  rw[if_pos rfl];show Calls _ _ _ w λe w'=>e = .returned (VV 0 0 0 ⟨#[]⟩ false 0)∧Ext w w';go_enter func193,ntmps193;go_wp2_with fail;exact rc1 rfl rfl (by simp[go_sem]) ⟨rfl,by simp[go_sem]⟩
 | false=>
  rw[if_neg (by simp)];cases hp:zbR s with
  | some p=>
   rw[hp] at hP;obtain⟨m,ex⟩:=p;simp only[rnV,rm,re,Option.getD_some,Option.isSome_some,if_true] at hP⊢;have hN:=λW=>zaK m ex W;show Calls _ _ _ w λe w'=>e = .returned (VV 1 m ex ⟨#[]⟩ false 0)∧Ext w w';clear hp;go_enter func193,ntmps193;go_wp2_with (first | (go_at_call 136;with_reducible refine aM (hP _) λos1 d1=>?_) | (go_at_call 67;with_reducible refine aM (hN _) λos2 d2=>?_));exact rc1 rfl rfl (by simp[go_sem]) ⟨rfl,by simp[go_sem]⟩
  | none=>
   rw[hp] at hP;simp only[rnV,rm,re,Option.getD_none,Option.isSome_none,Bool.false_eq_true,if_false] at hP⊢;clear hp;generalize zam s=X at *;cases h1:X.toList == [84,82,85,69] with
   | true=>
    rw[if_pos rfl];have hT:=λW=>zch true W;show Calls _ _ _ w λe w'=>e = .returned (VV 3 0 0 ⟨#[]⟩ true 0)∧Ext w w';go_enter func193,ntmps193;go_wp2_with (first | (go_at_call 136;with_reducible refine aM (hP _) λos1 d1=>?_) | (go_at_call 224;with_reducible refine aM (hF _) λos2 d2=>?_) | (go_at_call 183;with_reducible refine aM (hT _) λos3 d3=>?_));exact rc1 rfl rfl (by simp[go_sem]) ⟨rfl,by simp[go_sem]⟩
   | false=>
    rw[if_neg (by simp)];cases h2:X.toList == [70,65,76,83,69] with
    | true=>
     rw[if_pos rfl];have hT:=λW=>zch false W;show Calls _ _ _ w λe w'=>e = .returned (VV 3 0 0 ⟨#[]⟩ false 0)∧Ext w w';go_enter func193,ntmps193;go_wp2_with (first | (go_at_call 136;with_reducible refine aM (hP _) λos1 d1=>?_) | (go_at_call 224;with_reducible refine aM (hF _) λos2 d2=>?_) | (go_at_call 183;with_reducible refine aM (hT _) λos3 d3=>?_));exact rc1 rfl rfl (by simp[go_sem]) ⟨rfl,by simp[go_sem]⟩
    | false=>
     rw[if_neg (by simp)];have hfb:=zhh X;generalize zcT X=g at *;by_cases hg:g=0
     ·subst hg;rw[if_neg (by simp)];have ht0:(zQ s).mant=0∧(zQ s).exp=0∧(zQ s).truth=false:=by unfold zQ;split <;> exact⟨rfl,rfl,rfl⟩
      rw[ht0.1,ht0.2.1,ht0.2.2];generalize (zQ s).kind=yk at *;generalize (zQ s).text=yt at *;generalize (zQ s).fault=yf at *;clear ht0;go_enter func193,ntmps193;go_wp2_with (first | (go_at_call 136;with_reducible refine aM (hP _) λos1 d1=>?_) | (go_at_call 224;with_reducible refine aM (hF _) λos2 d2=>?_) | (go_at_call 225;with_reducible refine aM (hO _) λos3 d3=>?_) | (go_at_call 128;with_reducible refine aM (hX _) λos4 d4=>?_));exact rc1 rfl rfl (by simp[go_sem]) ⟨rfl,by simp[go_sem]⟩
     ·rw[if_pos hg];have hgp:0<g:=by omega
      have hBg:=λW=>hB g W;rw[show zE g=g by unfold zE;rw[if_neg (by omega)]] at hBg;show Calls _ _ _ w λe w'=>e = .returned (VV 4 0 0 ⟨#[]⟩ false g)∧Ext w w';clear hg hfb hX;go_enter func193,ntmps193;go_wp2_with (first | (go_at_call 136;with_reducible refine aM (hP _) λos1 d1=>?_) | (go_at_call 224;with_reducible refine aM (hF _) λos2 d2=>?_) | (go_at_call 225;with_reducible refine aM (hO _) λos3 d3=>?_) | (go_at_call 63;with_reducible refine aM (hBg _) λos4 d4=>?_));exact rc1 rfl rfl (by simp[go_sem]) ⟨rfl,by simp[go_sem]⟩
theorem zty (s:ByteArray) (l):(decide (l.length<=s.size)&&((s.extract 0 l.length).toList==l))=Lib.hasPrefix s.data.toList l:=by
 have h:=Lib.hasPrefix_raw s ⟨l.toArray⟩;rw[ByteArray.toList_eq ⟨l.toArray⟩] at h;exact h
theorem zsg (s:ByteArray) (n):s.extract n s.size=⟨(s.data.toList.drop n).toArray⟩:=by
 apply ByteArray.ext
 rw[ByteArray.data_extract];apply Array.ext'
 rw[Array.toList_extract];show((s.data.toList.drop n).take (s.size-n))=_;rw[List.take_of_length_le (by rw[List.length_drop,Array.length_toList];exact Nat.le_refl _)]
theorem ztz (x w) (hx:x.right) :
  Tl prog 144 #[VV x.kind x.mant x.exp x.text x.truth x.fault] w (CV (zaf x).1 (zaf x).2):=by
 have hts:x.kind=2->x.text.size<=255:=(zbG hx).2.2.1;have hrd:=λs W hs=>zqD s W hs;by_cases h2:x.kind=2
 ·have hts2:=hts h2;obtain⟨X,hX⟩:∃ X,zaf x=X:=⟨_,rfl⟩;rw[hX];have HX:=Lib.hid hX;obtain⟨xk,xm,xe,xt,xb,xf⟩:=x;simp only at h2 hts2;subst h2;clear hx hts hX;simp only;go_enter func144,ntmps144;go_wp2_with fail;go_loopw [4] (λi wr=>∃ k:Nat,k<=6∧i = .int .i64 (k:Int)∧Ext (((w.alloc (.cells #[.int .i64 2,.int .i64 xm,.int .i64 xe,.string xt,.bool xb,.int .i64 xf] 38)).alloc (.cells #[.string ⟨#[]⟩,.int .i64 0,.int .i64 0,.int .i64 0,.string ⟨#[]⟩,.bool false,.int .i64 0] 127)).alloc (.cells #[.string ⟨#[62,61]⟩,.string ⟨#[60,61]⟩,.string ⟨#[60,62]⟩,.string ⟨#[62]⟩,.string ⟨#[60]⟩,.string ⟨#[61]⟩] 9)) wr∧Hid (∀ j c',j<k->csL[j]? = some c'->Lib.hasPrefix xt.data.toList c'.key=false)) (λi _=>6-(intOf i).toNat)
  case atStart=>exact⟨0,by omega,rfl,Ext.refl _,λj c' hj=>by omega⟩
  case round=>
   obtain⟨k,hk,rfl,hxr,HN⟩:=hrel;obtain⟨os,d,rfl⟩:=hxr.more;clear hxr;by_cases hlt:k<6
   ·obtain⟨c,hc⟩:∃ c,csL[k]? = some c:=⟨_,List.getElem?_eq_getElem (by simpa[csL] using hlt)⟩;have hp:=zty xt c.key;have hno:Lib.hasPrefix xt.data.toList c.key=false->Hid (∀ j c',j<k+1->csL[j]? = some c'->Lib.hasPrefix xt.data.toList c'.key=false):=λhq j c' hj hc'=>by
     by_cases e:j=k
     ·subst e;rw[hc] at hc';obtain rfl:=Option.some.inj hc';exact hq
     ·exact HN.out j c' (by omega) hc'
    have hyes:Lib.hasPrefix xt.data.toList c.key=true->(c,zbn (xt.extract c.key.length xt.size))=X:=λhq=>by
     rw[<-HX.out];unfold zaf;rw[if_pos rfl];simp only;rw[znH (s:=xt) (k:=k) HN.out hc hq];simp only;unfold Lib.trimPrefix;rw[if_pos hq,zsg]
    clear HN HX;by_cases hl:c.key.length<=xt.size
    ·rw[decide_eq_true hl,Bool.true_and] at hp;cases hq:Lib.hasPrefix xt.data.toList c.key with
     | false=>
      have HN2:=hno hq;rw[hq] at hp;clear hq hrd hno hyes;rcases(show k=0∨k=1∨k=2∨k=3∨k=4∨k=5 by omega) with rfl | rfl | rfl | rfl | rfl | rfl
      all_goals
       obtain rfl:=Option.some.inj hc;clear hc;simp only[CS.key,List.length_cons,List.length_nil,Nat.zero_add,Nat.reduceAdd] at hp hl;first | (have hl2:(2:Int)<=xt.size:=by omega) | (have hl2:(1:Int)<=xt.size:=by omega)
       clear hl;go_upto_region 7 with fail;go_region
       go_wp2_with fail;exact⟨⟨_,by omega,by go_num,by simp[go_sem],HN2⟩,by simp[intOf]⟩
     | true=>
      have hX:=hyes hq;have hsz:(xt.extract c.key.length xt.size).size<=255:=by rw[ByteArray.size_extract];omega
      have hrd2:=λW=>hrd _ W hsz;rw[hq] at hp;clear hq hrd hno hyes hsz;generalize zbn (xt.extract c.key.length xt.size)=y at *;subst hX;rcases(show k=0∨k=1∨k=2∨k=3∨k=4∨k=5 by omega) with rfl | rfl | rfl | rfl | rfl | rfl
      all_goals
       obtain rfl:=Option.some.inj hc;clear hc;simp only[CS.key,List.length_cons,List.length_nil,Nat.zero_add,Nat.reduceAdd] at hp hl hrd2;first | (have hl2:(2:Int)<=xt.size:=by omega) | (have hl2:(1:Int)<=xt.size:=by omega)
       clear hl;go_upto_region 7 with fail;go_region
       go_upto_region 8 with fail;go_region_with (go_at_call 193;with_reducible refine aM (hrd2 _) λos2 d2=>?_)
       all_goals
        go_wp2_with fail;exact rc1 rfl rfl (by simp[go_sem];rfl) ⟨rfl,by simp[go_sem]⟩
    ·rw[decide_eq_false hl,Bool.false_and] at hp;have HN2:=hno hp.symm;clear hp hrd hno hyes;rcases(show k=0∨k=1∨k=2∨k=3∨k=4∨k=5 by omega) with rfl | rfl | rfl | rfl | rfl | rfl
     all_goals
      obtain rfl:=Option.some.inj hc;clear hc;simp only[CS.key,List.length_cons,List.length_nil,Nat.zero_add,Nat.reduceAdd] at hl;first | (have hl2:¬ (1:Int)<=xt.size:=by omega) | (have hl2:¬ (2:Int)<=xt.size:=by omega)
      clear hl;go_upto_region 7 with fail;go_region
      go_wp2_with fail;exact⟨⟨_,by omega,by go_num,by simp[go_sem],HN2⟩,by simp[intOf]⟩
   ·obtain rfl:k=6:=by omega
    have hX:(CS.eq,(⟨2,xm,xe,xt,xb,xf⟩:Val))=X:=by
     rw[<-HX.out];unfold zaf;rw[if_pos rfl];simp only;rw[zkm (s:=xt) HN.out]
    subst hX;clear HN HX hrd;go_wp2_with fail;exact rc1 rfl rfl (by simp[go_sem];rfl) ⟨rfl,by simp[go_sem]⟩
 ·have h2':(x.kind==2)=false:=by simpa using h2
  have he:zaf x=(.eq,x):=by unfold zaf;rw[if_neg h2]
  rw[he];clear hx hts h2 he hrd;go_enter func144,ntmps144;go_wp2_with fail;exact rc1 rfl rfl (by simp[go_sem];rfl) ⟨rfl,by simp[go_sem]⟩
def zbg (sums:Bool) (xs:List Ar):Val:=
 if(zaR xs 1).kind=4 then zaR xs 1
 else if((zaV xs).R==(zI xs 0).R&&(zaV xs).C==(zI xs 0).C)=false then zx 2
 else
  let l:=zY (zbQ (zaf (zaR xs 1)).1 (zaf (zaR xs 1)).2) (zI xs 0).l (zaV xs).l
  if sums then(if ffL l=0 then sumV (zu l) else zx (ffL l)) else zdJ (l.length:Int)
theorem zkv {w A n cap xs} (h:ArgsIn w A n cap xs) (hn:2<=n):zbM xs=zaj (zbg true xs):=by
 unfold zbM zbg;split
 ·rename_i h4;obtain⟨R',C',l',b2,off2,n2,cap2,b',off',x,ha1,e1,_,hn2,hc2,_,hgv,hxr,_,hb2,hav,_,_,_⟩:=h.first (k:=1) (by omega);rw[hav] at h4⊢;have hc:=zbG hxr;have hf:=hc.2.2.2 h4;have ht:=hxr.form;rcases ht with e | ⟨m,ex,e,_⟩ | ⟨t,e,_⟩ | ⟨b,e⟩ | ⟨f,e,_⟩
  ·rw[e] at h4;cases h4
  ·rw[e] at h4;cases h4
  ·rw[e] at h4;cases h4
  ·rw[e] at h4;cases h4
  ·rw[e] at hf⊢;show zaj (zx f)=zaj (zz f);unfold zx zE;rw[if_neg (by have:(zz f).fault=f:=rfl;omega)]
 ·split
  ·rfl
  ·simp only[if_true];split <;> rfl
theorem zkw (q:Val->Bool):∀ l:List Val,zY q l l=l.filter q
 | []=>rfl
 | v::l=>by
  unfold zY;rw[zkw q l,List.filter_cons]
theorem zmR {w A cap xs} (h:ArgsIn w A 2 cap xs):zdi xs=zaj (zbg false xs):=by
 have hs:=zkv h (Nat.le_refl _);unfold zbM at hs;unfold zdi;by_cases h4:(zaR xs 1).kind=4
 ·rw[if_pos h4] at hs;rw[if_pos h4,hs];unfold zbg;rw[if_pos h4,if_pos h4]
 ·rw[if_neg h4];unfold zbg;have hx3:¬ xs.length=3:=by rw[h.len];decide
  rw[if_neg h4];unfold zaV;rw[if_neg hx3,if_neg (by simp)];simp only[Bool.false_eq_true,if_false];rw[zkw];rfl
theorem zjg (sums A n cap xs w) (h:ArgsIn w A n cap xs) (hn:2<=n) (hn3:n<=3) :
  Tl prog 71 #[.slice A n cap,.bool sums] w (VV (zbg sums xs).kind (zbg sums xs).mant (zbg sums xs).exp (zbg sums xs).text (zbg sums xs).truth (zbg sums xs).fault):=by
 obtain⟨i0,hi0,hz0,hz1,hz2⟩:=info_parts zcn;have hxl:=h.len;have hcap:=h.cap;have hsm:=h.small;have hn0:0<n:=by omega
 obtain⟨R,C,l,b1,off1,n1,cap1,b,off,x0,ha0,rfl,⟨v0,v1,v2⟩,hn1,hc1,_,_,_,hbl,hb1,_,_,harr,_⟩:=h.first (k:=0) (by omega);obtain⟨R',C',l',b2,off2,n2,cap2,b',off',x,ha1,e1,⟨w0,w1,w2⟩,hn2,hc2,⟨y0,y1,y2,y3,y4,y5⟩,hgv,hxr,_,hb2,hav,_,_,_⟩:=h.first (k:=1) (by omega);obtain⟨rfl,rfl⟩:b=b'∧off=off':=by simpa using e1
 simp only[Nat.zero_mul,Nat.add_zero,Nat.one_mul] at v0 v1 v2 w0 w1 w2;have hln:=harr.len;have hright:=(h.all _ (List.mem_of_getElem? ha0)).right;obtain⟨r1,r2,r3,r4,r5⟩:=zC.1 hright;simp only at r1 r2 r3 r4 r5;have hN0:zI xs 0=⟨R,C,l⟩:=by unfold zI;rw[ha0]
 obtain⟨X,hX⟩:∃ X,zbg sums xs=X:=⟨_,rfl⟩;rw[hX];unfold zbg at hX;rw[hav,hN0] at hX;by_cases h4:x.kind=4
 ·rw[if_pos h4] at hX;subst hX;have h4':(x.kind==4)=true:=by simpa using h4
  clear h ha0 ha1 hav hgv hN0 r5 harr hln e1 hright h4 hxr v0 v1 v2;go_enter func71,ntmps71;go_wp2_with fail;exact rc1 rfl rfl (by simp[go_sem];done) ⟨rfl,by simp[go_sem]⟩
 ·rw[if_neg h4] at hX;have h4':(x.kind==4)=false:=by simpa using h4
  have hof:=λW=>ztz x W hxr;have hcr:=zeh hxr;have HS:∃ (R2 C2:Nat) (l2:List Val) (b3 off3 n3 cap3:Nat),zaV xs=⟨R2,C2,l2⟩∧ArOk w ⟨⟨R2,C2,l2⟩,some ⟨b3,off3,none⟩,n3,cap3⟩∧(n=3->zio w b (off+6) ⟨⟨R2,C2,l2⟩,some ⟨b3,off3,none⟩,n3,cap3⟩)∧(n=2->R2=R∧C2=C∧l2=l∧b3=b1∧off3=off1∧n3=n1∧cap3=cap1):=by
   by_cases h3:n=3
   ·obtain⟨R2,C2,l2,b3,off3,n3,cap3,b'',off'',x2,ha2,e2,hat2,_⟩:=h.first (k:=2) (by omega);obtain⟨rfl,rfl⟩:b=b''∧off=off'':=by simpa using e2
    exact⟨R2,C2,l2,b3,off3,n3,cap3,by unfold zaV zI;rw[if_pos (by omega),ha2],h.all _ (List.mem_of_getElem? ha2),λ_=>hat2,λh=>by omega⟩
   ·exact⟨R,C,l,b1,off1,n1,cap1,by unfold zaV;rw[if_neg (by omega),hN0],h.all _ (List.mem_of_getElem? ha0),λh=>absurd h h3,λ_=>⟨rfl,rfl,rfl,rfl,rfl,rfl,rfl⟩⟩
  obtain⟨R2,C2,l2,b3,off3,n3,cap3,hsum,hok2,hat3,hat2⟩:=HS;rw[hsum] at hX;have hright2:=hok2.right;have harr2:=hok2.arr;simp only at hright2 harr2;obtain⟨p1,p2,p3,p4,p5⟩:=zC.1 hright2;simp only at p1 p2 p3 p4 p5;have hln2:=harr2.len;have HX:=Lib.hid hX;have HR1:=Lib.hid r5;have HR2:=Lib.hid p5;have HA:=Lib.hid harr;have HA2:=Lib.hid harr2;have HLN:=Lib.hid (And.intro hln hln2);have HSH:=Lib.hid (show R2=R->C2=C->n3=n1 by intro e1 e2;rw[e1,e2] at p4;omega);have hq1:n1<=4096:=by omega
  have hq3:n3<=4096:=by omega
  clear hX h ha0 ha1 hav hgv hN0 r5 harr hln e1 hright h4 hsum hok2 hright2 harr2 hln2 p5 r1 r2 r3 r4 p1 p2 p3 p4 hxr;have hk:∃ c s,zaf x=(c,s):=⟨_,_,rfl⟩;obtain⟨c,s,hcs⟩:=hk;rw[hcs] at hof hcr;have HCR:=Lib.hid hcr;have HCS:=Lib.hid hcs;clear hcr hcs;by_cases h3:n=3
  focus
   have h3':((n:Int)==3)=true:=by rw[beq_iff_eq];omega
   have h3n:2<n:=by omega
   obtain⟨t0,t1,t2⟩:=hat3 h3;simp only at t0 t1 t2;clear h3 hat2 hat3;go_enter func71,ntmps71;go_upto_region 8 with(go_at_call 144;with_reducible refine aM (hof _) λos1 d1=>?_)
  rotate_left
  focus
   have h3':((n:Int)==3)=false:=by rw[beq_eq_false_iff_ne];omega
   have HE:=Lib.hid (hat2 (by omega));clear h3 hat2 hat3;go_enter func71,ntmps71;go_upto_region 8 with(go_at_call 144;with_reducible refine aM (hof _) λos1 d1=>?_)
  all_goals
   refine zH λU hU=>?_;have hxU:Ext w U:=by rw[hU];exact(by simp[go_sem])
   have k0:U.cell? ⟨w.heap.size+1+1+os1.size,0,none⟩=some (.string c.str):=by rw[hU];go_simp
   have k1:U.cell? ⟨w.heap.size+1+1+os1.size,1,none⟩=some (.int .i64 s.kind):=by rw[hU];go_simp
   have k2:U.cell? ⟨w.heap.size+1+1+os1.size,2,none⟩=some (.int .i64 s.mant):=by rw[hU];go_simp
   have k3:U.cell? ⟨w.heap.size+1+1+os1.size,3,none⟩=some (.int .i64 s.exp):=by rw[hU];go_simp
   have k4:U.cell? ⟨w.heap.size+1+1+os1.size,4,none⟩=some (.string s.text):=by rw[hU];go_simp
   have k5:U.cell? ⟨w.heap.size+1+1+os1.size,5,none⟩=some (.bool s.truth):=by rw[hU];go_simp
   have k6:U.cell? ⟨w.heap.size+1+1+os1.size,6,none⟩=some (.int .i64 s.fault):=by rw[hU];go_simp
   have s0:U.cell? ⟨w.heap.size+1+1+os1.size+1,0,none⟩=some (.int .i64 R2):=by first | (rw[hU];go_simp;done) | (rw[HE.out.1,hU];go_simp)
   have s1:U.cell? ⟨w.heap.size+1+1+os1.size+1,1,none⟩=some (.int .i64 C2):=by first | (rw[hU];go_simp;done) | (rw[HE.out.2.1,hU];go_simp)
   have s2:U.cell? ⟨w.heap.size+1+1+os1.size+1,2,none⟩=some (.slice (some ⟨b3,off3,none⟩) n3 cap3):=by first | (rw[hU];go_simp;done) | (obtain⟨_,_,_,e4,e5,e6,e7⟩:=HE.out;rw[e4,e5,e6,e7,hU];go_simp)
   have hrow:U.heap[w.heap.size]? = some (.cells #[.int .i64 0,.int .i64 0,.int .i64 0,.string ⟨#[]⟩,.bool false,.int .i64 0] 38 (0,0)):=((show Ext (w.alloc (Obj.cells #[.int .i64 0,.int .i64 0,.int .i64 0,.string ⟨#[]⟩,.bool false,.int .i64 0] 38)) U by rw[hU];exact(by simp[go_sem])).block (by simp)).trans (zaU _ _);clear hU;replace v0:=hxU.cell_some v0;replace v1:=hxU.cell_some v1;replace v2:=hxU.cell_some v2;have lv:=za v0;have lk:=za k0;have ls:=za s0;have HAU:=Lib.hid (HA.out.ext hxU);have HA2U:=Lib.hid (HA2.out.ext hxU);have HRW:=Lib.hid hrow;have HXU:=Lib.hid hxU;have hal:=λW=>zi5 R2 C2 R C (some ⟨b3,off3,none⟩) (some ⟨b1,off1,none⟩) n3 cap3 n1 cap1 W;rw[zdj,zdj] at hal;have hbad:=λf W=>zb6 f W;have hcp1:=HAU.out.cap;have hcp3:=HA2U.out.cap;clear HA HA2 hrow hxU w0 w1 w2 y0 y1 y2 y3 y4 y5;generalize w.heap.size+1+1+os1.size=pC at *;cases hsh:(R2==R&&C2==C) with
   | false=>
    rw[hsh] at hal;have hXo:=HX.out;rw[if_pos hsh] at hXo;clear hsh HX;have hx0:=HXU.out;have hrw:=((Ext.refl U).block (zG HRW.out)).trans HRW.out;have o0:=cell_of_row _ _ 0 _ _ _ hrw;have o1:=cell_of_row _ _ 1 _ _ _ hrw;have o2:=cell_of_row _ _ 2 _ _ _ hrw;have o3:=cell_of_row _ _ 3 _ _ _ hrw;have o4:=cell_of_row _ _ 4 _ _ _ hrw;have o5:=cell_of_row _ _ 5 _ _ _ hrw;have g0:=frozen_of_row _ _ 0 _ _ hrw;have g1:=frozen_of_row _ _ 1 _ _ hrw;have g2:=frozen_of_row _ _ 2 _ _ hrw;have g3:=frozen_of_row _ _ 3 _ _ hrw;have g4:=frozen_of_row _ _ 4 _ _ hrw;have g5:=frozen_of_row _ _ 5 _ _ hrw;have lor:=zG hrw;clear hrw;refine plP [(0,0),(1,0),(2,0),(3,0),(4,1),(5,0)] [] (by kernel_rfl) (λ_ _ d _ _ h=>by cases d <;> exact h) ?_;iterate 4(apply rdP rfl rfl;(intros;go_simp;first | done | rfl);try simp only[zq])
    (refine zg rfl ?_ (λK hK=>?_);rfl;go_simp;(refine aM (hal _) λos2 d2=>?_);refine hK _ _ ?_ ?_;(simp[go_sem]))
    try simp only[zq]
    (apply rdP rfl rfl;(intros;go_simp;first | done | rfl))
    try simp only[zq]
    refine zi ?_;go_wp2_with (go_at_call 27;with_reducible refine aM (hbad _ _) λos5 d5=>?_);exact rc1 (v:=VV 4 0 0 ⟨#[]⟩ false (zE 2)) rfl rfl (by simp[go_sem,o0,o1,o2,o3,o4,o5,lor];done) ⟨(by rw[<-hXo];rfl),Ext.more_ (Ext.set (Ext.set (Ext.set (Ext.set (Ext.set (Ext.set hx0 _ (Nat.le_refl _)) _ (Nat.le_refl _)) _ (Nat.le_refl _)) _ (Nat.le_refl _)) _ (Nat.le_refl _)) _ (Nat.le_refl _)) _ _⟩
   | true=>
    rw[hsh] at hal;have hXo:=HX.out;rw[if_neg (by rw[hsh];simp)] at hXo;have hsh2:=hsh;simp only[Bool.and_eq_true,beq_iff_eq] at hsh2;obtain rfl:n3=n1:=HSH.out hsh2.1 hsh2.2;rw[HCS.out] at hXo;simp only at hXo;have HX2:=Lib.hid hXo;have hsr:s.right:=HCR.out;clear hsh hsh2 HX hXo;refine plP [(0,0),(1,0),(2,0),(3,0),(4,1),(5,0)] [] (by kernel_rfl) (λ_ _ d _ _ h=>by cases d <;> exact h) ?_;iterate 4(apply rdP rfl rfl;(intros;go_simp;first | done | rfl);try simp only[zq])
    (refine zg rfl ?_ (λK hK=>?_);rfl;go_simp;(refine aM (hal _) λos2 d2=>?_);refine hK _ _ ?_ ?_;(simp[go_sem]))
    try simp only[zq]
    (apply rdP rfl rfl;(intros;go_simp;first | done | rfl))
    try simp only[zq]
    refine zi ?_;go_upto_region 11 with fail;have HQ:∃ q:Val->Bool,q=zbQ c s:=⟨_,rfl⟩;obtain⟨q,hq⟩:=HQ;rw[<-hq] at HX2;have hfit:=λx1 W (hx1:Val.right x1)=>zqz c s x1 W hx1 hsr;rw[<-hq] at hfit;have HFI:=Lib.hid hfit;clear hq hfit hal hsr;go_wp2_with fail;go_loopw [8,9] (λv i wr=>∃ k:Nat,k<=n3∧i = .int .i64 (k:Int)∧Hid (wr.ownsRow U.heap.size 38 6 v (zY q (l.take k) (l2.take k)).length (zJ (zY q (l.take k) (l2.take k))))∧Ext U wr) (λ_ i _=>n3-(intOf i).toNat)
    case atStart=>exact⟨0,Nat.zero_le _,rfl,World.ownsRow_nil _ _ _ _,by simp[go_sem]⟩
    case round=>
     obtain⟨k,hk,rfl,HW,hxr⟩:=hrel;have hsz:=hxr.size;replace k0:=hxr.cell_some k0;replace k1:=hxr.cell_some k1;replace k2:=hxr.cell_some k2;replace k3:=hxr.cell_some k3;replace k4:=hxr.cell_some k4;replace k5:=hxr.cell_some k5;replace k6:=hxr.cell_some k6;replace s0:=hxr.cell_some s0;replace s1:=hxr.cell_some s1;replace s2:=hxr.cell_some s2;replace v0:=hxr.cell_some v0;replace v1:=hxr.cell_some v1;replace v2:=hxr.cell_some v2;replace lk:=za k0;replace ls:=za s0;replace lv:=za v0;by_cases hlt:k<n3
     ·obtain⟨x1,b9,off9,hx,hxo,e9,hat⟩:=HAU.out.at hlt;obtain⟨rfl,rfl⟩:b1=b9∧off1=off9:=by simpa using e9
      obtain⟨z0,z1,z2,z3,z4,z5⟩:=hat.ext hxr;obtain⟨x2,b8,off8,hx2,hxo2,e8,hat2⟩:=HA2U.out.at hlt;obtain⟨rfl,rfl⟩:b3=b8∧off3=off8:=by simpa using e8
      obtain⟨a0,a1,a2,a3,a4,a5⟩:=hat2.ext hxr;have lz:=za z0;have la:=za a0;have hxR:x1.right:=HR1.out x1 (List.mem_of_getElem? hx);have HS:=Lib.hid (zfD q hx hx2);have hcall:=λW=>HFI.out x1 W hxR;have hfl:=Lib.hid (zcq q (l.take k) (l2.take k));have hle:(zY q (l.take k) (l2.take k)).length<=4096:=by have:=hfl.out;rw[List.length_take] at this;omega
      clear hx hx2 hxR hat hat2 hfl e9 e8;generalize zY q (l.take k) (l2.take k)=F at *;generalize q x1=bq at *;go_upto_region 14 with fail;refine plP [(0,0),(1,0),(2,0),(3,0),(4,0),(5,0),(6,0),(7,0),(8,1)] [] (by kernel_rfl) (λ_ _ d _ _ h=>by cases d <;> exact h) ?_;iterate 8(apply rdP rfl rfl;(intros;go_simp;first | done | rfl);try simp only[zq])
      (refine zg rfl ?_ (λK hK=>?_);rfl;go_simp;(refine aM (hcall _) λos3 d3=>?_);refine hK _ _ ?_ ?_;(simp[go_sem]))
      try simp only[zq]
      refine zi ?_;cases bq with
      | true=>
       have hS:=HS.out;rw[if_pos rfl] at hS;have HS2:=Lib.hid hS;clear HS hS;go_wp2_with (at_builtin;refine wpList_append_own _ rfl _ _ _ rfl U.heap.size 38 i0 (VV 0 0 0 ⟨#[]⟩ false 0) 6 56 Tryz.underlying25 hi0 hz0 hz1 hz2 rfl (by decide) _ F.length (zJ F) rfl (zL HW.out (by simp[go_sem])) _ 1 1 (Val.cells x2) rfl rfl (zap _ _ _ (by first | rfl | (simp;done)) rfl _) (zdf _) (by simp only[maxLen];omega) (by omega) (by first | omega | (simp;omega)) ?_;intro v4 w4 ho4 hg4 _);have hx4:=za2 (hxr.trans (by simp[go_sem])) (zL HW.out (by simp[go_sem])) hg4;refine⟨⟨k+1,by omega,by go_num,?_,hx4⟩,by simp[intOf];omega⟩;show World.ownsRow _ _ _ _ _ _ _;rw[HS2.out,zcM,List.length_append];simpa[zJ] using ho4
      | false=>
       have hS:=HS.out;rw[if_neg (by simp),List.append_nil] at hS;have HS2:=Lib.hid hS;clear HS hS;go_wp2_with fail;refine⟨⟨k+1,by omega,by go_num,?_,hxr.trans (by simp[go_sem])⟩,by simp[intOf];omega⟩;show World.ownsRow _ _ _ _ _ _ _;rw[HS2.out];exact zL HW.out (by simp[go_sem])
     ·obtain rfl:k=n3:=by omega
      have htk:l.take k=l:=by rw[<-HLN.out.1];exact List.take_length
      have htk2:l2.take k=l2:=by rw[<-HLN.out.2];exact List.take_length
      rw[htk,htk2] at HW;obtain⟨D,cD,rfl,hrd,hcD⟩:=Rd.of_own HW.out;have hfl:=zcq q l l2;have hln:=HLN.out.1;have hFR:∀ v∈zY q l l2,v.right:=λv hv=>HR2.out v (zeq q hv);have hle:(zY q l l2).length<=4096:=by omega
      have hin:ArrIn wr D (zY q l l2).length cD (zY q l l2):=⟨hrd.mono (Nat.zero_le _),rfl,hcD,by omega,λy hy=>(hFR y hy).ok⟩;have hXo:=HX2.out;have hnr:=zb4 hFR;have hlen9:=zbf (zY q l l2);have hfb:=zjc hFR;have hx0:Ext w wr:=HXU.out.trans hxr;have hrw:=(hxr.block (zG HRW.out)).trans HRW.out;have o0:=cell_of_row _ _ 0 _ _ _ hrw;have o1:=cell_of_row _ _ 1 _ _ _ hrw;have o2:=cell_of_row _ _ 2 _ _ _ hrw;have o3:=cell_of_row _ _ 3 _ _ _ hrw;have o4:=cell_of_row _ _ 4 _ _ _ hrw;have o5:=cell_of_row _ _ 5 _ _ _ hrw;have g0:=frozen_of_row _ _ 0 _ _ hrw;have g1:=frozen_of_row _ _ 1 _ _ hrw;have g2:=frozen_of_row _ _ 2 _ _ hrw;have g3:=frozen_of_row _ _ 3 _ _ hrw;have g4:=frozen_of_row _ _ 4 _ _ hrw;have g5:=frozen_of_row _ _ 5 _ _ hrw;have lor:=zG hrw;clear hrw;clear HW hrd hFR hfl hln htk htk2 HX2 HFI HCR HCS HR1 HR2 HLN HSH HRW hxr;generalize zY q l l2=FL at *;have HIN:=Lib.hid hin;cases sums with
      | false=>
       rw[if_neg (by simp)] at hXo;have hct:=λW=>zek (FL.length:Int) W (by have:T 15=1000000000000000:=(by decide);omega);have HXo:=Lib.hid hXo;clear hXo hin hnr hlen9 hfb;generalize hpw:zl (FL.length:Int)=pw at *;go_wp2_with (go_at_call 66;with_reducible refine aM (hct _) λos5 d5=>?_);exact rc1 (v:=VV 1 pw.1 pw.2 ⟨#[]⟩ false 0) rfl rfl (by simp[go_sem,o0,o1,o2,o3,o4,o5,lor];done) ⟨(by rw[<-HXo.out,<-hpw];rfl),Ext.more_ (Ext.set (Ext.set (Ext.set (Ext.set (Ext.set (Ext.set hx0 _ (Nat.le_refl _)) _ (Nat.le_refl _)) _ (Nat.le_refl _)) _ (Nat.le_refl _)) _ (Nat.le_refl _)) _ (Nat.le_refl _)) _ _⟩
      | true=>
       rw[if_pos rfl] at hXo;have hfi:=λW hA=>zgI D FL.length cD FL W hA;generalize hff:ffL FL=f at *;by_cases h0:f=0
       ·subst h0;rw[if_pos rfl] at hXo;have hnu:=λW hA=>zfn D FL.length cD FL W hA (by omega);have HNR:=Lib.hid (And.intro hnr hlen9);have HXo:=Lib.hid hXo;clear hXo hin hnr hlen9 hfb hff;generalize zu FL=L at *;have hsu:=λW D2 c2 (hA:NmIn W D2 L.length c2 L)=>zis D2 L.length c2 L W hA;have hmd:=λW=>zdk (zbC (0,0) L) W;unfold sumV at HXo;generalize zbC (0,0) L=r at *;generalize zo r=y at *;generalize hL9:L.length=n9 at *;go_wp2_with (first | (go_at_call 73;with_reducible refine aM (hfi _ (HIN.out.ext (by simp[go_sem]))) λos5 d5=>?_) | (go_at_call 70;(with_reducible refine(hnu _ (HIN.out.ext (by simp[go_sem]))).mono ?_);rintro e w' ⟨v3,rfl,hN3,hb⟩;obtain⟨D3,c3,rfl,hI3⟩:=hN3.in (by have:=HNR.out.2;omega) HNR.out.1;rw[hL9] at hI3;(try rw[hL9]);obtain⟨os6,d6,rfl⟩:=hb.more;clear hb hN3;(try simp only[zc,zj,zh,Array.append_assoc] at hI3)) | (go_at_call 75;with_reducible refine aM (hsu _ _ _ (hI3.ext (by exact(by simp[go_sem])))) λos7 d7=>?_) | (go_at_call 74;with_reducible refine aM (hmd _) λos8 d8=>?_));exact rc1 (v:=VV y.kind y.mant y.exp y.text y.truth y.fault) rfl rfl (by simp[go_sem,o0,o1,o2,o3,o4,o5,lor];done) ⟨(by rw[HXo.out]),Ext.more_ (Ext.set (Ext.set (Ext.set (Ext.set (Ext.set (Ext.set hx0 _ (Nat.le_refl _)) _ (Nat.le_refl _)) _ (Nat.le_refl _)) _ (Nat.le_refl _)) _ (Nat.le_refl _)) _ (Nat.le_refl _)) _ _⟩
       ·rw[if_neg h0] at hXo;have hfp:0<f:=by omega
        have HXo:=Lib.hid hXo;clear hXo hin hnr hlen9 hfb hff h0;go_wp2_with (first | (go_at_call 73;with_reducible refine aM (hfi _ (HIN.out.ext (by simp[go_sem]))) λos5 d5=>?_) | (go_at_call 27;with_reducible refine aM (hbad _ _) λos6 d6=>?_));exact rc1 (v:=VV 4 0 0 ⟨#[]⟩ false (zE f)) rfl rfl (by simp[go_sem,o0,o1,o2,o3,o4,o5,lor];done) ⟨(by rw[<-HXo.out];rfl),Ext.more_ (Ext.set (Ext.set (Ext.set (Ext.set (Ext.set (Ext.set hx0 _ (Nat.le_refl _)) _ (Nat.le_refl _)) _ (Nat.le_refl _)) _ (Nat.le_refl _)) _ (Nat.le_refl _)) _ (Nat.le_refl _)) _ _⟩
theorem zoR (xs) {k n} (h:k<n):(zbN xs n)[k]? = some (zbD (1,0) (za6 xs k)):=by
 unfold zbN;rw[List.getElem?_map,List.getElem?_range h];rfl
theorem zmS (xs) {k n} (h:k<n):(zbN xs n).drop k=zbD (1,0) (za6 xs k)::(zbN xs n).drop (k+1):=by
 have:=List.drop_eq_getElem_cons (l:=zbN xs n) (i:=k) (by unfold zbN;simpa using h);rw[this];congr 1
 have h2:=zoR xs h;rw[List.getElem?_eq_some_iff] at h2;exact h2.2
theorem zjh (A n cap xs w) (h:ArgsIn w A n cap xs) (h1:1<=n) (hn:n<=100) (hF:ffL (zs xs)=0) :
  Tl prog 76 #[.slice A n cap] w (VV (spV xs).kind (spV xs).mant (spV xs).exp (spV xs).text (spV xs).truth (spV xs).fault):=by
 have hbad:=λf W=>zb6 f W;have H:=Lib.hid h;have hnr:=λk=>znS (k:=k) h;have HNR:=Lib.hid hnr;have hcap:=h.cap;have hsm:=h.small;have hn0:0<n:=by omega
 obtain⟨X,hX⟩:∃ X,spV xs=X:=⟨_,rfl⟩;rw[hX];unfold spV at hX;rw[if_pos hF] at hX;clear hnr hF;obtain⟨i0,hi0,hz0,hz1,hz2⟩:=info_parts zdK;obtain⟨R,C,l,b1,off1,n1,cap1,b,off,x0,ha0,rfl,⟨v0,v1,v2⟩,hn1,hc1,_,_,_,hbl,hb1,_,_,harr,_⟩:=h.first (k:=0) (by omega);simp only[Nat.zero_mul,Nat.add_zero] at v0 v1 v2;have hN0:zI xs 0=⟨R,C,l⟩:=by unfold zI;rw[ha0]
 obtain⟨r1,r2,r3,r4,r5⟩:=zC.1 (h.all _ (List.mem_of_getElem? ha0)).right;simp only at r1 r2 r3 r4;have hln:=harr.len;have hq1:n1<=4096:=by omega
 rw[hN0] at hX;simp only[hln] at hX;have HX:=Lib.hid hX;have HR4:=Lib.hid (show n1=R*C by omega);have HXL:=Lib.hid h.len;clear h hX ha0 hN0 r3 r4 r5 harr hln;go_enter func76,ntmps76;go_upto_region 3 with fail;go_wp2_with fail;go_loopw [4] (λi wr=>∃ k:Nat,k<=n∧i = .int .i64 (k:Int)∧Hid (∀ j a,j<k->xs[j]? = some a->zcy a.x ⟨R,C,l⟩=true)∧Ext ((w.alloc (Obj.cells #[.int .i64 0,.int .i64 0,.int .i64 0,.string ⟨#[]⟩,.bool false,.int .i64 0] 38)).alloc (Obj.cells #[.int .i64 0,.int .i64 0] 36)) wr) (λi _=>n-(intOf i).toNat)
 case atStart=>exact⟨0,Nat.zero_le _,rfl,λj a hj=>by omega,by simp[go_sem]⟩
 case round=>
  obtain⟨k,hk,rfl,HK,hxr⟩:=hrel;obtain⟨os,d,rfl⟩:=hxr.more;by_cases hlt:k<n
  ·obtain⟨a,b',off',ha,hbo,hat,hok⟩:=H.out.at hlt;obtain⟨rfl,rfl⟩:=aI hbo;obtain⟨u0,u1,u2⟩:=hat;have hal:=λW=>zi5 a.x.R a.x.C R C a.A (some ⟨b1,off1,none⟩) a.n a.cap n1 cap1 W;rw[zdj,zdj] at hal;have hab:zcy a.x ⟨R,C,l⟩=(a.x.R==R&&a.x.C==C):=rfl;rw[<-hab] at hal;have HA:=Lib.hid ha;clear ha hok hab hxr;cases hsh:zcy a.x ⟨R,C,l⟩ with
   | true=>
    rw[hsh] at hal;have HK2:Hid (∀ j a,j<k+1->xs[j]? = some a->zcy a.x ⟨R,C,l⟩=true):=λj a' hj hx=>by
     by_cases e:j=k
     ·subst e;rw[HA.out] at hx;obtain rfl:=Option.some.inj hx;exact hsh
     ·exact HK.out j a' (by omega) hx
    clear hsh HK;go_upto_region 5 with fail;refine plP [(0,0),(1,0),(2,0),(3,0),(4,0),(5,0),(6,0),(7,1),(8,0)] [] (by kernel_rfl) (λ_ _ d _ _ h=>by cases d <;> exact h) ?_;iterate 7(apply rdP rfl rfl;(intros;go_simp;first | done | rfl);try simp only[zq])
    (refine zg rfl ?_ (λK hK=>?_);rfl;go_simp;(refine aM (hal _) λos2 d2=>?_);refine hK _ _ ?_ ?_;(simp[go_sem]))
    try simp only[zq]
    (apply rdP rfl rfl;(intros;go_simp;first | done | rfl))
    try simp only[zq]
    refine zi ?_;go_wp2_with fail;exact⟨⟨k+1,by omega,by go_num,HK2,by simp[go_sem]⟩,by simp[intOf];omega⟩
   | false=>
    rw[hsh] at hal;have hXo:=HX.out;rw[if_neg (λhall=>by have:=hall a (List.mem_of_getElem? HA.out);rw[hsh] at this;cases this)] at hXo;obtain rfl:zx 2=X:=hXo;have hf2:=λW=>hbad 2 W;clear hsh HK HX;go_upto_region 5 with fail;refine plP [(0,0),(1,0),(2,0),(3,0),(4,0),(5,0),(6,0),(7,1),(8,0)] [] (by kernel_rfl) (λ_ _ d _ _ h=>by cases d <;> exact h) ?_;iterate 7(apply rdP rfl rfl;(intros;go_simp;first | done | rfl);try simp only[zq])
    (refine zg rfl ?_ (λK hK=>?_);rfl;go_simp;(refine aM (hal _) λos2 d2=>?_);refine hK _ _ ?_ ?_;(simp[go_sem]))
    try simp only[zq]
    (apply rdP rfl rfl;(intros;go_simp;first | done | rfl))
    try simp only[zq]
    refine zi ?_;go_wp2_with (first | (go_at_call 27;with_reducible refine aM (hf2 _) λos3 d3=>?_));exact rc1 (v:=VV 4 0 0 ⟨#[]⟩ false (zE 2)) rfl rfl (by simp[go_sem]) ⟨rfl,by simp[go_sem]⟩
  ·obtain rfl:n=k:=by omega
   have hal:∀ a∈xs,zcy a.x ⟨R,C,l⟩=true:=λa ha=>by
    obtain⟨j,hj,rfl⟩:=List.mem_iff_getElem.1 ha;exact HK.out j _ (by rw[HXL.out] at hj;exact hj) (List.getElem?_eq_getElem hj)
   have hXo:=HX.out;rw[if_pos hal] at hXo;have HXo:=Lib.hid hXo;have HAL:=Lib.hid hal;clear hXo hal HX HK hxr;go_wp2_with fail;go_loopw [5] (λi wr=>∃ (k:Nat) (t:Nm) (os:Array Obj) (d:Nat),k<=n1∧i = .int .i64 (k:Int)∧wr=more ((w.alloc (Obj.cells #[.int .i64 0,.int .i64 0,.int .i64 0,.string ⟨#[]⟩,.bool false,.int .i64 0] 38)).alloc (Obj.cells #[.int .i64 t.1,.int .i64 t.2] 36)) os d∧Hid (zo (zdC t ((zbN xs n1).drop k))=X)∧Hid (Rt t.1 t.2)) (λi _=>n1-(intOf i).toNat)
   case atStart=>exact⟨0,(0,0),os,d,Nat.zero_le _,rfl,rfl,HXo.out,zcY⟩
   case round=>
    clear HXo;obtain⟨k,⟨tm,te⟩,os,d,hk,rfl,rfl,HD,HT⟩:=hrel;simp only;by_cases hlt:k<n1
    ·go_wp2_with fail;generalize hVV:more ((w.alloc (Obj.cells #[.int .i64 0,.int .i64 0,.int .i64 0,.string ⟨#[]⟩,.bool false,.int .i64 0] 38)).alloc (Obj.cells #[.int .i64 tm,.int .i64 te] 36)) os d=V at *;have HV:=Lib.hid hVV;have hxV:Ext w V:=by rw[<-hVV];exact(by simp[go_sem])
     have w0:=hxV.cell_some v0;have lw:=za w0;clear hVV;go_loopw [6,7] (λv i wz=>∃ j:Nat,j<=n∧i = .int .i64 (j:Int)∧Hid (Nms V.heap.size wz v ((za6 xs k).take j))∧Ext V wz) (λ_ i _=>n-(intOf i).toNat)
     case atStart=>exact⟨0,Nat.zero_le _,rfl,World.ownsRow_nil _ _ _ _,Ext.refl _⟩
     case round=>
      obtain⟨j,hj,rfl,HW,hxz⟩:=hrel;have hszz:=hxz.size;by_cases hlj:j<n
      ·obtain⟨Ra,Ca,la,ba,offa,na,capa,b',off',y0,ha,hbo,⟨u0,u1,u2⟩,hna,hca,_,_,_,_,_,_,_,harr,_⟩:=H.out.first hlj;obtain⟨rfl,rfl⟩:=aI hbo;have hal:=HAL.out _ (List.mem_of_getElem? ha);obtain⟨q1,q2,q3,q4,q5⟩:=zC.1 (H.out.all _ (List.mem_of_getElem? ha)).right;simp only[zcy,Bool.and_eq_true,beq_iff_eq] at hal u0 u1 u2 q3 q4 q5;have hlna:=harr.len;obtain⟨rfl,rfl⟩:=hal;have hkn:k<na:=by have:=HR4.out;omega
       obtain⟨x,b9,off9,hx,hxo,e9,hat⟩:=harr.at hkn;obtain⟨rfl,rfl⟩:=aI e9;have HS:=Lib.hid (znT (k:=k) ha);have hgx:zaI la k=x:=by unfold zaI;rw[hx];rfl
       have hS:=HS.out;simp only at hS;rw[hgx] at hS;have hxwz:=hxV.trans hxz;replace u0:=hxwz.cell_some u0;replace u1:=hxwz.cell_some u1;replace u2:=hxwz.cell_some u2;have lu:=za u0;obtain⟨z0,z1,z2,z3,z4,z5⟩:=hat.ext hxwz;have lz:=za z0;have hle:((za6 xs k).take j).length<=100:=by rw[List.length_take];omega
       obtain⟨xk,xm,xe,xt,xb,xf⟩:=x;simp only at z0 z1 z2 z3 z4 z5;by_cases hk1:xk=1
       ·subst hk1;have HS2:Hid ((za6 xs k).take (j+1)=(za6 xs k).take j++[(xm,xe)]):=hS;clear ha harr hx hat hS HS hgx q3 q4 q5 hlna;generalize (za6 xs k).take j=F at *;go_wp2_with (at_builtin;refine wpList_append_own _ rfl _ _ _ rfl V.heap.size 36 i0 (NV 0 0) 2 16 Tryz.underlying62 hi0 hz0 hz1 hz2 rfl (by decide) _ F.length (zN F) rfl (zL HW.out (by simp[go_sem])) _ 1 1 [.int .i64 xm,.int .i64 xe] rfl rfl (zap _ _ _ (by first | rfl | (simp;done)) rfl _) (zcf [(xm,xe)]) (by simp only[maxLen];omega) (by omega) (by first | omega | (simp;omega)) ?_;intro v4 w4 ho4 hg4 _);have hx4:=za2 (hxz.trans (by simp[go_sem])) (zL HW.out (by simp[go_sem])) hg4;refine⟨⟨j+1,by omega,by go_num,?_,hx4⟩,by simp[intOf];omega⟩;show World.ownsRow _ _ _ _ _ _ _;rw[HS2.out,za0,List.length_append];exact ho4
       ·have HS2:Hid ((za6 xs k).take (j+1)=(za6 xs k).take j++[(0,0)]):=by
         have e:zeX ⟨xk,xm,xe,xt,xb,xf⟩=(0,0):=by unfold zeX;exact if_neg hk1
         rw[e] at hS;exact hS
        have hk1':(xk==1)=false:=by simpa using hk1
        clear ha harr hx hat hS HS hgx q3 q4 q5 hlna hk1;generalize (za6 xs k).take j=F at *;go_wp2_with (at_builtin;refine wpList_append_own _ rfl _ _ _ rfl V.heap.size 36 i0 (NV 0 0) 2 16 Tryz.underlying62 hi0 hz0 hz1 hz2 rfl (by decide) _ F.length (zN F) rfl (zL HW.out (by simp[go_sem])) _ 1 1 [.int .i64 0,.int .i64 0] rfl rfl (zap _ _ _ (by first | rfl | (simp;done)) rfl _) (zcf [(0,0)]) (by simp only[maxLen];omega) (by omega) (by first | omega | (simp;omega)) ?_;intro v4 w4 ho4 hg4 _);have hx4:=za2 (hxz.trans (by simp[go_sem])) (zL HW.out (by simp[go_sem])) hg4;refine⟨⟨j+1,by omega,by go_num,?_,hx4⟩,by simp[intOf];omega⟩;show World.ownsRow _ _ _ _ _ _ _;rw[HS2.out,za0,List.length_append];exact ho4
      ·obtain rfl:n=j:=by omega
       obtain rfl:=HV.out;obtain⟨os4,d4,rfl⟩:=hxz.more;have hlr:(za6 xs k).length=n:=by rw[zmg,HXL.out]
       have htk:(za6 xs k).take n=za6 xs k:=by rw[<-hlr];exact List.take_length
       rw[htk] at HW;obtain⟨D9,c9,rfl,hI9⟩:=HW.out.in (by omega) (HNR.out k);rw[hlr] at hI9;rw[hlr];have HI9:=Lib.hid hI9;have hpr:=λW hI=>zhk D9 n c9 (za6 xs k) W hI;have hd:=HD.out;rw[zmS xs hlt] at hd;clear HW hI9 hlr htk hxz hxV w0 lw HD;cases hm:zbD (1,0) (za6 xs k) with
       | none=>
        rw[hm] at hpr hd;simp only[rm,re,Option.getD_none,Option.isSome_none] at hpr;obtain rfl:zx 5=X:=hd;have hf5:=λW=>hbad 5 W;clear hm;go_wp2_with (first | (go_at_call 80;with_reducible refine aM (hpr _ (HI9.out.ext (by simp[go_sem]))) λos6 d6=>?_) | (go_at_call 27;with_reducible refine aM (hf5 _) λos3 d3=>?_));exact rc1 (v:=VV 4 0 0 ⟨#[]⟩ false (zE 5)) rfl rfl (by simp[go_sem]) ⟨rfl,by simp[go_sem]⟩
       | some p=>
        obtain⟨pm,pe⟩:=p;rw[hm] at hpr hd;simp only[rm,re,Option.getD_some,Option.isSome_some] at hpr;have hprt:Rt pm pe:=zjN zcP hm;have hop:=λW=>ze8 tm te pm pe W (zF HT.out) (zF hprt);replace hd:zo ((addS tm te pm pe).bind λu=>zdC u ((zbN xs n1).drop (k+1)))=X:=hd;have hrr:=λu (hu:addS tm te pm pe=some u)=>zdS (a:=tm) (b:=te) (c:=pm) (d:=pe) (p:=u) hu;clear hm HT;cases ho:addS tm te pm pe with
        | none=>
         rw[ho] at hop hd;simp only[rnV,rm,re,Option.getD_none,Option.isSome_none] at hop;obtain rfl:zx 5=X:=hd;have hf5:=λW=>hbad 5 W;clear ho hrr;go_wp2_with (first | (go_at_call 80;with_reducible refine aM (hpr _ (HI9.out.ext (by simp[go_sem]))) λos6 d6=>?_) | (go_at_call 130;with_reducible refine aM (hop _) λos7 d7=>?_) | (go_at_call 27;with_reducible refine aM (hf5 _) λos3 d3=>?_));exact rc1 (v:=VV 4 0 0 ⟨#[]⟩ false (zE 5)) rfl rfl (by simp[go_sem]) ⟨rfl,by simp[go_sem]⟩
        | some u=>
         obtain⟨um,ue⟩:=u;rw[ho] at hop hd;simp only[rnV,rm,re,Option.getD_some,Option.isSome_some] at hop;have HD2:=Lib.hid hd;have HT2:=Lib.hid (hrr _ ho);clear ho hrr hd;go_wp2_with (first | (go_at_call 80;with_reducible refine aM (hpr _ (HI9.out.ext (by simp[go_sem]))) λos6 d6=>?_) | (go_at_call 130;with_reducible refine aM (hop _) λos7 d7=>?_));exact⟨⟨k+1,(um,ue),(os++(os4++os6)).push (.cells #[.int .i64 pm,.int .i64 pe] 36 (0,0))++os7,d7,by omega,by go_num,(by rw[zcF,zc]),HD2,HT2⟩,by simp[intOf];omega⟩
    ·obtain rfl:n1=k:=by omega
     have hd:=HD.out;rw[List.drop_eq_nil_of_le (by unfold zbN;simp)] at hd;obtain rfl:(⟨1,tm,te,⟨#[]⟩,false,0⟩:Val)=X:=hd;have hnb:=λW=>zaK tm te W;clear HD HT;go_wp2_with (first | (go_at_call 67;with_reducible refine aM (hnb _) λos3 d3=>?_));exact rc1 (v:=VV 1 tm te ⟨#[]⟩ false 0) rfl rfl (by simp[go_sem]) ⟨rfl,by simp[go_sem]⟩
end Go.Proofs.YtinjdacijiohiaaGreatDoor
