import Derived.Test.YtkcpmclnocmalaaGreatQMK13
import Derived.LoopN
set_option linter.unusedVariables false
set_option maxHeartbeats 8000000
set_option maxRecDepth 8000
namespace Go.Proofs.YtkcpmclnocmalaaGreat
open Go.RowKit Go.Front Go.Num Stab
attribute [local go_sem] XW.cell XW.frozen
attribute [local irreducible] Go.Front.wpF
theorem sZ(s t:RH)(a b:Rat)(w:World)(hs:aX w s a)(ht:aX w t b):ar 142 [s.v,t.v] w RH.v (fun x w'=>aX w' x (loV a b)):=by
 obtain ⟨sn,sa,sl,sc,sb,sm,sd⟩:=s;obtain ⟨tn,ta,tl,tc,tb,tm,td⟩:=t;have HX:=Hi (Ext.refl w);have HS:=Hi hs;have HT:=Hi ht;clear hs ht;unfold ar;go_enter Tryz.func142,Tryz.ntmps142
 go_upto_region 1 with fail
 refine sO ?_;intro w1 hE B2 B3 B4 hz_w1 hr_w1;refine mV3 hE ?_ HX HS HT;clear HX HS HT;intro HX HS HT;have hs_w1:=hE.size;replace b_B2:=bX3 B2;replace b_B3:=bX3 B3;replace b_B4:=bX3 B4
 go_wp2_with fail
 refine cM (bS ⟨tn,ta,tl,tc,tb,tm,td⟩ ⟨sn,sa,sl,sc,sb,sm,sd⟩ b a _ HT.out HS.out) fun x7 w7 hE _=>?_
 refine mV6 hE ?_ B2 B3 B4 HX HS HT;clear B2 B3 B4 HX HS HT;intro B2 B3 B4 HX HS HT;have hs_w7:=hE.size;replace b_B2:=bX3 B2;replace b_B3:=bX3 B3;replace b_B4:=bX3 B4;obtain ⟨v,hv⟩:∃ v,v=cG b a:=⟨_,rfl⟩;rw [←hv];by_cases h:b<a
 case pos =>
  have hv0:v<0:=by rw [hv];unfold cG;rw [if_pos h];decide
  have HV:Hid (loV a b=b):=Hi (if_pos h);clear h hv;go_wp2;refine aN (F:=fun W=>bodyPost _ _ _ _ _ W) B4.out rfl ?_;intro w10 T;replace HX:=Hi (T.ext HX.out zo);replace HS:=Hi (HS.out.keep T.keep);replace HT:=Hi (HT.out.keep T.keep);replace B2:=Hi (T.rest _ _ zo B2.out);replace B3:=Hi (T.rest _ _ zo B3.out);replace B4:=Hi (T.bx);have hs_w10:=nle T.size;have hr_w10:=nle T.size.symm;clear T;replace b_B2:=bX3 B2;replace b_B3:=bX3 B3;replace b_B4:=bX3 B4;exact nXa (v:=RH.v ⟨tn,ta,tl,tc,tb,tm,td⟩) (by simp [results,Tryz.results142,go_sem,b_B4.1]) rfl ⟨⟨tn,ta,tl,tc,tb,tm,td⟩,rfl,HX.out,by rw [HV.out];exact HT.out⟩
 have hv0:¬ v<0:=by rw [hv];unfold cG;rw [if_neg h];split <;> decide
 have HV:Hid (loV a b=a):=Hi (if_neg h);clear h hv;go_wp2;refine aN (F:=fun W=>bodyPost _ _ _ _ _ W) B4.out rfl ?_;intro w12 T;replace HX:=Hi (T.ext HX.out zo);replace HS:=Hi (HS.out.keep T.keep);replace HT:=Hi (HT.out.keep T.keep);replace B2:=Hi (T.rest _ _ zo B2.out);replace B3:=Hi (T.rest _ _ zo B3.out);replace B4:=Hi (T.bx);have hs_w12:=nle T.size;have hr_w12:=nle T.size.symm;clear T;replace b_B2:=bX3 B2;replace b_B3:=bX3 B3;replace b_B4:=bX3 B4;exact nXa (v:=RH.v ⟨sn,sa,sl,sc,sb,sm,sd⟩) (by simp [results,Tryz.results142,go_sem,b_B4.1]) rfl ⟨⟨sn,sa,sl,sc,sb,sm,sd⟩,rfl,HX.out,by rw [HV.out];exact HS.out⟩
theorem vt(s t:RH)(a b:Rat)(w:World)(hs:aX w s a)(ht:aX w t b):ar 143 [s.v,t.v] w RH.v (fun x w'=>aX w' x (hiV a b)):=by
 obtain ⟨sn,sa,sl,sc,sb,sm,sd⟩:=s;obtain ⟨tn,ta,tl,tc,tb,tm,td⟩:=t;have HX:=Hi (Ext.refl w);have HS:=Hi hs;have HT:=Hi ht;clear hs ht;unfold ar;go_enter Tryz.func143,Tryz.ntmps143
 go_upto_region 1 with fail
 refine sO ?_;intro w1 hE B2 B3 B4 hz_w1 hr_w1;refine mV3 hE ?_ HX HS HT;clear HX HS HT;intro HX HS HT;have hs_w1:=hE.size;replace b_B2:=bX3 B2;replace b_B3:=bX3 B3;replace b_B4:=bX3 B4
 go_wp2_with fail
 refine cM (bS ⟨tn,ta,tl,tc,tb,tm,td⟩ ⟨sn,sa,sl,sc,sb,sm,sd⟩ b a _ HT.out HS.out) fun x7 w7 hE _=>?_
 refine mV6 hE ?_ B2 B3 B4 HX HS HT;clear B2 B3 B4 HX HS HT;intro B2 B3 B4 HX HS HT;have hs_w7:=hE.size;replace b_B2:=bX3 B2;replace b_B3:=bX3 B3;replace b_B4:=bX3 B4;obtain ⟨v,hv⟩:∃ v,v=cG b a:=⟨_,rfl⟩;rw [←hv];by_cases h:a<b
 case pos =>
  have hv0:(0:Int)<v:=by rw [hv,pX h];decide
  have HV:Hid (hiV a b=b):=Hi (je (by grind));clear h hv;go_wp2;refine aN (F:=fun W=>bodyPost _ _ _ _ _ W) B4.out rfl ?_;intro w10 T;replace HX:=Hi (T.ext HX.out zo);replace HS:=Hi (HS.out.keep T.keep);replace HT:=Hi (HT.out.keep T.keep);replace B2:=Hi (T.rest _ _ zo B2.out);replace B3:=Hi (T.rest _ _ zo B3.out);replace B4:=Hi (T.bx);have hs_w10:=nle T.size;have hr_w10:=nle T.size.symm;clear T;replace b_B2:=bX3 B2;replace b_B3:=bX3 B3;replace b_B4:=bX3 B4;exact nXa (v:=RH.v ⟨tn,ta,tl,tc,tb,tm,td⟩) (by simp [results,Tryz.results143,go_sem,b_B4.1]) rfl ⟨⟨tn,ta,tl,tc,tb,tm,td⟩,rfl,HX.out,by rw [HV.out];exact HT.out⟩
 have hv0:¬ (0:Int)<v:=by rw [hv];have:=iI h;omega
 have HV:Hid (hiV a b=a):=Hi (by unfold hiV;split <;> grind);clear h hv;go_wp2;refine aN (F:=fun W=>bodyPost _ _ _ _ _ W) B4.out rfl ?_;intro w12 T;replace HX:=Hi (T.ext HX.out zo);replace HS:=Hi (HS.out.keep T.keep);replace HT:=Hi (HT.out.keep T.keep);replace B2:=Hi (T.rest _ _ zo B2.out);replace B3:=Hi (T.rest _ _ zo B3.out);replace B4:=Hi (T.bx);have hs_w12:=nle T.size;have hr_w12:=nle T.size.symm;clear T;replace b_B2:=bX3 B2;replace b_B3:=bX3 B3;replace b_B4:=bX3 B4;exact nXa (v:=RH.v ⟨sn,sa,sl,sc,sb,sm,sd⟩) (by simp [results,Tryz.results143,go_sem,b_B4.1]) rfl ⟨⟨sn,sa,sl,sc,sb,sm,sd⟩,rfl,HX.out,by rw [HV.out];exact HS.out⟩
theorem s0(s t u v:RH)(a b c d:Rat)(w:World)(hs:aX w s a)(ht:aX w t b)(hu:aX w u c)(hv:aX w v d)(hab:a≤b)(hcd:c≤d) :
  ar 86 [IvV (s,t),IvV (u,v)] w IvV (fun x w'=>IvC w' x (loV a c) (hiV b d)):=by
 obtain ⟨sn,sa,sl,sc,sb,sm,sd⟩:=s;obtain ⟨tn,ta,tl,tc,tb,tm,td⟩:=t;obtain ⟨un,ua,ul,uc,ub,um,ud⟩:=u;obtain ⟨vn,va,vl,vc,vb,vm,vd⟩:=v;have HX:=Hi (Ext.refl w);have HS:=Hi hs;have HT:=Hi ht;have HU:=Hi hu;have HV:=Hi hv;have EL:Hid (loV a b=a∧hiV a b=b∧loV c d=c∧hiV c d=d):=Hi ⟨jD hab,je hab,jD hcd,je hcd⟩;have EM:Hid (loV (loV a c) (hiV b d)=loV a c∧hiV (loV a c) (hiV b d)=hiV b d):=by
  have h:loV a c≤hiV b d:=by
   unfold loV hiV;split <;> split <;> grind
  exact Hi ⟨jD h,je h⟩
 clear hs ht hu hv hab hcd;unfold ar;go_enter Tryz.func86,Tryz.ntmps86
 go_upto_region 1 with fail
 refine sO ?_;intro w1 hE B2 B3 B4 hz_w1 hr_w1;refine mV5 hE ?_ HX HS HT HU HV;clear HX HS HT HU HV;intro HX HS HT HU HV;have hs_w1:=hE.size;replace b_B2:=bX3 B2;replace b_B3:=bX3 B3;replace b_B4:=bX3 B4
 go_wp2_with fail
 refine cM (gX ⟨sn,sa,sl,sc,sb,sm,sd⟩ ⟨tn,ta,tl,tc,tb,tm,td⟩ a b _ HS.out HT.out) fun x11 w11 hE G11=>?_
 refine mV8 hE ?_ B2 B3 B4 HX HS HT HU HV;clear B2 B3 B4 HX HS HT HU HV;intro B2 B3 B4 HX HS HT HU HV;have hs_w11:=hE.size;replace b_B2:=bX3 B2;replace b_B3:=bX3 B3;replace b_B4:=bX3 B4;obtain ⟨⟨pn,pa,pl,pc,pb,pm,pd⟩,⟨qn,qa,ql,qc,qb,qm,qd⟩⟩:=x11;have HP:=Hi G11.out.1;have HQ:=Hi G11.out.2;rw [EL.out.1] at HP;rw [EL.out.2.1] at HQ;clear G11;clear HS;clear HT
 go_upto_region 2 with fail
 refine eX ?_;intro w12 hE B5 B6 hz_w12 hr_w12;refine mV8 hE ?_ B2 B3 B4 HX HU HV HP HQ;clear B2 B3 B4 HX HU HV HP HQ;intro B2 B3 B4 HX HU HV HP HQ;have hs_w12:=hE.size;replace b_B2:=bX3 B2;replace b_B3:=bX3 B3;replace b_B4:=bX3 B4;replace b_B5:=bX3 B5;replace b_B6:=bX3 B6
 go_wp2_with fail
 refine cM (gX ⟨un,ua,ul,uc,ub,um,ud⟩ ⟨vn,va,vl,vc,vb,vm,vd⟩ c d _ HU.out HV.out) fun x16 w16 hE G16=>?_
 refine mV8 hE ?_ B5 B6 B2 B3 B4 HX HU HV;clear B5 B6 B2 B3 B4 HX HU HV;intro B5 B6 B2 B3 B4 HX HU HV;refine mV2 hE ?_ HP HQ;clear HP HQ;intro HP HQ;have hs_w16:=hE.size;replace b_B2:=bX3 B2;replace b_B3:=bX3 B3;replace b_B4:=bX3 B4;replace b_B5:=bX3 B5;replace b_B6:=bX3 B6;obtain ⟨⟨fn,fa,fl,fc,fb,fm,fd⟩,⟨gn,ga,gl,gc,gb,gm,gd⟩⟩:=x16;have HF:=Hi G16.out.1;have HG:=Hi G16.out.2;rw [EL.out.2.2.1] at HF;rw [EL.out.2.2.2] at HG;clear G16;clear HU;clear HV
 go_upto_region 3 with fail
 refine eX ?_;intro w17 hE B7 B8 hz_w17 hr_w17;refine mV8 hE ?_ B5 B6 B2 B3 B4 HX HP HQ;clear B5 B6 B2 B3 B4 HX HP HQ;intro B5 B6 B2 B3 B4 HX HP HQ;refine mV2 hE ?_ HF HG;clear HF HG;intro HF HG;have hs_w17:=hE.size;replace b_B2:=bX3 B2;replace b_B3:=bX3 B3;replace b_B4:=bX3 B4;replace b_B5:=bX3 B5;replace b_B6:=bX3 B6;replace b_B7:=bX3 B7;replace b_B8:=bX3 B8;refine wpG 7 (fun opIx=>match opIx with
  | 2=>.spec (RH) (default) (RH.v) (fun x w'=>aX w' x (loV a c))
  | 5=>.spec (RH) (default) (RH.v) (fun x w'=>aX w' x (hiV b d))
  | 6=>.spec (RH×RH) (default) (IvV) (fun x w'=>IvC w' x (loV a c) (hiV b d))
  | _=>.quiet) (fun|6=>[2,5]|_=>[]) fun w0 he0 hz0 hc0 hf0=>?_
 refine wps he0 (fun w1 hW hG=>?_) fun x30=>?_
 ·exact spc [RH.v ⟨pn,pa,pl,pc,pb,pm,pd⟩,RH.v ⟨fn,fa,fl,fc,fb,fm,fd⟩] Tryz.func142 (sZ _ _ _ _ _ (HP.out.ext hW) (HF.out.ext hW))
 refine qZ ?_;refine wps he0 (fun w1 hW hG=>?_) fun x31=>?_
 ·exact spc [RH.v ⟨qn,qa,ql,qc,qb,qm,qd⟩,RH.v ⟨gn,ga,gl,gc,gb,gm,gd⟩] Tryz.func143 (vt _ _ _ _ _ (HQ.out.ext hW) (HG.out.ext hW))
 refine qZ ?_;refine wps he0 (fun w1 hW hG=>?_) fun x32=>?_
 ·have g30:=gS (hG 2 dZ);have g31:=gS (hG 5 dZ);exact spc [x30.v,x31.v] Tryz.func124 ((by have k:=gW x30 x31 _ _ _ g30 g31;rw [EM.out.1,EM.out.2] at k;exact k))
 refine qZ ?_;refine aq ?_;intro w18 hI;have hE:=he0.out.trans hI.ext;have G30:=gT (hI.facts 2);have G31:=gT (hI.facts 5);have G32:=gT (hI.facts 6);clear hI he0 hz0 hc0 hf0;refine mV8 hE ?_ B7 B8 B5 B6 B2 B3 B4 HX;clear B7 B8 B5 B6 B2 B3 B4 HX;intro B7 B8 B5 B6 B2 B3 B4 HX;refine mV4 hE ?_ HP HF HQ HG;clear HP HF HQ HG;intro HP HF HQ HG;have hs_w18:=hE.size;replace b_B2:=bX3 B2;replace b_B3:=bX3 B3;replace b_B4:=bX3 B4;replace b_B5:=bX3 B5;replace b_B6:=bX3 B6;replace b_B7:=bX3 B7;replace b_B8:=bX3 B8;simp only [pD];go_wp2;have HI1:=Hi G32.out.1;have HI2:=Hi G32.out.2;clear G30 G31 G32;refine dC (F:=fun W=>bodyPost _ _ _ _ _ W) B4.out rfl ?_;intro w19 T;replace HX:=Hi (T.ext HX.out zo);replace B2:=Hi (T.rest _ _ zo B2.out);replace B3:=Hi (T.rest _ _ zo B3.out);replace B4:=Hi (T.bx);replace HP:=Hi (HP.out.keep T.keep);replace HQ:=Hi (HQ.out.keep T.keep);replace B5:=Hi (T.rest _ _ zo B5.out);replace B6:=Hi (T.rest _ _ zo B6.out);replace HF:=Hi (HF.out.keep T.keep);replace HG:=Hi (HG.out.keep T.keep);replace B7:=Hi (T.rest _ _ zo B7.out);replace B8:=Hi (T.rest _ _ zo B8.out);replace HI1:=Hi (HI1.out.keep T.keep);replace HI2:=Hi (HI2.out.keep T.keep);have hs_w19:=nle T.size;have hr_w19:=nle T.size.symm;clear T;replace b_B2:=bX3 B2;replace b_B3:=bX3 B3;replace b_B4:=bX3 B4;replace b_B5:=bX3 B5;replace b_B6:=bX3 B6;replace b_B7:=bX3 B7;replace b_B8:=bX3 B8;exact nXa (v:=IvV x32) (by simp [results,Tryz.results86,go_sem,b_B4.1]) rfl ⟨x32,rfl,HX.out,HI1.out,HI2.out⟩
structure AZ (α:Type) where
 T:TypeId
 m:Nat
 cs:α→List Value
 z:Value
 by':Nat
structure AZ.Ok {α:Type} (E:AZ α):Prop where
 len:∀ x,(E.cs x).length=E.m
 nu:∀ x,(E.cs x).all dL=true
 one:∀ x,∀ u ∈ E.cs x,u.oneCell'=true
 zs:E.z.cells.size=E.m
 zn:E.z.cells.toList.all dL=true
 info:(Tryz.prog.info? E.T).map (fun i=>(i.zero,i.size,i.bytes))=some (some E.z,E.m,E.by')
 pos:0<E.m
 small:E.by'≤1024
variable {α:Type} {E:AZ α}
def bi(E:AZ α)(xs:List α):List Value:=xs.flatMap E.cs
theorem jg(xs ys:List α):bi E (xs++ys)=bi E xs++bi E ys:=by simp [bi]
theorem jf(h:E.Ok)(xs:List α):(bi E xs).length=xs.length*E.m:=by
 induction xs with
 | nil=>simp [bi]
 | cons x xs ih =>
  have e:bi E (x :: xs)=E.cs x++bi E xs:=rfl;rw [e,nXi,ih,h.len,List.length_cons,Nat.add_mul,Nat.one_mul,nYj]
theorem pP(h:E.Ok)(xs:List α):(bi E xs).all dL=true:=by
 rw [List.all_eq_true];intro x hx;obtain ⟨s,-,hs⟩:=List.mem_flatMap.1 hx;exact List.all_eq_true.1 (h.nu s) x hs
theorem s8(h:E.Ok)(xs:List α):∀ u ∈ bi E xs,u.oneCell'=true:=by
 intro x hx;obtain ⟨s,-,hs⟩:=List.mem_flatMap.1 hx;exact h.one s x hs
def GBk(E:AZ α)(w:World)(L:Nat)(xs:List α)(re:Array Value):Prop:=w.heap[L]?=some (.cells ((bi E xs).toArray++re) E.T (0,0))
theorem GBk.ext{w w':World}{L:Nat}{xs:List α}{re:Array Value}(h:GBk E w L xs re)(he:Ext w w'):GBk E w' L xs re:=he.block h
instance {w w':World} {L:Nat} {xs:List α} {re:Array Value}:Go.Front.Mv w w' (GBk E w L xs re) (GBk E w' L xs re):=⟨fun e h=>GBk.ext h e⟩

theorem GBk.lt{w:World}{L:Nat}{xs:List α}{re:Array Value}(h:GBk E w L xs re):L<w.heap.size:=(nXb.1 h).1
theorem GBk.noU(ok:E.Ok){w:World}{L:Nat}{xs:List α}{re:Array Value}(h:GBk E w L xs re)(hre:re.toList.all dL=true):NoU w L :=
 ai h (by rw [Array.toList_append,List.all_append,hre,pP ok];rfl)
theorem nH(ok:E.Ok)(n:Nat):(Builtin.zeroCells E.z.cells n).toList.all dL=true:=by
 rw [List.all_eq_true];intro x hx;simp [Builtin.zeroCells] at hx;obtain ⟨a,-,rfl⟩:=hx;have h1:a % E.z.cells.size<E.z.cells.size:=Nat.mod_lt _ (by rw [ok.zs];exact ok.pos);have h2:=List.all_eq_true.1 ok.zn (E.z.cells[a % E.z.cells.size]'h1) (by simp);simpa [h1] using h2
def lB(E:AZ α)(w:World)(D:Nat→Prop)(v:Value)(xs:List α):Prop:=(v=.slice none 0 0∧xs=[])∨∃ L cap re,v=.slice (some ⟨L,0,none⟩) xs.length cap∧D L∧GBk E w L xs re∧xs.length≤cap∧cap≤9223372036854775807∧xs.length*E.m+re.size=cap*E.m∧re.toList.all dL=true
theorem lB.nil(w:World)(D:Nat→Prop):lB E w D (.slice none 0 0) []:=Or.inl ⟨rfl,rfl⟩
theorem lB.ext{w w':World}{D:Nat→Prop}{v:Value}{xs:List α}(h:lB E w D v xs)(he:Ext w w'):lB E w' D v xs :=
 h.imp id fun ⟨L,cap,re,h1,h2,h3,h4⟩=>⟨L,cap,re,h1,h2,h3.ext he,h4⟩
instance {w w':World} {D:Nat→Prop} {v:Value} {xs:List α}:Go.Front.Mv w w' (lB E w D v xs) (lB E w' D v xs):=⟨fun e h=>lB.ext h e⟩

theorem lB.mono{w:World}{D D':Nat→Prop}{v:Value}{xs:List α}(h:lB E w D v xs)(hD:∀ k,k<w.heap.size→D k→D' k):lB E w D' v xs :=
 h.imp id fun ⟨L,cap,re,h1,h2,h3,h4⟩=>⟨L,cap,re,h1,hD _ h3.lt h2,h3,h4⟩
theorem jJ(ok:E.Ok)(T ty:TypeId)(hT:Tryz.prog.underlying T=some (.slice E.T))(w:World)(D:Nat→Prop)(v:Value)(xs ys:List α)(b off k c:Nat)(hown:lB E w D v xs)(hk:ys.length=k)(h0:0<k)
   (hone:∀ j u,(bi E ys)[j]?=some u→w.cell? ((⟨b,off,none⟩:Addr).add j)=some u)(hl:xs.length≤268435456)(hl2:k≤268435456)(hD:∀ k,w.heap.size≤k→D k) :
    ∃ L cap w',(Builtin.append_ #[T,T] ty #[v,.slice (some ⟨b,off,none⟩) k c]).run Tryz.prog w=.ok (.slice (some ⟨L,0,none⟩) (xs.length+k) cap) w'∧lB E w' D (.slice (some ⟨L,0,none⟩) (xs.length+k) cap) (xs++ys)∧aL D w w'∧dJ w w':=by
  obtain ⟨i0,hi0,hz0,hz1,hz2⟩:=info_parts ok.info;have hsm:=ok.small;have hnl:(bi E ys).length=k*i0.size:=by rw [hz1,jf ok,hk]
  have hgc:∀ need old,need≤9223372036854775807→need≤grownCap w need old E.T∧grownCap w need old E.T≤9223372036854775807:=fun need old h=>⟨grownCap_ge _ _ _ _,by have:=grownCap_le_maxLen w need old E.T (by simpa [maxLen] using h);simpa [maxLen] using this⟩
  have hfit:∀ n,n≤536870912→n*E.by'≤549755813888:=fun n hn=>nXf (nXy hn hsm) dZ
  rcases hown with ⟨rfl,rfl⟩|⟨L,cap,re,rfl,h1,h2,h3,h4,h5,h6⟩
  · have hr:=run_append_nil (P:=Tryz.prog) w T ty _ i0 _ hT hi0 hz0 ⟨b,off,none⟩ k c (bi E ys) hnl hone h0 zo (by rw [hz2];have:=hfit k zo;omega)
    obtain ⟨g1,g2⟩:=hgc k 0 zo;have he:Ext w (w.drew.alloc (.cells ((bi E ys).toArray++Builtin.zeroCells E.z.cells (grownCap w k 0 E.T-k)) E.T)):=(Ext.drew w).trans (Ext.alloc _ _);rw [List.length_nil,Nat.zero_add,List.nil_append];refine ⟨_,_,_,hr,Or.inr ⟨_,_,_,by rw [hk],hD _ (nXe _),heap_alloc_new w.drew _,zo,g2,?_,nH ok _⟩,aL.of_ext he,br he⟩;rw [size_zeroCells,ok.zs,hk,←Nat.add_mul,Nat.add_sub_of_le g1]
  · have hxl:=jf ok xs
    by_cases hroom:xs.length+k≤cap
    · have hcs:((bi E xs).toArray++re).size=cap*E.m:=by rw [Array.size_append,List.size_toArray,hxl,h5]
      have hmul:(xs.length+k)*E.m≤cap*E.m:=nXh _ hroom;rw [Nat.add_mul] at hmul;have hr:=run_append_room (P:=Tryz.prog) w T ty _ i0 hT hi0 L xs.length cap _ h2 ⟨b,off,none⟩ k c (bi E ys) hnl hone (s8 ok _) hroom (by rw [hcs,hz1,hnl,hz1];omega);have e:(((bi E xs).toArray++re).toList.take (xs.length*i0.size)++bi E ys++((bi E xs).toArray++re).toList.drop (xs.length*i0.size+(bi E ys).length)).toArray=(bi E (xs++ys)).toArray++(re.toList.drop (bi E ys).length).toArray:=by
        rw [hz1,Array.toList_append,jg,←hxl,List.take_left,←List.drop_drop,List.drop_left];apply Array.ext';simp
      rw [e] at hr;refine ⟨_,_,_,hr,Or.inr ⟨L,cap,_,by rw [nXi,hk],h1,setRow_heap w L _ _ _ _ h2,by rw [nXi,hk];exact hroom,h4,?_,?_⟩,⟨rfl,rfl,rfl,by simp,fun k hk hnd=>setRow_other w L k _ (fun e=>hnd (e ▸ h1))⟩,gV (h2.noU ok h6) fun k _ hk=>setRow_other w L k _ hk⟩
      · simp only [nXi,List.size_toArray,nYa,Array.length_toList]
        rw [hnl,hz1,hk,Nat.add_mul];omega
      · rw [List.all_eq_true] at h6 ⊢
        intro x hx;exact h6 x (List.mem_of_mem_drop (by simpa using hx))
    · have hr := run_append_grow (P := Tryz.prog) w T ty _ i0 _ hT hi0 hz0 ⟨L, 0, none⟩ xs.length cap (bi E xs) (by rw [hxl, hz1]) (fun j u hj => by
          have hlt:j<(bi E xs).length:=(List.getElem?_eq_some_iff.1 hj).1;rw [cH,ae h2,Array.getElem?_append_left (by rw [List.size_toArray];exact hlt),List.getElem?_toArray];exact hj) ⟨b,off,none⟩ k c (bi E ys) hnl hone zo zo (growslice_fits zo (by rw [hz2];have:=hfit (xs.length+k) zo;omega))
      obtain ⟨g1,g2⟩:=hgc (xs.length+k) cap zo;have he:Ext w (w.drew.alloc (.cells ((bi E xs).toArray++(bi E ys).toArray++Builtin.zeroCells E.z.cells (grownCap w (xs.length+k) cap E.T-(xs.length+k))) E.T)):=(Ext.drew w).trans (Ext.alloc _ _);refine ⟨_,_,_,hr,Or.inr ⟨w.heap.size,_,Builtin.zeroCells E.z.cells (grownCap w (xs.length+k) cap E.T-(xs.length+k)),by rw [nXi,hk],hD _ (nXe _),?_,by rw [nXi,hk];exact g1,g2,?_,nH ok _⟩,aL.of_ext he,br he⟩
      · unfold GBk
        rw [jg];have e2:(bi E xs++bi E ys).toArray=(bi E xs).toArray++(bi E ys).toArray:=by simp
        rw [e2];exact heap_alloc_new w.drew _
      · rw [size_zeroCells,ok.zs,nXi,hk,←Nat.add_mul,Nat.add_sub_of_le g1]
theorem eD(ok:E.Ok){w:World}{ops:Array Oper}{rest:List Oper}{o:Oper}{a:Act}{Q:Exit→Act→World→Prop}(hgd:o.guard=none)(s x:Operand)(T:TypeId)(hT:Tryz.prog.underlying T=some (.slice E.T))
 (ho:o.op=.call { callee:=.builtin .append,args:=#[s,x],argTypes:=#[T,T] })(D:Nat→Prop)(v:Value)(xs:List α)(r:α)(cells:Array Value)(N:Nat)(hs:a.eval s=v)(hown:lB E w D v xs)
 (hb:w.heap[N]?=some (.cells cells E.T (0,0)))(hcells:cells.toList=E.cs r)(hx:a.eval x=.slice (some ⟨N,0,none⟩) 1 1)(hl:xs.length≤268435455)(hD:∀ k,w.heap.size≤k→D k)
 (h:∀ (s':SH) w',s'.n=xs.length+1→lB E w' D s'.v (xs++[r])→aL D w w'→dJ w w'→wpList Tryz.prog ops Q rest (a.put o.dst s'.v) w'):wpList Tryz.prog ops Q (o :: rest) a w:=by
 refine wpList_plain hgd fun K hK=>?_
 obtain ⟨L,cap,w',hrun,g1,g2,g3⟩:=jJ ok T o.type hT w D v xs [r] N 0 1 1 hown rfl dZ (fun j u hj=>by
  rw [cH,ae hb];have e:bi E [r]=E.cs r:=by simp [bi]
  rw [e,←hcells] at hj;simpa using hj) zo dZ hD
 unfold Oper.wp;simp [execOp,ho,resolve,invoke,builtin,hs,hx,hrun,Result.andThen];exact hK _ _ (h ⟨some ⟨L,0,none⟩,xs.length+1,cap⟩ w' rfl g1 g2 g3)
abbrev PgV(x:SH×(RH×RH)):Value:=.agg #[.slice x.1.a x.1.n x.1.c,.bool x.2.1.neg,.slice x.2.1.a x.2.1.n x.2.1.c,.slice x.2.1.b x.2.1.m x.2.1.d,.bool x.2.2.neg,.slice x.2.2.a x.2.2.n x.2.2.c,.slice x.2.2.b x.2.2.m x.2.2.d]
abbrev PoV(x:SH×(RH×RH)):Value:=.iface 140 (PgV x)
abbrev KnV:Value:=.iface 138 (.agg #[])
def ptV:Option (SH×(RH×RH))→Value
 | none=>KnV
 | some x=>PoV x
def ptE:AZ (Option (SH×(RH×RH))):=⟨86,1,fun x=>[ptV x],.nilIface,16⟩
theorem Ao:ptE.Ok where
 len:=fun _=>rfl
 nu:=fun x=>by cases x <;> rfl
 one:=fun x u hu=>by
  obtain rfl:u=ptV x:=by simpa [ptE] using hu
  cases x <;> rfl
 zs:=rfl
 zn:=rfl
 info:=by kernel_rfl
 pos:=by decide
 small:=by decide
def PtB(w:World)(L:Nat)(v:Value):Prop:=∃ re,w.heap[L]?=some (.cells (#[v]++re) 86 (0,0))
theorem PtB.ext{w w':World}{L:Nat}{v:Value}(h:PtB w L v)(he:Ext w w'):PtB w' L v:=let ⟨re,h⟩:=h;⟨re,he.block h⟩
instance {w w':World} {L:Nat} {v:Value}:Go.Front.Mv w w' (PtB w L v) (PtB w' L v):=⟨fun e h=>PtB.ext h e⟩

theorem PtB.rest{w w':World}{L b:Nat}{v:Value}{T:TypeId}{cs:Array Value}(h:PtB w L v)(t:cT w b T cs w')(hb:L≠b):PtB w' L v:=let ⟨re,h⟩:=h;⟨re,t.rest _ _ hb h⟩
theorem PtB.put{w w':World}{L b:Nat}{v:Value}{T:TypeId}{cs:Array Value}(h:PtB w L v)(t:cT w b T cs w')(hb:L≠b):PtB w' L v:=h.rest t hb
theorem PtB.cell{w:World}{L:Nat}{v:Value}(h:PtB w L v):w.cell? ⟨L,0,none⟩=some v:=by
 obtain ⟨re,h⟩:=h;rw [ae h,Array.getElem?_append_left (show 0<1 by decide)];rfl
theorem PtB.lt{w:World}{L:Nat}{v:Value}(h:PtB w L v):L<w.heap.size:=let ⟨_,h⟩:=h;(nXb.1 h).1
theorem An{w:World}{D:Nat→Prop}{s:SH}{x:Option (SH×(RH×RH))}(h:lB ptE w D s.v [x]):∃ L cap,s=⟨some ⟨L,0,none⟩,1,cap⟩∧D L∧PtB w L (ptV x)∧1≤cap∧cap≤9223372036854775807:=by
 rcases h with ⟨-,h⟩|⟨L,cap,re,h1,h2,h3,h4,h5,-⟩
 ·cases h
 ·obtain ⟨a,n,c⟩:=s;simp only [SH.v,Value.slice.injEq] at h1;obtain ⟨rfl,rfl,rfl⟩:=h1;exact ⟨L,c,rfl,h2,⟨re,h3⟩,h4,h5⟩
def lz(w:World)(N:Nat)(x:Option (SH×(RH×RH))):Prop:=w.heap[N]?=some (.cells #[ptV x] 86 (0,0))
theorem lz.ext{w w':World}{N:Nat}{x:Option (SH×(RH×RH))}(h:lz w N x)(he:Ext w w'):lz w' N x:=he.block h
instance {w w':World} {N:Nat} {x:Option (SH×(RH×RH))}:Go.Front.Mv w w' (lz w N x) (lz w' N x):=⟨fun e h=>lz.ext h e⟩

def BuQ(B:Nat)(l:List Rat)(iv:RH×RH)(w:World)(p:Nat×SH):Prop:=lz w p.1 (some (p.2,iv))∧ct B w p.2 l
theorem BuQ.ext{B:Nat}{l:List Rat}{iv:RH×RH}{w w':World}{p:Nat×SH}(h:BuQ B l iv w p)(he:Ext w w'):BuQ B l iv w' p:=⟨h.1.ext he,h.2.ext he⟩
instance {B:Nat} {l:List Rat} {iv:RH×RH} {w w':World} {p:Nat×SH}:Go.Front.Mv w w' (BuQ B l iv w p) (BuQ B l iv w' p):=⟨fun e h=>BuQ.ext h e⟩

theorem qE{P:Program}{o:Oper}{a:Act}{w:World}{B:Nat}{l:List Rat}{iv:RH×RH}(x:SH)(hx:ct B w x l)(hrun:(execOp a.eval o).run P w=.ok (.value (PoV (x,iv))) w) :
  bV P o a w (fun x:SH=>PoV (x,iv)) (fun x w'=>ct B w' x l):=by
 unfold bV;rw [hrun];exact ⟨Ext.refl _,x,rfl,hx⟩
theorem xM{P:Program}{o:Oper}{a:Act}{w:World}{T:TypeId}{B:Nat}{l:List Rat}{iv:RH×RH}(x:SH)(hx:ct B w x l)(hT:T=86)
 (hrun:(execOp a.eval o).run P w=.ok (.value (.slice (some ⟨w.heap.size,0,none⟩) 1 1)) (w.alloc (.cells #[PoV (x,iv)] T))) :
  bV P o a w (fun p:Nat×SH=>.slice (some ⟨p.1,0,none⟩) 1 1) (fun p w'=>BuQ B l iv w' p):=by
 subst hT;unfold bV;rw [hrun];exact ⟨Ext.alloc _ _,(w.heap.size,x),rfl,heap_alloc_new _ _,hx.ext (Ext.alloc _ _)⟩
def ApQ(B:Nat)(l:List Rat)(iv:RH×RH)(w:World)(p:SH×SH):Prop:=lB ptE w (B≤·) p.1.v [some (p.2,iv)]∧ct B w p.2 l
theorem ApQ.ext{B:Nat}{l:List Rat}{iv:RH×RH}{w w':World}{p:SH×SH}(h:ApQ B l iv w p)(he:Ext w w'):ApQ B l iv w' p:=⟨h.1.ext he,h.2.ext he⟩
instance {B:Nat} {l:List Rat} {iv:RH×RH} {w w':World} {p:SH×SH}:Go.Front.Mv w w' (ApQ B l iv w p) (ApQ B l iv w' p):=⟨fun e h=>ApQ.ext h e⟩

theorem xN{o:Oper}{a:Act}{w:World}{B:Nat}{l:List Rat}{iv:RH×RH}(s x:Operand)(T:TypeId)(hT:Tryz.prog.underlying T=some (.slice 86))(ho:o.op=.call { callee:=.builtin .append,args:=#[s,x],argTypes:=#[T,T] })(y:Nat×SH)(hB:B≤w.heap.size)(hy:BuQ B l iv w y)
 (hs:a.eval s=.slice none 0 0)(hx:a.eval x=.slice (some ⟨y.1,0,none⟩) 1 1) :
  bV Tryz.prog o a w (fun p:SH×SH=>p.1.v) (fun p w'=>ApQ B l iv w' p):=by
 obtain ⟨L,cap,w',hr,g1,g2,g3⟩:=jJ Ao T o.type hT w (w.heap.size≤·) (.slice none 0 0) [] [some (y.2,iv)] y.1 0 1 1 (lB.nil _ _) rfl dZ (fun j u hj=>by
  rw [cH,ae hy.1];have e:bi ptE [some (y.2,iv)]=[ptV (some (y.2,iv))]:=rfl;rw [e] at hj;simpa using hj) dZ dZ (fun k hk=>hk)
 have hrun:(execOp a.eval o).run Tryz.prog w=.ok (.value (.slice (some ⟨L,0,none⟩) 1 cap)) w':=by simp [execOp,ho,resolve,invoke,builtin,hs,hx,hr,Result.andThen]
 unfold bV;rw [hrun];exact ⟨Ext.mods (Ext.refl w) g2 (fun k h=>h),(⟨some ⟨L,0,none⟩,1,cap⟩,y.2),rfl,g1.mono (fun k _ h=>nXf hB h),hy.2.ext (Ext.mods (Ext.refl w) g2 (fun k h=>h))⟩
theorem pC{w1:World}{b i:Nat}{T:TypeId}{c0 c1 c2 v:Value}{F:World→Prop}(hb:w1.heap[b]?=some (.cells #[c0,c1,c2] T (0,0)))(hn:#[c0,c1,c2].toList.all dL=true)(h:∀ w2,cT w1 b T (#[c0,c1,c2].setIfInBounds i v) w2→F w2):F (w1.setCell ⟨b,i,none⟩ v) :=
 h _ (cT.of (nXb.1 hb).1 (ai hb hn) (aL.setCell w1 ⟨b,i,none⟩ v) (by simp [World.setCell]) (ax hb i v))
theorem E7{w1:World}{b:Nat}{T:TypeId}{c0 c1 c2 v:Value}{F:World→Prop}(hb:w1.heap[b]?=some (.cells #[c0,c1,c2] T (0,0)))(hn:#[c0,c1,c2].toList.all dL=true)(h:∀ w2,cT w1 b T #[v,c1,c2] w2→F w2):F (w1.setCell ⟨b,0,none⟩ v):=pC hb hn h
theorem E0{w1:World}{b:Nat}{T:TypeId}{c0 c1 c2 v:Value}{F:World→Prop}(hb:w1.heap[b]?=some (.cells #[c0,c1,c2] T (0,0)))(hn:#[c0,c1,c2].toList.all dL=true)(h:∀ w2,cT w1 b T #[c0,v,c2] w2→F w2):F (w1.setCell ⟨b,1,none⟩ v):=pC hb hn h
theorem EZ{w1:World}{b:Nat}{T:TypeId}{c0 c1 c2 v:Value}{F:World→Prop}(hb:w1.heap[b]?=some (.cells #[c0,c1,c2] T (0,0)))(hn:#[c0,c1,c2].toList.all dL=true)(h:∀ w2,cT w1 b T #[c0,c1,v] w2→F w2):F (w1.setCell ⟨b,2,none⟩ v):=pC hb hn h
structure ClH where
 d:SH×(RH×RH)
 u:SH×(RH×RH)
 L1:Nat
 c1:Nat
 L2:Nat
 c2:Nat
abbrev ClV(x:ClH):Value:=.agg #[PoV x.d,.slice (some ⟨x.L1,0,none⟩) 1 x.c1,.slice (some ⟨x.L2,0,none⟩) 1 x.c2]
structure ClP (w:World) (x:ClH) (de up:List Rat) (a b:Rat):Prop where
 dp:bg w x.d.1 de
 di:IvC w x.d.2 a b
 up:bg w x.u.1 up
 ui:IvC w x.u.2 a b
 b1:PtB w x.L1 KnV
 b2:PtB w x.L2 (PoV x.u)
 h1:1≤x.c1∧x.c1≤9223372036854775807
 h2:1≤x.c2∧x.c2≤9223372036854775807
theorem ClP.ext{w w':World}{x:ClH}{de up:List Rat}{a b:Rat}(h:ClP w x de up a b)(he:Ext w w'):ClP w' x de up a b :=
 ⟨h.dp.ext he,h.di.ext he,h.up.ext he,h.ui.ext he,h.b1.ext he,h.b2.ext he,h.h1,h.h2⟩
instance {w w':World} {x:ClH} {de up:List Rat} {a b:Rat}:Go.Front.Mv w w' (ClP w x de up a b) (ClP w' x de up a b):=⟨fun e h=>ClP.ext h e⟩

theorem lp(na da ba:Option Addr)(nn nc dn dc bc:Nat)(nu de qs:List Rat)(S:Nat)(a b d:Rat)(w:World)(hn:bg w ⟨na,nn,nc⟩ nu)(hd:bg w ⟨da,dn,dc⟩ de)(h:fq w ⟨ba,1,bc⟩ qs)(ho:jo S 1 nu de qs)(hq:qs=[a,b,0,d]) :
  ar 41 [QV (⟨na,nn,nc⟩,⟨da,dn,dc⟩),.slice ba 1 bc,.bool true] w ClV (fun x w'=>ClP w' x de (beV nu de d) a b):=by
 have HX:=Hi (Ext.refl w);have LN:=Hi hn.lin;have LD:=Hi hd.lin;have LB:=Hi h;have HO:=Hi ho;have hS1:=ho.s1;have hS:=ho.s6;have hnn:nn≤7:=by have:=hn.len;have h2:=ho.zn.ln;simp only at this;omega
 have hdn:dn≤7:=by have:=hd.len;have h2:=ho.zd.ln;simp only at this;omega
 have hbd:=ho.bd 0 zo;rw [hq] at hbd;have HBD:Hid (tB S a b 0 d):=Hi hbd;obtain ⟨bw,off,⟨⟨sn,sa,sl,sc,sb,sm,sd⟩,⟨tn,ta,tl,tc,tb,tm,td⟩,⟨un,ua,ul,uc,ub,um,ud⟩,⟨vn,va,vl,vc,vb,vm,vd⟩⟩,hao,hbl,⟨f1,f2,f3,f4,f5,f6,f7,f8,f9,f10,f11,f12⟩,hB⟩:=LB.out.at (k:=0) zo;rw [hq] at hB;have HB:Hid (fS w ⟨⟨sn,sa,sl,sc,sb,sm,sd⟩,⟨tn,ta,tl,tc,tb,tm,td⟩,⟨un,ua,ul,uc,ub,um,ud⟩,⟨vn,va,vl,vc,vb,vm,vd⟩⟩ a b 0 d):=Hi hB;have HC:Hid (∀ w',Ext w w'→BAt w' bw (off+0*12) ⟨⟨sn,sa,sl,sc,sb,sm,sd⟩,⟨tn,ta,tl,tc,tb,tm,td⟩,⟨un,ua,ul,uc,ub,um,ud⟩,⟨vn,va,vl,vc,vb,vm,vd⟩⟩):=Hi (fun w' he=>⟨he.cell f1,he.cell f2,he.cell f3,he.cell f4,he.cell f5,he.cell f6,he.cell f7,he.cell f8,he.cell f9,he.cell f10,he.cell f11,he.cell f12⟩);have HH:Hid (loV a a=a∧hiV b b=b∧a≤b):=Hi ⟨by unfold loV;split <;> rfl,by unfold hiV;split <;> rfl,hbd.2.2.1⟩;subst hao;clear hn hd h ho hbd hB LB f1 f2 f3 f4 f5 f6 f7 f8 f9 f10 f11 f12 hq;unfold ar;simp only [QV,SH.v];go_enter Tryz.func41,Tryz.ntmps41
 go_upto_region 1 with fail
 refine eX ?_;intro w1 hE B3 B6 hz_w1 hr_w1;refine mV4 hE ?_ HX LN LD HB;clear HX LN LD HB;intro HX LN LD HB;have hs_w1:=hE.size;replace b_B3:=bX3 B3;replace b_B6:=bX3 B6;obtain ⟨f1,f2,f3,f4,f5,f6,-⟩:=HC.out _ HX.out;simp only [Nat.zero_mul,Nat.add_zero] at f1 f2 f3 f4 f5 f6;have hbl1:bw<w1.heap.size:=zo
 go_upto_region 3 with fail
 refine eX ?_;intro w2 hE B7 B8 hz_w2 hr_w2;refine mV6 hE ?_ B3 B6 HX LN LD HB;clear B3 B6 HX LN LD HB;intro B3 B6 HX LN LD HB;have hs_w2:=hE.size;replace b_B3:=bX3 B3;replace b_B6:=bX3 B6;replace b_B7:=bX3 B7;replace b_B8:=bX3 B8;clear f1 f2 f3 f4 f5 f6;go_wp2;refine wp_loop_rounds 2 ?_;rw [rounds_succ];obtain ⟨f1,f2,f3,f4,f5,f6,f7,f8,f9,f10,f11,f12⟩:=HC.out _ HX.out;simp only [Nat.zero_mul,Nat.add_zero] at f1 f2 f3 f4 f5 f6 f7 f8 f9 f10 f11 f12;have hbl2:bw<w2.heap.size:=zo
 go_upto_region 6 with fail
 refine nmA ?_;intro w3 hE B10 hz_w3 hr_w3;refine mV8 hE ?_ B7 B8 B3 B6 HX LN LD HB;clear B7 B8 B3 B6 HX LN LD HB;intro B7 B8 B3 B6 HX LN LD HB;have hs_w3:=hE.size;replace b_B3:=bX3 B3;replace b_B6:=bX3 B6;replace b_B7:=bX3 B7;replace b_B8:=bX3 B8;replace b_B10:=bX3 B10;clear f1 f2 f3 f4 f5 f6 f7 f8 f9 f10 f11 f12
 go_wp2_with fail
 refine cM (s0 ⟨sn,sa,sl,sc,sb,sm,sd⟩ ⟨tn,ta,tl,tc,tb,tm,td⟩ ⟨sn,sa,sl,sc,sb,sm,sd⟩ ⟨tn,ta,tl,tc,tb,tm,td⟩ a b a b _ (HB.out.1.raw HBD.out.1.1 zo) (HB.out.2.1.raw HBD.out.1.2.1 zo) (HB.out.1.raw HBD.out.1.1 zo) (HB.out.2.1.raw HBD.out.1.2.1 zo) HH.out.2.2 HH.out.2.2) fun x24 w24 hE G24=>?_
 refine mV8 hE ?_ B10 B7 B8 B3 B6 HX LN LD;clear B10 B7 B8 B3 B6 HX LN LD;intro B10 B7 B8 B3 B6 HX LN LD;replace HB:=mV hE HB;have hs_w24:=hE.size;replace b_B3:=bX3 B3;replace b_B6:=bX3 B6;replace b_B7:=bX3 B7;replace b_B8:=bX3 B8;replace b_B10:=bX3 B10;obtain ⟨⟨ln,la,ll,lc,lb,lm,ld⟩,⟨hn',ha,hl,hc,hb,hm,hd⟩⟩:=x24;have HL:=Hi G24.out.1;have HI:=Hi G24.out.2;rw [HH.out.1] at HL;rw [HH.out.2.1] at HI;clear G24;simp only at HL HI
 go_upto_region 7 with fail
 refine dC B8.out rfl ?_;intro w25 T;replace HX:=Hi (T.ext HX.out zo);replace LN:=Hi (LN.out.put T zo);replace LD:=Hi (LD.out.put T zo);replace HB:=Hi (HB.out.keep T.keep);replace B3:=Hi (T.rest _ _ zo B3.out);replace B6:=Hi (T.rest _ _ zo B6.out);replace B7:=Hi (T.rest _ _ zo B7.out);replace B8:=Hi (T.bx);replace B10:=Hi (T.rest _ _ zo B10.out);replace HL:=Hi (HL.out.keep T.keep);replace HI:=Hi (HI.out.keep T.keep);have hs_w25:=nle T.size;have hr_w25:=nle T.size.symm;clear T;replace b_B3:=bX3 B3;replace b_B6:=bX3 B6;replace b_B7:=bX3 B7;replace b_B8:=bX3 B8;replace b_B10:=bX3 B10
 go_wp2_with fail
 refine cM (dV ⟨un,ua,ul,uc,ub,um,ud⟩ 0 _ (HB.out.2.2.1.raw HBD.out.1.2.2.1 zo)) fun x29 w29 hE _=>?_
 refine mV8 hE ?_ HX LN LD HB B3 B6 B7 B8;clear HX LN LD HB B3 B6 B7 B8;intro HX LN LD HB B3 B6 B7 B8;refine mV3 hE ?_ B10 HL HI;clear B10 HL HI;intro B10 HL HI;have hs_w29:=hE.size;replace b_B3:=bX3 B3;replace b_B6:=bX3 B6;replace b_B7:=bX3 B7;replace b_B8:=bX3 B8;replace b_B10:=bX3 B10;rw [show cG 0 0=0 by decide +kernel]
 go_upto_region 10 with (at_builtin;refine eD Ao rfl (.tmp 33) (.tmp 36) 87 Tryz.underlying87 rfl (w29.heap.size≤·) (.slice none 0 0) [] none #[KnV] w29.heap.size rfl (lB.nil _ _) (heap_alloc_new _ _) rfl rfl dZ (fun k hk=>by rw [nXc] at hk;show w29.heap.size≤k;omega) ?_;intro s' y3 q0 q1 q2 q3;have hE:Ext w29 y3:=Ext.mods (Ext.alloc _ _) q2 (fun k h=>h);have b7:=hE.block B7.out;have c7:=ae b7;have f7:=af b7;have l7:=(nXb.1 b7).1)
 obtain ⟨L1,c1,rfl,hL1,hP1,hc1,hd1⟩:=An q1;have hL1:w29.heap.size≤L1:=hL1;have HP1:=Hi hP1;have hL1b:=hP1.lt;clear q0 q1 q2 q3 b7 c7 f7 l7 hP1;refine mV8 hE ?_ HX LN LD HB B3 B6 B7 B8;clear HX LN LD HB B3 B6 B7 B8;intro HX LN LD HB B3 B6 B7 B8;refine mV3 hE ?_ B10 HL HI;clear B10 HL HI;intro B10 HL HI;have hs_y3:=hE.size;replace b_B3:=bX3 B3;replace b_B6:=bX3 B6;replace b_B7:=bX3 B7;replace b_B8:=bX3 B8;replace b_B10:=bX3 B10;refine E0 B7.out rfl ?_;intro w30 T;replace HX:=Hi (T.ext HX.out zo);replace LN:=Hi (LN.out.put T zo);replace LD:=Hi (LD.out.put T zo);replace HB:=Hi (HB.out.keep T.keep);replace B3:=Hi (T.rest _ _ zo B3.out);replace B6:=Hi (T.rest _ _ zo B6.out);replace B7:=Hi (T.bx);replace B8:=Hi (T.rest _ _ zo B8.out);replace B10:=Hi (T.rest _ _ zo B10.out);replace HL:=Hi (HL.out.keep T.keep);replace HI:=Hi (HI.out.keep T.keep);replace HP1:=Hi (HP1.out.put T zo);have hs_w30:=nle T.size;have hr_w30:=nle T.size.symm;clear T;replace b_B3:=bX3 B3;replace b_B6:=bX3 B6;replace b_B7:=bX3 B7;replace b_B8:=bX3 B8;replace b_B10:=bX3 B10;have HPV:Hid (BdV ⟨⟨sn,sa,sl,sc,sb,sm,sd⟩,⟨tn,ta,tl,tc,tb,tm,td⟩,⟨un,ua,ul,uc,ub,um,ud⟩,⟨vn,va,vl,vc,vb,vm,vd⟩⟩=BdV ⟨⟨sn,sa,sl,sc,sb,sm,sd⟩,⟨tn,ta,tl,tc,tb,tm,td⟩,⟨un,ua,ul,uc,ub,um,ud⟩,⟨vn,va,vl,vc,vb,vm,vd⟩⟩):=Hi rfl;refine wpG 12 (fun opIx=>match opIx with
  | 4=>.spec (SH) (default) (SH.v) (fun x w'=>ct w30.heap.size w' x (beV nu de d))
  | 8=>.spec (SH) (default) (fun x=>PoV (x,(⟨sn,sa,sl,sc,sb,sm,sd⟩,⟨tn,ta,tl,tc,tb,tm,td⟩))) (fun x w'=>ct w30.heap.size w' x (beV nu de d))
  | 9=>.spec (Nat×SH) ((0,default)) (fun p=>.slice (some ⟨p.1,0,none⟩) 1 1) (fun p w'=>BuQ w30.heap.size (beV nu de d) (⟨sn,sa,sl,sc,sb,sm,sd⟩,⟨tn,ta,tl,tc,tb,tm,td⟩) w' p)
  | 10=>.spec (SH×SH) (default) (fun p=>p.1.v) (fun p w'=>ApQ w30.heap.size (beV nu de d) (⟨sn,sa,sl,sc,sb,sm,sd⟩,⟨tn,ta,tl,tc,tb,tm,td⟩) w' p)
  | _=>.quiet) (fun|7=>[4]|8=>[4]|9=>[8]|10=>[9]|_=>[]) fun w0 he0 hz0 hc0 hf0=>?_
 refine wps he0 (fun w1 hW hG=>?_) fun x40=>?_
 ·exact spc [QV (⟨na,nn,nc⟩,⟨da,dn,dc⟩),BdV ⟨⟨sn,sa,sl,sc,sb,sm,sd⟩,⟨tn,ta,tl,tc,tb,tm,td⟩,⟨un,ua,ul,uc,ub,um,ud⟩,⟨vn,va,vl,vc,vb,vm,vd⟩⟩] Tryz.func40 (mh na da nn nc dn dc _ nu de a b 0 d S _ (LN.out.can.ext hW) (LD.out.can.ext hW) (HB.out.ext hW) HO.out.zn.fb.sz HO.out.zd HBD.out.1.2.2.2 hS1 zo hnn |>.weak (fun _ _ _ h=>h.mono hW.size))
 refine qZ ?_;refine wps he0 (fun w1 hW hG=>?_) fun x43=>?_
 ·have g40:=gS (hG 4 dZ);exact qE x40 g40 (by simp [execOp,go_sem,SH.v])
 refine qZ ?_;refine wps he0 (fun w1 hW hG=>?_) fun x41=>?_
 ·have g43:=gS (hG 8 dZ);exact xM x43 g43 rfl (by simp [execOp,go_sem,SH.v])
 refine qZ ?_;refine wps he0 (fun w1 hW hG=>?_) fun x42=>?_
 ·have g41:=gS (hG 9 dZ);exact xN (.tmp 52) (.tmp 60) 87 Tryz.underlying87 rfl x41 hW.size g41 rfl rfl
 refine qZ ?_;refine aq ?_;intro w31 hI;have hE:=he0.out.trans hI.ext;have G40:=gT (hI.facts 4);have G43:=gT (hI.facts 8);have G41:=gT (hI.facts 9);have G42:=gT (hI.facts 10);clear hI he0 hz0 hc0 hf0;refine mV8 hE ?_ HX B3 B6 B7 B8 B10 HL HI;clear HX B3 B6 B7 B8 B10 HL HI;intro HX B3 B6 B7 B8 B10 HL HI;refine mV4 hE ?_ HP1 LN LD HB;clear HP1 LN LD HB;intro HP1 LN LD HB;have hs_w31:=hE.size;replace b_B3:=bX3 B3;replace b_B6:=bX3 B6;replace b_B7:=bX3 B7;replace b_B8:=bX3 B8;replace b_B10:=bX3 B10;simp only [pD];obtain ⟨x42,xel⟩:=x42;have HAp:=Hi G42.out.1;have HU:=Hi G42.out.2;simp only at HAp HU;obtain ⟨L2,c2,rfl,hL2,hP2,hc2,hd2⟩:=An HAp.out;clear HAp;have hL2:w30.heap.size≤L2:=hL2;have HP2:=Hi hP2;have hL2b:=hP2.lt;clear G40 G41 G42 G43 hP2
 go_upto_region 11 with fail
 refine EZ B7.out rfl ?_;intro w32 T;replace HX:=Hi (T.ext HX.out zo);replace LN:=Hi (LN.out.put T zo);replace LD:=Hi (LD.out.put T zo);replace HB:=Hi (HB.out.keep T.keep);replace B3:=Hi (T.rest _ _ zo B3.out);replace B6:=Hi (T.rest _ _ zo B6.out);replace B7:=Hi (T.bx);replace B8:=Hi (T.rest _ _ zo B8.out);replace B10:=Hi (T.rest _ _ zo B10.out);replace HL:=Hi (HL.out.keep T.keep);replace HI:=Hi (HI.out.keep T.keep);replace HP1:=Hi (HP1.out.put T zo);replace HP2:=Hi (HP2.out.put T zo);replace HU:=Hi (HU.out.put T zo);have hs_w32:=nle T.size;have hr_w32:=nle T.size.symm;clear T;replace b_B3:=bX3 B3;replace b_B6:=bX3 B6;replace b_B7:=bX3 B7;replace b_B8:=bX3 B8;replace b_B10:=bX3 B10;go_wp2;rw [rounds_succ]
 go_upto_region 12 with fail
 refine wpG 7 (fun opIx=>match opIx with
  | 2=>.spec (SH) (default) (SH.v) (fun x w'=>ct w32.heap.size w' x de)
  | 5=>.spec (SH) (default) (fun x=>PoV (x,(⟨ln,la,ll,lc,lb,lm,ld⟩,⟨hn',ha,hl,hc,hb,hm,hd⟩))) (fun x w'=>ct w32.heap.size w' x de)
  | _=>.quiet) (fun|4=>[2]|5=>[2]|_=>[]) fun w0 he0 hz0 hc0 hf0=>?_
 refine wps he0 (fun w1 hW hG=>?_) fun x50=>?_
 ·exact spc [.slice da dn dc] Tryz.func88 ((by have k:=kB da dn dc de _ ((LD.out.can.ext hW).raw HO.out.zd.fb.sz zo) zo;rw [HO.out.td] at k;exact k.weak (fun _ _ _ h=>h.mono hW.size)))
 refine qZ ?_;refine wps he0 (fun w1 hW hG=>?_) fun x51=>?_
 ·have g50:=gS (hG 2 dZ);exact qE x50 g50 (by simp [execOp,go_sem,SH.v])
 refine qZ ?_;refine aq ?_;intro w33 hI;have hE:=he0.out.trans hI.ext;have G50:=gT (hI.facts 2);have G51:=gT (hI.facts 5);clear hI he0 hz0 hc0 hf0;refine mV8 hE ?_ HX LN LD HB B3 B6 B7 B8;clear HX LN LD HB B3 B6 B7 B8;intro HX LN LD HB B3 B6 B7 B8;refine mV6 hE ?_ B10 HL HI HP1 HP2 HU;clear B10 HL HI HP1 HP2 HU;intro B10 HL HI HP1 HP2 HU;have hs_w33:=hE.size;replace b_B3:=bX3 B3;replace b_B6:=bX3 B6;replace b_B7:=bX3 B7;replace b_B8:=bX3 B8;replace b_B10:=bX3 B10;simp only [pD];have HDl:=Hi G51.out;clear G50 G51
 go_upto_region 13 with fail
 refine E7 B7.out rfl ?_;intro w34 T;replace HX:=Hi (T.ext HX.out zo);replace LN:=Hi (LN.out.put T zo);replace LD:=Hi (LD.out.put T zo);replace HB:=Hi (HB.out.keep T.keep);replace B3:=Hi (T.rest _ _ zo B3.out);replace B6:=Hi (T.rest _ _ zo B6.out);replace B7:=Hi (T.bx);replace B8:=Hi (T.rest _ _ zo B8.out);replace B10:=Hi (T.rest _ _ zo B10.out);replace HL:=Hi (HL.out.keep T.keep);replace HI:=Hi (HI.out.keep T.keep);replace HP1:=Hi (HP1.out.put T zo);replace HP2:=Hi (HP2.out.put T zo);replace HU:=Hi (HU.out.put T zo);replace HDl:=Hi (HDl.out.put T zo);have hs_w34:=nle T.size;have hr_w34:=nle T.size.symm;clear T;replace b_B3:=bX3 B3;replace b_B6:=bX3 B6;replace b_B7:=bX3 B7;replace b_B8:=bX3 B8;replace b_B10:=bX3 B10;go_wp2;refine aN (F:=fun W=>bodyPost _ _ _ _ _ W) B6.out rfl ?_;intro w35 T;replace HX:=Hi (T.ext HX.out zo);replace LN:=Hi (LN.out.put T zo);replace LD:=Hi (LD.out.put T zo);replace HB:=Hi (HB.out.keep T.keep);replace B3:=Hi (T.rest _ _ zo B3.out);replace B6:=Hi (T.bx);replace B7:=Hi (T.rest _ _ zo B7.out);replace B8:=Hi (T.rest _ _ zo B8.out);replace B10:=Hi (T.rest _ _ zo B10.out);replace HL:=Hi (HL.out.keep T.keep);replace HI:=Hi (HI.out.keep T.keep);replace HP1:=Hi (HP1.out.put T zo);replace HP2:=Hi (HP2.out.put T zo);replace HU:=Hi (HU.out.put T zo);replace HDl:=Hi (HDl.out.put T zo);have hs_w35:=nle T.size;have hr_w35:=nle T.size.symm;clear T;replace b_B3:=bX3 B3;replace b_B6:=bX3 B6;replace b_B7:=bX3 B7;replace b_B8:=bX3 B8;replace b_B10:=bX3 B10;exact nXa (v:=ClV ⟨(x51,(⟨ln,la,ll,lc,lb,lm,ld⟩,⟨hn',ha,hl,hc,hb,hm,hd⟩)),(xel,(⟨sn,sa,sl,sc,sb,sm,sd⟩,⟨tn,ta,tl,tc,tb,tm,td⟩)),L1,c1,L2,c2⟩) (by simp [results,Tryz.results41,go_sem,b_B6.1]) rfl ⟨⟨(x51,(⟨ln,la,ll,lc,lb,lm,ld⟩,⟨hn',ha,hl,hc,hb,hm,hd⟩)),(xel,(⟨sn,sa,sl,sc,sb,sm,sd⟩,⟨tn,ta,tl,tc,tb,tm,td⟩)),L1,c1,L2,c2⟩,rfl,HX.out,⟨HDl.out.can,⟨HL.out,HI.out⟩,HU.out.can,⟨HB.out.1,HB.out.2.1⟩,HP1.out,HP2.out,⟨hc1,hd1⟩,⟨hc2,hd2⟩⟩⟩
theorem Cf(a b:Int):(a:Rat) / (b:Rat)=mkRat (sg (decide (a<0) != decide (b<0)) a.natAbs) b.natAbs:=by
 by_cases h:b<0
 ·have h1:sg (decide (a<0) != decide (b<0)) a.natAbs=-a:=by
   rw [decide_eq_true h];unfold sg;by_cases ha:a<0
   ·rw [decide_eq_true ha];simp;omega
   ·rw [decide_eq_false ha];simp;omega
  have h2:((b.natAbs:Nat):Int)=-b:=by omega
  rw [h1,Rat.mkRat_eq_div];rw [show ((b.natAbs:Nat):Rat)=(((b.natAbs:Nat):Int):Rat) from rfl,h2,Rat.intCast_neg,Rat.intCast_neg,Rat.div_def,Rat.div_def];have hb:(b:Rat)≠0:=by intro h0;have:=Rat.intCast_eq_zero_iff.1 h0;omega
  have hb2:-(b:Rat)≠0:=by intro h0;apply hb;grind
  have p1:=nYk _ hb;have p2:=nYk _ hb2;grind
 ·have h1:sg (decide (a<0) != decide (b<0)) a.natAbs=a:=by
   rw [decide_eq_false h];unfold sg;by_cases ha:a<0
   ·rw [decide_eq_true ha];simp;omega
   ·rw [decide_eq_false ha];simp;omega
  have h2:((b.natAbs:Nat):Int)=b:=by omega
  rw [h1,Rat.mkRat_eq_div];rw [show ((b.natAbs:Nat):Rat)=(((b.natAbs:Nat):Int):Rat) from rfl,h2]
theorem uv(n d:Int)(w:World)(h1:-9223372036854775808≤n)(h2:n≤9223372036854775807)(k1:-9223372036854775808≤d)(k2:d≤9223372036854775807)(hd:d≠0):ar 162 [.int .i64 n,.int .i64 d] w RH.v (fun r w'=>aA w' r ((n:Rat) / (d:Rat))):=by
 have hdb:(d == 0)=false:=by simpa using hd
 have HQ:=Hi (Cf n d);have HD:Hid (d.natAbs≠0):=Hi zo;have HN1:Hid (n.natAbs<W32 ^ 2):=Hi (by unfold W32;omega);have HD1:Hid (d.natAbs<W32 ^ 2):=Hi (by unfold W32;omega);unfold ar;go_enter Tryz.func162,Tryz.ntmps162
 go_wp2_with fail
 refine cM (pL n _ h1 h2) fun x1 w1 hE G1=>?_
 obtain ⟨hcw,hfw⟩:=ak hE;have hsw:=hE.size
 (try simp only [nXc] at hsw)
 have hs0:w.heap.size<w1.heap.size:=zo;have hB:=hE.block (heap_alloc_new _ _);have HB:Hid (w1.heap[w.heap.size]?=some _):=Hi hB;clear hB;have E1:=Hi ((Ext.al1).trans hE);have X1:=Hi hE
 go_wp2_with fail
 refine cM (pL d _ k1 k2) fun x2 w2 hE G2=>?_
 obtain ⟨hcw,hfw⟩:=ak hE;have hsw:=hE.size
 (try simp only [nXc] at hsw)
 have hs0:w.heap.size<w2.heap.size:=zo;replace HB:=hE.bl HB;have cR:=ae HB.out;have fR:=af HB.out;have E2:=Hi ((E1.out).trans hE);have X2:=Hi hE
 go_wp2_with fail
 refine cM (jK x1 x2 _) fun x3 w3 hE G3=>?_
 obtain ⟨hcw,hfw⟩:=ak hE;have hsw:=hE.size
 (try simp only [nXc] at hsw)
 have hs0:w.heap.size<w3.heap.size:=zo;replace HB:=hE.bl HB;have cR:=ae HB.out;have fR:=af HB.out;have E3:=Hi ((E2.out).trans hE);have X3:=Hi hE;have RP:Hid (xh w3 ⟨x1.neg != x2.neg,x1.a,x1.n,x1.c,x2.a,x2.n,x2.c⟩ ((n:Rat) / (d:Rat))):=Hi (by
  have a1:=(G1.out.ext X2.out).ext X3.out;have a2:=G2.out.ext X3.out;refine ⟨_,_,a1.2,a2.2,?_,?_,?_,?_⟩
  ·rw [ag,ag,a1.1,a2.1];exact HQ.out
  ·rw [ag];exact HD.out
  ·exact U32.nle a1.2 HN1.out dZ
  ·exact U32.nle a2.2 HD1.out dZ)
 go_wp2_with fail
 refine cM (ez ⟨x1.neg != x2.neg,x1.a,x1.n,x1.c,x2.a,x2.n,x2.c⟩ _ _ RP.out) fun x4 w4 hE G4=>?_
 obtain ⟨hcw,hfw⟩:=ak hE;have hsw:=hE.size
 (try simp only [nXc] at hsw)
 have hs0:w.heap.size<w4.heap.size:=zo;replace HB:=hE.bl HB;have cR:=ae HB.out;have fR:=af HB.out;have E4:=Hi ((E3.out).trans hE);have X4:=Hi hE;have HX:=E4;go_wp2;have hF:=((((Fin.start (L:=w.heap.size) HX.out (ai HB.out rfl)).set zo (i:=0) (v:=.bool x4.neg) rfl).set zo (i:=1) (v:=.slice x4.a x4.n x4.c) rfl).set zo (i:=2) (v:=.slice x4.b x4.m x4.d) rfl);exact nXa (v:=x4.v) (by simp [results,Tryz.results162,go_sem,ae HB.out]) rfl ⟨x4,rfl,hF.ext,G4.out.keep hF.keep⟩
end Go.Proofs.YtkcpmclnocmalaaGreat
