/- all and two of law17. -/
import Derived.Test.YtafgmcimcbhhjaaGreatQIK17
import Derived.Test.YtafgmcimcbhhjaaGreatQIPtE
import Derived.Test.YtafgmcimcbhhjaaGreatQIK15
import Derived.Test.YtafgmcimcbhhjaaGreatQIK6
import Derived.Test.YtafgmcimcbhhjaaGreatQIK16
import Derived.Test.YtafgmcimcbhhjaaGreatQIM7
import Derived.Test.YtafgmcimcbhhjaaGreatQIK3
import Derived.Test.YtafgmcimcbhhjaaGreatQIK10
import Derived.Deep.DeepCutAuto
import Derived.Test.YtafgmcimcbhhjaaGreatQIM12
import Derived.Test.YtafgmcimcbhhjaaGreatQIM6
import Derived.Test.YtafgmcimcbhhjaaGreatQIK14
import Derived.Test.YtafgmcimcbhhjaaGreatRows
import Derived.Test.YtafgmcimcbhhjaaGreatQIK1
import Derived.ProofKit
import Derived.OpenShut
import Derived.ShutString
import Derived.ChangeOld
import Derived.Lib.SmallJoins
set_option linter.unusedVariables false
set_option maxHeartbeats 16000000
set_option maxRecDepth 8000
namespace Go.Proofs.YtafgmcimcbhhjaaGreat
open Go.RowKit Go.Front Go.Num Stab
attribute [local go_sem] XW.cell XW.frozen
theorem aG.apz3{w:World}{s:SH}{qs:List Rat}{B:Nat}{T:TypeId}(h:aG w s qs)(hB:w.heap[B]?=some (.cells #[.bool false,.slice none 0 0,.slice none 0 0] T (0,0))):ApB s B:=by
 rcases Nat.eq_zero_or_pos s.n with h0|h0
 ·exact Or.inl h0
 right
 intro o ho;obtain ⟨sa,sn,sc⟩:=s;simp only at ho h0;obtain ⟨b,off,r,e,⟨c1,c2,c3⟩,hc⟩:=h.at (k:=0) h0;rw [ho] at e;simp only [Option.some.injEq,Addr.mk.injEq] at e;obtain ⟨rfl,rfl,-⟩:=e;rw [Nat.zero_mul,Nat.add_zero,ab hB] at c1 c3;rcases o with _|_|_|o <;> simp at c1 c3
 obtain ⟨rneg,ra,rn,rc,rb,rm,rd⟩:=r;simp only at c3;have h1:=hc.2.2.len;simp only at h1;rw [←c3.2.1] at h1;exact absurd (bC.1 (nXi.1 h1)) (Rat.den_nz _)
end Go.Proofs.YtafgmcimcbhhjaaGreat
/- Differences of the prototypes' polynomials in closed form, for their sizes. Plain facts. -/
namespace Go.Proofs.YtafgmcimcbhhjaaGreat
open Go.RowKit Go.Front Go.Num Stab Sg
end Go.Proofs.YtafgmcimcbhhjaaGreat
/- How near two roots can be: on a short interval the changes of sign in a chain fall by one at most. Plain facts. -/
namespace Go.Proofs.YtafgmcimcbhhjaaGreat.Sg
open Go.RowKit Go.Front Go.Num Go.Stab Go.Proofs.YtafgmcimcbhhjaaGreat
def v6(q:List Rat)(x:Rat):Nat:=iI (zY q) x
end Go.Proofs.YtafgmcimcbhhjaaGreat.Sg
/- A list of intervals of one's own that grows: an interval is two numbers of three cells. -/
namespace Go.Proofs.YtafgmcimcbhhjaaGreat
open Go.RowKit Go.Front Go.Num
end Go.Proofs.YtafgmcimcbhhjaaGreat
/- Lists of intervals in memory. -/
namespace Go.Proofs.YtafgmcimcbhhjaaGreat
open Go.RowKit Go.Front Go.Num Stab
attribute [local go_sem] XW.cell XW.frozen
end Go.Proofs.YtafgmcimcbhhjaaGreat
/- split of package dspcompilerref06. -/
namespace Go.Proofs.YtafgmcimcbhhjaaGreat
open Go.RowKit Go.Front Go.Num Stab Sg
attribute [local go_sem] XW.cell XW.frozen
end Go.Proofs.YtafgmcimcbhhjaaGreat
/- Unit of package dspcompilerref03. -/
namespace Go.Proofs.YtafgmcimcbhhjaaGreat
open Go.RowKit Go.Front Go.Num Stab
attribute [local go_sem] XW.cell XW.frozen
end Go.Proofs.YtafgmcimcbhhjaaGreat
/- Isolate of package dspcompilerref06. -/
namespace Go.Proofs.YtafgmcimcbhhjaaGreat
open Go.RowKit Go.Front Go.Num Stab Sg
attribute [local go_sem] XW.cell XW.frozen
end Go.Proofs.YtafgmcimcbhhjaaGreat
/- Sizes for Isolate and Nonnegative. Plain facts. -/
namespace Go.Proofs.YtafgmcimcbhhjaaGreat
open Go.RowKit Go.Front Go.Num Stab Sg
end Go.Proofs.YtafgmcimcbhhjaaGreat
/- slope of law17. -/
namespace Go.Proofs.YtafgmcimcbhhjaaGreat
open Go.RowKit Go.Front Go.Num Stab Sg
attribute [local go_sem] XW.cell XW.frozen
structure SlZ (p q:List Rat) (x:Rat):Prop where
 fp:FrB 500 p
 fq:FrB 500 q
 lp:p.length≤9
 lq:q.length≤9
 zx:Sz 1 x
theorem SlZ.ev{S:Nat}{l:List Rat}{x:Rat}(h:FrB S l)(hl:l.length≤9)(hS:S≤501)(hx:Sz 1 x):∀ k,k≤l.length→Sz 600 (evV (l.drop k) x):=fun k hk=>by
 obtain ⟨h0,D,h1,h2,h3⟩:=h;exact (AN h3 hx h0 h1 h2 k).mono (by have:=nXg (1+1) hl;omega)
theorem iZ{S:Nat}{l:List Rat}(hf:FrB S l)(hl:l.length≤9):FrB (S+1) (tz (derL l))∧(tz (derL l)).length≤9:=by
 obtain ⟨h0,D,h1,h2,h3⟩:=hf;refine ⟨⟨by omega,D,h1,nXm h2 (nXo aA (by omega)),kg h3 (by omega)⟩,?_⟩;by_cases h:tz l=[]
 ·have:tz (derL l)=[]:=ev_tznil.2 fun x=>by
   rw [cf,←pG,h];rfl
  rw [this];exact Nat.zero_le _
 ·have:=jq h;omega
theorem yy{w1:World}{b b':Nat}{T T':TypeId}{c0 c1 c2 v0 v1 v2 c0' c1' c2' v0' v1' v2':Value}{F:World→Prop}(hb:w1.heap[b]?=some (.cells #[c0,c1,c2] T (0,0)))(hn:#[c0,c1,c2].toList.all gv=true)
 (hb':w1.heap[b']?=some (.cells #[c0',c1',c2'] T' (0,0)))(hn':#[c0',c1',c2'].toList.all gv=true)(hne:b'≠b)
 (H:∀ w2 w3,fj w1 b T #[v0,v1,v2] w2→fj w2 b' T' #[v0',v1',v2'] w3→F w3) :
  F ((((((w1.setCell ⟨b,0,none⟩ v0).setCell ⟨b,1,none⟩ v1).setCell ⟨b,2,none⟩ v2).setCell ⟨b',0,none⟩ v0').setCell ⟨b',1,none⟩ v1').setCell ⟨b',2,none⟩ v2') :=
 aY (v0:=v0) (v1:=v1) (v2:=v2) (F:=fun W=>F (((W.setCell ⟨b',0,none⟩ v0').setCell ⟨b',1,none⟩ v1').setCell ⟨b',2,none⟩ v2')) hb hn fun w2 T2 =>
  aY (v0:=v0') (v1:=v1') (v2:=v2') (F:=F) (T2.rest _ _ hne hb') hn' fun w3 T3=>H w2 w3 T2 T3
theorem ke(l:List Rat)(x:Rat):evV (tz (derL l)) x=evD l x:=by rw [m0,cf]
theorem jD(f:FH)(t:RH)(p q:List Rat)(x:Rat)(w:World)(hf:uF w f p q)(ht:av w t x)(hz:SlZ p q x) :
  aq 56 [f.v,t.v] w RH.v (fun y w'=>av w' y (slV p q x)):=by
 obtain ⟨⟨na,nn,nc⟩,⟨qa,qn,qc⟩⟩:=f;obtain ⟨tn,ta,tl,tc,tb,tm,td⟩:=t;have HX:=Hi (Ext.refl w);have LN:=Hi hf.1;have LQ:=Hi hf.2;have HT:=Hi ht;have HZ:=Hi hz;have hnn:nn≤9:=by have h:=hf.1.len;have h2:=hz.lp;simp only at h;omega
 have hqn:qn≤9:=by have h:=hf.2.len;have h2:=hz.lq;simp only at h;omega
 have PD:=Hi (iZ hz.fp hz.lp);have QD:=Hi (iZ hz.fq hz.lq);have EP:=Hi (SlZ.ev hz.fp hz.lp (by decide) hz.zx);have EQ:=Hi (SlZ.ev hz.fq hz.lq (by decide) hz.zx);have EPD:=Hi (SlZ.ev PD.out.1 PD.out.2 (by decide) hz.zx);have EQD:=Hi (SlZ.ev QD.out.1 QD.out.2 (by decide) hz.zx);have ZP:Hid (Sz 600 (evV p x)):=Hi (EP.out 0 (Nat.zero_le _));have ZQ:Hid (Sz 600 (evV q x)):=Hi (EQ.out 0 (Nat.zero_le _));have ZPD:Hid (Sz 600 (evD p x)):=Hi (by have h:=EPD.out 0 (Nat.zero_le _);rw [List.drop_zero,ke] at h;exact h);have ZQD:Hid (Sz 600 (evD q x)):=Hi (by have h:=EQD.out 0 (Nat.zero_le _);rw [List.drop_zero,ke] at h;exact h);have ZX:=Hi hz.zx;have HTP:=Hi (ke p x);have HTQ:=Hi (ke q x);have ZM1:=Hi (ZPD.out.mul ZQ.out);have ZM2:=Hi (ZP.out.mul ZQD.out);have ZTp:=Hi (ZM1.out.sub ZM2.out);have ZQQ:=Hi (ZQ.out.mul ZQ.out);clear hf ht hz;unfold aq;go_enter Tryz.func56,Tryz.ntmps56
 go_upto_region 1 with fail
 refine pg ?_;intro w1 hE B2 B3 B4 hz_w1 hr_w1;refine mV4 hE ?_ HX LN LQ HT;clear HX LN LQ HT;intro HX LN LQ HT;have hs_w1:=hE.size;clear hE;replace b_B2:=bX3 B2;replace b_B3:=bX3 B3;replace b_B4:=bX3 B4;refine wpG 10 (fun opIx=>match opIx with
  | 3=>.spec RH default RH.v (fun s w'=>av w' s (evV p x))
  | 7=>.spec RH default RH.v (fun s w'=>av w' s (evV q x))
  | 8=>.alloc 34 #[.bool false,.slice none 0 0,.slice none 0 0]
  | 9=>.alloc 34 #[.bool false,.slice none 0 0,.slice none 0 0]
  | _=>.quiet) (fun _=>[]) fun w0 he0 hz0 hc0 hf0=>?_
 refine wps he0.out rfl rfl (fun w1 hW hG=>?_) fun x11=>?_
 ·exact spc [.slice na nn nc,RH.v ⟨tn,ta,tl,tc,tb,tm,td⟩] Tryz.func50 (iC na nn nc p ⟨tn,ta,tl,tc,tb,tm,td⟩ x _ (LN.out.ext hW) (HT.out.ext hW) (by omega) (HZ.out.fp.sz.mono (by decide)) (ZX.out.mono (by decide)) (fun k hk=>(EP.out k hk).mono (by decide)))
 refine qZ ?_;refine wps he0.out rfl rfl (fun w1 hW hG=>?_) fun x15=>?_
 ·exact spc [.slice qa qn qc,RH.v ⟨tn,ta,tl,tc,tb,tm,td⟩] Tryz.func50 (iC qa qn qc q ⟨tn,ta,tl,tc,tb,tm,td⟩ x _ (LQ.out.ext hW) (HT.out.ext hW) (by omega) (HZ.out.fq.sz.mono (by decide)) (ZX.out.mono (by decide)) (fun k hk=>(EQ.out k hk).mono (by decide)))
 refine qZ ?_;refine aH rfl rfl (fun w=>by simp [execOp,go_sem,ptr]) (fun b5 hb5 hl5=>?_);refine qZ ?_;refine aH rfl rfl (fun w=>by simp [execOp,go_sem,ptr]) (fun b6 hb6 hl6=>?_);refine qZ ?_;refine aj ?_;intro w2 hI;have hE:=he0.out.trans hI.ext;have G11:=gT (hI.facts 3);have G15:=gT (hI.facts 7);have A5:Hid (w2.heap[b5]?=some (.cells #[.bool false,.slice none 0 0,.slice none 0 0] 34 (0,0))):=hI.facts 8;rw [hz0] at hl5;have A6:Hid (w2.heap[b6]?=some (.cells #[.bool false,.slice none 0 0,.slice none 0 0] 34 (0,0))):=hI.facts 9;rw [hz0] at hl6;clear hI he0 hz0 hc0 hf0;refine mV7 hE ?_ B2 B3 B4 HX LN LQ HT;clear B2 B3 B4 HX LN LQ HT;intro B2 B3 B4 HX LN LQ HT;have hs_w2:=hE.size;clear hE;replace b_B2:=bX3 B2;replace b_B3:=bX3 B3;replace b_B4:=bX3 B4;replace b_A5:=bX3 A5;replace b_A6:=bX3 A6;simp only [pD,ptr];obtain ⟨un,ua,ul,uc,ub,um,ud⟩:=x11;obtain ⟨vn,va,vl,vc,vb,vm,vd⟩:=x15;have A1:=Hi (LN.out.apz3 A5.out);have A2:=Hi (LQ.out.apz3 A5.out);have A3:=Hi (LN.out.apz3 A6.out);have A4:=Hi (LQ.out.apz3 A6.out);have n56:b6≠b5:=fun h=>hb6 (Or.inl h)
 go_upto_region 2 with fail
 refine yy A5.out rfl A6.out rfl n56 ?_;intro w3 w4 T T6;have LN1:=Hi (LN.out.puta A1.out T);have LQ1:=Hi (LQ.out.puta A2.out T);clear LN;clear LQ;replace HX:=Hi (T.ext HX.out (by omega));replace HT:=Hi (HT.out.keep T.keep);replace B2:=Hi (T.rest _ _ (by omega) B2.out);replace B3:=Hi (T.rest _ _ (by omega) B3.out);replace B4:=Hi (T.rest _ _ (by omega) B4.out);replace G11:=Hi (G11.out.keep T.keep);replace G15:=Hi (G15.out.keep T.keep);replace A5:=Hi (T.bx);replace A6:=Hi (T.rest _ _ (by omega) A6.out);have hs_w3:=nle T.size;have hr_w3:=nle T.size.symm;clear T;replace b_B2:=bX3 B2;replace b_B3:=bX3 B3;replace b_B4:=bX3 B4;replace b_A5:=bX3 A5;replace b_A6:=bX3 A6;have T:=T6;clear T6;have LN:=Hi (LN1.out.puta A3.out T);have LQ:=Hi (LQ1.out.puta A4.out T);clear LN1 LQ1 A1 A2 A3 A4;replace HX:=Hi (T.ext HX.out (by omega));replace HT:=Hi (HT.out.keep T.keep);replace B2:=Hi (T.rest _ _ (by omega) B2.out);replace B3:=Hi (T.rest _ _ (by omega) B3.out);replace B4:=Hi (T.rest _ _ (by omega) B4.out);replace G11:=Hi (G11.out.keep T.keep);replace G15:=Hi (G15.out.keep T.keep);replace A5:=Hi (T.rest _ _ (by omega) A5.out);replace A6:=Hi (T.bx);have hs_w4:=nle T.size;have hr_w4:=nle T.size.symm;clear T;replace b_B2:=bX3 B2;replace b_B3:=bX3 B3;replace b_B4:=bX3 B4;replace b_A5:=bX3 A5;replace b_A6:=bX3 A6;have GU:Hid (av w4 ⟨un,ua,ul,uc,ub,um,ud⟩ (evV p x)):=G11;have GV:Hid (av w4 ⟨vn,va,vl,vc,vb,vm,vd⟩ (evV q x)):=G15;clear G11;clear G15;have p5:b5<w4.heap.size:=b_A5.2.2;have p6:b6<w4.heap.size:=b_A6.2.2;refine wpG 16 (fun opIx=>match opIx with
  | 2=>.spec (SH) (default) (SH.v) (fun y w'=>aG w' y (tz (derL p)))
  | 4=>.spec RH default RH.v (fun s w'=>av w' s (evD p x))
  | 6=>.spec RH default RH.v (fun s w'=>av w' s (evD p x*evV q x))
  | 10=>.spec (SH) (default) (SH.v) (fun y w'=>aG w' y (tz (derL q)))
  | 12=>.spec RH default RH.v (fun s w'=>av w' s (evD q x))
  | 13=>.spec RH default RH.v (fun s w'=>av w' s (evV p x*evD q x))
  | 14=>.spec RH default RH.v (fun s w'=>av w' s (evD p x*evV q x-evV p x*evD q x))
  | 15=>.alloc 34 #[.bool false,.slice none 0 0,.slice none 0 0]
  | _=>.quiet) (fun|4=>[2]|6=>[4]|12=>[10]|13=>[12]|14=>[6,13]|_=>[]) fun w0 he0 hz0 hc0 hf0=>?_
 refine wps he0.out rfl rfl (fun w1 hW hG=>?_) fun x18=>?_
 ·exact spc [.slice na nn nc] Tryz.func53 ((pM na nn nc p _ (LN.out.ext hW) (by omega) (HZ.out.fp.sz.mono (by decide))).weak (fun _ _ _ h=>h.can))
 refine qZ ?_;refine wps he0.out rfl rfl (fun w1 hW hG=>?_) fun x20=>?_
 ·have g18:=(hG 2 (by decide):aw _ _).get fun _ e g=>g.ext e
  exact spc [x18.v,RH.v ⟨tn,ta,tl,tc,tb,tm,td⟩] Tryz.func50 ((by have h:=iC x18.a x18.n x18.c (tz (derL p)) ⟨tn,ta,tl,tc,tb,tm,td⟩ x _ g18 (HT.out.ext hW) (by have h:=g18.len;have h2:=PD.out.2;omega) (PD.out.1.sz.mono (by decide)) (ZX.out.mono (by decide)) (fun k hk=>(EPD.out k hk).mono (by decide));rw [HTP.out] at h;exact h))
 refine qZ ?_;refine wps he0.out rfl rfl (fun w1 hW hG=>?_) fun x22=>?_
 ·have g20:=(hG 4 (by decide):aw _ _).get fun _ e g=>g.ext e
  exact spc [x20.v,RH.v ⟨vn,va,vl,vc,vb,vm,vd⟩] Tryz.func48 (eH x20 ⟨vn,va,vl,vc,vb,vm,vd⟩ (evD p x) (evV q x) _ (g20.raw ZPD.out (by decide)) ((GV.out.ext hW).raw ZQ.out (by decide)))
 refine qZ ?_;refine wps he0.out rfl rfl (fun w1 hW hG=>?_) fun x26=>?_
 ·exact spc [.slice qa qn qc] Tryz.func53 ((pM qa qn qc q _ (LQ.out.ext hW) (by omega) (HZ.out.fq.sz.mono (by decide))).weak (fun _ _ _ h=>h.can))
 refine qZ ?_;refine wps he0.out rfl rfl (fun w1 hW hG=>?_) fun x28=>?_
 ·have g26:=(hG 10 (by decide):aw _ _).get fun _ e g=>g.ext e
  exact spc [x26.v,RH.v ⟨tn,ta,tl,tc,tb,tm,td⟩] Tryz.func50 ((by have h:=iC x26.a x26.n x26.c (tz (derL q)) ⟨tn,ta,tl,tc,tb,tm,td⟩ x _ g26 (HT.out.ext hW) (by have h:=g26.len;have h2:=QD.out.2;omega) (QD.out.1.sz.mono (by decide)) (ZX.out.mono (by decide)) (fun k hk=>(EQD.out k hk).mono (by decide));rw [HTQ.out] at h;exact h))
 refine qZ ?_;refine wps he0.out rfl rfl (fun w1 hW hG=>?_) fun x29=>?_
 ·have g28:=(hG 12 (by decide):aw _ _).get fun _ e g=>g.ext e
  exact spc [RH.v ⟨un,ua,ul,uc,ub,um,ud⟩,x28.v] Tryz.func48 (eH ⟨un,ua,ul,uc,ub,um,ud⟩ x28 (evV p x) (evD q x) _ ((GU.out.ext hW).raw ZP.out (by decide)) (g28.raw ZQD.out (by decide)))
 refine qZ ?_;refine wps he0.out rfl rfl (fun w1 hW hG=>?_) fun x30=>?_
 ·have g22:=(hG 6 (by decide):aw _ _).get fun _ e g=>g.ext e
  have g29:=(hG 13 (by decide):aw _ _).get fun _ e g=>g.ext e
  exact spc [x22.v,x29.v] Tryz.func94 (rT x22 x29 (evD p x*evV q x) (evV p x*evD q x) _ (g22.raw ZM1.out (by decide)) (g29.raw ZM2.out (by decide)))
 refine qZ ?_;refine aH rfl rfl (fun w=>by simp [execOp,go_sem,ptr]) (fun b7 hb7 hl7=>?_);refine qZ ?_;refine aj ?_;intro w5 hI;have hE:=he0.out.trans hI.ext;have G18:=gT (hI.facts 2);have G20:=gT (hI.facts 4);have G22:=gT (hI.facts 6);have G26:=gT (hI.facts 10);have G28:=gT (hI.facts 12);have G29:=gT (hI.facts 13);have G30:=gT (hI.facts 14);have A7:Hid (w5.heap[b7]?=some (.cells #[.bool false,.slice none 0 0,.slice none 0 0] 34 (0,0))):=hI.facts 15;rw [hz0] at hl7;clear hI he0 hz0 hc0 hf0;refine mV8 hE ?_ HX HT B2 B3 B4 A5 A6 LN;clear HX HT B2 B3 B4 A5 A6 LN;intro HX HT B2 B3 B4 A5 A6 LN;refine mV3 hE ?_ GV LQ GU;clear GV LQ GU;intro GV LQ GU;have hs_w5:=hE.size;clear hE;replace b_B2:=bX3 B2;replace b_B3:=bX3 B3;replace b_B4:=bX3 B4;replace b_A5:=bX3 A5;replace b_A6:=bX3 A6;replace b_A7:=bX3 A7;simp only [pD,ptr];obtain ⟨on,oa,ol,oc,ob,om,od⟩:=x30;have GO:Hid (av w5 ⟨on,oa,ol,oc,ob,om,od⟩ (evD p x*evV q x-evV p x*evD q x)):=G30;clear G18 G26;clear G20;clear G22;clear G28;clear G29;clear G30;clear LN;clear LQ
 go_upto_region 3 with fail
 refine aY A7.out rfl ?_;intro w6 T;replace HX:=Hi (T.ext HX.out (by omega));replace HT:=Hi (HT.out.keep T.keep);replace B2:=Hi (T.rest _ _ (by omega) B2.out);replace B3:=Hi (T.rest _ _ (by omega) B3.out);replace B4:=Hi (T.rest _ _ (by omega) B4.out);replace A5:=Hi (T.rest _ _ (by omega) A5.out);replace A6:=Hi (T.rest _ _ (by omega) A6.out);replace GU:=Hi (GU.out.keep T.keep);replace GV:=Hi (GV.out.keep T.keep);replace A7:=Hi (T.bx);replace GO:=Hi (GO.out.keep T.keep);have hs_w6:=nle T.size;have hr_w6:=nle T.size.symm;clear T;replace b_B2:=bX3 B2;replace b_B3:=bX3 B3;replace b_B4:=bX3 B4;replace b_A5:=bX3 A5;replace b_A6:=bX3 A6;replace b_A7:=bX3 A7;refine wpG 5 (fun opIx=>match opIx with
  | 3=>.spec RH default RH.v (fun s w'=>av w' s (evV q x*evV q x))
  | 4=>.spec RH default RH.v (fun s w'=>av w' s (slV p q x))
  | _=>.quiet) (fun|4=>[3]|_=>[]) fun w0 he0 hz0 hc0 hf0=>?_
 refine wps he0.out rfl rfl (fun w1 hW hG=>?_) fun x34=>?_
 ·exact spc [RH.v ⟨vn,va,vl,vc,vb,vm,vd⟩,RH.v ⟨vn,va,vl,vc,vb,vm,vd⟩] Tryz.func48 (eH ⟨vn,va,vl,vc,vb,vm,vd⟩ ⟨vn,va,vl,vc,vb,vm,vd⟩ (evV q x) (evV q x) _ ((GV.out.ext hW).raw ZQ.out (by decide)) ((GV.out.ext hW).raw ZQ.out (by decide)))
 refine qZ ?_;refine wps he0.out rfl rfl (fun w1 hW hG=>?_) fun x35=>?_
 ·have g34:=(hG 3 (by decide):aw _ _).get fun _ e g=>g.ext e
  exact spc [RH.v ⟨on,oa,ol,oc,ob,om,od⟩,x34.v] Tryz.func35 ((qz ⟨on,oa,ol,oc,ob,om,od⟩ x34 (evD p x*evV q x-evV p x*evD q x) (evV q x*evV q x) _ ((GO.out.ext hW).raw ZTp.out (by decide)) (g34.raw ZQQ.out (by decide))))
 refine qZ ?_;refine aj ?_;intro w7 hI;have hE:=he0.out.trans hI.ext;have G34:=gT (hI.facts 3);have G35:=gT (hI.facts 4);clear hI he0 hz0 hc0 hf0;refine mV8 hE ?_ HX HT B2 B3 B4 A5 A6 GU;clear HX HT B2 B3 B4 A5 A6 GU;intro HX HT B2 B3 B4 A5 A6 GU;refine mV3 hE ?_ A7 GV GO;clear A7 GV GO;intro A7 GV GO;have hs_w7:=hE.size;clear hE;replace b_B2:=bX3 B2;replace b_B3:=bX3 B3;replace b_B4:=bX3 B4;replace b_A5:=bX3 A5;replace b_A6:=bX3 A6;replace b_A7:=bX3 A7;simp only [pD];obtain ⟨rn,ra,rl,rc,rb,rm,rd⟩:=x35;go_wp2;refine aY (F:=fun W=>bodyPost Tryz.prog Tryz.f56 (xK RH.v (fun y w'=>av w' y (slV p q x)) w) Exit.ret _ W) B4.out rfl ?_;intro w8 T;replace HX:=Hi (T.ext HX.out (by omega));replace HT:=Hi (HT.out.keep T.keep);replace B2:=Hi (T.rest _ _ (by omega) B2.out);replace B3:=Hi (T.rest _ _ (by omega) B3.out);replace B4:=Hi (T.bx);replace A5:=Hi (T.rest _ _ (by omega) A5.out);replace A6:=Hi (T.rest _ _ (by omega) A6.out);replace GU:=Hi (GU.out.keep T.keep);replace GV:=Hi (GV.out.keep T.keep);replace A7:=Hi (T.rest _ _ (by omega) A7.out);replace GO:=Hi (GO.out.keep T.keep);replace G34:=Hi (G34.out.keep T.keep);replace G35:=Hi (G35.out.keep T.keep);have hs_w8:=nle T.size;have hr_w8:=nle T.size.symm;clear T;replace b_B2:=bX3 B2;replace b_B3:=bX3 B3;replace b_B4:=bX3 B4;replace b_A5:=bX3 A5;replace b_A6:=bX3 A6;replace b_A7:=bX3 A7;exact bodyPost_ret (v:=RH.v ⟨rn,ra,rl,rc,rb,rm,rd⟩) (by simp [results,Tryz.results56,go_sem,b_B4.1]) rfl ⟨⟨rn,ra,rl,rc,rb,rm,rd⟩,rfl,HX.out,G35.out⟩
theorem wS{p q:List Rat}{x:Rat}(h:SlZ p q x):Sz 5000 (slV p q x):=by
 have a:=SlZ.ev h.fp h.lp (by decide) h.zx 0 (Nat.zero_le _);have b:=SlZ.ev h.fq h.lq (by decide) h.zx 0 (Nat.zero_le _);have c:=SlZ.ev (iZ h.fp h.lp).1 (iZ h.fp h.lp).2 (by decide) h.zx 0 (Nat.zero_le _);have d:=SlZ.ev (iZ h.fq h.lq).1 (iZ h.fq h.lq).2 (by decide) h.zx 0 (Nat.zero_le _);rw [List.drop_zero] at a b c d;rw [ke] at c d;unfold slV;exact (((c.mul b).sub (a.mul d)).div (b.mul b)).mono (by decide)
theorem pw{v:Int×List Rat×List Rat}{x:FH×Int}{w:World}{n d:List Rat}{a:Int}(h:FEP v x w)(hv:v=(a,n,d)):x.2=a∧uF w x.1 n d:=by
 subst hv;exact h
theorem nY(z0 z1 z2:Int)(w:World)(h0:-9223372036854775808≤z0)(k0:z0≤9223372036854775807)(h1:-9223372036854775808≤z1)(k1:z1≤9223372036854775807)(h2:-9223372036854775808≤z2)(k2:z2≤9223372036854775807) :
  aq 10 [.int .i64 z0,.int .i64 z1,.int .i64 z2] w (fun _:Unit=>.bool true) (fun _ _=>True):=by
 have HX:=Hi (Ext.refl w);obtain ⟨m2,e2,l2⟩:=f9 z0 19 (by decide);obtain ⟨m3,e3,l3⟩:=f9 z1 30 (by decide);obtain ⟨m4,e4,l4⟩:=f9 z2 9 (by decide);have C2:=Hi (nZ z0 19 · h0 k0 (by decide) (by decide));have C3:=Hi (nZ z1 30 · h1 k1 (by decide) (by decide));have C4:=Hi (nZ z2 9 · h2 k2 (by decide) (by decide));rw [e2] at C2;rw [e3] at C3;rw [e4] at C4;obtain ⟨e,he⟩:∃ e,e=edQ z0:=⟨_,rfl⟩;obtain ⟨r,hr⟩:∃ r,r=riQ z1:=⟨_,rfl⟩;obtain ⟨q,hq⟩:∃ q,q=seQ z2:=⟨_,rfl⟩;have EF:Hid (EdF e):=Hi (by rw [he];exact BT z0);have HR:Hid (0<r∧Sz 1 r):=Hi (by rw [hr];exact BF z1);have HQ:Hid (0<q∧q<1∧Sz 1 q):=Hi (by rw [hq];exact BE z2);have HQQ2:Hid (0<q*q∧q*q<1∧Sz 2 (q*q)):=Hi ⟨gH HQ.out.1 HQ.out.1,by have:=Sg.mul_lt HQ.out.2.1 HQ.out.1;have:=HQ.out.2.1;grind,(HQ.out.2.2.mul HQ.out.2.2).mono (by decide)⟩;have HEE:Hid (e=(((m2:Int)-9:Int):Rat) / ((10:Int):Rat)):=Hi (by rw [he];unfold edQ;rw [e2]);have HRR:Hid (r=((1+(m3:Int):Int):Rat) / ((10:Int):Rat)):=Hi (by rw [hr];unfold riQ;rw [e3]);have HQQ:Hid (q=((1+(m4:Int):Int):Rat) / ((10:Int):Rat)):=Hi (by rw [hq];unfold seQ;rw [e4]);have HW4:Hid (dm ((4:Nat):Int) e r=0):=Hi (oJ (by decide) (by decide) EF.out HR.out.1);have HW2:Hid (dm ((2:Nat):Int) e r=0):=Hi (oJ (by decide) (by decide) EF.out HR.out.1);have Z1:Hid (Sz 1 ((1:Int):Rat)):=Hi (Sz.int (by decide));have ZE:=Hi EF.out.z;have ZR:=Hi HR.out.2;have ZQ:=Hi HQ.out.2.2;have FZ:=Hi (BS (n:=4) (e:=e) (r:=r) (s:=q) (by decide) (EF.out.z.mono (by decide)) (HR.out.2.mono (by decide)) HQ.out.2.2 (show 1≤1 by decide));have FPR:=Hi (tG (n:=4) (e0:=e) (r:=r) (s:=q) (by decide) ⟨EF.out.lo,EF.out.hi⟩ HR.out.1 HQ.out.1 HQ.out.2.1);have FFE:Hid (FrB 200 (elE 4 e (q))):=Hi (FZ.out.fE.mono (by decide));have FFD:Hid (FrB 500 (elD 4 e r (q))):=Hi (FZ.out.fD.mono (by decide));have FLE:Hid ((elE 4 e (q)).length≤3):=Hi (elEO_len _ _).1;have FLD:Hid ((elD 4 e r (q)).length≤5):=Hi (elD_len _ _ _);have FDK:Hid (DnK 2400000 (elD 4 e r (q)).length (elD 4 e r (q))):=Hi (BU FFD.out FLD.out (by decide) (by unfold KN;decide) (by decide) (nXe (nXg _ (show (elD 4 e r (q)).length+1≤6 by have:=FLD.out;omega)) (by decide)));have FRT:Hid (si ((1:Int):Rat) (elE 4 e (q)) 0 (elD 4 e r (q))=(0,nuP ((1:Int):Rat) (elE 4 e (q)) 0,tz (elD 4 e r (q)))):=Hi (by unfold si nuP;rw [if_pos FPR.out.val]);have FSZ:Hid (SlZ (nuP ((1:Int):Rat) (elE 4 e (q)) 0) (tz (elD 4 e r (q))) e):=Hi (by
  refine ⟨?_,FFD.out.tz,?_,nXe (ai _) (by have:=FLD.out;omega),EF.out.z⟩
  ·exact ((((FFE.out.mul FFE.out (by have:=FLE.out;omega)).mul (st (n:=0) (by decide)) (by have:=aS FLE.out FLE.out;omega)).scP (Sz.int (by decide):Sz 1 ((1:Int):Rat)) (by decide)).mono (by decide))
  ·exact nXe (cN _ _ (aS (aS FLE.out FLE.out) (i8 0))) (by decide))
 have FVZ:=Hi (wS FSZ.out);have TZ:=Hi (BS (n:=2) (e:=e) (r:=r) (s:=q*q) (by decide) (EF.out.z.mono (by decide)) (HR.out.2.mono (by decide)) HQQ2.out.2.2 (show 1≤2 by decide));have TPR:=Hi (tG (n:=2) (e0:=e) (r:=r) (s:=q*q) (by decide) ⟨EF.out.lo,EF.out.hi⟩ HR.out.1 HQQ2.out.1 HQQ2.out.2.1);have TFE:Hid (FrB 200 (elE 2 e (q*q))):=Hi (TZ.out.fE.mono (by decide));have TFD:Hid (FrB 500 (elD 2 e r (q*q))):=Hi (TZ.out.fD.mono (by decide));have TLE:Hid ((elE 2 e (q*q)).length≤3):=Hi (elEO_len _ _).1;have TLD:Hid ((elD 2 e r (q*q)).length≤5):=Hi (elD_len _ _ _);have TDK:Hid (DnK 2400000 (elD 2 e r (q*q)).length (elD 2 e r (q*q))):=Hi (BU TFD.out TLD.out (by decide) (by unfold KN;decide) (by decide) (nXe (nXg _ (show (elD 2 e r (q*q)).length+1≤6 by have:=TLD.out;omega)) (by decide)));have TRT:Hid (si ((1:Int):Rat) (elE 2 e (q*q)) 0 (elD 2 e r (q*q))=(0,nuP ((1:Int):Rat) (elE 2 e (q*q)) 0,tz (elD 2 e r (q*q)))):=Hi (by unfold si nuP;rw [if_pos TPR.out.val]);have TSZ:Hid (SlZ (nuP ((1:Int):Rat) (elE 2 e (q*q)) 0) (tz (elD 2 e r (q*q))) e):=Hi (by
  refine ⟨?_,TFD.out.tz,?_,nXe (ai _) (by have:=TLD.out;omega),EF.out.z⟩
  ·exact ((((TFE.out.mul TFE.out (by have:=TLE.out;omega)).mul (st (n:=0) (by decide)) (by have:=aS TLE.out TLE.out;omega)).scP (Sz.int (by decide):Sz 1 ((1:Int):Rat)) (by decide)).mono (by decide))
  ·exact nXe (cN _ _ (aS (aS TLE.out TLE.out) (i8 0))) (by decide))
 have TVZ:=Hi (wS TSZ.out);have HLT:=Hi (BI ⟨EF.out.lo,EF.out.hi⟩ HR.out.1 HQ.out.1 HQ.out.2.1);clear e2 e3 e4 he hr hq h0 k0 h1 k1 h2 k2;unfold aq;go_enter Tryz.func10,Tryz.ntmps10
 go_wp2_with fail
 refine cM (C2.out _) fun x19 w19 hE _=>?_
 replace HX:=hE.tr HX;have hs_w19:=hE.size;clear hE
 go_wp2_with fail
 refine cM (f4 ((m2:Int)-9) 10 _ (by omega) (by omega) (by decide) (by decide)) fun x21 w21 hE G21=>?_
 replace HX:=hE.tr HX;have hs_w21:=hE.size;clear hE;rw [←HEE.out] at G21;have HS:=Hi G21.out;clear G21
 go_wp2_with fail
 refine cM (C3.out _) fun x23 w23 hE _=>?_
 refine mV2 hE ?_ HX HS;clear HX HS;intro HX HS;have hs_w23:=hE.size;clear hE
 go_wp2_with fail
 refine cM (f4 (1+(m3:Int)) 10 _ (by omega) (by omega) (by decide) (by decide)) fun x25 w25 hE G25=>?_
 refine mV2 hE ?_ HX HS;clear HX HS;intro HX HS;have hs_w25:=hE.size;clear hE;rw [←HRR.out] at G25;have HT:=Hi G25.out;clear G25
 go_wp2_with fail
 refine cM (C4.out _) fun x27 w27 hE _=>?_
 refine mV3 hE ?_ HX HS HT;clear HX HS HT;intro HX HS HT;have hs_w27:=hE.size;clear hE
 go_wp2_with fail
 refine cM (f4 (1+(m4:Int)) 10 _ (by omega) (by omega) (by decide) (by decide)) fun x29 w29 hE G29=>?_
 refine mV3 hE ?_ HX HS HT;clear HX HS HT;intro HX HS HT;have hs_w29:=hE.size;clear hE;rw [←HQQ.out] at G29;have HU:=Hi G29.out;clear G29;obtain ⟨sn,sa,sl,sc,sb,sm,sd⟩:=x21;obtain ⟨tn,ta,tl,tc,tb,tm,td⟩:=x25;obtain ⟨un,ua,ul,uc,ub,um,ud⟩:=x29
 go_upto_region 2 with fail
 refine pg ?_;intro w30 hE B7 B8 B9 hz_w30 hr_w30;refine mV4 hE ?_ HX HS HT HU;clear HX HS HT HU;intro HX HS HT HU;have hs_w30:=hE.size;clear hE;replace b_B7:=bX3 B7;replace b_B8:=bX3 B8;replace b_B9:=bX3 B9
 go_wp2_with fail
 refine cM ((by have h:=sv 4 ⟨sn,sa,sl,sc,sb,sm,sd⟩ ⟨tn,ta,tl,tc,tb,tm,td⟩ ⟨un,ua,ul,uc,ub,um,ud⟩ e r q 1 _ (by decide) (HS.out.raw ZE.out (by decide)) (HT.out.raw ZR.out (by decide)) (HU.out.raw ZQ.out (by decide)) ZE.out ZR.out ZQ.out (by decide) (by decide) HW4.out HQ.out.1 HQ.out.2.1;rw [show ((4:Nat):Int)=4 from rfl] at h;exact h)) fun x34 w34 hE G34=>?_
 refine mV7 hE ?_ B7 B8 B9 HX HS HT HU;clear B7 B8 B9 HX HS HT HU;intro B7 B8 B9 HX HS HT HU;have hs_w34:=hE.size;clear hE;replace b_B7:=bX3 B7;replace b_B8:=bX3 B8;replace b_B9:=bX3 B9;obtain ⟨⟨⟨Fn,Fa,Fl,Fc,Fb,Fm,Fd⟩,⟨Fea,Fen,Fec⟩,Fp,⟨Fda,Fdn,Fdc⟩⟩,Fer⟩:=x34;obtain ⟨Fhe,-,Fhp⟩:=G34.out;simp only at Fhe;subst Fhe;obtain ⟨Fpg,Fpe,Fpp,Fpd⟩:=Fhp rfl;simp only at Fpg Fpe Fpp Fpd;have FPG:=Hi Fpg;have FPE:=Hi Fpe;have FPP:=Hi Fpp;have FPD:=Hi Fpd;have FR2:Hid (si ((1:Int):Rat) (elE 4 e q) Fp (elD 4 e r q)=(0,nuP ((1:Int):Rat) (elE 4 e q) 0,tz (elD 4 e r q))):=Hi (by have h:=FRT.out;have h2:=FPP.out;rw [h2];exact h);have Fdn5:Fdn≤5:=by have h:=Fpd.len;have h2:=FLD.out;simp only at h;omega
 have Fen3:Fen≤3:=by have h:=Fpe.len;have h2:=FLE.out;simp only at h;omega
 have FDK2:Hid (DnK 2400000 Fdn (elD 4 e r q)):=Hi (by have h:=FDK.out;have h2:=Fpd.len;simp only at h2;rw [h2] at h;exact h);clear Fpg Fpe Fpp Fpd Fhp G34;simp only [PE]
 go_upto_region 3 with fail
 refine nmA ?_;intro w35 hE B10 hz_w35 hr_w35;refine mV8 hE ?_ B7 B8 B9 HX HS HT HU FPG;clear B7 B8 B9 HX HS HT HU FPG;intro B7 B8 B9 HX HS HT HU FPG;refine mV2 hE ?_ FPE FPD;clear FPE FPD;intro FPE FPD;have hs_w35:=hE.size;clear hE;replace b_B7:=bX3 B7;replace b_B8:=bX3 B8;replace b_B9:=bX3 B9;replace b_B10:=bX3 B10;refine aQ [(10,8)] _ (by simp only [gy,kk,List.push_toArray,List.cons_append,List.nil_append];exact rfl) (by intro c a d v w h;cases d <;> exact h) 10 (fun opIx=>match opIx with
  | 4=>.spec RH default RH.v (fun s w'=>av w' s (q*q))
  | 5=>.spec (PH×Int) ((PH0,0)) (PE) (MkP 0 ((1:Int):Rat) (elE 2 e (q*q)) 0 (elD 2 e r (q*q)))
  | 9=>.alloc 64 #[.bool false,.slice none 0 0,.slice none 0 0,.slice none 0 0,.int .i64 0,.slice none 0 0]
  | _=>.quiet) (fun|5=>[4]|_=>[]) (by kernel_rfl) (by kernel_rfl) (by kernel_rfl) (fun w0 he0 hz0 hc0 hf0=>?_)
 replace he0:=Hi he0;simp only [pT];refine qQ ?_;refine wps he0.out rfl rfl (fun w1 hW hG=>?_) fun x42=>?_
 ·exact spc [RH.v ⟨un,ua,ul,uc,ub,um,ud⟩,RH.v ⟨un,ua,ul,uc,ub,um,ud⟩] Tryz.func48 (eH ⟨un,ua,ul,uc,ub,um,ud⟩ ⟨un,ua,ul,uc,ub,um,ud⟩ q q _ ((HU.out.ext hW).raw ZQ.out (by decide)) ((HU.out.ext hW).raw ZQ.out (by decide)))
 refine qZ ?_;refine wps he0.out rfl rfl (fun w1 hW hG=>?_) fun x43=>?_
 ·have g42:=(hG 4 (by decide):aw _ _).get fun _ e g=>g.ext e
  exact spc [.int .i64 2,RH.v ⟨sn,sa,sl,sc,sb,sm,sd⟩,RH.v ⟨tn,ta,tl,tc,tb,tm,td⟩,x42.v] Tryz.func55 ((by have h:=sv 2 ⟨sn,sa,sl,sc,sb,sm,sd⟩ ⟨tn,ta,tl,tc,tb,tm,td⟩ x42 e r (q*q) 2 _ (by decide) ((HS.out.ext hW).raw ZE.out (by decide)) ((HT.out.ext hW).raw ZR.out (by decide)) (g42.raw HQQ2.out.2.2 (by decide)) (ZE.out.mono (by decide)) (ZR.out.mono (by decide)) HQQ2.out.2.2 (by decide) (by decide) HW2.out HQQ2.out.1 HQQ2.out.2.1;rw [show ((2:Nat):Int)=2 from rfl] at h;exact h))
 refine qZ ?_;refine aH rfl rfl (fun w=>by simp [execOp,go_sem,ptr]) (fun b12 hb12 hl12=>?_);refine qZ ?_;refine aj ?_;intro w40 hI;have hE:=he0.out.trans hI.ext;have G42:=gT (hI.facts 4);have G43:=gT (hI.facts 5);have A12:Hid (w40.heap[b12]?=some (.cells #[.bool false,.slice none 0 0,.slice none 0 0,.slice none 0 0,.int .i64 0,.slice none 0 0] 64 (0,0))):=hI.facts 9;rw [hz0] at hl12;clear hI he0 hz0 hc0 hf0;refine mV8 hE ?_ B10 B7 B8 B9 HX HS HT FPG;clear B10 B7 B8 B9 HX HS HT FPG;intro B10 B7 B8 B9 HX HS HT FPG;refine mV3 hE ?_ FPE FPD HU;clear FPE FPD HU;intro FPE FPD HU;have hs_w40:=hE.size;clear hE;replace b_B7:=bX3 B7;replace b_B8:=bX3 B8;replace b_B9:=bX3 B9;replace b_B10:=bX3 B10;replace b_A12:=bX3 A12;simp only [pD,ptr];clear G42;obtain ⟨⟨⟨Tn,Ta,Tl,Tc,Tb,Tm,Td⟩,⟨Tea,Ten,Tec⟩,Tp,⟨Tda,Tdn,Tdc⟩⟩,Ter⟩:=x43;obtain ⟨The,-,Thp⟩:=G43.out;simp only at The;subst The;obtain ⟨Tpg,Tpe,Tpp,Tpd⟩:=Thp rfl;simp only at Tpg Tpe Tpp Tpd;have TPG:=Hi Tpg;have TPE:=Hi Tpe;have TPP:=Hi Tpp;have TPD:=Hi Tpd;have TR2:Hid (si ((1:Int):Rat) (elE 2 e (q*q)) Tp (elD 2 e r (q*q))=(0,nuP ((1:Int):Rat) (elE 2 e (q*q)) 0,tz (elD 2 e r (q*q)))):=Hi (by have h:=TRT.out;have h2:=TPP.out;rw [h2];exact h);have Tdn5:Tdn≤5:=by have h:=Tpd.len;have h2:=TLD.out;simp only at h;omega
 have Ten3:Ten≤3:=by have h:=Tpe.len;have h2:=TLE.out;simp only at h;omega
 have TDK2:Hid (DnK 2400000 Tdn (elD 2 e r (q*q))):=Hi (by have h:=TDK.out;have h2:=Tpd.len;simp only at h2;rw [h2] at h;exact h);clear Tpg Tpe Tpp Tpd Thp G43;have A1:=Hi (FPE.out.apz A12.out);have A2:=Hi (FPD.out.apz A12.out);have A3:=Hi (TPE.out.apz A12.out);have A4:=Hi (TPD.out.apz A12.out);simp only [PE]
 go_upto_region 4 with fail
 refine bY A12.out rfl ?_;intro w43 T;have Y1:=Hi (FPE.out.puta A1.out T);have Y2:=Hi (FPD.out.puta A2.out T);have Y3:=Hi (TPE.out.puta A3.out T);have Y4:=Hi (TPD.out.puta A4.out T);clear TPE TPD A1 A2 A3 A4;clear FPE;clear FPD;replace HX:=Hi (T.ext HX.out (by omega));replace HS:=Hi (HS.out.keep T.keep);replace HT:=Hi (HT.out.keep T.keep);replace HU:=Hi (HU.out.keep T.keep);replace B7:=Hi (T.rest _ _ (by omega) B7.out);replace B8:=Hi (T.rest _ _ (by omega) B8.out);replace B9:=Hi (T.rest _ _ (by omega) B9.out);replace FPG:=Hi (FPG.out.keep T.keep);replace B10:=Hi (T.rest _ _ (by omega) B10.out);replace A12:=Hi (T.bx);replace TPG:=Hi (TPG.out.keep T.keep);have hs_w43:=nle T.size;have hr_w43:=nle T.size.symm;clear T;replace b_B7:=bX3 B7;replace b_B8:=bX3 B8;replace b_B9:=bX3 B9;replace b_B10:=bX3 B10;replace b_A12:=bX3 A12;have FPE:=Y1;have FPD:=Y2;have TPE:=Y3;have TPD:=Y4;clear Y1 Y2 Y3 Y4;have FRP:Hid (km w43 ⟨⟨Fn,Fa,Fl,Fc,Fb,Fm,Fd⟩,⟨Fea,Fen,Fec⟩,Fp,⟨Fda,Fdn,Fdc⟩⟩ ((1:Int):Rat) (elE 4 e q) (elD 4 e r q)):=Hi ⟨FPG.out.raw Z1.out (by decide),FPE.out.raw FFE.out.sz (by decide),FPD.out.raw FFD.out.sz (by decide)⟩
 go_wp2_with fail
 refine cM (kH ⟨⟨Fn,Fa,Fl,Fc,Fb,Fm,Fd⟩,⟨Fea,Fen,Fec⟩,Fp,⟨Fda,Fdn,Fdc⟩⟩ ((1:Int):Rat) (elE 4 e q) (elD 4 e r q) 2400000 200 1 _ FRP.out (show Fdn≤49 by omega) FDK2.out (show Fen≤25 by omega) FFE.out (by decide) Z1.out (by decide)) fun xCFLL wCFLL hE GCFLL=>?_
 refine mV8 hE ?_ HX HS HT HU B7 B8 B9 FPG;clear HX HS HT HU B7 B8 B9 FPG;intro HX HS HT HU B7 B8 B9 FPG;refine mV7 hE ?_ B10 A12 TPG FPE FPD TPE TPD;clear B10 A12 TPG FPE FPD TPE TPD;intro B10 A12 TPG FPE FPD TPE TPD;have hs_wCFLL:=hE.size;clear hE;replace b_B7:=bX3 B7;replace b_B8:=bX3 B8;replace b_B9:=bX3 B9;replace b_B10:=bX3 B10;replace b_A12:=bX3 A12;obtain ⟨⟨⟨Fna,Fnn,Fnc⟩,⟨Fqa,Fqn,Fqc⟩⟩,Fer2⟩:=xCFLL;obtain ⟨Fhee,Fhf⟩:=pw GCFLL.out FR2.out;subst Fhee;have FF:=Hi Fhf;clear Fhf GCFLL;simp only [FE]
 go_upto_region 5 with fail
 refine nmA ?_;intro w49 hE B14 hz_w49 hr_w49;refine mV8 hE ?_ HX HS HT HU B7 B8 B9 FPG;clear HX HS HT HU B7 B8 B9 FPG;intro HX HS HT HU B7 B8 B9 FPG;refine mV8 hE ?_ B10 A12 TPG FPE FPD TPE TPD FF;clear B10 A12 TPG FPE FPD TPE TPD FF;intro B10 A12 TPG FPE FPD TPE TPD FF;have hs_w49:=hE.size;clear hE;replace b_B7:=bX3 B7;replace b_B8:=bX3 B8;replace b_B9:=bX3 B9;replace b_B10:=bX3 B10;replace b_A12:=bX3 A12;replace b_B14:=bX3 B14;have TRP:Hid (km w49 ⟨⟨Tn,Ta,Tl,Tc,Tb,Tm,Td⟩,⟨Tea,Ten,Tec⟩,Tp,⟨Tda,Tdn,Tdc⟩⟩ ((1:Int):Rat) (elE 2 e (q*q)) (elD 2 e r (q*q))):=Hi ⟨TPG.out.raw Z1.out (by decide),TPE.out.raw TFE.out.sz (by decide),TPD.out.raw TFD.out.sz (by decide)⟩
 go_wp2_with fail
 refine cM (kH ⟨⟨Tn,Ta,Tl,Tc,Tb,Tm,Td⟩,⟨Tea,Ten,Tec⟩,Tp,⟨Tda,Tdn,Tdc⟩⟩ ((1:Int):Rat) (elE 2 e (q*q)) (elD 2 e r (q*q)) 2400000 200 1 _ TRP.out (show Tdn≤49 by omega) TDK2.out (show Ten≤25 by omega) TFE.out (by decide) Z1.out (by decide)) fun xCTLL wCTLL hE GCTLL=>?_
 refine mV8 hE ?_ B14 HX HS HT HU B7 B8 B9;clear B14 HX HS HT HU B7 B8 B9;intro B14 HX HS HT HU B7 B8 B9;refine mV8 hE ?_ FPG B10 A12 TPG FPE FPD TPE TPD;clear FPG B10 A12 TPG FPE FPD TPE TPD;intro FPG B10 A12 TPG FPE FPD TPE TPD;replace FF:=mV hE FF;have hs_wCTLL:=hE.size;clear hE;replace b_B7:=bX3 B7;replace b_B8:=bX3 B8;replace b_B9:=bX3 B9;replace b_B10:=bX3 B10;replace b_A12:=bX3 A12;replace b_B14:=bX3 B14;obtain ⟨⟨⟨Tna,Tnn,Tnc⟩,⟨Tqa,Tqn,Tqc⟩⟩,Ter2⟩:=xCTLL;obtain ⟨Thee,Thf⟩:=pw GCTLL.out TR2.out;subst Thee;have TF:=Hi Thf;clear Thf GCTLL;simp only [FE]
 go_upto_region 6 with fail
 refine nmA ?_;intro w54 hE B16 hz_w54 hr_w54;refine mV8 hE ?_ B14 HX HS HT HU B7 B8 B9;clear B14 HX HS HT HU B7 B8 B9;intro B14 HX HS HT HU B7 B8 B9;refine mV8 hE ?_ FPG B10 A12 TPG FPE FPD TPE TPD;clear FPG B10 A12 TPG FPE FPD TPE TPD;intro FPG B10 A12 TPG FPE FPD TPE TPD;refine mV2 hE ?_ FF TF;clear FF TF;intro FF TF;have hs_w54:=hE.size;clear hE;replace b_B7:=bX3 B7;replace b_B8:=bX3 B8;replace b_B9:=bX3 B9;replace b_B10:=bX3 B10;replace b_A12:=bX3 A12;replace b_B14:=bX3 B14;replace b_B16:=bX3 B16
 go_upto_region 8 with fail
 refine wpG 11 (fun opIx=>match opIx with
  | 0=>.spec Unit () (fun _=>.bool true) (fun _ _=>True)
  | 4=>.spec RH default RH.v (fun s w'=>av w' s (slV (nuP ((1:Int):Rat) (elE 2 e (q*q)) 0) (tz (elD 2 e r (q*q))) e))
  | 7=>.spec RH default RH.v (fun s w'=>av w' s (slV (nuP ((1:Int):Rat) (elE 4 e q) 0) (tz (elD 4 e r q)) e))
  | 8=>.spec Unit () (fun _=>.bool true) (fun _ _=>True)
  | _=>.quiet) (fun|8=>[4,7]|_=>[]) fun w0 he0 hz0 hc0 hf0=>?_
 refine wps he0.out rfl rfl (fun w1 hW hG=>?_) fun x60=>?_
 ·exact spc [] Tryz.func45 (oD _)
 refine qZ ?_;refine wps he0.out rfl rfl (fun w1 hW hG=>?_) fun x61=>?_
 ·exact spc [FH.v ⟨⟨Tna,Tnn,Tnc⟩,⟨Tqa,Tqn,Tqc⟩⟩,RH.v ⟨sn,sa,sl,sc,sb,sm,sd⟩] Tryz.func56 (jD ⟨⟨Tna,Tnn,Tnc⟩,⟨Tqa,Tqn,Tqc⟩⟩ ⟨sn,sa,sl,sc,sb,sm,sd⟩ _ _ e _ (TF.out.ext hW) (HS.out.ext hW) TSZ.out)
 refine qZ ?_;refine wps he0.out rfl rfl (fun w1 hW hG=>?_) fun x62=>?_
 ·exact spc [FH.v ⟨⟨Fna,Fnn,Fnc⟩,⟨Fqa,Fqn,Fqc⟩⟩,RH.v ⟨sn,sa,sl,sc,sb,sm,sd⟩] Tryz.func56 (jD ⟨⟨Fna,Fnn,Fnc⟩,⟨Fqa,Fqn,Fqc⟩⟩ ⟨sn,sa,sl,sc,sb,sm,sd⟩ _ _ e _ (FF.out.ext hW) (HS.out.ext hW) FSZ.out)
 refine qZ ?_;refine wps he0.out rfl rfl (fun w1 hW hG=>?_) fun x63=>?_
 ·have g61:=(hG 4 (by decide):aw _ _).get fun _ e g=>g.ext e
  have g62:=(hG 7 (by decide):aw _ _).get fun _ e g=>g.ext e
  exact spc [x61.v,x62.v] Tryz.func34 ((by have h:=qA x61 x62 (slV (nuP ((1:Int):Rat) (elE 2 e (q*q)) 0) (tz (elD 2 e r (q*q))) e) (slV (nuP ((1:Int):Rat) (elE 4 e q) 0) (tz (elD 4 e r q)) e) _ (g61.raw TVZ.out (by decide)) (g62.raw FVZ.out (by decide));rw [decide_eq_true HLT.out] at h;exact h))
 refine qZ ?_;refine aj ?_;intro w70 hI;have hE:=he0.out.trans hI.ext;have G61:=gT (hI.facts 4);have G62:=gT (hI.facts 7);clear hI he0 hz0 hc0 hf0;refine mV8 hE ?_ B16 B14 HX HT HU B7 B8 B9;clear B16 B14 HX HT HU B7 B8 B9;intro B16 B14 HX HT HU B7 B8 B9;refine mV8 hE ?_ FPG B10 A12 TPG FPE FPD TPE TPD;clear FPG B10 A12 TPG FPE FPD TPE TPD;intro FPG B10 A12 TPG FPE FPD TPE TPD;refine mV3 hE ?_ TF FF HS;clear TF FF HS;intro TF FF HS;have hs_w70:=hE.size;clear hE;replace b_B7:=bX3 B7;replace b_B8:=bX3 B8;replace b_B9:=bX3 B9;replace b_B10:=bX3 B10;replace b_A12:=bX3 A12;replace b_B14:=bX3 B14;replace b_B16:=bX3 B16;simp only [pD];go_wp2
 go_ret
 exact ⟨(),rfl,HX.out,trivial⟩
end Go.Proofs.YtafgmcimcbhhjaaGreat
/- What all joins of this seat share. -/
namespace Go.Proofs.YtafgmcimcbhhjaaGreat
open Go.ChangeShapes Go.WideShapes Go.ChangeAt Go.RowKit Go.Front Go.Joins
theorem own:ownKnob Tryz.prog.godebug=none:=by kernel_rfl
theorem n9:laidOutB Tryz.prog=true:=by kernel_rfl
theorem k7{n:Int}(h:(Lit.int .i64 n).wf=true):-9223372036854775808≤n∧n≤9223372036854775807:=by
 simp [Lit.wf] at h;exact ⟨h.1,h.2⟩
end Go.Proofs.YtafgmcimcbhhjaaGreat
