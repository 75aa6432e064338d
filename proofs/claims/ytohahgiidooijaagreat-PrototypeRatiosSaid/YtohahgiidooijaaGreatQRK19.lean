/- The reference 17: linear, one, power, Valid, Ratio, SameRatio, Same. -/
import Derived.Test.YtohahgiidooijaaGreatQRK18
import Derived.Test.YtohahgiidooijaaGreatQRK17
import Derived.Test.YtohahgiidooijaaGreatRows
import Derived.Test.YtohahgiidooijaaGreatQRM8
import Derived.ProofKit
import Derived.OpenShut
import Derived.ShutString
import Derived.ChangeOld
import Derived.Lib.SmallJoins
import Derived.Test.YtohahgiidooijaaGreatQRM7
set_option linter.unusedVariables false
set_option maxHeartbeats 16000000
set_option maxRecDepth 8000
namespace Go.Proofs.YtohahgiidooijaaGreat
open Go.RowKit Go.Front Go.Num Stab
attribute [local go_sem] XW.cell XW.frozen
theorem oF(s t:RH)(a b:Rat)(K:Nat)(w:World)(hs:au w s a)(ht:au w t b)(za:Sz K a)(zb:Sz K b)(hK:K≤134217728):am 92 [s.v,t.v] w SH.v (fun x w'=>aF w' x (tz [a,b])):=by
 obtain ⟨sn,sa,sl,sc,sb,sm,sd⟩:=s;obtain ⟨tn,ta,tl,tc,tb,tm,td⟩:=t;have HX:=Hi (Ext.refl w);have HS:=Hi hs;have HT:=Hi ht;have ZL:Hid (SzL K [a,b]):=Hi (fun x hx=>by
  rcases List.mem_cons.1 hx with rfl|hx
  ·exact za
  ·rw [nXt.1 hx];exact zb)
 clear hs ht za zb;unfold am;go_enter Tryz.func92,Tryz.ntmps92
 go_upto_region 1 with fail
 refine f6 ?_;intro w1 hE B2 B3 hz_w1 hr_w1;refine mV3 hE ?_ HX HS HT;clear HX HS HT;intro HX HS HT;have hs_w1:=hE.size;clear hE;replace b_B2:=bX3 B2;replace b_B3:=bX3 B3
 go_wp2_with fail
 refine nmA (F:=fun W=>Calls _ _ _ W _) ?_;intro w2 hE B7 hz_w2 hr_w2;refine mV5 hE ?_ B2 B3 HX HS HT;clear B2 B3 HX HS HT;intro B2 B3 HX HS HT;have hs_w2:=hE.size;clear hE;replace b_B2:=bX3 B2;replace b_B3:=bX3 B3;replace b_B7:=bX3 B7
 change Calls _ _ _ _ _
 have L:=Hi (nY (x:=⟨sn,sa,sl,sc,sb,sm,sd⟩) (y:=⟨tn,ta,tl,tc,tb,tm,td⟩) B7.out HS.out HT.out)
 (try clear b_B7);clear B7
 refine cM ((aZ (some ⟨w1.heap.size,0,none⟩) 2 2 [a,b] _ (L.out.raw ZL.out hK) (by decide)).weak (ψ:=fun x w'=>aF w' x (tz [a,b])) (fun _ _ _ h=>h.can)) fun x3 w3 hE G3=>?_
 refine mV6 hE ?_ B2 B3 HX HS HT L;clear B2 B3 HX HS HT L;intro B2 B3 HX HS HT L;have hs_w3:=hE.size;clear hE;replace b_B2:=bX3 B2;replace b_B3:=bX3 B3;go_wp2
 go_ret
 exact ⟨x3,rfl,HX.out,G3.out⟩
theorem ru(w:World):am 96 [] w IvV (fun x w'=>IvE w' x ((-1:Int):Rat) ((1:Int):Rat)):=by
 have HX:=Hi (Ext.refl w);have Zm:Hid (Sz 1 ((-1:Int):Rat)):=Hi (Sz.int (by decide));have Z1:Hid (Sz 1 ((1:Int):Rat)):=Hi (Sz.int (by decide));have Em:Hid (loV ((-1:Int):Rat) ((1:Int):Rat)=((-1:Int):Rat)):=Hi (wB (by decide));have E1:Hid (hiV ((-1:Int):Rat) ((1:Int):Rat)=((1:Int):Rat)):=Hi (wI (by decide));unfold am;go_enter Tryz.func96,Tryz.ntmps96
 go_upto_region 1 with fail
 refine nmA ?_;intro w1 hE B0 hz_w1 hr_w1;replace HX:=hE.tr HX;have hs_w1:=hE.size;clear hE;replace b_B0:=bX3 B0
 go_wp2_with fail
 refine cM (bP (-1) _ (by decide) (by decide)) fun x2 w2 hE G2=>?_
 refine mV2 hE ?_ B0 HX;clear B0 HX;intro B0 HX;have hs_w2:=hE.size;clear hE;replace b_B0:=bX3 B0
 go_wp2_with fail
 refine cM (bP 1 _ (by decide) (by decide)) fun x3 w3 hE G3=>?_
 refine mV3 hE ?_ G2 B0 HX;clear G2 B0 HX;intro G2 B0 HX;have hs_w3:=hE.size;clear hE;replace b_B0:=bX3 B0
 go_wp2_with fail
 refine cM (oT x2 x3 _ _ _ (G2.out.raw Zm.out (by decide)) (G3.out.raw Z1.out (by decide))) fun x4 w4 hE G4=>?_
 refine mV4 hE ?_ G3 G2 B0 HX;clear G3 G2 B0 HX;intro G3 G2 B0 HX;have hs_w4:=hE.size;clear hE;replace b_B0:=bX3 B0;rw [Em.out,E1.out] at G4;obtain ⟨⟨ln,la,ll,lc,lb,lm,ld⟩,⟨hn,ha,hl,hc,hb,hm,hd⟩⟩:=x4;have HL:=Hi G4.out.1;have HH:=Hi G4.out.2;clear G4;go_wp2;refine ci (F:=fun W=>bodyPost _ _ _ _ _ W) B0.out rfl ?_;intro w5 T;replace HX:=Hi (T.ext HX.out (by omega));replace B0:=Hi (T.bx);replace G2:=Hi (G2.out.keep T.keep);replace G3:=Hi (G3.out.keep T.keep);replace HL:=Hi (HL.out.keep T.keep);replace HH:=Hi (HH.out.keep T.keep);have hs_w5:=nle T.size;have hr_w5:=nle T.size.symm;clear T;replace b_B0:=bX3 B0;exact bodyPost_ret (v:=IvV (⟨ln,la,ll,lc,lb,lm,ld⟩,⟨hn,ha,hl,hc,hb,hm,hd⟩)) (by simp [results,Tryz.results96,go_sem,b_B0.1]) rfl ⟨(⟨ln,la,ll,lc,lb,lm,ld⟩,⟨hn,ha,hl,hc,hb,hm,hd⟩),rfl,HX.out,HL.out,HH.out⟩
theorem nh(s:SH)(p:List Rat)(k S:Nat)(w:World)(h:aF w s p)(hk:k≤48)(hl:p.length≤2)(hf:FrB S p)(hS:S≤2000) :
  am 91 [s.v,.int .i64 (k:Nat)] w SH.v (fun x w'=>aF w' x (co p k)):=by
 obtain ⟨pa,pn,pc⟩:=s;have H:=Hi h;have HX:=Hi (Ext.refl w);have hpn:=h.len;simp only at hpn;have hpn2:pn≤2:=by omega
 have HF:=Hi hf;have HL:=Hi hl;clear h hpn hf hl;unfold am;simp only [SH.v];go_enter Tryz.func91,Tryz.ntmps91
 go_wp2_with fail
 refine cM (bP 1 _ (by decide) (by decide)) fun x3 w3 hE G3=>?_
 refine mV2 hE ?_ H HX;clear H HX;intro H HX;have hs_w3:=hE.size;clear hE
 go_upto_region 2 with fail
 refine nmA ?_;intro w4 hE B4 hz_w4 hr_w4;refine mV3 hE ?_ G3 H HX;clear G3 H HX;intro G3 H HX;have hs_w4:=hE.size;clear hE;replace b_B4:=bX3 B4;have L0:Hid (aF w4 ⟨some ⟨w3.heap.size,0,none⟩,1,1⟩ (co p 0)):=Hi (lC B4.out G3.out)
 (try clear b_B4);clear B4
 clear G3
 go_loopg [1,5] k (fun g i r wr=>∃ (j:Nat) (s:SH),j+g=k∧r=s.v∧i=.int .i64 (g:Nat)∧Ext w wr∧aF wr ⟨pa,pn,pc⟩ p∧aF wr s (co p j))
 case atStart=>exact ⟨0,⟨_,_,_⟩,by omega,rfl,rfl,HX.out,H.out,L0.out⟩
 case round =>
  obtain ⟨j,⟨sa,sn,sc⟩,hj,rfl,rfl,g1,g2,g3⟩:=hrel;clear HX H L0;have HX:=Hi g1;have H:=Hi g2;have L0:=Hi g3;have hsn:=g3.len;have hsl:=cP HL.out j;simp only at hsn;have hsn2:sn≤49:=by omega
  clear g1 g2 g3 hsn hsl;simp only [SH.v];by_cases h0:gk=0
  case pos =>
   subst h0;obtain rfl:j=k:=by omega
   go_wp2
   go_ret
   exact ⟨⟨sa,sn,sc⟩,rfl,HX.out,L0.out⟩
  have hgi:(0:Int)<gk:=by omega
  obtain ⟨g0,rfl⟩:∃ g0,gk=g0+1:=⟨gk-1,by omega⟩;have FJ:Hid (FrB 100000 (co p j)):=Hi ((dH HF.out HL.out j (by omega)).mono (by have:=nXw (show j≤48 by omega) (show S+1≤2001 by omega);omega))
  go_wp2_with fail
  refine cM ((kr sa pa sn sc pn pc (co p j) p 100000 _ (L0.out.raw FJ.out.sz (by decide)) (H.out.raw HF.out.sz (by omega)) (by omega) (by omega) FJ.out.sz (HF.out.sz.mono (by omega)) (by decide) (nXe (nXg _ (nXw hsn2 hpn2)) (by decide))).weak (ψ:=fun x w'=>aF w' x (co p (j+1))) (fun _ _ _ h=>h.can)) fun x5 w5 hE G5=>?_
  refine mV3 hE ?_ HX H L0;clear HX H L0;intro HX H L0;have hs_w5:=hE.size;clear hE;obtain ⟨xa,xn,xc⟩:=x5;simp only [SH.v];go_wp2
  go_roundg g0
  case measure=>omega
  case rel=>exact ⟨j+1,⟨xa,xn,xc⟩,by omega,rfl,by go_num,HX.out,H.out,G5.out⟩
structure DnR (K P:Nat) (d:List Rat):Prop where
 fr:FrK K (tz d)
 sq:FrK K (Sg.sqfV (tz d))
 k1:K≤3900000
 k2:(P+1)*(K / 3)≤25000000
 sz:SzL 40000000 d
 ev:∀ k,k≤d.length→Sz 40000000 (evV (d.drop k) ((-1:Int):Rat))
theorem fU(x:PH)(g:Rat)(e d:List Rat)(K:Nat)(w:World)(h:je w x g e d)(hP:x.d.n≤49)(hE:x.e.n≤1000)(hk:DnR K x.d.n d) :
  am 38 [x.v] w (fun _:Unit=>.bool (bN g e x.p d)) (fun _ _=>True):=by
 obtain ⟨⟨gn,ga,gl,gc,gb,gm,gd⟩,⟨ea,en,ec⟩,p,⟨da,dn,dc⟩⟩:=x;have HX:=Hi (Ext.refl w);have RG:=Hi h.1;have LE:=Hi h.2.1;have LD:=Hi h.2.2;have HK:=Hi hk;have HEn:=Hi h.2.1.len;have HDn:=Hi h.2.2.len;simp only at hP hE RG LE LD HK HEn HDn;clear h hk;have hdl:(tz d).length≤49:=by have:=ag d;have:=HDn.out;omega
 have HDl:=Hi hdl;clear hdl;obtain ⟨c1,hc1⟩:∃ c,c=dP g 0:=⟨_,rfl⟩;have HC1:=Hi hc1;have HC:Hid (c1≤0↔¬ 0<g):=Hi (by rw [hc1];exact nV);clear hc1;unfold am;go_enter Tryz.func38,Tryz.ntmps38
 go_upto_region 1 with fail
 refine nmA ?_;intro w1 hE B1 hz_w1 hr_w1;refine mV4 hE ?_ HX RG LE LD;clear HX RG LE LD;intro HX RG LE LD;have hs_w1:=hE.size;clear hE;replace b_B1:=bX3 B1
 go_wp2_with fail
 refine cM (eW ⟨gn,ga,gl,gc,gb,gm,gd⟩ g _ RG.out) fun x2 w2 hE _=>?_
 refine mV5 hE ?_ B1 HX RG LE LD;clear B1 HX RG LE LD;intro B1 HX RG LE LD;have hs_w2:=hE.size;clear hE;replace b_B1:=bX3 B1;rw [←HC1.out];by_cases h1:c1≤0
 ·have HV:Hid (bN g e p d=false):=Hi (dG (fun k=>HC.out.1 h1 k.1));go_wp2
  go_ret
  exact ⟨(),by rw [HV.out];rfl,HX.out,trivial⟩
 have HG:Hid (0<g):=Hi (Classical.byContradiction fun k=>h1 (HC.out.2 k));clear HC;by_cases h2:p<0
 ·have HV:Hid (bN g e p d=false):=Hi (dG (fun k=>by have:=k.2.1;omega));go_wp2
  go_ret
  exact ⟨(),by rw [HV.out];rfl,HX.out,trivial⟩
 by_cases h3:48<p
 ·have HV:Hid (bN g e p d=false):=Hi (dG (fun k=>by have:=k.2.2.1;omega));go_wp2
  go_ret
  exact ⟨(),by rw [HV.out];rfl,HX.out,trivial⟩
 go_wp2_with fail
 refine cM (dC ea en ec e _ LE.out (by omega)) fun x3 w3 hE _=>?_
 refine mV5 hE ?_ B1 HX RG LE LD;clear B1 HX RG LE LD;intro B1 HX RG LE LD;have hs_w3:=hE.size;clear hE;replace b_B1:=bX3 B1;obtain ⟨le,hle⟩:∃ n,n=(tz e).length:=⟨_,rfl⟩;have HLe:=Hi hle;rw [←hle];clear hle;by_cases h5:25<le
 ·have HV:Hid (bN g e p d=false):=Hi (dG (fun k=>by have:=k.2.2.2.2.1;rw [←HLe.out] at this;omega));have h5i:(24:Int)<(le:Int)-1:=by omega
  go_wp2
  go_ret
  exact ⟨(),by rw [HV.out];rfl,HX.out,trivial⟩
 have h5i:¬ (24:Int)<(le:Int)-1:=by omega
 go_wp2_with fail
 refine cM (dC ea en ec e _ LE.out (by omega)) fun x4 w4 hE _=>?_
 refine mV5 hE ?_ B1 HX RG LE LD;clear B1 HX RG LE LD;intro B1 HX RG LE LD;have hs_w4:=hE.size;clear hE;replace b_B1:=bX3 B1;rw [←HLe.out];by_cases h4:le=0
 ·have HV:Hid (bN g e p d=false):=Hi (dG (fun k=>k.2.2.2.1 (nXi.1 (by rw [←HLe.out];exact h4))));subst h4;go_wp2
  go_ret
  exact ⟨(),by rw [HV.out];rfl,HX.out,trivial⟩
 have h4i:¬ (le:Int)-1<0:=by omega
 have HV:Hid (bN g e p d=kI d (-1) 1):=Hi (pq ⟨HG.out,by omega,by omega,fun k=>by have:=HLe.out;rw [k] at this;exact h4 this,by rw [←HLe.out];omega,HDl.out⟩)
 go_wp2_with fail
 refine cM (dC da dn dc d _ LD.out (by omega)) fun x5 w5 hE _=>?_
 refine mV5 hE ?_ B1 HX RG LE LD;clear B1 HX RG LE LD;intro B1 HX RG LE LD;have hs_w5:=hE.size;clear hE;replace b_B1:=bX3 B1;obtain ⟨ld,hld⟩:∃ n,n=(tz d).length:=⟨_,rfl⟩;have h6i:¬ (48:Int)<(ld:Int)-1:=by have:=HDl.out;omega
 rw [←hld];clear hld;have Zm:Hid (Sz 1 ((-1:Int):Rat)):=Hi (Sz.int (by decide));have Z1:Hid (Sz 1 ((1:Int):Rat)):=Hi (Sz.int (by decide));have HPV:Hid (kI d ((-1:Int):Rat) ((1:Int):Rat)=kI d (-1) 1):=Hi rfl;obtain ⟨v,hv⟩:∃ v,v=kI d (-1) 1:=⟨_,rfl⟩;rw [←hv] at HV HPV;clear hv
 go_upto_region 3 with fail
 clear h1 h2 h3;refine aQ [(7,6)] _ (by simp only [gH,kH,List.push_toArray,List.cons_append,List.nil_append];exact rfl) (by intro c a d v w h;cases d <;> exact h) 7 (fun opIx=>match opIx with
  | 2=>.spec (RH×RH) (default) (IvV) (fun x w'=>IvE w' x ((-1:Int):Rat) ((1:Int):Rat))
  | 3=>.spec Unit () (fun _=>.tuple #[.bool v,.int .i64 0]) (fun _ _=>True)
  | _=>.quiet) (fun|3=>[2]|_=>[]) (by kernel_rfl) (by kernel_rfl) (by kernel_rfl) (fun w0 he0 hz0 hc0 hf0=>?_)
 replace he0:=Hi he0;simp only [pT];refine qQ ?_;refine wps he0.out rfl rfl (fun w1 hW hG=>?_) fun x42=>?_
 ·exact spc [] Tryz.func96 (ru _)
 refine qZ ?_;refine wps he0.out rfl rfl (fun w1 hW hG=>?_) fun x43=>?_
 ·have g42:=(hG 2 (by decide):ax _ _).get fun _ e g=>g.ext e
  exact spc [.slice da dn dc,IvV x42] Tryz.func22 ((by have h:=lY da dn dc d K x42.1 x42.2 ((-1:Int):Rat) ((1:Int):Rat) 1 _ (LD.out.ext hW) hP HK.out.fr HK.out.k1 HK.out.k2 HK.out.sq (g42.1.raw Zm.out (by decide)) (g42.2.raw Z1.out (by decide)) Zm.out Z1.out (by decide) HK.out.sz HK.out.ev;rw [HPV.out] at h;exact h))
 refine qZ ?_;refine aj ?_;intro w6 hI;have hE:=he0.out.trans hI.ext;have G42:=gT (hI.facts 2);clear hI he0 hz0 hc0 hf0;refine mV5 hE ?_ B1 HX RG LE LD;clear B1 HX RG LE LD;intro B1 HX RG LE LD;have hs_w6:=hE.size;clear hE;replace b_B1:=bX3 B1;simp only [pD];clear G42;cases v
 ·go_wp2
  go_ret
  exact ⟨(),by rw [HV.out];rfl,HX.out,trivial⟩
 ·go_wp2
  go_ret
  exact ⟨(),by rw [HV.out];rfl,HX.out,trivial⟩
theorem ji(x:PH)(g:Rat)(e d:List Rat)(K S T:Nat)(w:World)(h:je w x g e d)(hP:x.d.n≤49)(hk:DnR K x.d.n d)(hE:x.e.n≤25)(fe:FrB S e)(hS:S≤9000)(zg:Sz T g)(hT:T≤10000) :
  am 35 [x.v] w FE (FEP (rW g e x.p d)):=by
 obtain ⟨⟨gn,ga,gl,gc,gb,gm,gd⟩,⟨ea,en,ec⟩,p,⟨da,dn,dc⟩⟩:=x;have HX:=Hi (Ext.refl w);have HR:=Hi h;have RG:=Hi h.1;have LE:=Hi h.2.1;have LD:=Hi h.2.2;have HEn:=Hi h.2.1.len;have HDn:=Hi h.2.2.len;have HK:=Hi hk;have FE':=Hi fe;have ZG:=Hi zg;simp only at hP hE RG LE LD HEn HDn HK;clear h hk fe zg;unfold am;go_enter Tryz.func35,Tryz.ntmps35
 go_upto_region 1 with fail
 refine f6 ?_;intro w1 hE B1 B2 hz_w1 hr_w1;refine mV5 hE ?_ HX HR RG LE LD;clear HX HR RG LE LD;intro HX HR RG LE LD;have hs_w1:=hE.size;clear hE;replace b_B1:=bX3 B1;replace b_B2:=bX3 B2
 go_wp2_with fail
 refine cM (fU ⟨⟨gn,ga,gl,gc,gb,gm,gd⟩,⟨ea,en,ec⟩,p,⟨da,dn,dc⟩⟩ g e d K _ HR.out hP (nXe hE (by decide)) HK.out) fun x2 w2 hE _=>?_
 refine mV7 hE ?_ B1 B2 HX HR RG LE LD;clear B1 B2 HX HR RG LE LD;intro B1 B2 HX HR RG LE LD;have hs_w2:=hE.size;clear hE;replace b_B1:=bX3 B1;replace b_B2:=bX3 B2;obtain ⟨v,hv⟩:∃ v,v=bN g e p d:=⟨_,rfl⟩;have HV:=Hi hv;rw [show bN g e (PH.p ⟨⟨gn,ga,gl,gc,gb,gm,gd⟩,⟨ea,en,ec⟩,p,⟨da,dn,dc⟩⟩) d=v from hv.symm];clear hv;clear HR;cases v
 ·have HQ:Hid (rW g e p d=(2,[],[])):=Hi (by unfold rW;rw [←HV.out];rfl);go_wp2;clear RG;clear LE;clear LD;refine l9 (F:=fun W=>bodyPost _ _ _ _ _ W) B2.out rfl ?_;intro w3 T;replace HX:=Hi (T.ext HX.out (by omega));replace B1:=Hi (T.rest _ _ (by omega) B1.out);replace B2:=Hi (T.bx);have hs_w3:=nle T.size;have hr_w3:=nle T.size.symm;clear T;replace b_B1:=bX3 B1;replace b_B2:=bX3 B2;exact bodyPost_ret (v:=FE (⟨⟨none,0,0⟩,⟨none,0,0⟩⟩,2)) (by simp [results,Tryz.results35,go_sem,b_B2.1,FE]) rfl ⟨(⟨⟨none,0,0⟩,⟨none,0,0⟩⟩,2),rfl,HX.out,by rw [HQ.out];exact ⟨rfl,qO _⟩⟩
 obtain ⟨hp0,hp1⟩:=po HV.out.symm;obtain ⟨k,rfl⟩:∃ k:Nat,p=(k:Nat):=⟨p.toNat,by omega⟩;have hk48:k≤48:=by omega
 have HQ:Hid (rW g e (k:Nat) d=(0,bW (aw (aw e e) (co plQ k)) g,tz d)):=Hi (by unfold rW;rw [←HV.out,if_pos rfl,Int.toNat_natCast];rfl);have F1:Hid (FrB (2*S+1) (aw e e)):=Hi ((FE'.out.mul FE'.out (by have:=HEn.out;omega)).mono (by omega));have N1:Hid ((aw e e).length≤50):=Hi (nXe (dO (n:=25) (m:=25) (by rw [HEn.out];exact hE) (by rw [HEn.out];exact hE)) (by decide));have F2:Hid (FrB 99 (co plQ k)):=Hi (pV hk48);have N2:Hid ((co plQ k).length≤49):=Hi (nXe (pU k) (by omega));have F3:Hid (FrB (2*S+101) (aw (aw e e) (co plQ k))):=Hi ((F1.out.mul F2.out (by have:=N1.out;omega)).mono (by omega));have N3:Hid ((aw (aw e e) (co plQ k)).length≤98):=Hi (nXe (dO N1.out N2.out) (by decide));have Z1:Hid (Sz 1 ((1:Int):Rat)):=Hi (Sz.int (by decide));have TL:Hid (tz [((1:Int):Rat),((1:Int):Rat)]=plQ):=Hi (by decide);have B1':Hid (25*25*(2*S+1)≤100010000):=Hi (by omega);have B2':Hid (50*49*(2*(2*S+100)+1)≤100010000):=Hi (by omega);clear HV hp0 hp1
 go_upto_region 3 with fail
 refine wpG 15 (fun opIx=>match opIx with
  | 4=>.spec (SH) (default) (SH.v) (fun x w'=>aF w' x (aw e e))
  | 5=>.spec RH default RH.v (fun s w'=>au w' s (((1:Int):Rat)))
  | 6=>.spec RH default RH.v (fun s w'=>au w' s (((1:Int):Rat)))
  | 7=>.spec (SH) (default) (SH.v) (fun x w'=>aF w' x plQ)
  | 10=>.spec (SH) (default) (SH.v) (fun x w'=>aF w' x (co plQ k))
  | 11=>.spec (SH) (default) (SH.v) (fun x w'=>aF w' x (aw (aw e e) (co plQ k)))
  | 14=>.spec (SH) (default) (SH.v) (fun x w'=>aF w' x (bW (aw (aw e e) (co plQ k)) g))
  | _=>.quiet) (fun|7=>[5,6]|10=>[7]|11=>[4,10]|14=>[11]|_=>[]) fun w0 he0 hz0 hc0 hf0=>?_
 refine wps he0.out rfl rfl (fun w1 hW hG=>?_) fun x30=>?_
 ·exact spc [.slice ea en ec,.slice ea en ec] Tryz.func25 ((kr ea ea en ec en ec e e S _ (LE.out.ext hW) (LE.out.ext hW) (by omega) (by omega) FE'.out.sz FE'.out.sz (by omega) (nXe (nXg _ (nXw hE hE)) B1'.out)).weak (fun _ _ _ h=>h.can))
 refine qZ ?_;refine wps he0.out rfl rfl (fun w1 hW hG=>?_) fun x31=>?_
 ·exact spc [.int .i64 1] Tryz.func18 (bP 1 _ (by decide) (by decide))
 refine qZ ?_;refine wps he0.out rfl rfl (fun w1 hW hG=>?_) fun x32=>?_
 ·exact spc [.int .i64 1] Tryz.func18 (bP 1 _ (by decide) (by decide))
 refine qZ ?_;refine wps he0.out rfl rfl (fun w1 hW hG=>?_) fun x33=>?_
 ·have g31:=(hG 5 (by decide):ax _ _).get fun _ e g=>g.ext e
  have g32:=(hG 6 (by decide):ax _ _).get fun _ e g=>g.ext e
  exact spc [x31.v,x32.v] Tryz.func92 ((by have h:=oF x31 x32 _ _ 1 _ g31 g32 Z1.out Z1.out (by decide);rw [TL.out] at h;exact h))
 refine qZ ?_;refine wps he0.out rfl rfl (fun w1 hW hG=>?_) fun x34=>?_
 ·have g33:=(hG 7 (by decide):ax _ _).get fun _ e g=>g.ext e
  exact spc [x33.v,.int .i64 (k:Nat)] Tryz.func91 (nh x33 plQ k 1 _ g33 hk48 cr.2 cr.1 (by decide))
 refine qZ ?_;refine wps he0.out rfl rfl (fun w1 hW hG=>?_) fun x35=>?_
 ·have g30:=(hG 4 (by decide):ax _ _).get fun _ e g=>g.ext e
  have g34:=(hG 10 (by decide):ax _ _).get fun _ e g=>g.ext e
  exact spc [x30.v,x34.v] Tryz.func25 ((kr x30.a x34.a x30.n x30.c x34.n x34.c _ _ (2*S+100) _ (g30.raw F1.out.sz (by omega)) (g34.raw F2.out.sz (by decide)) (by have h:=g30.len;have h2:=N1.out;omega) (by have h:=g34.len;have h2:=N2.out;omega) (F1.out.sz.mono (by omega)) (F2.out.sz.mono (by omega)) (by omega) (nXe (nXg _ (nXw (by have h:=g30.len;have h2:=N1.out;omega) (by have h:=g34.len;have h2:=N2.out;omega))) B2'.out)).weak (fun _ _ _ h=>h.can))
 refine qZ ?_;refine wps he0.out rfl rfl (fun w1 hW hG=>?_) fun x36=>?_
 ·have g35:=(hG 11 (by decide):ax _ _).get fun _ e g=>g.ext e
  exact spc [x35.v,RH.v ⟨gn,ga,gl,gc,gb,gm,gd⟩] Tryz.func28 ((gp x35.a x35.n x35.c (aw (aw e e) (co plQ k)) ⟨gn,ga,gl,gc,gb,gm,gd⟩ g _ (g35.raw F3.out.sz (by omega)) (RG.out.ext hW) (by have h:=g35.len;have h2:=N3.out;omega) (F3.out.sz.mono (by omega)) (ZG.out.mono (by omega))).weak (fun _ _ _ h=>h.can))
 refine qZ ?_;refine aj ?_;intro w3 hI;have hE:=he0.out.trans hI.ext;have G30:=gT (hI.facts 4);have G31:=gT (hI.facts 5);have G32:=gT (hI.facts 6);have G33:=gT (hI.facts 7);have G34:=gT (hI.facts 10);have G35:=gT (hI.facts 11);have G36:=gT (hI.facts 14);clear hI he0 hz0 hc0 hf0;refine mV6 hE ?_ LD HX B1 B2 LE RG;clear LD HX B1 B2 LE RG;intro LD HX B1 B2 LE RG;have hs_w3:=hE.size;clear hE;replace b_B1:=bX3 B1;replace b_B2:=bX3 B2;simp only [pD];obtain ⟨ua,un,uc⟩:=x36;have LU:=Hi G36.out;clear G30 G33 G34 G35 G36;clear G31;clear G32;simp only [SH.v]
 go_wp2_with fail
 refine cM ((aZ da dn dc d _ LD.out (by omega)).weak (ψ:=fun x w'=>aF w' x (tz d)) (fun _ _ _ h=>h.can)) fun x40 w40 hE G40=>?_
 refine mV7 hE ?_ LD HX B1 B2 LE RG LU;clear LD HX B1 B2 LE RG LU;intro LD HX B1 B2 LE RG LU;have hs_w40:=hE.size;clear hE;replace b_B1:=bX3 B1;replace b_B2:=bX3 B2;obtain ⟨va,vn,vc⟩:=x40;simp only [SH.v];clear RG;clear LE;clear LD;go_wp2;refine l9 (F:=fun W=>bodyPost _ _ _ _ _ W) B2.out rfl ?_;intro w5 T;replace LU:=Hi (aF.put2 LU.out B2.out T);replace G40:=Hi (aF.put2 G40.out B2.out T);replace HX:=Hi (T.ext HX.out (by omega));replace B1:=Hi (T.rest _ _ (by omega) B1.out);replace B2:=Hi (T.bx);have hs_w5:=nle T.size;have hr_w5:=nle T.size.symm;clear T;replace b_B1:=bX3 B1;replace b_B2:=bX3 B2;exact bodyPost_ret (v:=FE (⟨⟨ua,un,uc⟩,⟨va,vn,vc⟩⟩,0)) (by simp [results,Tryz.results35,go_sem,b_B2.1,FE]) rfl ⟨(⟨⟨ua,un,uc⟩,⟨va,vn,vc⟩⟩,0),rfl,HX.out,by rw [HQ.out];exact ⟨rfl,LU.out,G40.out⟩⟩
theorem jh(f h:FH)(u d:List Rat)(w:World)(hf:vm w f u d)(hh:vm w h u d):am 36 [f.v,h.v] w (fun _:Unit=>.bool true) (fun _ _=>True):=by
 obtain ⟨⟨ua,un,uc⟩,⟨da,dn,dc⟩⟩:=f;obtain ⟨⟨va,vn,vc⟩,⟨ea,en,ec⟩⟩:=h;have HX:=Hi (Ext.refl w);have L1:=Hi hf.1;have L2:=Hi hf.2;have L3:=Hi hh.1;have L4:=Hi hh.2;simp only at L1 L2 L3 L4;clear hf hh;unfold am;simp only [FH.v,SH.v];go_enter Tryz.func36,Tryz.ntmps36
 go_upto_region 1 with fail
 refine f6 ?_;intro w1 hE B2 B3 hz_w1 hr_w1;refine mV5 hE ?_ HX L1 L2 L3 L4;clear HX L1 L2 L3 L4;intro HX L1 L2 L3 L4;have hs_w1:=hE.size;clear hE;replace b_B2:=bX3 B2;replace b_B3:=bX3 B3
 go_wp2_with fail
 refine cM ((by have h:=ez ⟨ua,un,uc⟩ ⟨va,vn,vc⟩ u u _ L1.out L3.out;rw [decide_eq_true rfl] at h;exact h)) fun x2 w2 hE _=>?_
 refine mV7 hE ?_ B2 B3 HX L1 L2 L3 L4;clear B2 B3 HX L1 L2 L3 L4;intro B2 B3 HX L1 L2 L3 L4;have hs_w2:=hE.size;clear hE;replace b_B2:=bX3 B2;replace b_B3:=bX3 B3
 go_wp2_with fail
 refine cM ((by have h:=ez ⟨da,dn,dc⟩ ⟨ea,en,ec⟩ d d _ L2.out L4.out;rw [decide_eq_true rfl] at h;exact h)) fun x3 w3 hE _=>?_
 refine mV7 hE ?_ B2 B3 HX L1 L2 L3 L4;clear B2 B3 HX L1 L2 L3 L4;intro B2 B3 HX L1 L2 L3 L4;have hs_w3:=hE.size;clear hE;replace b_B2:=bX3 B2;replace b_B3:=bX3 B3;go_wp2
 go_ret
 exact ⟨(),rfl,HX.out,trivial⟩
theorem nf(x y:PH)(q:Rat)(u d:List Rat)(p:Int)(w:World)(hx:rY w x q u p d)(hy:rY w y q u p d):am 87 [x.v,y.v] w (fun _:Unit=>.bool true) (fun _ _=>True):=by
 obtain ⟨⟨xn,xa,xl,xc,xb,xm,xd⟩,⟨xea,xen,xec⟩,xp,⟨xda,xdn,xdc⟩⟩:=x;obtain ⟨⟨yn,ya,yl,yc,yb,ym,yd⟩,⟨yea,yen,yec⟩,yp,⟨yda,ydn,ydc⟩⟩:=y;have HX:=Hi (Ext.refl w);have G1:=Hi hx.1;have G2:=Hi hy.1;have L1:=Hi hx.2.1;have L2:=Hi hx.2.2.2;have L3:=Hi hy.2.1;have L4:=Hi hy.2.2.2;have e1:=hx.2.2.1;have e2:=hy.2.2.1;simp only at G1 G2 L1 L2 L3 L4 e1 e2;subst e1;subst e2;clear hx hy;unfold am;go_enter Tryz.func87,Tryz.ntmps87
 go_upto_region 1 with fail
 refine f6 ?_;intro w1 hE B2 B3 hz_w1 hr_w1;refine mV7 hE ?_ HX G1 G2 L1 L2 L3 L4;clear HX G1 G2 L1 L2 L3 L4;intro HX G1 G2 L1 L2 L3 L4;have hs_w1:=hE.size;clear hE;replace b_B2:=bX3 B2;replace b_B3:=bX3 B3
 go_wp2_with fail
 refine cM ((by have h:=k6 ⟨xn,xa,xl,xc,xb,xm,xd⟩ ⟨yn,ya,yl,yc,yb,ym,yd⟩ _ _ _ G1.out G2.out;rw [decide_eq_true rfl] at h;exact h)) fun x2 w2 hE _=>?_
 refine mV8 hE ?_ B2 B3 HX G1 G2 L1 L2 L3;clear B2 B3 HX G1 G2 L1 L2 L3;intro B2 B3 HX G1 G2 L1 L2 L3;replace L4:=mV hE L4;have hs_w2:=hE.size;clear hE;replace b_B2:=bX3 B2;replace b_B3:=bX3 B3
 go_wp2_with fail
 refine cM ((by have h:=ez ⟨xea,xen,xec⟩ ⟨yea,yen,yec⟩ u u _ L1.out L3.out;rw [decide_eq_true rfl] at h;exact h)) fun x3 w3 hE _=>?_
 refine mV8 hE ?_ B2 B3 HX G1 G2 L1 L2 L3;clear B2 B3 HX G1 G2 L1 L2 L3;intro B2 B3 HX G1 G2 L1 L2 L3;replace L4:=mV hE L4;have hs_w3:=hE.size;clear hE;replace b_B2:=bX3 B2;replace b_B3:=bX3 B3
 go_wp2_with fail
 refine cM ((by have h:=ez ⟨xda,xdn,xdc⟩ ⟨yda,ydn,ydc⟩ d d _ L2.out L4.out;rw [decide_eq_true rfl] at h;exact h)) fun x4 w4 hE _=>?_
 refine mV8 hE ?_ B2 B3 HX G1 G2 L1 L2 L3;clear B2 B3 HX G1 G2 L1 L2 L3;intro B2 B3 HX G1 G2 L1 L2 L3;replace L4:=mV hE L4;have hs_w4:=hE.size;clear hE;replace b_B2:=bX3 B2;replace b_B3:=bX3 B3;go_wp2
 go_ret
 exact ⟨(),rfl,HX.out,trivial⟩
set_option maxRecDepth 100000
def z0:Rat:=((0:Int):Rat)
def o1:Rat:=((1:Int):Rat)
def t2:List Rat:=[((2:Int):Rat)]
theorem Ab:eU 1 z0 o1=0:=by decide +kernel
theorem Cc:buD 1 z0 o1=t2:=by decide +kernel
theorem Cb:chD 1 z0 o1=t2:=by decide +kernel
theorem Ac:inQ 1 z0 o1=o1∧inE 1 z0=[o1]∧inD 1 z0 o1=t2:=by decide +kernel
theorem Ca:bN o1 [o1] 1 t2=true:=by decide +kernel
theorem Au:SzL 1 t2:=fun x hx=>by rw [nXt.1 hx];exact Sz.int (z:=2) (by decide)
theorem Av:FrB 3 t2:=FrB.of (k:=1) (n:=1) Au (by decide)
theorem tQ{K S n:Nat}{d:List Rat}(h:FrB S d)(hl:d.length≤n)(hn:n≤1000)(hK:KN K S n):FrK K d∧FrK K (Sg.sqfV d):=by
 obtain ⟨h0,D,h1,h2,h3⟩:=h;refine ⟨wR h0 h1 h2 h3 hl hK,?_⟩;by_cases hz:tz d=[]
 ·have e:Sg.sqfV d=[]:=by
   rw [←xA,hz];decide +kernel
  rw [e];exact ⟨1,1,nXd _,by decide,by decide,fun x hx=>by simp at hx,(hK.self (Nat.zero_le _):KZ K S 0).imp (fun h=>nXe (nXg _ (by omega)) h) (fun h=>nXe (by simp;omega) h)⟩
 ·exact zC h1 h3 hz hl hn hK
theorem Cr{K S n:Nat}{d:List Rat}(h:FrB S d)(hl:d.length≤n)(hn:n≤1000)(hK:KN K S n)(h1:K≤3900000)(h2:(d.length+1)*(K / 3)≤25000000):DnK K d.length d:=⟨(tQ h hl hn hK).1,(tQ h hl hn hK).2,h1,h2⟩
theorem CA{K S n:Nat}{d:List Rat}(h:FrB S d)(hl:d.length≤n)(hn:n≤1000)(hK:KN K S n)(h1:K≤3900000)(h2:(d.length+1)*(K / 3)≤25000000)(hS:S≤6000000):DnR K d.length d:=by
 obtain ⟨k1,k2⟩:=tQ h.tz (nXe (ag d) hl) hn hK;refine ⟨k1,k2,h1,h2,h.sz.mono (by omega),fun k _=>?_⟩;have hd:FrB S (d.drop k):=by
  obtain ⟨h0,D,g1,g2,g3⟩:=h;exact ⟨h0,D,g1,g2,fun x hx=>g3 x (List.mem_of_mem_drop hx)⟩
 exact (uu hd (T:=1) (Sz.int (z:=-1) (by decide)) (by decide) (by rw [nXy];omega) (by decide) (by omega)).mono (by omega)
def Al(x:PH×Int)(_:World):Prop:=x.2=12∧x.1=PH0
theorem Al.ext{x:PH×Int}{w w':World}(h:Al x w)(_:Ext w w'):Al x w':=h
instance {x:PH×Int} {w w':World}:Go.Front.Mv w w' (Al x w) (Al x w'):=⟨fun e h=>Al.ext h e⟩

theorem eA(w:World):am 31 [] w (fun _:Unit=>.bool true) (fun _ _=>True):=by
 have HX:=Hi (Ext.refl w);have Z0:Hid (Sz 1 z0):=Hi (Sz.int (z:=0) (by decide));have Z1:Hid (Sz 1 o1):=Hi (Sz.int (z:=1) (by decide));have Zh:Hid (Sz 1 (((1:Int):Rat) / ((2:Int):Rat))):=Hi jF;unfold am;go_enter Tryz.func31,Tryz.ntmps31
 go_wp2_with fail
 refine cM (bP 0 _ (by decide) (by decide)) fun x1 w1 hE G1=>?_
 replace HX:=hE.tr HX;have hs_w1:=hE.size;clear hE
 go_wp2_with fail
 refine cM (bP 1 _ (by decide) (by decide)) fun x2 w2 hE G2=>?_
 refine mV2 hE ?_ G1 HX;clear G1 HX;intro G1 HX;have hs_w2:=hE.size;clear hE
 go_upto_region 2 with fail
 refine f6 ?_;intro w3 hE B1 B2 hz_w3 hr_w3;refine mV3 hE ?_ G2 G1 HX;clear G2 G1 HX;intro G2 G1 HX;have hs_w3:=hE.size;clear hE;replace b_B1:=bX3 B1;replace b_B2:=bX3 B2;have R0:Hid (aR w3 x1 z0):=Hi (G1.out.raw Z0.out (by decide));have R1:Hid (aR w3 x2 o1):=Hi (G2.out.raw Z1.out (by decide));have C1:Hid (au w3 x2 o1):=Hi G2.out;clear G1;clear G2;obtain ⟨yn,ya,yl,yc,yb,ym,yd⟩:=x1;obtain ⟨xn,xa,xl,xc,xb,xm,xd⟩:=x2
 go_wp2_with fail
 refine cM (oO 1 ⟨yn,ya,yl,yc,yb,ym,yd⟩ ⟨xn,xa,xl,xc,xb,xm,xd⟩ z0 o1 1 _ R0.out R1.out Z0.out Z1.out (by decide) (by decide)) fun x4 w4 hE G4=>?_
 refine mV6 hE ?_ B1 B2 HX R0 R1 C1;clear B1 B2 HX R0 R1 C1;intro B1 B2 HX R0 R1 C1;have hs_w4:=hE.size;clear hE;replace b_B1:=bX3 B1;replace b_B2:=bX3 B2;obtain ⟨⟨⟨a1,a2,a3,a4,a5,a6,a7⟩,⟨a8,a9,a10⟩,ap,⟨a11,a12,a13⟩⟩,e4⟩:=x4;obtain ⟨he,-,hp⟩:=G4.out;rw [Ab] at he hp;have PA:Hid (rY w4 ⟨⟨a1,a2,a3,a4,a5,a6,a7⟩,⟨a8,a9,a10⟩,ap,⟨a11,a12,a13⟩⟩ o1 [o1] 1 t2):=Hi (by have h:=hp rfl;rw [show (1:Int).toNat=1 from rfl,Cc] at h;exact h);simp only at he;subst he;obtain rfl:ap=1:=PA.out.2.2.1;clear hp G4
 go_upto_region 3 with fail
 refine nmA ?_;intro w5 hE B3 hz_w5 hr_w5;refine mV7 hE ?_ B1 B2 HX R0 R1 C1 PA;clear B1 B2 HX R0 R1 C1 PA;intro B1 B2 HX R0 R1 C1 PA;have hs_w5:=hE.size;clear hE;replace b_B1:=bX3 B1;replace b_B2:=bX3 B2;replace b_B3:=bX3 B3
 go_wp2_with fail
 refine cM (tf 1 ⟨yn,ya,yl,yc,yb,ym,yd⟩ ⟨xn,xa,xl,xc,xb,xm,xd⟩ z0 o1 1 _ R0.out R1.out Z0.out Z1.out (by decide) (by decide)) fun x6 w6 hE G6=>?_
 refine mV8 hE ?_ B3 B1 B2 HX R0 R1 C1 PA;clear B3 B1 B2 HX R0 R1 C1 PA;intro B3 B1 B2 HX R0 R1 C1 PA;have hs_w6:=hE.size;clear hE;replace b_B1:=bX3 B1;replace b_B2:=bX3 B2;replace b_B3:=bX3 B3;obtain ⟨⟨⟨b1,b2,b3,b4,b5,b6,b7⟩,⟨b8,b9,b10⟩,bp,⟨b11,b12,b13⟩⟩,e6⟩:=x6;obtain ⟨he,-,hp⟩:=G6.out;rw [Ab] at he hp;have PB:Hid (rY w6 ⟨⟨b1,b2,b3,b4,b5,b6,b7⟩,⟨b8,b9,b10⟩,bp,⟨b11,b12,b13⟩⟩ o1 [o1] 1 t2):=Hi (by have h:=hp rfl;rw [show (1:Int).toNat=1 from rfl,Cb] at h;exact h);simp only at he;subst he;obtain rfl:bp=1:=PB.out.2.2.1;clear hp G6
 go_upto_region 4 with fail
 refine nmA ?_;intro w7 hE B5 hz_w7 hr_w7;refine mV8 hE ?_ B3 B1 B2 HX R0 R1 C1 PA;clear B3 B1 B2 HX R0 R1 C1 PA;intro B3 B1 B2 HX R0 R1 C1 PA;replace PB:=mV hE PB;have hs_w7:=hE.size;clear hE;replace b_B1:=bX3 B1;replace b_B2:=bX3 B2;replace b_B3:=bX3 B3;replace b_B5:=bX3 B5
 go_wp2_with fail
 refine cM (vW 1 ⟨yn,ya,yl,yc,yb,ym,yd⟩ ⟨xn,xa,xl,xc,xb,xm,xd⟩ z0 o1 1 _ R0.out R1.out Z0.out Z1.out (by decide) (by decide)) fun x8 w8 hE G8=>?_
 refine mV8 hE ?_ B5 B3 B1 B2 HX R0 R1 C1;clear B5 B3 B1 B2 HX R0 R1 C1;intro B5 B3 B1 B2 HX R0 R1 C1;refine mV2 hE ?_ PA PB;clear PA PB;intro PA PB;have hs_w8:=hE.size;clear hE;replace b_B1:=bX3 B1;replace b_B2:=bX3 B2;replace b_B3:=bX3 B3;replace b_B5:=bX3 B5;obtain ⟨⟨⟨c1,c2,c3,c4,c5,c6,c7⟩,⟨c8,c9,c10⟩,cp,⟨c11,c12,c13⟩⟩,e8⟩:=x8;obtain ⟨he,-,hp⟩:=G8.out;rw [Ab] at he hp;have PC:Hid (rY w8 ⟨⟨c1,c2,c3,c4,c5,c6,c7⟩,⟨c8,c9,c10⟩,cp,⟨c11,c12,c13⟩⟩ o1 [o1] 1 t2):=Hi (by have h:=hp rfl;rw [show (1:Int).toNat=1 from rfl,Ac.1,Ac.2.1,Ac.2.2] at h;exact h);simp only at he;subst he;obtain rfl:cp=1:=PC.out.2.2.1;clear hp G8
 go_upto_region 5 with fail
 refine nmA ?_;intro w9 hE B7 hz_w9 hr_w9;refine mV8 hE ?_ B5 B3 B1 B2 HX R0 R1 C1;clear B5 B3 B1 B2 HX R0 R1 C1;intro B5 B3 B1 B2 HX R0 R1 C1;refine mV3 hE ?_ PA PB PC;clear PA PB PC;intro PA PB PC;have hs_w9:=hE.size;clear hE;replace b_B1:=bX3 B1;replace b_B2:=bX3 B2;replace b_B3:=bX3 B3;replace b_B5:=bX3 B5;replace b_B7:=bX3 B7;have HX9:=Hi (Ext.refl w9);have PA9:=PA;have PB9:=PB;have PC9:=PC;have C19:=C1;clear PA;clear PB;clear PC;clear C1;clear R0;clear R1;refine aQ [(8,6)] _ (by simp only [gH,kH,List.push_toArray,List.cons_append,List.nil_append];exact rfl) (by intro c a d v w h;cases d <;> exact h) 8 (fun opIx=>match opIx with
  | 2=>.spec RH default RH.v (fun s w'=>au w' s (((1:Int):Rat) / ((2:Int):Rat)))
  | 3=>.spec (PH×Int) ((PH0,0)) (PE) (fun x w'=>Al x w')
  | 7=>.alloc 66 #[.bool false,.slice none 0 0,.slice none 0 0,.slice none 0 0,.int .i64 0,.slice none 0 0]
  | _=>.quiet) (fun|3=>[2]|_=>[]) (by kernel_rfl) (by kernel_rfl) (by kernel_rfl) (fun w0 he0 hz0 hc0 hf0=>?_)
 replace he0:=Hi he0;simp only [pT];refine qQ ?_;refine wps he0.out rfl rfl (fun w1 hW hG=>?_) fun x30=>?_
 ·exact spc [.int .i64 1,.int .i64 2] Tryz.func32 (iW 1 2 _ (by decide) (by decide) (by decide) (by decide))
 refine qZ ?_;refine wps he0.out rfl rfl (fun w1 hW hG=>?_) fun x31=>?_
 ·have g30:=(hG 2 (by decide):ax _ _).get fun _ e g=>g.ext e
  exact spc [.int .i64 3,RH.v ⟨yn,ya,yl,yc,yb,ym,yd⟩,RH.v ⟨xn,xa,xl,xc,xb,xm,xd⟩,x30.v] Tryz.func86 (rD 3 ⟨yn,ya,yl,yc,yb,ym,yd⟩ ⟨xn,xa,xl,xc,xb,xm,xd⟩ x30 _ (by decide) (by decide))
 refine qZ ?_;refine aN rfl rfl (fun w=>by simp [execOp,go_sem,ptr]) (fun b32 hb32 hl32=>?_);refine qZ ?_;refine aj ?_;intro w10 hI;have hE:=he0.out.trans hI.ext;have G30:=gT (hI.facts 2);have G31:=gT (hI.facts 3);have A32:Hid (w10.heap[b32]?=some (.cells #[.bool false,.slice none 0 0,.slice none 0 0,.slice none 0 0,.int .i64 0,.slice none 0 0] 66 (0,0))):=hI.facts 7;rw [hz0] at hl32;clear hI he0 hz0 hc0 hf0;refine mV7 hE ?_ B7 B5 B3 B1 B2 HX HX9;clear B7 B5 B3 B1 B2 HX HX9;intro B7 B5 B3 B1 B2 HX HX9;have hs_w10:=hE.size;clear hE;replace b_B1:=bX3 B1;replace b_B2:=bX3 B2;replace b_B3:=bX3 B3;replace b_B5:=bX3 B5;replace b_B7:=bX3 B7;replace b_A32:=bX3 A32;simp only [pD,ptr];obtain ⟨x31,e31⟩:=x31;obtain ⟨he,hp⟩:=G31.out;simp only at he hp;subst he;subst hp;clear G31;clear G30;simp only [PH0,PE]
 go_upto_region 6 with fail
 refine ci A32.out rfl ?_;intro w11 T;replace HX:=Hi (T.ext HX.out (by omega));replace B1:=Hi (T.rest _ _ (by omega) B1.out);replace B2:=Hi (T.rest _ _ (by omega) B2.out);replace B3:=Hi (T.rest _ _ (by omega) B3.out);replace B5:=Hi (T.rest _ _ (by omega) B5.out);replace B7:=Hi (T.rest _ _ (by omega) B7.out);replace HX9:=Hi (T.ext HX9.out (by omega));replace A32:=Hi (T.bx);have hs_w11:=nle T.size;have hr_w11:=nle T.size.symm;clear T;replace b_B1:=bX3 B1;replace b_B2:=bX3 B2;replace b_B3:=bX3 B3;replace b_B5:=bX3 B5;replace b_B7:=bX3 B7;replace b_A32:=bX3 A32
 (try clear b_A32);clear A32
 go_wp2_with fail
 refine cM (bP 2 _ (by decide) (by decide)) fun x12 w12 hE G12=>?_
 refine mV7 hE ?_ HX B1 B2 B3 B5 B7 HX9;clear HX B1 B2 B3 B5 B7 HX9;intro HX B1 B2 B3 B5 B7 HX9;have hs_w12:=hE.size;clear hE;replace b_B1:=bX3 B1;replace b_B2:=bX3 B2;replace b_B3:=bX3 B3;replace b_B5:=bX3 B5;replace b_B7:=bX3 B7
 go_upto_region 7 with fail
 refine nmA ?_;intro w13 hE B40 hz_w13 hr_w13;refine mV8 hE ?_ G12 HX B1 B2 B3 B5 B7 HX9;clear G12 HX B1 B2 B3 B5 B7 HX9;intro G12 HX B1 B2 B3 B5 B7 HX9;have hs_w13:=hE.size;clear hE;replace b_B1:=bX3 B1;replace b_B2:=bX3 B2;replace b_B3:=bX3 B3;replace b_B5:=bX3 B5;replace b_B7:=bX3 B7;replace b_B40:=bX3 B40;have LT:=Hi (lC B40.out G12.out)
 (try clear b_B40);clear B40
 clear G12;have PA:=Hi (PA9.out.ext HX9.out);have PB:=Hi (PB9.out.ext HX9.out);have PC:=Hi (PC9.out.ext HX9.out);have C1:=Hi (C19.out.ext HX9.out);clear PA9 PB9 PC9 C19;clear HX9;obtain ⟨bl,hbl⟩:∃ b,b=w12.heap.size:=⟨_,rfl⟩;rw [←hbl] at LT ⊢;clear hbl
 go_wp2_with fail
 refine cM ((by have h:=ez ⟨a11,a12,a13⟩ ⟨some ⟨bl,0,none⟩,1,1⟩ t2 t2 _ PA.out.2.2.2 LT.out;rw [decide_eq_true rfl] at h;exact h)) fun x14 w14 hE _=>?_
 refine mV8 hE ?_ HX B1 B2 B3 B5 B7 LT PA;clear HX B1 B2 B3 B5 B7 LT PA;intro HX B1 B2 B3 B5 B7 LT PA;refine mV3 hE ?_ PB PC C1;clear PB PC C1;intro PB PC C1;have hs_w14:=hE.size;clear hE;replace b_B1:=bX3 B1;replace b_B2:=bX3 B2;replace b_B3:=bX3 B3;replace b_B5:=bX3 B5;replace b_B7:=bX3 B7
 go_wp2_with fail
 refine cM (nf ⟨⟨a1,a2,a3,a4,a5,a6,a7⟩,⟨a8,a9,a10⟩,1,⟨a11,a12,a13⟩⟩ ⟨⟨b1,b2,b3,b4,b5,b6,b7⟩,⟨b8,b9,b10⟩,1,⟨b11,b12,b13⟩⟩ o1 [o1] t2 1 _ PA.out PB.out) fun x15 w15 hE _=>?_
 refine mV8 hE ?_ HX B1 B2 B3 B5 B7 LT PA;clear HX B1 B2 B3 B5 B7 LT PA;intro HX B1 B2 B3 B5 B7 LT PA;refine mV3 hE ?_ PB PC C1;clear PB PC C1;intro PB PC C1;have hs_w15:=hE.size;clear hE;replace b_B1:=bX3 B1;replace b_B2:=bX3 B2;replace b_B3:=bX3 B3;replace b_B5:=bX3 B5;replace b_B7:=bX3 B7
 go_wp2_with fail
 refine cM ((by have h:=ez ⟨c11,c12,c13⟩ ⟨some ⟨bl,0,none⟩,1,1⟩ t2 t2 _ PC.out.2.2.2 LT.out;rw [decide_eq_true rfl] at h;exact h)) fun x16 w16 hE _=>?_
 refine mV8 hE ?_ HX B1 B2 B3 B5 B7 LT PA;clear HX B1 B2 B3 B5 B7 LT PA;intro HX B1 B2 B3 B5 B7 LT PA;refine mV3 hE ?_ PB PC C1;clear PB PC C1;intro PB PC C1;have hs_w16:=hE.size;clear hE;replace b_B1:=bX3 B1;replace b_B2:=bX3 B2;replace b_B3:=bX3 B3;replace b_B5:=bX3 B5;replace b_B7:=bX3 B7
 go_wp2_with fail
 refine nmA (F:=fun W=>Calls _ _ _ W _) ?_;intro w17 hE B41 hz_w17 hr_w17;refine mV8 hE ?_ HX B1 B2 B3 B5 B7 LT PA;clear HX B1 B2 B3 B5 B7 LT PA;intro HX B1 B2 B3 B5 B7 LT PA;refine mV3 hE ?_ PB PC C1;clear PB PC C1;intro PB PC C1;have hs_w17:=hE.size;clear hE;replace b_B1:=bX3 B1;replace b_B2:=bX3 B2;replace b_B3:=bX3 B3;replace b_B5:=bX3 B5;replace b_B7:=bX3 B7;replace b_B41:=bX3 B41
 change Calls _ _ _ _ _
 have LO:=Hi (lC (x:=⟨xn,xa,xl,xc,xb,xm,xd⟩) B41.out C1.out)
 (try clear b_B41);clear B41
 refine cM ((by have h:=ez ⟨c8,c9,c10⟩ ⟨some ⟨w16.heap.size,0,none⟩,1,1⟩ [o1] [o1] _ PC.out.2.1 LO.out;rw [decide_eq_true rfl] at h;exact h)) fun x18 w18 hE _=>?_
 refine mV8 hE ?_ HX B1 B2 B3 B5 B7 LT PA;clear HX B1 B2 B3 B5 B7 LT PA;intro HX B1 B2 B3 B5 B7 LT PA;refine mV4 hE ?_ PB PC C1 LO;clear PB PC C1 LO;intro PB PC C1 LO;have hs_w18:=hE.size;clear hE;replace b_B1:=bX3 B1;replace b_B2:=bX3 B2;replace b_B3:=bX3 B3;replace b_B5:=bX3 B5;replace b_B7:=bX3 B7;have LD:=PA.out.2.2.2.len;have LE:=PA.out.2.1.len;simp only at LD LE;obtain rfl:a12=1:=LD.symm;obtain rfl:a9=1:=LE.symm;clear LD LE;have RP:Hid (je w18 ⟨⟨a1,a2,a3,a4,a5,a6,a7⟩,⟨a8,1,a10⟩,1,⟨a11,1,a13⟩⟩ o1 [o1] t2):=Hi ⟨PA.out.1.raw Z1.out (by decide),PA.out.2.1.raw (k:=1) (fun x hx=>by rw [nXt.1 hx];exact Z1.out) (by decide),PA.out.2.2.2.raw Au (by decide)⟩
 go_wp2_with fail
 refine cM ((by have h:=gt ⟨⟨a1,a2,a3,a4,a5,a6,a7⟩,⟨a8,1,a10⟩,1,⟨a11,1,a13⟩⟩ o1 [o1] t2 10000 _ RP.out (by show 1≤49;decide) (Cr Av (n:=1) (by decide) (by decide) (by unfold KN;decide) (by decide) (by decide));rw [show (PH.p ⟨⟨a1,a2,a3,a4,a5,a6,a7⟩,⟨a8,1,a10⟩,1,⟨a11,1,a13⟩⟩)=1 from rfl,Ca] at h;exact h)) fun x20 w20 hE _=>?_
 refine mV8 hE ?_ HX B1 B2 B3 B5 B7 LT PA;clear HX B1 B2 B3 B5 B7 LT PA;intro HX B1 B2 B3 B5 B7 LT PA;refine mV4 hE ?_ PB PC C1 LO;clear PB PC C1 LO;intro PB PC C1 LO;have hs_w20:=hE.size;clear hE;replace b_B1:=bX3 B1;replace b_B2:=bX3 B2;replace b_B3:=bX3 B3;replace b_B5:=bX3 B5;replace b_B7:=bX3 B7;go_wp2
 go_ret
 exact ⟨(),rfl,HX.out,trivial⟩
end Go.Proofs.YtohahgiidooijaaGreat
/- What all joins of this seat share. -/
namespace Go.Proofs.YtohahgiidooijaaGreat
open Go.ChangeShapes Go.WideShapes Go.ChangeAt Go.RowKit Go.Front Go.Joins
theorem own:ownKnob Tryz.prog.godebug=none:=by kernel_rfl
theorem mx:laidOutB Tryz.prog=true:=by kernel_rfl
theorem lH{n:Int}(h:(Lit.int .i64 n).wf=true):-9223372036854775808≤n∧n≤9223372036854775807:=by
 simp [Lit.wf] at h;exact ⟨h.1,h.2⟩
theorem pY{H:Type}{enc:TypeId×Value→H}{W:World}{a0:Option Addr}{len0 cap0:Nat}{d:DataW H}{p:List MemPlace}(h0:DataW.Trod enc Tryz.prog W 0 (fun _=>true) true 25 (.slice a0 len0 cap0) d p) :
  ∃ xs:List Int,dQ W a0 xs∧InR xs∧xs.length=len0∧len0≤9223372036854775807∧len0≤cap0∧cap0≤9223372036854775807:=by
 obtain ⟨fuel,hf⟩:=h0;rcases open_ints Tryz.underlying25 Tryz.underlying3 (by kernel_rfl) hf with ⟨hcs,_⟩|⟨x,l,c,zs,hcs,_,hl,hm,hz,_,hcell,hwz⟩
 ·simp [Value.cells] at hcs;obtain ⟨rfl,rfl,rfl⟩:=hcs;exact ⟨[],Or.inl rfl,fun x hx=>by simp at hx,rfl,by decide,by decide,by decide⟩
 ·simp [Value.cells] at hcs;obtain ⟨rfl,rfl,rfl⟩:=hcs;simp only [maxLen] at hm;have hz':zs.length=cap0:=by simpa using hz
  refine ⟨zs.take len0,?_,fun x hx=>lH (hwz x (List.mem_of_mem_take hx)),by simp;omega,by omega,hl,by omega⟩;by_cases hp:0<zs.length
  ·obtain ⟨b,off,rfl,hc⟩:=ints_at hcell hp;refine Or.inr ⟨b,off,rfl,fun k hk=>?_⟩;simp only [nXj] at hk;rw [hc k (by omega)];simp [show k<len0 by omega]
  ·left
   have:zs=[]:=nXi.1 (by omega);rw [this];simp
end Go.Proofs.YtohahgiidooijaaGreat
/- SmallRat, SmallPoly of package make. -/
set_option maxRecDepth 4000
namespace Go.Proofs.YtohahgiidooijaaGreat
open Go.RowKit Go.Front Go.Num
attribute [local go_sem] XW.cell XW.frozen
def SmD(k:Nat)(rs:List RH):Prop:=∀ r ∈ rs,r.n≤k∧r.m≤k
def sm4(n m:Nat):Bool:=decide (n≤4∧m≤4)
theorem m7(s:RH)(w:World):am 29 [s.v] w (fun _:Unit=>.bool (sm4 s.n s.m)) (fun _ _=>True):=by
 obtain ⟨neg,ao,n,c,bo,m,d⟩:=s;have HX:=Hi (Ext.refl w);unfold am;by_cases h1:n≤4
 ·have h1i:(n:Int)≤4:=by omega
  by_cases h2:m≤4
  ·have h2i:(m:Int)≤4:=by omega
   have hv:Hid (sm4 n m=true):=Hi (decide_eq_true ⟨h1,h2⟩);go_enter Tryz.func29,Tryz.ntmps29
   go_upto_region 1 with fail
   refine nmA ?_;intro w1 hE B1 hz_w1 hr_w1;replace HX:=hE.tr HX;have hs_w1:=hE.size;clear hE;replace b_B1:=bX3 B1;go_wp2
   go_ret
   exact ⟨(),by rw [hv.out];rfl,HX.out,trivial⟩
  ·have h2i:¬ (m:Int)≤4:=by omega
   have hv:Hid (sm4 n m=false):=Hi (decide_eq_false (fun h=>h2 h.2));go_enter Tryz.func29,Tryz.ntmps29
   go_upto_region 1 with fail
   refine nmA ?_;intro w1 hE B1 hz_w1 hr_w1;replace HX:=hE.tr HX;have hs_w1:=hE.size;clear hE;replace b_B1:=bX3 B1;go_wp2
   go_ret
   exact ⟨(),by rw [hv.out];rfl,HX.out,trivial⟩
 ·have h1i:¬ (n:Int)≤4:=by omega
  have hv:Hid (sm4 n m=false):=Hi (decide_eq_false (fun h=>h1 h.1));go_enter Tryz.func29,Tryz.ntmps29
  go_upto_region 1 with fail
  refine nmA ?_;intro w1 hE B1 hz_w1 hr_w1;replace HX:=hE.tr HX;have hs_w1:=hE.size;clear hE;replace b_B1:=bX3 B1;go_wp2
  go_ret
  exact ⟨(),by rw [hv.out];rfl,HX.out,trivial⟩
theorem SmD.take_succ{k j:Nat}{rs:List RH}(h:SmD k (rs.take j))(hj:j<rs.length)(hr:(rs.getD j default).n≤k∧(rs.getD j default).m≤k):SmD k (rs.take (j+1)):=by
 intro r hm;rw [List.take_succ_eq_append_getElem hj] at hm;rcases List.mem_append.1 hm with h1|h1
 ·exact h r h1
 ·obtain rfl:r=rs[j]:=by simpa using h1
  rw [show rs.getD j default=rs[j] by simp [hj]] at hr;exact hr
def CG(n:Nat)(rs:List RH)(b:Bool):Prop:=b=true↔n≤8∧SmD 2 rs
theorem iq(ao:Option Addr)(n cap:Nat)(rs:List RH)(w:World)(h:RS w ⟨ao,n,cap⟩ rs) :
  am 30 [.slice ao n cap] w (fun b:Bool=>.bool b) (fun b _=>CG n rs b):=by
 have H:=Hi h;have HX:=Hi (Ext.refl w);have hle:=h.le;have hmx:=h.max;have Hlen:=Hi h.len;simp only at hle hmx Hlen;clear h;unfold am;by_cases h8:8<n
 case pos =>
  have h8i:(8:Int)<n:=by omega
  go_enter Tryz.func30,Tryz.ntmps30;go_wp2
  go_ret
  exact ⟨false,rfl,HX.out,⟨fun h=>(by cases h),fun h=>by omega⟩⟩
 go_enter Tryz.func30,Tryz.ntmps30;go_wp2
 go_loopg [10] n (fun g i wr=>∃ j:Nat,j+g=n∧i=.int .i64 (j:Nat)∧Ext w wr∧SmD 2 (rs.take j))
 case atStart=>exact ⟨0,by omega,rfl,HX.out,fun r hr=>by simp at hr⟩
 case round =>
  obtain ⟨j,hj,rfl,g1,g2⟩:=hrel;clear HX;have HX:=Hi g1;have HS:=Hi g2;clear g1 g2;by_cases h0:gk=0
  case pos =>
   subst h0;obtain rfl:j=n:=by omega
   have HE:Hid (rs.take j=rs):=Hi (nXl (by rw [Hlen.out];exact nXd _));rw [HE.out] at HS;go_wp2
   go_ret
   exact ⟨true,rfl,HX.out,⟨fun _=>⟨by omega,HS.out⟩,fun _=>rfl⟩⟩
  have hjn:(j:Int)<n:=by omega
  obtain ⟨b,off,hao,⟨hc1,hc2,hc3⟩⟩:=(H.out.ext HX.out).at (k:=j) (by omega);obtain ⟨r,hr⟩:∃ r,r=rs.getD j default:=⟨_,rfl⟩;rw [←hr] at hc1 hc2 hc3;have Hr:=Hi hr;obtain ⟨rneg,ra,rn,rc,rb,rm,rd⟩:=r;simp only at hc1 hc2 hc3;subst hao;have hbl:b<wr.heap.size:=nXp _ _ hc1;have hmem:Hid ((⟨rneg,ra,rn,rc,rb,rm,rd⟩:RH) ∈ rs):=Hi (by rw [hr,show rs.getD j default=rs[j]'(by rw [Hlen.out];omega) by simp [show j<rs.length by rw [Hlen.out];omega]];exact List.getElem_mem _);clear hr
  go_upto_region 6 with fail
  refine nmA ?_;intro y1 hE B4 hz_y1 hr_y1;replace HX:=hE.tr HX;have hs_y1:=hE.size;clear hE;replace b_B4:=bX3 B4;clear hc1 hc2 hc3 hbl;by_cases h1:rn≤2
  ·have h1i:¬ (2:Int)<rn:=by omega
   by_cases h2:rm≤2
   ·have h2i:¬ (2:Int)<rm:=by omega
    have HS2:Hid (SmD 2 (rs.take (j+1))):=Hi (HS.out.take_succ (by rw [Hlen.out];omega) (by rw [←Hr.out];exact ⟨h1,h2⟩));go_wp2
    go_roundg (gk-1)
    case measure=>omega
    case rel=>exact ⟨j+1,by omega,by go_num,HX.out,HS2.out⟩
   ·have h2i:(2:Int)<rm:=by omega
    go_wp2
    go_ret
    exact ⟨false,rfl,HX.out,⟨fun h=>(by cases h),fun h=>absurd (h.2 _ hmem.out).2 h2⟩⟩
  ·have h1i:(2:Int)<rn:=by omega
   go_wp2
   go_ret
   exact ⟨false,rfl,HX.out,⟨fun h=>(by cases h),fun h=>absurd (h.2 _ hmem.out).1 h1⟩⟩
end Go.Proofs.YtohahgiidooijaaGreat
