/- Package prototype: Valid, Ratio. -/
import Derived.Test.YtafgmcimcbhhjaaGreatQGK11
import Derived.Test.YtafgmcimcbhhjaaGreatQGK15
import Derived.Test.YtafgmcimcbhhjaaGreatQGK4
import Derived.Test.YtafgmcimcbhhjaaGreatQGK8
import Derived.Test.YtafgmcimcbhhjaaGreatQGK5
import Derived.Test.YtafgmcimcbhhjaaGreatQGK6
import Derived.Test.YtafgmcimcbhhjaaGreatQGK14
set_option linter.unusedVariables false
set_option maxRecDepth 8000
set_option maxHeartbeats 8000000
namespace Go.Proofs.YtafgmcimcbhhjaaGreat
open Go.RowKit Go.Front Go.Num Stab
attribute [local go_sem] XW.cell XW.frozen
def IvE(w:World)(x:RH×RH)(a b:Rat):Prop:=aw w x.1 a∧aw w x.2 b
theorem IvE.ext{w w':World}{x:RH×RH}{a b:Rat}(h:IvE w x a b)(he:Ext w w'):IvE w' x a b:=⟨h.1.ext he,h.2.ext he⟩
instance {w w':World} {x:RH×RH} {a b:Rat}:Go.Front.Mv w w' (IvE w x a b) (IvE w' x a b):=⟨fun e h=>IvE.ext h e⟩

def kE(w:World)(x:PH)(g:Rat)(e d:List Rat):Prop:=aY w x.g g∧dk w x.e e∧dk w x.d d
theorem kE.ext{w w':World}{x:PH}{g:Rat}{e d:List Rat}(h:kE w x g e d)(he:Ext w w'):kE w' x g e d:=⟨h.1.ext he,h.2.1.ext he,h.2.2.ext he⟩
instance {w w':World} {x:PH} {g:Rat} {e d:List Rat}:Go.Front.Mv w w' (kE w x g e d) (kE w' x g e d):=⟨fun e h=>kE.ext h e⟩

def cU(g:Rat)(e:List Rat)(p:Int)(d:List Rat):Bool:=decide (0<g∧0≤p∧p≤48∧tz e≠[]∧(tz e).length≤25∧(tz d).length≤49) && uM d (-1) 1
theorem ie{g:Rat}{e:List Rat}{p:Int}{d:List Rat}(h:¬ (0<g∧0≤p∧p≤48∧tz e≠[]∧(tz e).length≤25∧(tz d).length≤49)):cU g e p d=false:=by
 unfold cU;rw [decide_eq_false h];rfl
theorem oU{g:Rat}{e:List Rat}{p:Int}{d:List Rat}(h:0<g∧0≤p∧p≤48∧tz e≠[]∧(tz e).length≤25∧(tz d).length≤49):cU g e p d=uM d (-1) 1:=by
 unfold cU;rw [decide_eq_true h];rfl
theorem ui{g:Rat}:dp g 0≤0↔¬ 0<g:=by rw [go];exact ⟨fun h=>Rat.not_lt.2 h,fun h=>Rat.not_lt.1 h⟩
structure DnK (K P:Nat) (d:List Rat):Prop where
 fr:FrK K d
 sq:FrK K (Sg.sqfV d)
 k1:K≤3900000
 k2:(P+1)*(K / 3)≤25000000
theorem kO(x:PH)(g:Rat)(e d:List Rat)(K:Nat)(w:World)(h:kE w x g e d)(hP:x.d.n≤49)(hk:DnK K x.d.n d) :
  aq 42 [x.v] w (fun _:Unit=>.bool (cU g e x.p d)) (fun _ _=>True):=by
 obtain ⟨⟨gn,ga,gl,gc,gb,gm,gd⟩,⟨ea,en,ec⟩,p,⟨da,dn,dc⟩⟩:=x;have HX:=Hi (Ext.refl w);have RG:=Hi h.1;have LE:=Hi h.2.1;have LD:=Hi h.2.2;have HK:=Hi hk;have HEn:=Hi h.2.1.len;have HDn:=Hi h.2.2.len;simp only at hP RG LE LD HK HEn HDn;clear h hk;have hdl:(tz d).length≤49:=by have:=ah d;have:=HDn.out;omega
 have HDl:=Hi hdl;clear hdl;obtain ⟨c1,hc1⟩:∃ c,c=dp g 0:=⟨_,rfl⟩;have HC1:=Hi hc1;have HC:Hid (c1≤0↔¬ 0<g):=Hi (by rw [hc1];exact ui);clear hc1;unfold aq;go_enter Tryz.func42,Tryz.ntmps42
 go_upto_region 1 with fail
 refine nmA ?_;intro w1 hE B1 hz_w1 hr_w1;refine mV4 hE ?_ HX RG LE LD;clear HX RG LE LD;intro HX RG LE LD;have hs_w1:=hE.size;clear hE;replace b_B1:=bX3 B1
 go_wp2_with fail
 refine cM (cG ⟨gn,ga,gl,gc,gb,gm,gd⟩ g _ RG.out) fun x2 w2 hE _=>?_
 refine mV5 hE ?_ B1 HX RG LE LD;clear B1 HX RG LE LD;intro B1 HX RG LE LD;have hs_w2:=hE.size;clear hE;replace b_B1:=bX3 B1;rw [←HC1.out];by_cases h1:c1≤0
 ·have HV:Hid (cU g e p d=false):=Hi (ie (fun k=>HC.out.1 h1 k.1));go_wp2
  go_ret
  exact ⟨(),by rw [HV.out];rfl,HX.out,trivial⟩
 have HG:Hid (0<g):=Hi (Classical.byContradiction fun k=>h1 (HC.out.2 k));clear HC;by_cases h2:p<0
 ·have HV:Hid (cU g e p d=false):=Hi (ie (fun k=>by have:=k.2.1;omega));go_wp2
  go_ret
  exact ⟨(),by rw [HV.out];rfl,HX.out,trivial⟩
 by_cases h3:48<p
 ·have HV:Hid (cU g e p d=false):=Hi (ie (fun k=>by have:=k.2.2.1;omega));go_wp2
  go_ret
  exact ⟨(),by rw [HV.out];rfl,HX.out,trivial⟩
 go_wp2_with fail
 refine cM (cN ea en ec e _ LE.out) fun x3 w3 hE _=>?_
 refine mV5 hE ?_ B1 HX RG LE LD;clear B1 HX RG LE LD;intro B1 HX RG LE LD;have hs_w3:=hE.size;clear hE;replace b_B1:=bX3 B1;obtain ⟨le,hle⟩:∃ n,n=(tz e).length:=⟨_,rfl⟩;have HLe:=Hi hle;rw [←hle];clear hle;by_cases h4:le=0
 ·have HV:Hid (cU g e p d=false):=Hi (ie (fun k=>k.2.2.2.1 (nXi.1 (by rw [←HLe.out];exact h4))));subst h4;go_wp2
  go_ret
  exact ⟨(),by rw [HV.out];rfl,HX.out,trivial⟩
 have h4i:¬ (le:Int)-1<0:=by omega
 by_cases h5:25<le
 ·have HV:Hid (cU g e p d=false):=Hi (ie (fun k=>by have:=k.2.2.2.2.1;rw [←HLe.out] at this;omega));have h5i:(24:Int)<(le:Int)-1:=by omega
  go_wp2
  go_ret
  exact ⟨(),by rw [HV.out];rfl,HX.out,trivial⟩
 have h5i:¬ (24:Int)<(le:Int)-1:=by omega
 have HV:Hid (cU g e p d=uM d (-1) 1):=Hi (oU ⟨HG.out,by omega,by omega,fun k=>by have:=HLe.out;rw [k] at this;exact h4 this,by rw [←HLe.out];omega,HDl.out⟩)
 go_wp2_with fail
 refine cM (cN da dn dc d _ LD.out) fun x5 w5 hE _=>?_
 refine mV5 hE ?_ B1 HX RG LE LD;clear B1 HX RG LE LD;intro B1 HX RG LE LD;have hs_w5:=hE.size;clear hE;replace b_B1:=bX3 B1;obtain ⟨ld,hld⟩:∃ n,n=(tz d).length:=⟨_,rfl⟩;have h6i:¬ (48:Int)<(ld:Int)-1:=by have:=HDl.out;omega
 rw [←hld];clear hld;have Zm:Hid (Sz 1 ((-1:Int):Rat)):=Hi (Sz.int (by decide));have Z1:Hid (Sz 1 ((1:Int):Rat)):=Hi (Sz.int (by decide));have Em:Hid (loV ((-1:Int):Rat) ((1:Int):Rat)=((-1:Int):Rat)):=Hi (vW (by decide));have E1:Hid (hiV ((-1:Int):Rat) ((1:Int):Rat)=((1:Int):Rat)):=Hi (wo (by decide));have HPV:Hid (Sg.posV d ((-1:Int):Rat) ((1:Int):Rat)=uM d (-1) 1):=Hi (yz (by decide));obtain ⟨v,hv⟩:∃ v,v=uM d (-1) 1:=⟨_,rfl⟩;rw [←hv] at HV HPV;clear hv h1 h2 h3
 go_upto_region 6 with fail
 refine aQ [(9,8)] _ (by simp only [gA,kx,List.push_toArray,List.cons_append,List.nil_append];exact rfl) (by intro c a d v w h;cases d <;> exact h) 9 (fun opIx=>match opIx with
  | 2=>.spec RH default RH.v (fun s w'=>aw w' s (((-1:Int):Rat)))
  | 3=>.spec RH default RH.v (fun s w'=>aw w' s (((1:Int):Rat)))
  | 4=>.spec (RH×RH) (default) (IvV) (fun x w'=>IvE w' x ((-1:Int):Rat) ((1:Int):Rat))
  | 5=>.spec Unit () (fun _=>.tuple #[.bool v,.int .i64 0]) (fun _ _=>True)
  | _=>.quiet) (fun|4=>[2,3]|5=>[4]|_=>[]) (by kernel_rfl) (by kernel_rfl) (by kernel_rfl) (fun w0 he0 hz0 hc0 hf0=>?_)
 replace he0:=Hi he0;simp only [pT];refine qQ ?_;refine wps he0.out rfl rfl (fun w1 hW hG=>?_) fun x40=>?_
 ·exact spc [.int .i64 (-1)] Tryz.func84 (aH (-1) _ (by decide) (by decide))
 refine qZ ?_;refine wps he0.out rfl rfl (fun w1 hW hG=>?_) fun x41=>?_
 ·exact spc [.int .i64 1] Tryz.func84 (aH 1 _ (by decide) (by decide))
 refine qZ ?_;refine wps he0.out rfl rfl (fun w1 hW hG=>?_) fun x42=>?_
 ·have g40:=(hG 2 (by decide):av _ _).get fun _ e g=>g.ext e
  have g41:=(hG 3 (by decide):av _ _).get fun _ e g=>g.ext e
  exact spc [x40.v,x41.v] Tryz.func106 ((by have h:=k8 x40 x41 _ _ _ (g40.raw Zm.out (by decide)) (g41.raw Z1.out (by decide));rw [Em.out,E1.out] at h;exact h))
 refine qZ ?_;refine wps he0.out rfl rfl (fun w1 hW hG=>?_) fun x43=>?_
 ·have g42:=(hG 4 (by decide):av _ _).get fun _ e g=>g.ext e
  exact spc [.slice da dn dc,IvV x42] Tryz.func27 ((by have h:=uW da dn dc d K x42.1 x42.2 ((-1:Int):Rat) ((1:Int):Rat) 1 _ (LD.out.ext hW) hP HK.out.fr HK.out.sq (nXe HK.out.k1 (by decide)) HK.out.k2 (g42.1.raw Zm.out (by decide)) (g42.2.raw Z1.out (by decide)) Zm.out Z1.out (by decide) (by decide);rw [Em.out,E1.out,HPV.out] at h;exact h))
 refine qZ ?_;refine ak ?_;intro w6 hI;have hE:=he0.out.trans hI.ext;have G40:=gT (hI.facts 2);have G41:=gT (hI.facts 3);have G42:=gT (hI.facts 4);clear hI he0 hz0 hc0 hf0;refine mV5 hE ?_ B1 HX RG LE LD;clear B1 HX RG LE LD;intro B1 HX RG LE LD;have hs_w6:=hE.size;clear hE;replace b_B1:=bX3 B1;simp only [pD];clear G42;clear G40;clear G41;cases v
 ·go_wp2
  go_ret
  exact ⟨(),by rw [HV.out];rfl,HX.out,trivial⟩
 ·go_wp2
  go_ret
  exact ⟨(),by rw [HV.out];rfl,HX.out,trivial⟩
def yu(g:Rat)(e:List Rat)(p:Int)(d:List Rat):Int×List Rat×List Rat:=if cU g e p d=true then (0,tz ((ar (ar e e) (bI plQ p.toNat)).map (·*g)),tz d) else (2,[],[])
theorem uO{g:Rat}{e:List Rat}{p:Int}{d:List Rat}(h:cU g e p d=true):0≤p∧p≤48:=by
 unfold cU at h;have h1:=of_decide_eq_true (Bool.and_eq_true_iff.1 h).1;exact ⟨h1.2.1,h1.2.2.1⟩
theorem qP(x:PH)(g:Rat)(e d:List Rat)(K S T:Nat)(w:World)(h:kE w x g e d)(hP:x.d.n≤49)(hk:DnK K x.d.n d)(hE:x.e.n≤25)(fe:FrB S e)(hS:S≤10000)(zg:Sz T g)(hT:T≤10000) :
  aq 41 [x.v] w FE (FEP (yu g e x.p d)):=by
 obtain ⟨⟨gn,ga,gl,gc,gb,gm,gd⟩,⟨ea,en,ec⟩,p,⟨da,dn,dc⟩⟩:=x;have HX:=Hi (Ext.refl w);have HR:=Hi h;have RG:=Hi h.1;have LE:=Hi h.2.1;have LD:=Hi h.2.2;have HEn:=Hi h.2.1.len;have HDn:=Hi h.2.2.len;have HK:=Hi hk;have FE':=Hi fe;have ZG:=Hi zg;simp only at hP hE RG LE LD HEn HDn HK;clear h hk fe zg;unfold aq;go_enter Tryz.func41,Tryz.ntmps41
 go_upto_region 1 with fail
 refine ji ?_;intro w1 hE B1 B2 hz_w1 hr_w1;refine mV5 hE ?_ HX HR RG LE LD;clear HX HR RG LE LD;intro HX HR RG LE LD;have hs_w1:=hE.size;clear hE;replace b_B1:=bX3 B1;replace b_B2:=bX3 B2
 go_wp2_with fail
 refine cM (kO ⟨⟨gn,ga,gl,gc,gb,gm,gd⟩,⟨ea,en,ec⟩,p,⟨da,dn,dc⟩⟩ g e d K _ HR.out hP HK.out) fun x2 w2 hE _=>?_
 refine mV7 hE ?_ B1 B2 HX HR RG LE LD;clear B1 B2 HX HR RG LE LD;intro B1 B2 HX HR RG LE LD;have hs_w2:=hE.size;clear hE;replace b_B1:=bX3 B1;replace b_B2:=bX3 B2;obtain ⟨v,hv⟩:∃ v,v=cU g e p d:=⟨_,rfl⟩;have HV:=Hi hv;rw [show cU g e (PH.p ⟨⟨gn,ga,gl,gc,gb,gm,gd⟩,⟨ea,en,ec⟩,p,⟨da,dn,dc⟩⟩) d=v from hv.symm];clear hv;clear HR;cases v
 ·have HQ:Hid (yu g e p d=(2,[],[])):=Hi (by unfold yu;rw [←HV.out];rfl);go_wp2;clear RG;clear LE;clear LD;refine sI (F:=fun W=>bodyPost _ _ _ _ _ W) B2.out rfl ?_;intro w3 T;replace HX:=Hi (T.ext HX.out (by omega));replace B1:=Hi (T.rest _ _ (by omega) B1.out);replace B2:=Hi (T.bx);have hs_w3:=nle T.size;have hr_w3:=nle T.size.symm;clear T;replace b_B1:=bX3 B1;replace b_B2:=bX3 B2;exact bodyPost_ret (v:=FE (⟨⟨none,0,0⟩,⟨none,0,0⟩⟩,2)) (by simp [results,Tryz.results41,go_sem,b_B2.1,FE]) rfl ⟨(⟨⟨none,0,0⟩,⟨none,0,0⟩⟩,2),rfl,HX.out,by rw [HQ.out];exact ⟨rfl,wR _⟩⟩
 obtain ⟨hp0,hp1⟩:=uO HV.out.symm;obtain ⟨k,rfl⟩:∃ k:Nat,p=(k:Nat):=⟨p.toNat,by omega⟩;have hk48:k≤48:=by omega
 have HQ:Hid (yu g e (k:Nat) d=(0,tz ((ar (ar e e) (bI plQ k)).map (·*g)),tz d)):=Hi (by unfold yu;rw [←HV.out,if_pos rfl,Int.toNat_natCast]);have F1:Hid (FrB (2*S+1) (ar e e)):=Hi ((FE'.out.mul FE'.out (by have:=HEn.out;omega)).mono (by omega));have N1:Hid ((ar e e).length≤50):=Hi (nXe (bf (n:=25) (m:=25) (by rw [HEn.out];exact hE) (by rw [HEn.out];exact hE)) (by decide));have F2:Hid (FrB 99 (bI plQ k)):=Hi (sC hk48);have N2:Hid ((bI plQ k).length≤49):=Hi (nXe (fI k) (by omega));have F3:Hid (FrB (2*S+101) (ar (ar e e) (bI plQ k))):=Hi ((F1.out.mul F2.out (by have:=N1.out;omega)).mono (by omega));have N3:Hid ((ar (ar e e) (bI plQ k)).length≤98):=Hi (nXe (bf N1.out N2.out) (by decide));clear HV hp0 hp1
 go_upto_region 3 with fail
 refine wpG 9 (fun opIx=>match opIx with
  | 4=>.spec (SH) (default) (SH.v) (fun x w'=>aJ w' x (ar e e))
  | 7=>.spec (SH) (default) (SH.v) (fun x w'=>aJ w' x (bI plQ k))
  | 8=>.spec (SH) (default) (SH.v) (fun x w'=>aJ w' x (ar (ar e e) (bI plQ k)))
  | _=>.quiet) (fun|8=>[4,7]|_=>[]) fun w0 he0 hz0 hc0 hf0=>?_
 refine wps he0.out rfl rfl (fun w1 hW hG=>?_) fun x30=>?_
 ·exact spc [.slice ea en ec,.slice ea en ec] Tryz.func100 ((d9 ea ea en ec en ec e e S S _ (LE.out.ext hW) (LE.out.ext hW) (by omega) (by omega) FE'.out FE'.out (by omega)).weak (fun _ _ _ h=>h.can))
 refine qZ ?_;refine wps he0.out rfl rfl (fun w1 hW hG=>?_) fun x31=>?_
 ·exact spc [.int .i64 (k:Nat)] Tryz.func101 (cX k _ hk48)
 refine qZ ?_;refine wps he0.out rfl rfl (fun w1 hW hG=>?_) fun x32=>?_
 ·have g30:=(hG 4 (by decide):av _ _).get fun _ e g=>g.ext e
  have g31:=(hG 7 (by decide):av _ _).get fun _ e g=>g.ext e
  exact spc [x30.v,x31.v] Tryz.func100 ((d9 x30.a x31.a x30.n x30.c x31.n x31.c _ _ (2*S+1) 99 _ (g30.raw F1.out.sz (by omega)) (g31.raw F2.out.sz (by decide)) (by have h:=g30.len;have h2:=N1.out;omega) (by have h:=g31.len;have h2:=N2.out;omega) F1.out F2.out (by omega)).weak (fun _ _ _ h=>h.can))
 refine qZ ?_;refine ak ?_;intro w3 hI;have hE:=he0.out.trans hI.ext;have G30:=gT (hI.facts 4);have G31:=gT (hI.facts 7);have G32:=gT (hI.facts 8);clear hI he0 hz0 hc0 hf0;refine mV6 hE ?_ RG LD HX B1 B2 LE;clear RG LD HX B1 B2 LE;intro RG LD HX B1 B2 LE;have hs_w3:=hE.size;clear hE;replace b_B1:=bX3 B1;replace b_B2:=bX3 B2;simp only [pD];obtain ⟨ma,mn,mc⟩:=x32;have LM:=Hi G32.out;clear G30 G31 G32;have hmn:mn≤98:=by have h:=LM.out.len;have h2:=N3.out;simp only at h;omega
 simp only [SH.v]
 go_upto_region 4 with fail
 refine wpG 8 (fun opIx=>match opIx with
  | 3=>.spec (SH) (default) (SH.v) (fun x w'=>aJ w' x (tz ((ar (ar e e) (bI plQ k)).map (·*g))))
  | 6=>.spec (SH) (default) (SH.v) (fun x w'=>aJ w' x (tz d))
  | _=>.quiet) (fun _=>[]) fun w0 he0 hz0 hc0 hf0=>?_
 refine wps he0.out rfl rfl (fun w1 hW hG=>?_) fun x40=>?_
 ·exact spc [.slice ma mn mc,RH.v ⟨gn,ga,gl,gc,gb,gm,gd⟩] Tryz.func102 ((br ma mn mc (ar (ar e e) (bI plQ k)) ⟨gn,ga,gl,gc,gb,gm,gd⟩ g _ ((LM.out.ext hW).raw F3.out.sz (by omega)) (RG.out.ext hW) (by omega) (F3.out.sz.mono (by omega)) (ZG.out.mono (by omega))).weak (fun _ _ _ h=>h.can))
 refine qZ ?_;refine wps he0.out rfl rfl (fun w1 hW hG=>?_) fun x41=>?_
 ·exact spc [.slice da dn dc] Tryz.func103 ((mT da dn dc d _ (LD.out.ext hW) (by omega)).weak (fun _ _ _ h=>h.can))
 refine qZ ?_;refine ak ?_;intro w4 hI;have hE:=he0.out.trans hI.ext;have G40:=gT (hI.facts 3);have G41:=gT (hI.facts 6);clear hI he0 hz0 hc0 hf0;refine mV7 hE ?_ HX B1 B2 LE LM RG LD;clear HX B1 B2 LE LM RG LD;intro HX B1 B2 LE LM RG LD;have hs_w4:=hE.size;clear hE;replace b_B1:=bX3 B1;replace b_B2:=bX3 B2;simp only [pD];obtain ⟨ua,un,uc⟩:=x40;obtain ⟨va,vn,vc⟩:=x41;simp only [SH.v];go_wp2;refine sI (F:=fun W=>bodyPost _ _ _ _ _ W) B2.out rfl ?_;intro w5 T;have L1:=Hi (G40.out.put2 B2.out T);have L2:=Hi (G41.out.put2 B2.out T);clear G40 G41;clear RG;clear LE;clear LD;clear LM;replace HX:=Hi (T.ext HX.out (by omega));replace B1:=Hi (T.rest _ _ (by omega) B1.out);replace B2:=Hi (T.bx);have hs_w5:=nle T.size;have hr_w5:=nle T.size.symm;clear T;replace b_B1:=bX3 B1;replace b_B2:=bX3 B2;exact bodyPost_ret (v:=FE (⟨⟨ua,un,uc⟩,⟨va,vn,vc⟩⟩,0)) (by simp [results,Tryz.results41,go_sem,b_B2.1,FE]) rfl ⟨(⟨⟨ua,un,uc⟩,⟨va,vn,vc⟩⟩,0),rfl,HX.out,by rw [HQ.out];exact ⟨rfl,L1.out,L2.out⟩⟩
end Go.Proofs.YtafgmcimcbhhjaaGreat
/- The squared magnitude as a form of two sequences: it is found from the squares. Plain facts. -/
namespace Go.Proofs.YtafgmcimcbhhjaaGreat
open Go.RowKit Go.Front Go.Num Stab
def cc(N:Nat)(u v:Nat→Rat)(k:Nat):Rat:=sm N (fun i=>u i*v (i+k))
def ttM(x:Rat):Nat→Rat×Rat
 | 0=>(1,0)
 | n+1=>(x*(ttM x n).1-(1-x*x)*(ttM x n).2,x*(ttM x n).2+(ttM x n).1)
def iv(p:List Rat)(x:Rat)(N:Nat):Rat:=sm N (fun i=>seq p i*(ttM x i).2)
theorem zA(p q:List Rat)(x:Rat):evV (subV p q) x=evV p x-evV q x:=by
 unfold subV;rw [Sg.ev_add5];have h:evV (q.map (fun y=>-y)) x=-1*evV q x:=gG (fun n=>by
  show (q.map (fun y=>-y)).getD n 0=-1*q.getD n 0;rw [nXc,nXc,nXu];cases q[n]? with
  | none=>show (0:Rat)=-1*0;grind
  | some v=>show -v=-1*v;grind) x
 rw [h];grind
theorem yA{p:List Rat}{k:Rat}(hk:0<k)(h:∀ x,-1≤x→x≤1→k≤evV p x):uM p (-1) 1=true:=by
 have h0:=h (-1) (by decide) (by decide);have hz:tz p≠[]:=fun e=>by have:=Sg.ev_tznil.1 e (-1);grind
 unfold uM;rw [if_neg hz,vW (by decide),wo (by decide),decide_eq_true_eq];refine ⟨Sg.cnt6_on hk (-1) 1 (by decide) (fun x hx hy=>by rw [tF];exact h x hx hy),?_⟩;rw [Sg.sg_pos (show 0<evV p (-1) by grind)];decide
end Go.Proofs.YtafgmcimcbhhjaaGreat
/- What Nonnegative and Positive say of the values. Plain facts. -/
namespace Go.Proofs.YtafgmcimcbhhjaaGreat.Sg
open Go.RowKit Go.Front Go.Num Go.Stab Go.Proofs.YtafgmcimcbhhjaaGreat
theorem np(l:List Rat)(x:Rat):evV (tz l) x=evV l x:=(gG (c:=1) (fun i=>by rw [aS,Rat.one_mul]) x).trans (Rat.one_mul _)
theorem Cp.mulr{a b c:Rat→Rat}(h:Cp a b)(k:Cp a c)(ha:Pf a)(hb:Pf b)(hc:Pf c):Cp a (fun x=>b x*c x):=by
 obtain ⟨u,v,hu,hv,e⟩:=h;obtain ⟨u',v',hu',hv',e'⟩:=k;refine ⟨fun x=>u x*(u' x*a x+v' x*c x)+v x*b x*u' x,fun x=>v x*v' x,(hu.mul ((hu'.mul ha).add (hv'.mul hc))).add ((hv.mul hb).mul hu'),hv.mul hv',fun x=>?_⟩;have e1:=e x;have e2:=e' x;show (u x*(u' x*a x+v' x*c x)+v x*b x*u' x)*a x+v x*v' x*(b x*c x)=1;have:(u x*(u' x*a x+v' x*c x)+v x*b x*u' x)*a x+v x*v' x*(b x*c x)=(u x*a x+v x*b x)*(u' x*a x+v' x*c x):=by grind
 rw [this,e1,e2,Rat.mul_one]
theorem ep(p:List Rat)(k:Nat)(x:Rat):evV (bI p k) x=evV p x ^ k:=by
 induction k with
 | zero=>show 0*x+((1:Int):Rat)=_;rw [Rat.pow_zero];have:((1:Int):Rat)=1:=rfl;grind
 | succ k ih=>show evV (ar (bI p k) p) x=_;rw [aI,ih,Rat.pow_succ]
theorem jm(l:List Rat)(c x:Rat):evV (scP l c) x=c*evV l x:=by unfold scP;rw [np,bG]
theorem gH(x:Rat):evV plQ x=1+x:=by show (0*x+((1:Int):Rat))*x+((1:Int):Rat)=_;have:((1:Int):Rat)=1:=rfl;grind
theorem iM(x:Rat):evV miQ x=1-x:=by show (0*x+((-1:Int):Rat))*x+((1:Int):Rat)=_;have h1:((1:Int):Rat)=1:=rfl;have h2:((-1:Int):Rat)=-1:=rfl;grind
def hm(g:List Rat)(n:Nat)(a z:Rat):Nat→Rat
 | 0=>0
 | j+1=>hm g n a z j+g.getD j 0*a ^ j*z ^ (n-j)
theorem xC(a b:Rat)(k:Nat):(a*b) ^ k=a ^ k*b ^ k:=by
 induction k with
 | zero=>rw [Rat.pow_zero,Rat.pow_zero,Rat.pow_zero,Rat.mul_one]
 | succ k ih=>rw [Rat.pow_succ,Rat.pow_succ,Rat.pow_succ,ih];grind
theorem kr(A B g:List Rat)(n:Nat)(c x:Rat)(j:Nat):evV (iH A B g n c j) x=hm g n (c*evV A x) (evV B x) j:=by
 induction j with
 | zero=>rfl
 | succ j ih =>
  show evV (bg (iH A B g n c j) (tz ((oA A B n j).map (·*(g.getD j 0*c ^ j))))) x=hm g n (c*evV A x) (evV B x) j+g.getD j 0*(c*evV A x) ^ j*evV B x ^ (n-j);rw [ev_add5,ih,np,bG];unfold oA;rw [aI,ep,ep,xC];grind
theorem C6:sqP 1=[0,1]:=by decide +kernel
theorem C5:sqP 2=[1,-4,4]:=by decide +kernel
theorem CZ:sqP 3=[0,9,-24,16]:=by decide +kernel
theorem CY:sqP 4=[1,-16,80,-128,64]:=by decide +kernel
theorem CX:sqP 5=[0,25,-200,560,-640,256]:=by decide +kernel
theorem Di:rtP 1=[1]:=by decide +kernel
theorem Dh:rtP 2=[-1,2]:=by decide +kernel
theorem Dg:rtP 3=[-3,4]:=by decide +kernel
theorem Df:rtP 4=[1,-8,8]:=by decide +kernel
theorem De:rtP 5=[5,-20,16]:=by decide +kernel
def rV(n:Nat)(a z:Rat):Rat:=if n=1 then 1 else if n=2 then 2*a-z else if n=3 then 4*a-3*z else if n=4 then 8*a*a-8*a*z+z*z else 16*a*a-20*a*z+5*z*z
def wV(n:Nat)(a z:Rat):Rat:=(if n % 2=1 then a else 1)*(rV n a z*rV n a z)
def lV(n:Nat)(a z:Rat):Rat:=if n=1 then 1 else if n=2 then 4*a else if n=3 then (z-4*a)*(z-4*a) else if n=4 then 16*a*((2*a-z)*(2*a-z)) else (16*a*a-12*a*z+z*z)*(16*a*a-12*a*z+z*z)
theorem Ar{n:Nat}(h1:1≤n)(h5:n≤5):n=1∨n=2∨n=3∨n=4∨n=5:=by omega
theorem jT(a:Rat):a ^ 0=1:=Rat.pow_zero ..
theorem i6(a:Rat):a ^ 1=a:=by rw [show (1:Nat)=0+1 from rfl,Rat.pow_succ,Rat.pow_zero];grind
theorem nH(a:Rat):a ^ 2=a*a:=by rw [show (2:Nat)=1+1 from rfl,Rat.pow_succ,i6]
theorem xv(a:Rat):a ^ 3=a*a*a:=by rw [show (3:Nat)=2+1 from rfl,Rat.pow_succ,nH]
theorem Ap(a:Rat):a ^ 4=a*a*a*a:=by rw [show (4:Nat)=3+1 from rfl,Rat.pow_succ,xv]
theorem Co(a:Rat):a ^ 5=a*a*a*a*a:=by rw [show (5:Nat)=4+1 from rfl,Rat.pow_succ,Ap]
theorem wg{n:Nat}(h1:1≤n)(h5:n≤5)(a z:Rat):hm (sqP n) n a z (sqP n).length=wV n a z:=by
 rcases Ar h1 h5 with rfl|rfl|rfl|rfl|rfl
 ·rw [C6];show 0+(0:Rat)*a ^ 0*z ^ 1+(1:Rat)*a ^ 1*z ^ 0=a*(1*1);rw [jT,i6,i6,jT];grind
 ·rw [C5];show 0+(1:Rat)*a ^ 0*z ^ 2+(-4:Rat)*a ^ 1*z ^ 1+(4:Rat)*a ^ 2*z ^ 0=1*((2*a-z)*(2*a-z));rw [jT,i6,i6,jT,nH,nH];grind
 ·rw [CZ];show 0+(0:Rat)*a ^ 0*z ^ 3+(9:Rat)*a ^ 1*z ^ 2+(-24:Rat)*a ^ 2*z ^ 1+(16:Rat)*a ^ 3*z ^ 0=a*((4*a-3*z)*(4*a-3*z));rw [jT,i6,i6,jT,nH,nH,xv,xv];grind
 ·rw [CY];show 0+(1:Rat)*a ^ 0*z ^ 4+(-16:Rat)*a ^ 1*z ^ 3+(80:Rat)*a ^ 2*z ^ 2+(-128:Rat)*a ^ 3*z ^ 1+(64:Rat)*a ^ 4*z ^ 0=1*((8*a*a-8*a*z+z*z)*(8*a*a-8*a*z+z*z));rw [jT,i6,i6,jT,nH,nH,xv,xv,Ap,Ap];grind
 ·rw [CX];show 0+(0:Rat)*a ^ 0*z ^ 5+(25:Rat)*a ^ 1*z ^ 4+(-200:Rat)*a ^ 2*z ^ 3+(560:Rat)*a ^ 3*z ^ 2+(-640:Rat)*a ^ 4*z ^ 1+(256:Rat)*a ^ 5*z ^ 0=a*((16*a*a-20*a*z+5*z*z)*(16*a*a-20*a*z+5*z*z));rw [jT,i6,i6,jT,nH,nH,xv,xv,Ap,Ap,Co,Co];grind
theorem Cx{n:Nat}(h1:1≤n)(h5:n≤5)(a z:Rat):hm (rtP n) (n / 2) a z (rtP n).length=rV n a z:=by
 rcases Ar h1 h5 with rfl|rfl|rfl|rfl|rfl
 ·rw [Di];show 0+(1:Rat)*a ^ 0*z ^ 0=1;rw [jT,jT];grind
 ·rw [Dh];show 0+(-1:Rat)*a ^ 0*z ^ 1+(2:Rat)*a ^ 1*z ^ 0=2*a-z;rw [jT,i6,i6,jT];grind
 ·rw [Dg];show 0+(-3:Rat)*a ^ 0*z ^ 1+(4:Rat)*a ^ 1*z ^ 0=4*a-3*z;rw [jT,i6,i6,jT];grind
 ·rw [Df];show 0+(1:Rat)*a ^ 0*z ^ 2+(-8:Rat)*a ^ 1*z ^ 1+(8:Rat)*a ^ 2*z ^ 0=8*a*a-8*a*z+z*z;rw [jT,i6,i6,jT,nH,nH];grind
 ·rw [De];show 0+(5:Rat)*a ^ 0*z ^ 2+(-20:Rat)*a ^ 1*z ^ 1+(16:Rat)*a ^ 2*z ^ 0=16*a*a-20*a*z+5*z*z;rw [jT,i6,i6,jT,nH,nH];grind
theorem rD{n:Nat}(h1:1≤n)(h5:n≤5)(a z:Rat):z ^ n-wV n a z=(z-a)*lV n a z:=by
 rcases Ar h1 h5 with rfl|rfl|rfl|rfl|rfl
 ·show z ^ 1-a*(1*1)=(z-a)*1;rw [i6];grind
 ·show z ^ 2-1*((2*a-z)*(2*a-z))=(z-a)*(4*a);rw [nH];grind
 ·show z ^ 3-a*((4*a-3*z)*(4*a-3*z))=(z-a)*((z-4*a)*(z-4*a));rw [xv];grind
 ·show z ^ 4-1*((8*a*a-8*a*z+z*z)*(8*a*a-8*a*z+z*z))=(z-a)*(16*a*((2*a-z)*(2*a-z)));rw [Ap];grind
 ·show z ^ 5-a*((16*a*a-20*a*z+5*z*z)*(16*a*a-20*a*z+5*z*z))=(z-a)*((16*a*a-12*a*z+z*z)*(16*a*a-12*a*z+z*z));rw [Co];grind
theorem C8{n:Nat}{a:Rat}(z:Rat)(ha:0≤a):0≤lV n a z:=by
 unfold lV;split
 ·decide
 ·split
  ·grind
  ·split
   ·exact lD _
   ·split
    ·exact gU (by grind) (lD _)
    ·exact lD _
theorem CT{n:Nat}{a:Rat}(z:Rat)(ha:0≤a):0≤wV n a z:=by
 unfold wV;refine gU ?_ (lD _);split
 ·exact ha
 ·decide
theorem kR{a:Rat}(h:0≤a)(n:Nat):0≤a ^ n:=Rat.pow_nonneg h
theorem wY{n:Nat}(h1:1≤n)(h5:n≤5)(z:Rat):wV n z z=z ^ n:=by
 have:=rD h1 h5 z z;grind
theorem AT{n:Nat}(h1:1≤n)(h5:n≤5)(z:Rat):rV n z z=z ^ (n / 2):=by
 rcases Ar h1 h5 with rfl|rfl|rfl|rfl|rfl
 ·show (1:Rat)=z ^ 0;rw [jT]
 ·show 2*z-z=z ^ 1;rw [i6];grind
 ·show 4*z-3*z=z ^ 1;rw [i6];grind
 ·show 8*z*z-8*z*z+z*z=z ^ 2;rw [nH];grind
 ·show 16*z*z-20*z*z+5*z*z=z ^ 2;rw [nH];grind
theorem Cp.powr{a b:Rat→Rat}(h:Cp a b)(pa:Pf a)(pb:Pf b)(n:Nat):Cp a (fun x=>b x ^ n):=by
 induction n with
 | zero=>exact ⟨fun _=>0,fun _=>1,Pf.const 0,Pf.const 1,fun x=>by show 0*a x+1*(b x ^ 0)=1;rw [Rat.pow_zero];grind⟩
 | succ n ih =>
  have:=ih.mulr h pa (pb.pow n) pb;rw [show (fun x=>b x ^ (n+1))=fun x=>b x ^ n*b x from funext fun x=>Rat.pow_succ _ _];exact this
theorem Cp.change{a b e o:Rat→Rat}{p q r s:Rat}(h:Cp a b)(ha:∀ x,a x=p*e x+q*o x)(hb:∀ x,b x=r*e x+s*o x):Cp e o:=by
 obtain ⟨u,v,hu,hv,h1⟩:=h;refine ⟨_,_,(hu.smul p).add (hv.smul r),(hu.smul q).add (hv.smul s),fun x=>?_⟩;have:=h1 x;rw [ha,hb] at this;show (p*u x+r*v x)*e x+(q*u x+s*v x)*o x=1;grind
theorem Cp.smulr{a b:Rat→Rat}{k:Rat}(h:Cp a b)(hk:k≠0):Cp a (fun x=>k*b x) :=
 h.change (p:=1) (q:=0) (r:=0) (s:=1 / k) (fun x=>by grind) (fun x=>by have:=aE (a:=1) (b:=k) hk;grind)
theorem nQ{a b:Rat→Rat}(h:Cp a b)(ha:∀ x,-1≤x→x≤1→0≤a x)(hb:∀ x,-1≤x→x≤1→0≤b x):∃ k,0<k∧∀ x,-1≤x→x≤1→k≤a x+b x:=by
 obtain ⟨d,hd,h1⟩:=h.bound (-1) 1;refine ⟨d,hd,fun x h2 h3=>?_⟩;have a1:=ha x h2 h3;have b1:=hb x h2 h3;rcases h1 x h2 h3 with (k|k)|(k|k) <;> grind
theorem BK:Cp (fun x=>1+x) (fun x=>1-x):=⟨fun _=>1 / 2,fun _=>1 / 2,Pf.const _,Pf.const _,fun x=>by have:=aE (a:=1) (b:=2) (by decide);grind⟩
theorem Cf:Pf (fun x=>1+x):=⟨plQ,funext fun x=>(gH x).symm⟩
theorem AX:Pf (fun x=>1-x):=⟨miQ,funext fun x=>(iM x).symm⟩
theorem Cp.addq{a b c q:Rat→Rat}(h:Cp a b)(pq:Pf q)(hc:∀ x,c x=b x+a x*q x):Cp a c:=by
 obtain ⟨u,v,hu,hv,h1⟩:=h;refine ⟨_,v,hu.sub (hv.mul pq),hv,fun x=>?_⟩;have:=h1 x;rw [hc];show (u x-v x*q x)*a x+v x*(b x+a x*q x)=1;grind
theorem Db{n:Nat}(h1:1≤n)(h5:n≤5){z a:Rat→Rat}(pz:Pf z)(pa:Pf a)(h:Cp z a):Cp z (fun x=>wV n (a x) (z x)):=by
 have hr:Cp z (fun x=>rV n (a x) (z x))∧Pf (fun x=>rV n (a x) (z x)):=by
  rcases Ar h1 h5 with rfl|rfl|rfl|rfl|rfl
  ·exact ⟨⟨fun _=>0,fun _=>1,Pf.const 0,Pf.const 1,fun x=>by show 0*_+1*(1:Rat)=1;grind⟩,Pf.const 1⟩
  ·exact ⟨(h.smulr (k:=2) (by decide)).addq (q:=fun _=>-1) (Pf.const _) (fun x=>by show 2*a x-z x=_;grind),((pa.smul 2).sub pz)⟩
  ·exact ⟨(h.smulr (k:=4) (by decide)).addq (q:=fun _=>-3) (Pf.const _) (fun x=>by show 4*a x-3*z x=_;grind),((pa.smul 4).sub (pz.smul 3))⟩
  ·exact ⟨((h.mulr h pz pa pa).smulr (k:=8) (by decide)).addq (q:=fun x=>z x-8*a x) (pz.sub (pa.smul 8)) (fun x=>by show 8*a x*a x-8*a x*z x+z x*z x=_;grind),(((pa.smul 8).mul pa).sub ((pa.smul 8).mul pz)).add (pz.mul pz)⟩
  ·exact ⟨((h.mulr h pz pa pa).smulr (k:=16) (by decide)).addq (q:=fun x=>5*z x-20*a x) ((pz.smul 5).sub (pa.smul 20)) (fun x=>by show 16*a x*a x-20*a x*z x+5*z x*z x=_;grind),(((pa.smul 16).mul pa).sub ((pa.smul 20).mul pz)).add ((pz.smul 5).mul pz)⟩
 have hrr:=hr.1.mulr hr.1 pz hr.2 hr.2;by_cases hn:n % 2=1
 ·have:=h.mulr hrr pz pa (hr.2.mul hr.2);rw [show (fun x=>wV n (a x) (z x))=fun x=>a x*(rV n (a x) (z x)*rV n (a x) (z x)) from funext fun x=>by unfold wV;rw [if_pos hn]];exact this
 ·rw [show (fun x=>wV n (a x) (z x))=fun x=>rV n (a x) (z x)*rV n (a x) (z x) from funext fun x=>by unfold wV;rw [if_neg hn,Rat.one_mul]];exact hrr
structure Prf (inv:Bool) (e0 r:Rat) (g:Rat) (e:List Rat) (p:Int) (d:List Rat):Prop where
 val:cU g e p d=true
 low:∃ k:Rat,0<k∧∀ x,-1≤x→x≤1→k≤evV d x
 nn:∀ x,-1≤x→x≤1→0≤g*(evV e x*evV e x*(1+x) ^ p.toNat)
 le:∀ x,-1≤x→x≤1→g*(evV e x*evV e x*(1+x) ^ p.toNat)≤evV d x
 edge:(1+r)*(g*(evV e e0*evV e e0*(1+e0) ^ p.toNat))=(if inv=true then r else 1)*evV d e0
 band:inv=false→∀ x,e0≤x→x≤1→evV d x≤(1+r)*(g*(evV e x*evV e x*(1+x) ^ p.toNat))
 stop:inv=true→∀ x,-1≤x→x≤e0→(1+r)*(g*(evV e x*evV e x*(1+x) ^ p.toNat))≤r*evV d x
theorem fU{e:Rat}(h1:-1<e)(h2:e<1):0<aG e∧aG e*(1-e)=1+e:=by
 have h0:((1:Int):Rat)=1:=rfl;unfold aG;rw [h0];exact ⟨pY (by grind) (by grind),aE (by grind)⟩
theorem rF{g:Rat}{e d:List Rat}{p:Int}(hg:0<g)(h0:0≤p)(h1:p≤48)(he:tz e≠[])(hl:(tz e).length≤25)(hd:(tz d).length≤49){k:Rat}(hk:0<k)(h:∀ x,-1≤x→x≤1→k≤evV d x):cU g e p d=true:=by
 rw [oU ⟨hg,h0,h1,he,hl,hd⟩];exact yA hk h
theorem Bq(x:Rat):evV [((1:Int):Rat)] x=1:=by show 0*x+((1:Int):Rat)=1;have:((1:Int):Rat)=1:=rfl;grind
theorem Ba:tz [((1:Int):Rat)]≠[]:=by decide
theorem pQ{n:Nat}{e0 r:Rat}{d:List Rat}{B:Rat→Rat}(h1:1≤n)(h5:n≤5)(he:-1<e0∧e0<1)(hr:0<r)(hd:∀ x,evV d x=(1+x) ^ n+r*B x)(hdl:d.length≤49)(pB:Pf B)(hcp:Cp (fun x=>1+x) B)(hB:∀ x,-1≤x→x≤1→0≤B x)(hB2:∀ x,e0≤x→x≤1→B x≤(1+x) ^ n)(hB3:B e0=(1+e0) ^ n) :
  Prf false e0 r ((1:Int):Rat) [((1:Int):Rat)] (n:Int) d:=by
 have hc:Cp (fun x=>r*B x) (fun x=>(1+x) ^ n):=Cp.powr (Cp.symm (hcp.smulr (by grind))) (pB.smul r) Cf n;obtain ⟨k,hk,hl⟩:=nQ (Cp.symm hc) (fun x h2 h3=>kR (by grind) n) (fun x h2 h3=>gU (Rat.le_of_lt hr) (hB x h2 h3));have hA:∀ x,((1:Int):Rat)*(evV [((1:Int):Rat)] x*evV [((1:Int):Rat)] x*(1+x) ^ (n:Int).toNat)=(1+x) ^ n:=fun x=>by
  rw [Bq,Int.toNat_natCast];have:((1:Int):Rat)=1:=rfl;grind
 have hl2:∀ x,-1≤x→x≤1→k≤evV d x:=fun x h2 h3=>by rw [hd];exact hl x h2 h3
 refine ⟨rF (by decide) (by omega) (by omega) Ba (by decide) (nXe (ah d) hdl) hk hl2,⟨k,hk,hl2⟩,fun x h2 h3=>?_,fun x h2 h3=>?_,?_,fun _ x h2 h3=>?_,fun h=>absurd h (by decide)⟩
 ·rw [hA];exact kR (by grind) n
 ·rw [hA,hd];have:=gU (Rat.le_of_lt hr) (hB x h2 h3);grind
 ·rw [hA,hd,hB3,if_neg (by decide)];grind
 ·rw [hA,hd];have:=cO (hB2 x h2 h3) (Rat.le_of_lt hr);grind
theorem nZ{c:Rat}(hc:c≠0):Cp (fun x=>1+x) (fun x=>c*(1-x)):=BK.smulr hc
theorem zP{c e0 x:Rat}(hc:0<c)(hce:c*(1-e0)=1+e0)(hx:e0≤x):c*(1-x)≤1+x:=by
 have:=cO hx (Rat.le_of_lt hc);grind
theorem Cn{a b:Rat}(ha:0≤a)(h:a≤b)(n:Nat):a ^ n≤b ^ n:=by
 induction n with
 | zero=>rw [Rat.pow_zero,Rat.pow_zero];exact Rat.le_refl
 | succ n ih =>
  rw [Rat.pow_succ,Rat.pow_succ];have h1:=fK ih ha;have h2:=cO h (kR (show 0≤b by grind) n);grind
theorem rt{n:Nat}{e0 r:Rat}(h1:1≤n)(h5:n≤5)(he:-1<e0∧e0<1)(hr:0<r):Prf false e0 r ((1:Int):Rat) [((1:Int):Rat)] (n:Int) (buD n e0 r):=by
 obtain ⟨hc,hce⟩:=fU he.1 he.2;have hc0:aG e0≠0:=fun h=>by rw [h] at hc;exact absurd hc Rat.lt_irrefl
 have hev:∀ x,evV (buD n e0 r) x=(1+x) ^ n+r*(aG e0*(1-x)) ^ n:=fun x=>by
  unfold buD;rw [ev_add5,ep,jm,ep,gH,iM,xC];grind
 have hlen:(buD n e0 r).length≤49:=nXe (cw (n:=n+1) (fI n) (bR _ _ (fo n))) (by omega);refine pQ h1 h5 he hr hev hlen ((AX.smul _).pow n) (Cp.powr (nZ hc0) Cf (AX.smul _) n) (fun x h2 h3=>kR (gU (Rat.le_of_lt hc) (by grind)) n) (fun x h2 h3=>Cn (gU (Rat.le_of_lt hc) (by grind)) (zP hc hce h2) n) ?_;show (aG e0*(1-e0)) ^ n=(1+e0) ^ n;rw [hce]
theorem wP{n:Nat}{e0 r:Rat}(h1:1≤n)(h5:n≤5)(he:-1<e0∧e0<1)(hr:0<r):Prf false e0 r ((1:Int):Rat) [((1:Int):Rat)] (n:Int) (chD n e0 r):=by
 obtain ⟨hc,hce⟩:=fU he.1 he.2;have hc0:aG e0≠0:=fun h=>by rw [h] at hc;exact absurd hc Rat.lt_irrefl
 have hev:∀ x,evV (chD n e0 r) x=(1+x) ^ n+r*wV n (aG e0*(1-x)) (1+x):=fun x=>by
  unfold chD chW;rw [ev_add5,ep,jm,kr,gH,iM,wg h1 h5]
 have hlen:(chD n e0 r).length≤49:=nXe (cw (n:=n+1) (fI n) (bR _ _ (dF bD bB _ _ n _ (fy (by omega))))) (by omega);have hy:∀ x,x≤1→0≤aG e0*(1-x):=fun x h=>gU (Rat.le_of_lt hc) (by grind)
 refine pQ h1 h5 he hr hev hlen ?_ (Db h1 h5 Cf (AX.smul _) (nZ hc0)) (fun x h2 h3=>CT _ (hy x h3)) (fun x h2 h3=>?_) ?_
 ·refine ⟨iH miQ plQ (sqP n) n (aG e0) (sqP n).length,funext fun x=>?_⟩;rw [kr,gH,iM,wg h1 h5]
 ·have k1:=rD h1 h5 (aG e0*(1-x)) (1+x);have k2:=gU (show 0≤1+x-aG e0*(1-x) by have:=zP hc hce h2;grind) (C8 (n:=n) (1+x) (hy x h3));rw [←k1] at k2;grind
 ·show wV n (aG e0*(1-e0)) (1+e0)=_;rw [hce,wY h1 h5]
theorem zf{n:Nat}{e0 r:Rat}(h1:1≤n)(h5:n≤5)(he:-1<e0∧e0<1)(hr:0<r):Prf true e0 r (inQ n e0 r) (inE n e0) ((n % 2:Nat):Int) (inD n e0 r):=by
 obtain ⟨hc,hce⟩:=fU he.1 he.2;have hc0:aG e0≠0:=fun h=>by rw [h] at hc;exact absurd hc Rat.lt_irrefl
 have hb:0<bkV e0:=by unfold bkV;exact pY (by decide) hc
 have hbc:bkV e0*aG e0=1:=by unfold bkV;rw [aE hc0];rfl
 have hbe:bkV e0*(1+e0)=1-e0:=by rw [←hce];grind
 have hbz:∀ x,-1≤x→0≤bkV e0*(1+x):=fun x h=>gU (Rat.le_of_lt hb) (by grind)
 have hev:∀ x,evV (inD n e0 r) x=(1-x) ^ n+r*wV n (bkV e0*(1+x)) (1-x):=fun x=>by
  unfold inD inW;rw [ev_add5,ep,jm,kr,gH,iM,wg h1 h5]
 have heE:∀ x,evV (inE n e0) x=rV n (bkV e0*(1+x)) (1-x):=fun x=>by
  unfold inE;rw [kr,gH,iM,Cx h1 h5]
 have hA:∀ x,inQ n e0 r*(evV (inE n e0) x*evV (inE n e0) x*(1+x) ^ ((n % 2:Nat):Int).toNat)=r*wV n (bkV e0*(1+x)) (1-x):=fun x=>by
  rw [heE,Int.toNat_natCast];unfold inQ wV;by_cases hn:n % 2=1
  ·rw [if_pos hn,if_pos hn,hn,i6];have e1:r / aG e0=r*bkV e0:=by
    have a1:=aE (a:=r) (b:=aG e0) hc0;have a2:r / aG e0*aG e0*bkV e0=r*bkV e0:=by rw [a1]
    grind
   rw [e1];grind
  ·rw [if_neg hn,if_neg hn,show n % 2=0 by omega,jT];grind
 have hwp:Pf (fun x=>wV n (bkV e0*(1+x)) (1-x)):=⟨iH plQ miQ (sqP n) n (bkV e0) (sqP n).length,funext fun x=>by rw [kr,gH,iM,wg h1 h5]⟩;have hcp:=Db h1 h5 AX (Cf.smul (bkV e0)) ((Cp.symm BK).smulr (k:=bkV e0) (fun h=>by rw [h] at hb;exact absurd hb Rat.lt_irrefl));have hw0:∀ x,-1≤x→x≤1→0≤r*wV n (bkV e0*(1+x)) (1-x):=fun x h2 h3=>gU (Rat.le_of_lt hr) (CT _ (hbz x h2))
 have hc2:Cp (fun x=>r*wV n (bkV e0*(1+x)) (1-x)) (fun x=>(1-x) ^ n):=Cp.powr (Cp.symm (hcp.smulr (by grind))) (hwp.smul r) AX n;obtain ⟨k,hk,hl⟩:=nQ (Cp.symm hc2) (fun x h2 h3=>kR (by grind) n) hw0;have hl2:∀ x,-1≤x→x≤1→k≤evV (inD n e0 r) x:=fun x h2 h3=>by rw [hev];exact hl x h2 h3
 have hlen:(inD n e0 r).length≤49:=nXe (cw (n:=n+1) (fo n) (bR _ _ (dF bB bD _ _ n _ (fy (by omega))))) (by omega);have hge:0<inQ n e0 r:=by
  unfold inQ;split
  ·exact pY hr hc
  ·exact hr
 have hEl:(inE n e0).length≤9:=nXe (dF bB bD _ _ (n / 2) _ (by rw [lI];exact nXd _)) (by omega);refine ⟨rF hge (by omega) (by omega) (fun h=>?_) (nXe (ah _) (by omega)) (nXe (ah _) hlen) hk hl2,⟨k,hk,hl2⟩,fun x h2 h3=>?_,fun x h2 h3=>?_,?_,fun h=>absurd h (by decide),fun _ x h2 h3=>?_⟩
 ·have a1:=heE e0;rw [ev_tznil.1 h e0,hbe,AT h1 h5] at a1;have a2:0<(1-e0) ^ (n / 2):=Rat.pow_pos (by grind);rw [←a1] at a2;exact absurd a2 Rat.lt_irrefl
 ·rw [hA];exact hw0 x h2 h3
 ·rw [hA,hev];have:=kR (show 0≤1-x by grind) n;grind
 ·rw [hA,hev,hbe,wY h1 h5,if_pos rfl];grind
 ·rw [hA,hev];have k1:=rD h1 h5 (bkV e0*(1+x)) (1-x);have hge2:bkV e0*(1+x)≤1-x:=by
   have:=cO h3 (Rat.le_of_lt hb);grind
  have k2:=gU (show 0≤1-x-bkV e0*(1+x) by grind) (C8 (n:=n) (1-x) (hbz x h2));rw [←k1] at k2;have k3:=gU (Rat.le_of_lt hr) k2;grind
end Go.Proofs.YtafgmcimcbhhjaaGreat.Sg
/- Elliptic prototypes of order 2 and 4; slopes. Plain facts. -/
namespace Go.Proofs.YtafgmcimcbhhjaaGreat
open Go.RowKit Go.Front Go.Num Stab
def elA(t e:Rat):List Rat:=subV (scP (bI miQ 1) ((t+((1:Int):Rat))*aG e)) (bI plQ 1)
def elB(t e:Rat):List Rat:=bg (scP (bI miQ 1) ((t-((1:Int):Rat))*aG e)) (bI plQ 1)
def elW(s:Rat):Rat:=(((2:Int):Rat)*s) / (((1:Int):Rat)+s*s)
def elT(n:Nat)(s:Rat):Rat:=if n=4 then s*s else s
def elE(n:Nat)(e s:Rat):List Rat:=if n=4 then bg (scP (ar (elA (elT n s) e) (elA (elT n s) e)) (elW s-((1:Int):Rat))) (ar (elB (elT n s) e) (elB (elT n s) e)) else elB (elT n s) e
def elO(n:Nat)(e s:Rat):List Rat:=if n=4 then subV (scP (ar (elA (elT n s) e) (elA (elT n s) e)) (elW s+((1:Int):Rat))) (ar (elB (elT n s) e) (elB (elT n s) e)) else elA (elT n s) e
def elD(n:Nat)(e r s:Rat):List Rat:=bg (ar (elE n e s) (elE n e s)) (scP (ar (elO n e s) (elO n e s)) r)
end Go.Proofs.YtafgmcimcbhhjaaGreat
namespace Go.Proofs.YtafgmcimcbhhjaaGreat.Sg
open Go.RowKit Go.Front Go.Num Go.Stab Go.Proofs.YtafgmcimcbhhjaaGreat
theorem tG(p q:List Rat)(x:Rat):evV (Go.Proofs.YtafgmcimcbhhjaaGreat.subV p q) x=evV p x-evV q x:=zA p q x
theorem tM{n:Nat}{s:Rat}(h0:0<s)(h1:s<1):0<elT n s∧elT n s<1:=by
 unfold elT;split
 ·exact ⟨qS h0 h0,by have:=gE h1 h0;grind⟩
 ·exact ⟨h0,h1⟩
theorem tL{s:Rat}(h0:0<s):0<elW s∧elW s*(1+s*s)=2*s:=by
 have e1:((1:Int):Rat)=1:=rfl;have e2:((2:Int):Rat)=2:=rfl;have h2:=qS h0 h0;unfold elW;rw [e1,e2];exact ⟨pY (by grind) (by grind),aE (by grind)⟩
theorem ns(t e x:Rat):evV (elA t e) x=(t+1)*(aG e*(1-x))-(1+x):=by
 unfold elA;rw [tG,jm,ep,ep,iM,gH,i6,i6];have:((1:Int):Rat)=1:=rfl;rw [this];grind
theorem pW(t e x:Rat):evV (elB t e) x=(t-1)*(aG e*(1-x))+(1+x):=by
 unfold elB;rw [ev_add5,jm,ep,ep,iM,gH,i6,i6];have:((1:Int):Rat)=1:=rfl;rw [this];grind
theorem tJ{n:Nat}(hn:n=2∨n=4)(e s x:Rat):evV (elE n e s) x=if n=4 then (elW s-1)*(evV (elA (elT n s) e) x*evV (elA (elT n s) e) x)+evV (elB (elT n s) e) x*evV (elB (elT n s) e) x else evV (elB (elT n s) e) x:=by
 have:((1:Int):Rat)=1:=rfl;unfold elE;rcases hn with rfl|rfl
 ·rfl
 ·rw [if_pos rfl,if_pos rfl,ev_add5,jm,aI,aI,this]
theorem tI{n:Nat}(hn:n=2∨n=4)(e s x:Rat):evV (elO n e s) x=if n=4 then (elW s+1)*(evV (elA (elT n s) e) x*evV (elA (elT n s) e) x)-evV (elB (elT n s) e) x*evV (elB (elT n s) e) x else evV (elA (elT n s) e) x:=by
 have:((1:Int):Rat)=1:=rfl;unfold elO;rcases hn with rfl|rfl
 ·rfl
 ·rw [if_pos rfl,if_pos rfl,tG,jm,aI,aI,this]
theorem pV(n:Nat)(e r s x:Rat):evV (elD n e r s) x=evV (elE n e s) x*evV (elE n e s) x+r*(evV (elO n e s) x*evV (elO n e s) x):=by
 unfold elD;rw [ev_add5,jm,aI,aI]
theorem elAB_len(t e:Rat):(elA t e).length≤2∧(elB t e).length≤2:=by
 have h1:=bR (bI miQ 1) ((t+((1:Int):Rat))*aG e) (fo 1);have h2:=bR (bI miQ 1) ((t-((1:Int):Rat))*aG e) (fo 1);exact ⟨Go.Proofs.YtafgmcimcbhhjaaGreat.sub_len h1 (fI 1),cw h2 (fI 1)⟩
theorem elEO_len{n:Nat}(e s:Rat):(elE n e s).length≤3∧(elO n e s).length≤3:=by
 obtain ⟨h1,h2⟩:=elAB_len (elT n s) e;have h3:(ar (elA (elT n s) e) (elA (elT n s) e)).length≤3:=bf h1 h1;have h4:(ar (elB (elT n s) e) (elB (elT n s) e)).length≤3:=bf h2 h2;constructor
 ·unfold elE;split
  ·exact cw (bR _ _ h3) h4
  ·omega
 ·unfold elO;split
  ·exact Go.Proofs.YtafgmcimcbhhjaaGreat.sub_len (bR _ _ h3) h4
  ·omega
theorem elD_len{n:Nat}(e r s:Rat):(elD n e r s).length≤5:=by
 obtain ⟨h1,h2⟩:=elEO_len (n:=n) e s;have h3:(ar (elE n e s) (elE n e s)).length≤5:=bf h1 h1;have h4:(ar (elO n e s) (elO n e s)).length≤5:=bf h2 h2;exact cw h3 (bR _ _ h4)
theorem tK{n:Nat}(hn:n=2∨n=4)(e s x:Rat):evV (elE n e s) x-evV (elO n e s) x=(if n=4 then 8*elT n s*(aG e*(1-x)) else 2)*((1+x)-aG e*(1-x)) ∧
  evV (elE n e s) x+evV (elO n e s) x=if n=4 then 2*elW s*(evV (elA (elT n s) e) x*evV (elA (elT n s) e) x) else 2*elT n s*(aG e*(1-x)):=by
 rw [tJ hn,tI hn];rcases hn with rfl|rfl
 ·rw [if_neg (by decide),if_neg (by decide),if_neg (by decide),if_neg (by decide),ns,pW];exact ⟨by grind,by grind⟩
 ·rw [if_pos rfl,if_pos rfl,if_pos rfl,if_pos rfl,ns,pW];exact ⟨by grind,by grind⟩
theorem zF{n:Nat}(hn:n=2∨n=4){e0 s:Rat}(he:-1<e0∧e0<1)(h0:0<s)(h1:s<1):evV (elE n e0 s) e0=evV (elO n e0 s) e0∧evV (elE n e0 s) e0=(if n=4 then elW s*(elT n s*(1+e0)*(elT n s*(1+e0))) else elT n s*(1+e0))∧0<evV (elE n e0 s) e0:=by
 obtain ⟨hc,hce⟩:=fU he.1 he.2;obtain ⟨t0,t1⟩:=tM (n:=n) h0 h1;obtain ⟨w0,-⟩:=tL h0;obtain ⟨d1,d2⟩:=tK hn e0 s e0;rw [hce] at d1;have e1:evV (elE n e0 s) e0=evV (elO n e0 s) e0:=by grind
 have hA:evV (elA (elT n s) e0) e0=elT n s*(1+e0):=by rw [ns,hce];grind
 have e2:evV (elE n e0 s) e0=(if n=4 then elW s*(elT n s*(1+e0)*(elT n s*(1+e0))) else elT n s*(1+e0)):=by
  rw [hA,hce] at d2;rcases hn with rfl|rfl
  ·rw [if_neg (by decide)] at d2 ⊢;grind
  ·rw [if_pos rfl] at d2 ⊢;grind
 refine ⟨e1,e2,?_⟩;have hz:=qS t0 (show 0<1+e0 by grind);rw [e2];split
 ·exact qS w0 (qS hz hz)
 ·exact hz
theorem CE{n:Nat}(hn:n=2∨n=4){e0 s:Rat}(he:-1<e0∧e0<1)(h0:0<s)(h1:s<1):Cp (evV (elE n e0 s)) (evV (elO n e0 s)):=by
 obtain ⟨hc,hce⟩:=fU he.1 he.2;obtain ⟨t0,t1⟩:=tM (n:=n) h0 h1;obtain ⟨w0,-⟩:=tL h0;have hc0:aG e0≠0:=fun h=>by rw [h] at hc;exact absurd hc Rat.lt_irrefl
 have ht:=aE (a:=1) (b:=2*elT n s) (by grind);have hAB:Cp (evV (elA (elT n s) e0)) (evV (elB (elT n s) e0)):=(nZ hc0).change (p:=(elT n s+1)*(1 / (2*elT n s))-1) (q:=(elT n s+1)*(1 / (2*elT n s))) (r:=1 / (2*elT n s)) (s:=1 / (2*elT n s))
  (fun x=>by rw [ns,pW];generalize 1 / (2*elT n s)=k at *;generalize aG e0*(1-x)=u;grind)
  (fun x=>by rw [ns,pW];generalize 1 / (2*elT n s)=k at *;generalize aG e0*(1-x)=u;grind)
 rcases hn with rfl|rfl
 ·rw [show evV (elE 2 e0 s)=evV (elB (elT 2 s) e0) from rfl,show evV (elO 2 e0 s)=evV (elA (elT 2 s) e0) from rfl];exact Cp.symm hAB
 ·have pA:=Pf.ev (elA (elT 4 s) e0);have pB:=Pf.ev (elB (elT 4 s) e0);have h2:=Cp.symm ((Cp.symm (hAB.mulr hAB pA pB pB)).mulr (Cp.symm (hAB.mulr hAB pA pB pB)) (pB.mul pB) pA pA);have hw:=aE (a:=1) (b:=2*elW s) (by grind);refine h2.change (p:=1 / (2*elW s)) (q:=1 / (2*elW s)) (r:=1-(elW s-1)*(1 / (2*elW s))) (s:=-((elW s-1)*(1 / (2*elW s)))) (fun x=>?_) (fun x=>?_)
  ·rw [tJ (Or.inr rfl),tI (Or.inr rfl),if_pos rfl,if_pos rfl];generalize 1 / (2*elW s)=k at *
   generalize evV (elA (elT 4 s) e0) x*evV (elA (elT 4 s) e0) x=u;generalize evV (elB (elT 4 s) e0) x*evV (elB (elT 4 s) e0) x=v;grind
  ·rw [tJ (Or.inr rfl),tI (Or.inr rfl),if_pos rfl,if_pos rfl];generalize 1 / (2*elW s)=k at *
   generalize evV (elA (elT 4 s) e0) x*evV (elA (elT 4 s) e0) x=u;generalize evV (elB (elT 4 s) e0) x*evV (elB (elT 4 s) e0) x=v;grind
theorem zE{n:Nat}(hn:n=2∨n=4){e0 r s:Rat}(he:-1<e0∧e0<1)(hr:0<r)(h0:0<s)(h1:s<1):Prf false e0 r ((1:Int):Rat) (elE n e0 s) 0 (elD n e0 r s):=by
 obtain ⟨hc,hce⟩:=fU he.1 he.2;obtain ⟨t0,t1⟩:=tM (n:=n) h0 h1;obtain ⟨w0,-⟩:=tL h0;obtain ⟨k1,k2,k3⟩:=zF hn he h0 h1;have hcp:=CE hn he h0 h1;have pE:=Pf.ev (elE n e0 s);have pO:=Pf.ev (elO n e0 s);have hEO:=(hcp.mulr hcp pE pO pO).smulr (k:=r) (by grind);have hEO2:=Cp.symm ((Cp.symm hEO).mulr (Cp.symm hEO) ((pO.mul pO).smul r) pE pE);obtain ⟨k,hk,hl⟩:=nQ hEO2 (fun x _ _=>lD _) (fun x _ _=>gU (Rat.le_of_lt hr) (lD _));have hl2:∀ x,-1≤x→x≤1→k≤evV (elD n e0 r s) x:=fun x h2 h3=>by rw [pV];exact hl x h2 h3
 have hA:∀ x,((1:Int):Rat)*(evV (elE n e0 s) x*evV (elE n e0 s) x*(1+x) ^ (0:Int).toNat)=evV (elE n e0 s) x*evV (elE n e0 s) x:=fun x=>by
  rw [show (0:Int).toNat=0 from rfl,jT];have:((1:Int):Rat)=1:=rfl;grind
 obtain ⟨l1,l2⟩:=elEO_len (n:=n) e0 s;refine ⟨rF (by decide) (by decide) (by decide) (fun h=>?_) (nXe (ah _) (by omega)) (nXe (ah _) (by have:=elD_len (n:=n) e0 r s;omega)) hk hl2,⟨k,hk,hl2⟩,fun x h2 h3=>?_,fun x h2 h3=>?_,?_,fun _ x h2 h3=>?_,fun h=>absurd h (by decide)⟩
 ·rw [ev_tznil.1 h e0] at k3;exact absurd k3 Rat.lt_irrefl
 ·rw [hA];exact lD _
 ·rw [hA,pV];have:=gU (Rat.le_of_lt hr) (lD (evV (elO n e0 s) x));grind
 ·rw [hA,pV,←k1,if_neg (by decide)];grind
 ·rw [hA,pV];obtain ⟨d1,d2⟩:=tK hn e0 s x;have hu:0≤aG e0*(1-x):=gU (Rat.le_of_lt hc) (by grind);have hz:=zP hc hce h2;have a1:0≤evV (elE n e0 s) x-evV (elO n e0 s) x:=by
   rw [d1];refine gU ?_ (by grind);split
   ·exact gU (by grind) hu
   ·decide
  have a2:0≤evV (elE n e0 s) x+evV (elO n e0 s) x:=by
   rw [d2];split
   ·exact gU (by grind) (lD _)
   ·exact gU (by grind) hu
  have a3:=gU (Rat.le_of_lt hr) (gU a1 a2);grind
def nuP(g:Rat)(e:List Rat)(p:Int):List Rat:=tz ((ar (ar e e) (bI plQ p.toNat)).map (·*g))
theorem CA(g:Rat)(e:List Rat)(p:Int)(x:Rat):evV (nuP g e p) x=g*(evV e x*evV e x*(1+x) ^ p.toNat):=by
 unfold nuP;rw [np,bG,aI,aI,ep,gH]
end Go.Proofs.YtafgmcimcbhhjaaGreat.Sg
