/- Intervals of the reference; Cos, On of make; Eval of the reference. -/
import Derived.Test.YtohahgiidooijaaGreatQRK10
import Derived.Test.YtohahgiidooijaaGreatQRK1
import Derived.Test.YtohahgiidooijaaGreatQRK2
import Derived.Test.YtohahgiidooijaaGreatQRK4
import Derived.Test.YtohahgiidooijaaGreatQRK16
import Derived.Test.YtohahgiidooijaaGreatQRK14
import Derived.Test.YtohahgiidooijaaGreatQRK13
import Derived.Test.YtohahgiidooijaaGreatQRK6
set_option linter.unusedVariables false
set_option maxHeartbeats 8000000
set_option maxRecDepth 8000
namespace Go.Proofs.YtohahgiidooijaaGreat
open Go.RowKit Go.Front Go.Num Stab
attribute [local go_sem] XW.cell XW.frozen
theorem AU(a b:Rat):(if a<b then b else a)=hiV a b:=by
 unfold hiV;by_cases h:a<b
 ·rw [if_pos h,if_neg (by grind)]
 ·rw [if_neg h];by_cases h2:b<a
  ·rw [if_pos h2]
  ·rw [if_neg h2];grind
theorem sP(s t:RH)(a b:Rat)(w:World)(hs:aR w s a)(ht:aR w t b):am 140 [s.v,t.v] w RH.v (fun x w'=>au w' x (loV a b)):=by
 have HX:=Hi (Ext.refl w);have HS:=Hi hs;have HT:=Hi ht;clear hs ht;unfold am;go_enter Tryz.func140,Tryz.ntmps140;obtain ⟨sn,sa,sl,sc,sb,sm,sd⟩:=s;obtain ⟨tn,ta,tl,tc,tb,tm,td⟩:=t
 go_upto_region 1 with fail
 refine oQ ?_;intro w1 hE B2 B3 B4 hz_w1 hr_w1;refine mV3 hE ?_ HX HS HT;clear HX HS HT;intro HX HS HT;have hs_w1:=hE.size;clear hE;replace b_B2:=bX3 B2;replace b_B3:=bX3 B3;replace b_B4:=bX3 B4
 go_wp2_with fail
 refine cM (k7 ⟨tn,ta,tl,tc,tb,tm,td⟩ ⟨sn,sa,sl,sc,sb,sm,sd⟩ b a _ HT.out HS.out) fun x7 w7 hE _=>?_
 refine mV6 hE ?_ B2 B3 B4 HX HS HT;clear B2 B3 B4 HX HS HT;intro B2 B3 B4 HX HS HT;have hs_w7:=hE.size;clear hE;replace b_B2:=bX3 B2;replace b_B3:=bX3 B3;replace b_B4:=bX3 B4;by_cases h:b<a
 case pos =>
  have HV:Hid (loV a b=b):=Hi (if_pos h);rw [decide_eq_true h];clear h
  go_wp2_with fail
  refine cM (cW ⟨tn,ta,tl,tc,tb,tm,td⟩ b _ HT.out) fun x9 w9 hE G9=>?_
  refine mV6 hE ?_ B2 B3 B4 HX HS HT;clear B2 B3 B4 HX HS HT;intro B2 B3 B4 HX HS HT;have hs_w9:=hE.size;clear hE;replace b_B2:=bX3 B2;replace b_B3:=bX3 B3;replace b_B4:=bX3 B4;go_wp2;refine aU (F:=fun W=>bodyPost _ _ _ _ _ W) B4.out rfl ?_;intro w10 T;replace HX:=Hi (T.ext HX.out (by omega));replace HS:=Hi (HS.out.keep T.keep);replace HT:=Hi (HT.out.keep T.keep);replace B2:=Hi (T.rest _ _ (by omega) B2.out);replace B3:=Hi (T.rest _ _ (by omega) B3.out);replace B4:=Hi (T.bx);replace G9:=Hi (G9.out.keep T.keep);have hs_w10:=nle T.size;have hr_w10:=nle T.size.symm;clear T;replace b_B2:=bX3 B2;replace b_B3:=bX3 B3;replace b_B4:=bX3 B4;exact bodyPost_ret (v:=RH.v x9) (by simp [results,Tryz.results140,go_sem,b_B4.1]) rfl ⟨x9,rfl,HX.out,by rw [HV.out];exact G9.out⟩
 have HV:Hid (loV a b=a):=Hi (if_neg h);rw [decide_eq_false h];clear h
 go_wp2_with fail
 refine cM (cW ⟨sn,sa,sl,sc,sb,sm,sd⟩ a _ HS.out) fun x11 w11 hE G11=>?_
 refine mV6 hE ?_ HX HS HT B2 B3 B4;clear HX HS HT B2 B3 B4;intro HX HS HT B2 B3 B4;have hs_w11:=hE.size;clear hE;replace b_B2:=bX3 B2;replace b_B3:=bX3 B3;replace b_B4:=bX3 B4;go_wp2;refine aU (F:=fun W=>bodyPost _ _ _ _ _ W) B4.out rfl ?_;intro w12 T;replace HX:=Hi (T.ext HX.out (by omega));replace HS:=Hi (HS.out.keep T.keep);replace HT:=Hi (HT.out.keep T.keep);replace B2:=Hi (T.rest _ _ (by omega) B2.out);replace B3:=Hi (T.rest _ _ (by omega) B3.out);replace B4:=Hi (T.bx);replace G11:=Hi (G11.out.keep T.keep);have hs_w12:=nle T.size;have hr_w12:=nle T.size.symm;clear T;replace b_B2:=bX3 B2;replace b_B3:=bX3 B3;replace b_B4:=bX3 B4;exact bodyPost_ret (v:=RH.v x11) (by simp [results,Tryz.results140,go_sem,b_B4.1]) rfl ⟨x11,rfl,HX.out,by rw [HV.out];exact G11.out⟩
theorem sQ(s t:RH)(a b:Rat)(w:World)(hs:aR w s a)(ht:aR w t b):am 141 [s.v,t.v] w RH.v (fun x w'=>au w' x (hiV a b)):=by
 have HX:=Hi (Ext.refl w);have HS:=Hi hs;have HT:=Hi ht;clear hs ht;unfold am;go_enter Tryz.func141,Tryz.ntmps141;obtain ⟨sn,sa,sl,sc,sb,sm,sd⟩:=s;obtain ⟨tn,ta,tl,tc,tb,tm,td⟩:=t
 go_upto_region 1 with fail
 refine oQ ?_;intro w1 hE B2 B3 B4 hz_w1 hr_w1;refine mV3 hE ?_ HX HS HT;clear HX HS HT;intro HX HS HT;have hs_w1:=hE.size;clear hE;replace b_B2:=bX3 B2;replace b_B3:=bX3 B3;replace b_B4:=bX3 B4
 go_wp2_with fail
 refine cM (k7 ⟨sn,sa,sl,sc,sb,sm,sd⟩ ⟨tn,ta,tl,tc,tb,tm,td⟩ a b _ HS.out HT.out) fun x7 w7 hE _=>?_
 refine mV6 hE ?_ B2 B3 B4 HX HS HT;clear B2 B3 B4 HX HS HT;intro B2 B3 B4 HX HS HT;have hs_w7:=hE.size;clear hE;replace b_B2:=bX3 B2;replace b_B3:=bX3 B3;replace b_B4:=bX3 B4;by_cases h:a<b
 case pos =>
  have HV:Hid (hiV a b=b):=Hi (by rw [←AU,if_pos h]);rw [decide_eq_true h];clear h
  go_wp2_with fail
  refine cM (cW ⟨tn,ta,tl,tc,tb,tm,td⟩ b _ HT.out) fun x9 w9 hE G9=>?_
  refine mV6 hE ?_ B2 B3 B4 HX HS HT;clear B2 B3 B4 HX HS HT;intro B2 B3 B4 HX HS HT;have hs_w9:=hE.size;clear hE;replace b_B2:=bX3 B2;replace b_B3:=bX3 B3;replace b_B4:=bX3 B4;go_wp2;refine aU (F:=fun W=>bodyPost _ _ _ _ _ W) B4.out rfl ?_;intro w10 T;replace HX:=Hi (T.ext HX.out (by omega));replace HS:=Hi (HS.out.keep T.keep);replace HT:=Hi (HT.out.keep T.keep);replace B2:=Hi (T.rest _ _ (by omega) B2.out);replace B3:=Hi (T.rest _ _ (by omega) B3.out);replace B4:=Hi (T.bx);replace G9:=Hi (G9.out.keep T.keep);have hs_w10:=nle T.size;have hr_w10:=nle T.size.symm;clear T;replace b_B2:=bX3 B2;replace b_B3:=bX3 B3;replace b_B4:=bX3 B4;exact bodyPost_ret (v:=RH.v x9) (by simp [results,Tryz.results141,go_sem,b_B4.1]) rfl ⟨x9,rfl,HX.out,by rw [HV.out];exact G9.out⟩
 have HV:Hid (hiV a b=a):=Hi (by rw [←AU,if_neg h]);rw [decide_eq_false h];clear h
 go_wp2_with fail
 refine cM (cW ⟨sn,sa,sl,sc,sb,sm,sd⟩ a _ HS.out) fun x11 w11 hE G11=>?_
 refine mV6 hE ?_ HX HS HT B2 B3 B4;clear HX HS HT B2 B3 B4;intro HX HS HT B2 B3 B4;have hs_w11:=hE.size;clear hE;replace b_B2:=bX3 B2;replace b_B3:=bX3 B3;replace b_B4:=bX3 B4;go_wp2;refine aU (F:=fun W=>bodyPost _ _ _ _ _ W) B4.out rfl ?_;intro w12 T;replace HX:=Hi (T.ext HX.out (by omega));replace HS:=Hi (HS.out.keep T.keep);replace HT:=Hi (HT.out.keep T.keep);replace B2:=Hi (T.rest _ _ (by omega) B2.out);replace B3:=Hi (T.rest _ _ (by omega) B3.out);replace B4:=Hi (T.bx);replace G11:=Hi (G11.out.keep T.keep);have hs_w12:=nle T.size;have hr_w12:=nle T.size.symm;clear T;replace b_B2:=bX3 B2;replace b_B3:=bX3 B3;replace b_B4:=bX3 B4;exact bodyPost_ret (v:=RH.v x11) (by simp [results,Tryz.results141,go_sem,b_B4.1]) rfl ⟨x11,rfl,HX.out,by rw [HV.out];exact G11.out⟩
theorem kw(s t:RH)(a b:Rat)(w:World)(hs:aR w s a)(ht:aR w t b):am 80 [IvV (s,t)] w IvV (fun x w'=>au w' x.1 (loV a b)∧au w' x.2 (hiV a b)):=by
 have HX:=Hi (Ext.refl w);have HS:=Hi hs;have HT:=Hi ht;clear hs ht;unfold am;go_enter Tryz.func80,Tryz.ntmps80;obtain ⟨sn,sa,sl,sc,sb,sm,sd⟩:=s;obtain ⟨tn,ta,tl,tc,tb,tm,td⟩:=t
 go_upto_region 1 with fail
 refine f6 ?_;intro w1 hE B1 B2 hz_w1 hr_w1;refine mV3 hE ?_ HX HS HT;clear HX HS HT;intro HX HS HT;have hs_w1:=hE.size;clear hE;replace b_B1:=bX3 B1;replace b_B2:=bX3 B2;refine wpG 11 (fun opIx=>match opIx with
  | 4=>.spec RH default RH.v (fun s w'=>au w' s (loV a b))
  | 9=>.spec RH default RH.v (fun s w'=>au w' s (hiV a b))
  | _=>.quiet) (fun _=>[]) fun w0 he0 hz0 hc0 hf0=>?_
 refine wps he0.out rfl rfl (fun w1 hW hG=>?_) fun x20=>?_
 ·exact spc [RH.v ⟨sn,sa,sl,sc,sb,sm,sd⟩,RH.v ⟨tn,ta,tl,tc,tb,tm,td⟩] Tryz.func140 (sP _ _ _ _ _ (HS.out.ext hW) (HT.out.ext hW))
 refine qZ ?_;refine wps he0.out rfl rfl (fun w1 hW hG=>?_) fun x21=>?_
 ·exact spc [RH.v ⟨sn,sa,sl,sc,sb,sm,sd⟩,RH.v ⟨tn,ta,tl,tc,tb,tm,td⟩] Tryz.func141 (sQ _ _ _ _ _ (HS.out.ext hW) (HT.out.ext hW))
 refine qZ ?_;refine aj ?_;intro w2 hI;have hE:=he0.out.trans hI.ext;have G20:=gT (hI.facts 4);have G21:=gT (hI.facts 9);clear hI he0 hz0 hc0 hf0;refine mV5 hE ?_ B1 B2 HX HS HT;clear B1 B2 HX HS HT;intro B1 B2 HX HS HT;have hs_w2:=hE.size;clear hE;replace b_B1:=bX3 B1;replace b_B2:=bX3 B2;simp only [pD];go_wp2;refine ci (F:=fun W=>bodyPost _ _ _ _ _ W) B2.out rfl ?_;intro w10 T;replace HX:=Hi (T.ext HX.out (by omega));replace HS:=Hi (HS.out.keep T.keep);replace HT:=Hi (HT.out.keep T.keep);replace B1:=Hi (T.rest _ _ (by omega) B1.out);replace B2:=Hi (T.bx);replace G20:=Hi (G20.out.keep T.keep);replace G21:=Hi (G21.out.keep T.keep);have hs_w10:=nle T.size;have hr_w10:=nle T.size.symm;clear T;replace b_B1:=bX3 B1;replace b_B2:=bX3 B2;exact bodyPost_ret (v:=IvV (x20,x21)) (by simp [results,Tryz.results80,go_sem,b_B2.1]) rfl ⟨(x20,x21),rfl,HX.out,G20.out,G21.out⟩
theorem oT(s t:RH)(a b:Rat)(w:World)(hs:aR w s a)(ht:aR w t b):am 23 [s.v,t.v] w IvV (fun x w'=>au w' x.1 (loV a b)∧au w' x.2 (hiV a b)):=by
 have HX:=Hi (Ext.refl w);have HS:=Hi hs;have HT:=Hi ht;clear hs ht;unfold am;go_enter Tryz.func23,Tryz.ntmps23;obtain ⟨sn,sa,sl,sc,sb,sm,sd⟩:=s;obtain ⟨tn,ta,tl,tc,tb,tm,td⟩:=t
 go_upto_region 1 with fail
 refine oQ ?_;intro w1 hE B2 B3 B4 hz_w1 hr_w1;refine mV3 hE ?_ HX HS HT;clear HX HS HT;intro HX HS HT;have hs_w1:=hE.size;clear hE;replace b_B2:=bX3 B2;replace b_B3:=bX3 B3;replace b_B4:=bX3 B4
 go_wp2_with fail
 refine cM (kw ⟨sn,sa,sl,sc,sb,sm,sd⟩ ⟨tn,ta,tl,tc,tb,tm,td⟩ a b _ HS.out HT.out) fun x8 w8 hE G8=>?_
 refine mV6 hE ?_ B2 B3 B4 HX HS HT;clear B2 B3 B4 HX HS HT;intro B2 B3 B4 HX HS HT;have hs_w8:=hE.size;clear hE;replace b_B2:=bX3 B2;replace b_B3:=bX3 B3;replace b_B4:=bX3 B4;have HL:=Hi G8.out.1;have HH:=Hi G8.out.2;clear G8;go_wp2;refine ci (F:=fun W=>bodyPost _ _ _ _ _ W) B4.out rfl ?_;intro w10 T;replace HX:=Hi (T.ext HX.out (by omega));replace HS:=Hi (HS.out.keep T.keep);replace HT:=Hi (HT.out.keep T.keep);replace B2:=Hi (T.rest _ _ (by omega) B2.out);replace B3:=Hi (T.rest _ _ (by omega) B3.out);replace B4:=Hi (T.bx);replace HL:=Hi (HL.out.keep T.keep);replace HH:=Hi (HH.out.keep T.keep);have hs_w10:=nle T.size;have hr_w10:=nle T.size.symm;clear T;replace b_B2:=bX3 B2;replace b_B3:=bX3 B3;replace b_B4:=bX3 B4;exact bodyPost_ret (v:=IvV x8) (by simp [results,Tryz.results23,go_sem,b_B4.1]) rfl ⟨x8,rfl,HX.out,HL.out,HH.out⟩
end Go.Proofs.YtohahgiidooijaaGreat
/- roots, Count, Positive of package dspcompilerref06; Squarefree of dspcompilerref05. -/
namespace Go.Proofs.YtohahgiidooijaaGreat
open Go.RowKit Go.Front Go.Num Stab Sg
attribute [local go_sem] XW.cell XW.frozen
theorem AK{K:Nat}:∀ (fuel:Nat) (a b:List Rat) (X:Nat),RmI K a b X→∀ m ∈ chn fuel a b,∀ y ∈ m,Wz K y:=by
 intro fuel;induction fuel with
 | zero=>intro a b X _ m hm;simp [chn] at hm
 | succ fuel ih =>
  intro a b X h m hm;have hs:=h.small;by_cases ha:a=[]
  ·rw [show chn (fuel+1) a b=[] by simp [chn,ha]] at hm;simp at hm
  ·by_cases hb:b=[]
   ·subst hb;rw [dE ha] at hm;obtain rfl:m=a:=by simpa using hm
    exact fun y hy=>(h.2.2.1 y hy).mono (by omega)
   ·rw [dY ha hb] at hm;rcases List.mem_cons.1 hm with rfl|hm
    ·exact fun y hy=>(h.2.2.1 y hy).mono (by omega)
    ·obtain ⟨s,r,f,hf,hdv⟩:=uw (ux h.2.2.1 h.2.2.2.1 h.1 h.2.1 hb);obtain ⟨hN,X2,hI2⟩:=h.next hb hf hdv;rw [hN] at hI2;exact ih _ _ _ hI2 m hm
theorem yE{K S D:Nat}{p:List Rat}(hS:1≤S)(hD:0<D)(hf:FrL S D p)(hl:p.length≤1000)(h0:tz p≠[])(hK:KZ K S p.length):∀ m ∈ remsV p,∀ y ∈ m,Wz K y:=by
 obtain ⟨X,-,h⟩:=iX hS hD hf hl h0 hK;rw [lQ] at h;exact AK _ _ _ X h
theorem Bs:∀ (fuel:Nat) (a b:List Rat),tz a=a→tz b=b→∀ m ∈ chn fuel a b,tz m=m:=by
 intro fuel;induction fuel with
 | zero=>intro a b _ _ m hm;simp [chn] at hm
 | succ fuel ih =>
  intro a b h1 h2 m hm;by_cases ha:a=[]
  ·rw [show chn (fuel+1) a b=[] by simp [chn,ha]] at hm;simp at hm
  ·by_cases hb:b=[]
   ·subst hb;rw [dE ha] at hm;obtain rfl:m=a:=by simpa using hm
    exact h1
   ·rw [dY ha hb] at hm;rcases List.mem_cons.1 hm with rfl|hm
    ·exact h1
    ·exact ih _ _ h2 (bj _) m hm
theorem uO{K S D T:Nat}{p:List Rat}{x:Rat}(hS:1≤S)(hD:0<D)(hf:FrL S D p)(hl:p.length≤100)(h0:tz p≠[])(hK:KZ K S p.length)(hK2:K≤30000000)(hx:Sz T x)(hT:T≤10000):Mz (nX p) x:=by
 have h1:=yE hS hD hf (by omega) h0 hK;have h2:=jw p;have h3:=pG h0;have hK1:1≤K:=by have:=hK.small;omega
 rw [uP];refine ⟨by rw [nXk];omega,fun k hk=>?_⟩;rw [nXk] at hk;have hm:(remsV p).getD k [] ∈ remsV p:=by
  rw [nXc,List.getElem?_eq_getElem hk];exact List.getElem_mem _
 have e:((remsV p).map br).getD k []=br ((remsV p).getD k []):=by
  rw [nXc,nXc,nXu,List.getElem?_eq_getElem hk];rfl
 have ht:tz ((remsV p).getD k [])=(remsV p).getD k []:=Bs _ _ _ (bj _) (bj _) _ hm;have hml:=h3 _ hm;obtain ⟨E,e1,e2,e3⟩:=og (h1 _ hm) ht hK1;rw [e];have hul:(br ((remsV p).getD k [])).length≤100:=by rw [jQ,ht];omega
 refine ⟨hul,(e3.sz hK1 e1 e2).mono (by omega),fun j hj=>(xW e3 hx hK1 e1 e2 j).mono ?_⟩;have h5:(br ((remsV p).getD k [])).length*(T+1)≤100*10001:=nXw hul (by omega);omega
theorem rt(v:SH)(ms:List (List Rat))(s t:RH)(a b:Rat)(w:World)(hc:ChR w v ms)(hza:Mz ms a)(hzb:Mz ms b)(hs:au w s a)(ht:au w t b)(za:Sz 10000000 a)(zb:Sz 10000000 b) :
  am 138 [v.v,s.v,t.v] w (fun _:Unit=>.int .i64 ((eB ms a:Int)-eB ms b)) (fun _ _=>True):=by
 obtain ⟨va,vn,vc⟩:=v;obtain ⟨sn,sa,sl,sc,sb,sm,sd⟩:=s;obtain ⟨tn,ta,tl,tc,tb,tm,td⟩:=t;have HX:=Hi (Ext.refl w);have HC:=Hi hc;have HS:=Hi hs;have HT:=Hi ht;have ZA:=Hi za;have ZB:=Hi zb;have HMA:=Hi hza;have HMB:=Hi hzb;have hl:=hza.ln;have v1:=kQ ms a;have v2:=kQ ms b;obtain ⟨x1,hx1⟩:∃ x1,x1=eB ms a:=⟨_,rfl⟩;obtain ⟨x2,hx2⟩:∃ x2,x2=eB ms b:=⟨_,rfl⟩;have HV1:=Hi hx1;have HV2:=Hi hx2;have HE:Hid ((eB ms a:Int)-eB ms b=(x1:Int)-(x2:Int)):=Hi (by rw [hx1,hx2]);rw [←hx1] at v1;rw [←hx2] at v2;clear hc hs ht za zb hx1 hx2 hza hzb;unfold am;go_enter Tryz.func138,Tryz.ntmps138;simp only [SH.v]
 go_upto_region 1 with fail
 refine f6 ?_;intro w1 hE B4 B5 hz_w1 hr_w1;refine mV4 hE ?_ HX HC HS HT;clear HX HC HS HT;intro HX HC HS HT;have hs_w1:=hE.size;clear hE;replace b_B4:=bX3 B4;replace b_B5:=bX3 B5;refine wpG 7 (fun opIx=>match opIx with
  | 2=>.spec Unit () (fun _=>.int .i64 (x1:Nat)) (fun _ _=>True)
  | 5=>.spec Unit () (fun _=>.int .i64 (x2:Nat)) (fun _ _=>True)
  | _=>.quiet) (fun _=>[]) fun w0 he0 hz0 hc0 hf0=>?_
 refine wps he0.out rfl rfl (fun w1 hW hG=>?_) fun x20=>?_
 ·exact spc [SH.v ⟨va,vn,vc⟩,RH.v ⟨sn,sa,sl,sc,sb,sm,sd⟩] Tryz.func194 ((by rw [HV1.out];exact pk ⟨va,vn,vc⟩ ms ⟨sn,sa,sl,sc,sb,sm,sd⟩ a _ (HC.out.ext hW) HMA.out (HS.out.ext hW) ZA.out))
 refine qZ ?_;refine wps he0.out rfl rfl (fun w1 hW hG=>?_) fun x21=>?_
 ·exact spc [SH.v ⟨va,vn,vc⟩,RH.v ⟨tn,ta,tl,tc,tb,tm,td⟩] Tryz.func194 ((by rw [HV2.out];exact pk ⟨va,vn,vc⟩ ms ⟨tn,ta,tl,tc,tb,tm,td⟩ b _ (HC.out.ext hW) HMB.out (HT.out.ext hW) ZB.out))
 refine qZ ?_;refine aj ?_;intro w2 hI;have hE:=he0.out.trans hI.ext;clear hI he0 hz0 hc0 hf0;refine mV6 hE ?_ B4 B5 HX HS HC HT;clear B4 B5 HX HS HC HT;intro B4 B5 HX HS HC HT;have hs_w2:=hE.size;clear hE;replace b_B4:=bX3 B4;replace b_B5:=bX3 B5;simp only [pD];go_wp2
 go_ret
 exact ⟨(),by rw [HE.out];rfl,HX.out,trivial⟩
theorem sZ(pa:Option Addr)(P pc:Nat)(l:List Rat)(K:Nat)(w:World)(h:cx w ⟨pa,P,pc⟩ l)(hP:P≤500)(h0:tz (tz l)≠[])(hk:FrK K (tz l))(hK:K≤3900000)(hK2:(P+1)*(K / 3)≤25000000)(hs:FrK K (sqfV (tz l))) :
  am 137 [.slice pa P pc] w SH.v (fun x w'=>aF w' x (sqfV (tz l))):=by
 have LR:=Hi h;have HX:=Hi (Ext.refl w);have Hln:=Hi h.len;simp only at Hln;obtain ⟨p,hp⟩:∃ p,p=tz l:=⟨_,rfl⟩;rw [←hp] at h0 hk hs ⊢;have Hp:=Hi hp;have hlen:p.length≤P:=by rw [hp,←Hln.out];exact ag l
 have htp:tz p=p:=by rw [hp,aT]
 obtain ⟨S,D,hS,hD,hD2,hf,hSK⟩:=hk;obtain ⟨U,E,hU,hE,hE2,hfU,hUK⟩:=hs;have hp1:1≤p.length:=by
  have:=ag p;have:=nYf.2 h0;omega
 have hS3:=KZ.small3 hp1 hSK;have hUs:=KZ.small hUK;have hz:=hf.sz hS hD hD2;have HSz:Hid (SzL S p):=Hi hz;have HQ:Hid (SzL 8000000 (bs p (cN p (derL p)))):=Hi ((xE h0 hz (hfU.sz hU hE hE2)).mono (by omega));have HF:Hid (FrL (S+1) D p):=Hi (hf.mono (by omega));have HF1:Hid (FrL S D p):=Hi hf;have HDF:Hid (∀ x ∈ tz (derL p),Fr (S+1) D x):=Hi (jb hf (by omega));have hD3:D<W32 ^ (S+1):=nXm hD2 (nXo aB (by omega));have HDl:Hid ((tz (derL p)).length+1≤P):=Hi (by have:=jI h0;omega);have hgl0:(cN p (derL p)).length≤P:=by have:=uf h0;omega
 have hql0:(bs p (cN p (derL p))).length≤P:=by have:=oJ h0;omega
 have HG0:Hid (tz (cN p (derL p))≠[]):=Hi (qu h0);have HSK:Hid (GZ K (S+1) p (tz (derL p))):=Hi (zx hD hf (by omega) h0 hSK);obtain ⟨m0,hm0⟩:∃ m0,p.length=m0+1:=⟨p.length-1,by omega⟩;have HM0:=Hi hm0;clear h hf hfU hUK hSK hz h0 hp1 hp hm0;unfold am;go_enter Tryz.func137,Tryz.ntmps137
 go_wp2_with fail
 refine cM (aZ pa P pc l _ LR.out (by omega)) fun x7 w7 hE G7=>?_
 replace HX:=hE.tr HX;have hs_w7:=hE.size;clear hE;obtain ⟨qa,Q,qc⟩:=x7;have LP:Hid (LIn w7 ⟨qa,Q,qc⟩ p 0 w7.heap.size):=Hi (by rw [Hp.out];exact G7.out.can.lin);have hQ:Q=m0+1:=by have h1:=LP.out.len;have h2:=HM0.out;simp only at h1;omega
 subst hQ;have hQP:m0+1≤P:=by have:=HM0.out;omega
 have hz0:((m0:Int)+1 == 0)=false:=by rw [nXr];omega
 clear G7;simp only [SH.v]
 go_wp2_with fail
 refine cM (qE qa (m0+1) qc p _ LP.out.can (by omega) (HSz.out.mono (by omega))) fun x15 w15 hE G15=>?_
 refine mV2 hE ?_ HX LP;clear HX LP;intro HX LP;have hs_w15:=hE.size;clear hE;obtain ⟨da,dn,dc⟩:=x15;have HD3:Hid (LIn w15 ⟨da,dn,dc⟩ (tz (derL p)) 0 w15.heap.size):=Hi G15.out.can.lin;clear G15;have hdn:dn+1≤P:=by have h1:=HD3.out.len;have h2:=HDl.out;simp only at h1;omega
 simp only [SH.v]
 go_wp2_with fail
 refine cM (wP qa da (m0+1) qc dn dc p (tz (derL p)) (S+1) D D _ LP.out.can HD3.out.can (by omega) (by omega) (by omega) hD hD3 hD hD3 HF.out HDF.out K HSK.out (by omega)) fun x16 w16 hE G16=>?_
 refine mV3 hE ?_ HX LP HD3;clear HX LP HD3;intro HX LP HD3;have hs_w16:=hE.size;clear hE;rw [jG] at G16;obtain ⟨ga,gn,gc⟩:=x16;have HGL:=Hi G16.out.1.lin;obtain ⟨X,F,hFX,hX1,hF0,hF2,hXK⟩:=G16.out.2;have HFX:=Hi hFX;have hX3:=GcR.small hXK;clear G16 hFX hXK;have hgl:=HGL.out.len;simp only at hgl;have hgm:gn≤P:=by omega
 have Hgl:=Hi hgl;clear hgl;clear HD3;have hm1:P*(X+1)≤P*(K / 3):=nXf _ hX3;have hm2:(P+1)*(K / 3)=P*(K / 3)+K / 3:=nXx _ _;have hm3:(m0+1+1)*(X+1)≤(P+1)*(K / 3):=nXw (by omega) hX3
 (try dsimp only)
 go_wp2_with fail
 refine cM (o0 qa ga (m0+1) qc gn gc p (cN p (derL p)) S X D F _ LP.out.can HGL.out.can (by omega) (by omega) hS hX1 hD hD2 hF0 hF2 HF1.out HFX.out HG0.out (by omega)) fun x17 w17 hE G17=>?_
 refine mV3 hE ?_ HX LP HGL;clear HX LP HGL;intro HX LP HGL;have hs_w17:=hE.size;clear hE;obtain ⟨⟨ea,en,ec⟩,⟨ra,rn,rc⟩⟩:=x17;have HQL:=Hi G17.out.1.lin;clear G17;have hqn:=HQL.out.len;simp only at hqn;have hen:en≤P:=by omega
 clear hqn;simp only [QT] at *
 (try dsimp only)
 go_wp2_with fail
 refine cM (jB ea en ec (bs p (cN p (derL p))) 8000000 _ HQL.out.can (by omega) (by omega) HQ.out) fun x22 w22 hE G22=>?_
 refine mV4 hE ?_ HX LP HGL HQL;clear HX LP HGL HQL;intro HX LP HGL HQL;have hs_w22:=hE.size;clear hE;go_wp2
 go_ret
 exact ⟨x22,rfl,HX.out,G22.out.can⟩
def Fn(A:Prop):Prop:=Unit→A
theorem rQ(pa:Option Addr)(P pc:Nat)(l:List Rat)(K:Nat)(s t:RH)(a b:Rat)(T:Nat)(w:World)(h:cx w ⟨pa,P,pc⟩ l)(hP:P≤49)(h0:tz l≠[])(hk:FrK K (tz l))(hK:K≤3900000)(hK2:(P+1)*(K / 3)≤25000000)(hsq:FrK K (sqfV (tz l)))
 (hs:aR w s a)(ht:aR w t b)(za:Sz T a)(zb:Sz T b)(hT3:T≤1000) :
  am 78 [.slice pa P pc,IvV (s,t)] w (fun _:Unit=>.tuple #[.int .i64 (rX (tz l) (loV a b) (hiV a b)),.int .i64 0]) (fun _ _=>True):=by
 obtain ⟨sn,sa,sl,sc,sb,sm,sd⟩:=s;obtain ⟨tn,ta,tl,tc,tb,tm,td⟩:=t;have HX:=Hi (Ext.refl w);have LP:=Hi h;have LPw:=Hi h;have HS:=Hi hs;have HT:=Hi ht;have hlen:=h.len;simp only at hlen;have HKp:=Hi hk;have HKs:=Hi hsq;have h00:tz (tz l)≠[]:=by rw [aT];exact h0
 have H0:=Hi h00;have hq0:=(kX h00).ne;have ZA:Hid (Sz T (loV a b)):=Hi (by rcases zt a b with e|e <;> rw [e] <;> assumption);have ZB:Hid (Sz T (hiV a b)):=Hi (by rcases zy a b with e|e <;> rw [e] <;> assumption);obtain ⟨N,hN⟩:∃ N,N=(tz l).length:=⟨_,rfl⟩;have hN1:1≤N:=by rw [hN];exact nYf.2 h0
 have hN2:N≤49:=by rw [hN];have:=ag l;omega
 have HN:=Hi hN;obtain ⟨q,hq⟩:∃ q,q=sqfV (tz l):=⟨_,rfl⟩;have hql:q.length≤49:=by rw [hq];have:=ov h00;have:=ag l;omega
 rw [←hq] at hq0 hsq;obtain ⟨U,E,hU,hE,hE2,hfU,hUK⟩:=hsq;have hUs:=KZ.small hUK;have HFU:=Hi hfU;have HUK:=Hi hUK;have HQ0:=Hi hq0;obtain ⟨lo,hlo⟩:∃ lo,lo=loV a b:=⟨_,rfl⟩;obtain ⟨hi,hhi⟩:∃ hi,hi=hiV a b:=⟨_,rfl⟩;rw [←hlo] at ZA;rw [←hhi] at ZB;have HMA:Hid (Mz (nX q) lo):=Hi (uO hU hE hfU (by omega) hq0 hUK (by omega) ZA.out (by omega));have HMB:Hid (Mz (nX q) hi):=Hi (uO hU hE hfU (by omega) hq0 hUK (by omega) ZB.out (by omega));have HSQ:Hid (SzL 40000000 q):=Hi ((hfU.sz hU hE hE2).mono (by omega));have HEV:Hid (∀ k,k≤q.length→Sz 40000000 (evV (q.drop k) lo)):=Hi (fun k hk=>(xW hfU ZA.out hU hE hE2 k).mono (by
  have:q.length*(T+1)≤49*1001:=nXw hql (by omega);omega))
 have v1:=kQ (nX q) lo;have v2:=kQ (nX q) hi;have hml:=HMA.out.ln;obtain ⟨r,hr⟩:∃ r:Int,r=(eB (nX q) lo:Int)-eB (nX q) hi:=⟨_,rfl⟩;have hr1:-1000≤r∧r≤1000:=by omega
 have HR:=Hi hr;have HCN:Hid (Fn (rX (tz l) (loV a b) (hiV a b)=r+(if Sg.sg (evV q lo)=0 then 1 else 0))):=Hi (fun _=>by rw [hr,←hlo,←hhi,hq];rfl);have HQE:=Hi hq;have HLO:=Hi hlo;have HHI:=Hi hhi;clear h hs ht hk h0 h00 za zb hlo hhi hlen hN hq hq0 hfU hUK v1 v2 hml hr;unfold am;go_enter Tryz.func78,Tryz.ntmps78
 go_upto_region 1 with fail
 refine nmA ?_;intro w1 hE B3 hz_w1 hr_w1;refine mV4 hE ?_ HX LP HS HT;clear HX LP HS HT;intro HX LP HS HT;have hs_w1:=hE.size;clear hE;replace b_B3:=bX3 B3
 go_wp2_with fail
 refine cM (dC pa P pc l _ LP.out (by omega)) fun x10 w10 hE _=>?_
 refine mV5 hE ?_ B3 HX LP HS HT;clear B3 HX LP HS HT;intro B3 HX LP HS HT;have hs_w10:=hE.size;clear hE;replace b_B3:=bX3 B3;rw [←HN.out];have hg1:¬ (48:Int)<(N:Int)-1:=by omega
 have hg2:¬ (N:Int)-1<0:=by omega
 go_wp2_with fail
 refine cM (kw ⟨sn,sa,sl,sc,sb,sm,sd⟩ ⟨tn,ta,tl,tc,tb,tm,td⟩ a b _ HS.out HT.out) fun x18 w18 hE G18=>?_
 refine mV5 hE ?_ B3 HX LP HS HT;clear B3 HX LP HS HT;intro B3 HX LP HS HT;have hs_w18:=hE.size;clear hE;replace b_B3:=bX3 B3;obtain ⟨⟨ln,la,ll,lc,lb,lm,ld⟩,⟨hn,ha,hl,hc,hb,hm,hd⟩⟩:=x18;rw [←HLO.out,←HHI.out] at G18;have HL:=Hi G18.out.1;have HH:=Hi G18.out.2;clear G18 hg1 hg2;clear HS;clear HT;clear LP
 go_upto_region 7 with fail
 refine ci B3.out rfl ?_;intro w19 T;replace HX:=Hi (T.ext HX.out (by omega));replace B3:=Hi (T.bx);replace HL:=Hi (HL.out.keep T.keep);replace HH:=Hi (HH.out.keep T.keep);have hs_w19:=nle T.size;have hr_w19:=nle T.size.symm;clear T;replace b_B3:=bX3 B3
 go_wp2_with fail
 refine cM (sZ pa P pc l K _ (LPw.out.ext HX.out) (by omega) H0.out HKp.out hK hK2 HKs.out) fun x20 w20 hE G20=>?_
 refine mV4 hE ?_ HX B3 HL HH;clear HX B3 HL HH;intro HX B3 HL HH;have hs_w20:=hE.size;clear hE;replace b_B3:=bX3 B3;obtain ⟨qa,qn,qc⟩:=x20;rw [←HQE.out] at G20;have LQ:=Hi G20.out.lin;have hqn:qn≤49:=by have h1:=G20.out.len;simp only at h1;omega
 have HQl:Hid (q.length=qn):=Hi G20.out.len;clear G20;simp only [SH.v]
 go_upto_region 8 with fail
 have HUK2:Hid (KZ K U qn):=Hi (by rw [←HQl.out];exact HUK.out);refine wpG 7 (fun opIx=>match opIx with
  | 1=>.spec (SH) (default) (SH.v) (fun x w'=>ChR w' x (nX q))
  | 6=>.spec Unit () (fun _=>.int .i64 r) (fun _ _=>True)
  | _=>.quiet) (fun|6=>[1]|_=>[]) fun w0 he0 hz0 hc0 hf0=>?_
 refine wps he0.out rfl rfl (fun w1 hW hG=>?_) fun x30=>?_
 ·exact spc [.slice qa qn qc] Tryz.func139 (rS qa qn qc q U E K _ (LQ.out.can.ext hW) (by omega) HQ0.out hU hE hE2 HFU.out HUK2.out (by omega))
 refine qZ ?_;refine wps he0.out rfl rfl (fun w1 hW hG=>?_) fun x31=>?_
 ·have g30:=(hG 1 (by decide):ax _ _).get fun _ e g=>g.ext e
  exact spc [x30.v,RH.v ⟨ln,la,ll,lc,lb,lm,ld⟩,RH.v ⟨hn,ha,hl,hc,hb,hm,hd⟩] Tryz.func138 ((by rw [HR.out];exact rt x30 (nX q) ⟨ln,la,ll,lc,lb,lm,ld⟩ ⟨hn,ha,hl,hc,hb,hm,hd⟩ lo hi _ g30 HMA.out HMB.out (HL.out.ext hW) (HH.out.ext hW) (ZA.out.mono (by omega)) (ZB.out.mono (by omega))))
 refine qZ ?_;refine aj ?_;intro w21 hI;have hE:=he0.out.trans hI.ext;have G30:=gT (hI.facts 1);clear hI he0 hz0 hc0 hf0;refine mV5 hE ?_ HX B3 LQ HL HH;clear HX B3 LQ HL HH;intro HX B3 LQ HL HH;have hs_w21:=hE.size;clear hE;replace b_B3:=bX3 B3;simp only [pD];clear G30
 go_wp2_with fail
 refine cM (nL qa qn qc q ⟨ln,la,ll,lc,lb,lm,ld⟩ lo _ LQ.out.can HL.out (by omega) HSQ.out (ZA.out.mono (by omega)) HEV.out) fun x31 w31 hE G31=>?_
 refine mV5 hE ?_ HX B3 LQ HL HH;clear HX B3 LQ HL HH;intro HX B3 LQ HL HH;have hs_w31:=hE.size;clear hE;replace b_B3:=bX3 B3
 go_wp2_with fail
 refine cM (eW x31 (evV q lo) _ (G31.out.raw (HEV.out 0 (Nat.zero_le _)) (by decide))) fun x32 w32 hE _=>?_
 refine mV6 hE ?_ G31 HX B3 LQ HL HH;clear G31 HX B3 LQ HL HH;intro G31 HX B3 LQ HL HH;have hs_w32:=hE.size;clear hE;replace b_B3:=bX3 B3;rw [qI];obtain ⟨z,hz⟩:∃ z,z=Sg.sg (evV q lo):=⟨_,rfl⟩;have HCN2:Hid (Fn (rX (tz l) (loV a b) (hiV a b)=r+(if z=0 then 1 else 0))):=Hi (fun _=>by rw [HCN.out (),hz]);have hzs:=oC (evV q lo);rw [←hz] at hzs ⊢;clear hz HCN;clear G31;by_cases h1:z=0
 case pos =>
  subst h1;have HE2:Hid (Fn (rX (tz l) (loV a b) (hiV a b)=r+1)):=Hi (fun _=>by rw [HCN2.out (),if_pos rfl]);clear HCN2;go_wp2;exact bodyPost_ret (v:=.tuple #[.int .i64 (rX (tz l) (loV a b) (hiV a b)),.int .i64 0]) (by rw [HE2.out ()];simp [results,Tryz.results78,go_sem]) rfl ⟨(),rfl,HX.out,trivial⟩
 have hzb:(z == 0)=false:=by rw [nXr];exact h1
 have HE2:Hid (Fn (rX (tz l) (loV a b) (hiV a b)=r)):=Hi (fun _=>by rw [HCN2.out (),if_neg h1];omega);clear HCN2;go_wp2;exact bodyPost_ret (v:=.tuple #[.int .i64 (rX (tz l) (loV a b) (hiV a b)),.int .i64 0]) (by rw [HE2.out ()];simp [results,Tryz.results78,go_sem]) rfl ⟨(),rfl,HX.out,trivial⟩
theorem o6(pa:Option Addr)(P pc:Nat)(l:List Rat)(v:Value)(s t:RH)(w:World)(h:cx w ⟨pa,P,pc⟩ l)(hP:P≤1000000)(h0:tz l=[]) :
  am 78 [.slice pa P pc,IvV (s,t)] w (fun _:Unit=>.tuple #[.int .i64 0,.int .i64 3]) (fun _ _=>True):=by
 have HX:=Hi (Ext.refl w);have LP:=Hi h;have H0:=Hi h0;obtain ⟨sn,sa,sl,sc,sb,sm,sd⟩:=s;obtain ⟨tn,ta,tl,tc,tb,tm,td⟩:=t;clear h h0;unfold am;go_enter Tryz.func78,Tryz.ntmps78
 go_upto_region 1 with fail
 refine nmA ?_;intro w1 hE B3 hz_w1 hr_w1;refine mV2 hE ?_ HX LP;clear HX LP;intro HX LP;have hs_w1:=hE.size;clear hE;replace b_B3:=bX3 B3
 go_wp2_with fail
 refine cM (dC pa P pc l _ LP.out (by omega)) fun x10 w10 hE _=>?_
 refine mV3 hE ?_ B3 HX LP;clear B3 HX LP;intro B3 HX LP;have hs_w10:=hE.size;clear hE;replace b_B3:=bX3 B3;rw [H0.out];simp only [List.length_nil];go_wp2;exact bodyPost_ret (v:=.tuple #[.int .i64 0,.int .i64 3]) (by simp [results,Tryz.results78,go_sem]) rfl ⟨(),rfl,HX.out,trivial⟩
def kI(l:List Rat)(a b:Rat):Bool:=if tz l=[] then false else decide (rX (tz l) (loV a b) (hiV a b)=0∧0<Sg.sg (evV l a))
theorem lY(pa:Option Addr)(P pc:Nat)(l:List Rat)(K:Nat)(s t:RH)(a b:Rat)(T:Nat)(w:World)(h:cx w ⟨pa,P,pc⟩ l)(hP:P≤49)(hk:FrK K (tz l))(hK:K≤3900000)(hK2:(P+1)*(K / 3)≤25000000)(hsq:FrK K (sqfV (tz l)))
 (hs:aR w s a)(ht:aR w t b)(za:Sz T a)(zb:Sz T b)(hT3:T≤1000)(hz:SzL 40000000 l)(hE:∀ k,k≤l.length→Sz 40000000 (evV (l.drop k) a)) :
  am 22 [.slice pa P pc,IvV (s,t)] w (fun _:Unit=>.tuple #[.bool (kI l a b),.int .i64 0]) (fun _ _=>True):=by
 obtain ⟨sn,sa,sl,sc,sb,sm,sd⟩:=s;obtain ⟨tn,ta,tl,tc,tb,tm,td⟩:=t;have HX:=Hi (Ext.refl w);have LP:=Hi h;have HS:=Hi hs;have HT:=Hi ht;have hlen:=h.len;simp only at hlen;have HKp:=Hi hk;have HKs:=Hi hsq;have ZA:=Hi za;have ZB:=Hi zb;have HZ:=Hi hz;have HEV:=Hi hE;obtain ⟨N,hN⟩:∃ N,N=(tz l).length:=⟨_,rfl⟩;have hN2:N≤49:=by rw [hN];have:=ag l;omega
 have HN:=Hi hN;clear h hs ht hk hsq za zb hlen hN hz hE;unfold am;go_enter Tryz.func22,Tryz.ntmps22
 go_upto_region 1 with fail
 refine nmA ?_;intro w1 hE B3 hz_w1 hr_w1;refine mV4 hE ?_ HX LP HS HT;clear HX LP HS HT;intro HX LP HS HT;have hs_w1:=hE.size;clear hE;replace b_B3:=bX3 B3
 go_wp2_with fail
 refine cM (dC pa P pc l _ LP.out (by omega)) fun x9 w9 hE _=>?_
 refine mV5 hE ?_ B3 HX LP HS HT;clear B3 HX LP HS HT;intro B3 HX LP HS HT;have hs_w9:=hE.size;clear hE;replace b_B3:=bX3 B3;rw [←HN.out];have hg1:¬ (48:Int)<(N:Int)-1:=by omega
 by_cases h0:tz l=[]
 case pos =>
  have H0:=Hi h0;have HV:Hid (Fn (kI l a b=false)):=Hi (fun _=>by unfold kI;rw [if_pos H0.out]);clear h0
  go_wp2_with fail
  refine cM (o6 pa P pc l (.int .i64 0) ⟨sn,sa,sl,sc,sb,sm,sd⟩ ⟨tn,ta,tl,tc,tb,tm,td⟩ _ LP.out (by omega) H0.out) fun x14 w14 hE _=>?_
  refine mV5 hE ?_ B3 HX LP HS HT;clear B3 HX LP HS HT;intro B3 HX LP HS HT;have hs_w14:=hE.size;clear hE;replace b_B3:=bX3 B3;go_wp2;exact bodyPost_ret (v:=.tuple #[.bool (kI l a b),.int .i64 0]) (by rw [HV.out ()];simp [results,Tryz.results22,go_sem]) rfl ⟨(),rfl,HX.out,trivial⟩
 have H0:=Hi h0;clear h0
 go_wp2_with fail
 refine cM (rQ pa P pc l K ⟨sn,sa,sl,sc,sb,sm,sd⟩ ⟨tn,ta,tl,tc,tb,tm,td⟩ a b T _ LP.out hP H0.out HKp.out hK hK2 HKs.out HS.out HT.out ZA.out ZB.out hT3) fun x14 w14 hE _=>?_
 refine mV5 hE ?_ B3 HX LP HS HT;clear B3 HX LP HS HT;intro B3 HX LP HS HT;have hs_w14:=hE.size;clear hE;replace b_B3:=bX3 B3;obtain ⟨n,hn⟩:∃ n,n=rX (tz l) (loV a b) (hiV a b):=⟨_,rfl⟩;have HNN:=Hi hn;rw [←hn];clear hn;by_cases h1:n=0
 case neg =>
  have hb1:(n == 0)=false:=by rw [nXr];exact h1
  have HV:Hid (Fn (kI l a b=false)):=Hi (fun _=>by unfold kI;rw [if_neg H0.out,←HNN.out];exact decide_eq_false (fun h=>h1 h.1));go_wp2;exact bodyPost_ret (v:=.tuple #[.bool (kI l a b),.int .i64 0]) (by rw [HV.out ()];simp [results,Tryz.results22,go_sem]) rfl ⟨(),rfl,HX.out,trivial⟩
 subst h1
 go_wp2_with fail
 refine cM (ur pa P pc l ⟨sn,sa,sl,sc,sb,sm,sd⟩ a _ LP.out HS.out (by omega) HZ.out (ZA.out.mono (by omega)) HEV.out) fun x27 w27 hE G27=>?_
 refine mV5 hE ?_ B3 HX LP HS HT;clear B3 HX LP HS HT;intro B3 HX LP HS HT;have hs_w27:=hE.size;clear hE;replace b_B3:=bX3 B3
 go_wp2_with fail
 refine cM (eW x27 (evV l a) _ (G27.out.raw (HEV.out 0 (Nat.zero_le _)) (by decide))) fun x28 w28 hE _=>?_
 refine mV6 hE ?_ G27 B3 HX LP HS HT;clear G27 B3 HX LP HS HT;intro G27 B3 HX LP HS HT;have hs_w28:=hE.size;clear hE;replace b_B3:=bX3 B3;rw [qI];have hzs:=oC (evV l a);obtain ⟨z,hz⟩:∃ z,z=Sg.sg (evV l a):=⟨_,rfl⟩;have HV:Hid (Fn (kI l a b=decide (0<z))):=Hi (fun _=>by
  unfold kI;rw [if_neg H0.out,←HNN.out,hz];by_cases h:0<Sg.sg (evV l a)
  ·rw [decide_eq_true h];exact decide_eq_true ⟨rfl,h⟩
  ·rw [decide_eq_false h];exact decide_eq_false (fun k=>h k.2))
 rw [←hz] at hzs ⊢;clear hz;go_wp2;exact bodyPost_ret (v:=.tuple #[.bool (kI l a b),.int .i64 0]) (by rw [HV.out ()];simp [results,Tryz.results22,go_sem]) rfl ⟨(),rfl,HX.out,trivial⟩
end Go.Proofs.YtohahgiidooijaaGreat
/- Count and Positive of package sturm and of the reference are the same. Plain facts. -/
namespace Go.Proofs.YtohahgiidooijaaGreat.Sg
open Go.RowKit Go.Front Go.Num Go.Stab Go.Proofs.YtohahgiidooijaaGreat
/-! ## Chains of -p -/
def ng(l:List Rat):List Rat:=l.map (·*-1)
theorem iD(l:List Rat)(n:Nat):seq (ng l) n=seq l n*-1:=aS l (-1) n
theorem nu{l:List Rat}:ng l=[]↔l=[]:=List.map_eq_nil_iff
theorem xL(l:List Rat):(ng l).length=l.length:=nXk ..
theorem yX(l:List Rat):tz (ng l)=ng (tz l):=eV (c:=-1) (by decide) l
theorem pL(b:Rat):(b*-1).abs=b.abs:=by
 unfold Rat.abs;split <;> split <;> grind
theorem xS(b:Rat):(b*-1)⁻¹=b⁻¹*-1:=by
 by_cases h:b=0
 ·subst h;decide +kernel
 ·have h1:=nYi b h;have h2:=nYi (b*-1) (fun e=>h (by grind));generalize (b*-1)⁻¹=x at *
  generalize b⁻¹=y at *
  have:x=x*(b*y):=by rw [h1,Rat.mul_one]
  rw [this];have h3:x*(b*y)=(b*-1*x)*(y*-1):=by grind
  rw [h3,h2,Rat.one_mul]
theorem yS(a b:Rat):fK a (b*-1)=fK a b:=by
 unfold fK;by_cases ha:a=0
 ·rw [if_pos ha,if_pos ha,pL]
 ·rw [if_neg ha,if_neg ha];by_cases hb:b=0
  ·rw [if_pos hb,if_pos (by rw [hb];grind)]
  ·have e1:a / (b*-1)=-(a / b):=by
    rw [Rat.div_def,Rat.div_def,xS];grind
   rw [if_neg hb,if_neg (fun e=>hb (by grind)),e1,Rat.neg_num,Rat.intCast_neg];rw [show a / -(((a / b).num:Int):Rat)=a / (((a / b).num:Int):Rat)*-1 from by rw [Rat.div_def,show -(((a / b).num:Int):Rat)=(((a / b).num:Int):Rat)*-1 by grind,xS,Rat.div_def];grind,pL]
theorem zq(l:List Rat):bg (ng l)=bg l:=by
 unfold bg ng
 suffices ∀ m,List.foldl fK m (l.map (·*-1))=List.foldl fK m l from this 0
 induction l with
 | nil=>intro m;rfl
 | cons x l ih=>intro m;rw [List.map_cons,List.foldl_cons,List.foldl_cons,yS];exact ih _
theorem sC(p:List Rat):av (ng p)=ng (av p):=by
 unfold av aH;rw [yX,zq];unfold ng;rw [List.map_map,List.map_map];exact List.map_congr_left fun x _=>by show x*-1 / _=x / _*-1;rw [Rat.div_def,Rat.div_def];grind
theorem BW(l:List Rat)(x:Rat):evV (ng l) x=evV l x*-1:=(bT l (-1) x).trans (nYb ..)
theorem yY{a b:List Rat}(hb:tz b≠[]):av (ng (bq (ng a) (ng b)))=ng (av (ng (bq a b))):=by
 obtain ⟨h1,-,-,h4⟩:=cg a hb;have hb2:tz (ng b)≠[]:=by rw [yX];exact fun h=>hb (nu.1 h)
 have h5:=(gB (p:=ng a) (q:=ng b) hb2 (s:=seq (bs a b)) (r:=seq (ng (bq a b))) (F:=1) (N:=(bs a b).length) (Bd.seq _) (fun i hi=>by rw [iD,Bd.seq _ i (by rw [yX,xL] at hi;omega),nXz]) (fun n=>by
  have hs:seq (ng b)=fun i=>-1*seq b i:=funext fun i=>by rw [iD];grind
  rw [Rat.one_mul,iD,iD,h4 n,hs,eS _ (fun i=>-1*seq b i),eJ,eS];grind)).2
 have h6:av (ng (bq (ng a) (ng b)))=av (ng (ng (bq a b))):=cu (c:=1) (by decide) (fun n=>by rw [iD,iD,h5 n];grind);rw [h6,sC (ng (bq a b))]
theorem yh:∀ (n:Nat) (a b:List Rat),tz b=b→chn n (ng a) (ng b)=(chn n a b).map ng
 | 0,_,_,_=>rfl
 | n+1,a,b,hb=>by
  unfold chn;by_cases h1:a=[]
  ·rw [if_pos h1,if_pos (nu.2 h1)];rfl
  ·rw [if_neg h1,if_neg (fun h=>h1 (nu.1 h))];by_cases h2:b=[]
   ·rw [if_pos h2,if_pos (nu.2 h2)];rfl
   ·rw [if_neg h2,if_neg (fun h=>h2 (nu.1 h)),List.map_cons];have h3:=yY (a:=a) (b:=b) (by rw [hb];exact h2);have h4:=yh n b (av (ng (bq a b))) (bj _);show ng a :: chn n (ng b) (av (ng (bq (ng a) (ng b))))=_;rw [h3,h4];rfl
theorem r5:∀ (l:List Int) (a:Int),vr (-a) (l.map (fun s=>-s))=vr a l
 | [],_=>rfl
 | s :: l,a=>by
  rw [List.map_cons];unfold vr;by_cases h:s=0
  ·rw [if_pos h,if_pos (by omega)];exact r5 l a
  ·rw [if_neg h,if_neg (by omega),r5 l s]
   congr 1
   by_cases h2:a≠0∧s≠a
   ·rw [if_pos h2,if_pos (by omega)]
   ·rw [if_neg h2,if_neg (by omega)]
theorem Ar(l:List (List Rat))(x:Rat):eB (l.map ng) x=eB l x:=by
 unfold eB;rw [List.map_map,show (fun m=>sg (evV m x)) ∘ ng=fun m=>-(sg (evV m x)) from funext fun m=>by show sg (evV (ng m) x)=_;rw [BW,jZ];show _*(-1:Int)=_;omega];rw [show (l.map fun m=>-(sg (evV m x)))=(l.map fun m=>sg (evV m x)).map (fun s=>-s) by rw [List.map_map];rfl];exact r5 _ 0
theorem qL:∀ (n m:Nat) (a b:List Rat),tz b=b→b.length≤n→b.length≤m→chn (n+1) a b=chn (m+1) a b
 | n,m,a,b,hb,h1,h2=>by
  rw [chn,chn];by_cases h3:a=[]
  ·rw [if_pos h3,if_pos h3]
  ·rw [if_neg h3,if_neg h3];by_cases h4:b=[]
   ·rw [if_pos h4,if_pos h4]
   ·rw [if_neg h4,if_neg h4];have h5:=nYf.2 h4;obtain ⟨n',rfl⟩:∃ k,n=k+1:=⟨n-1,by omega⟩;obtain ⟨m',rfl⟩:∃ k,m=k+1:=⟨m-1,by omega⟩;have h6:=lX a b (by rw [hb];exact h4);rw [hb] at h6;rw [qL n' m' b _ (bj _) (by omega) (by omega)]
 termination_by n=>n
theorem yg(p:List Rat):(av (derL p)).length≤p.length:=by
 by_cases h:tz p=[]
 ·have:tz (derL p)=[]:=sj (b:=[]) (fun i=>by
   show seq (derL p) i=_;rw [seq_derL,←aW p,h];show _*(0:Rat)=0;rw [nYa])
  rw [ck.2 this];exact Nat.zero_le _
 ·rw [ay];obtain ⟨n,hn,-⟩:=eI h;have:=gY p n hn;have:=ag p;omega
theorem rems_same{a b:List Rat}{c:Rat}(hc:0<c)(h:∀ n,seq b n=seq a n*c):remsV b=remsV a:=by
 have h1:av b=av a:=cu hc h;have h2:av (derL b)=av (derL a):=cu hc (fun n=>by rw [seq_derL,seq_derL,h,nYc]);unfold remsV;rw [h1,h2];exact qL _ _ _ _ (bj _) (by rw [←h2];exact yg b) (yg a)
theorem yF(p:List Rat):remsV (ng p)=(remsV p).map ng:=by
 have h2:av (derL (ng p))=ng (av (derL p)):=by
  rw [←sC];exact cu (c:=1) (by decide) (fun n=>by rw [iD,seq_derL,seq_derL,iD];grind)
 unfold remsV;rw [sC,h2,xL];exact yh _ _ _ (bj _)
theorem mT{a b:List Rat}{c:Rat}(hc:c≠0)(h:∀ n,seq b n=seq a n*c)(x:Rat):eB (remsV b) x=eB (remsV a) x:=by
 by_cases h1:0<c
 ·rw [rems_same h1 h]
 ·rw [rems_same (a:=ng a) (c:=-c) (by grind) (fun n=>by rw [iD,h n];grind),yF,Ar]
theorem qU{a b:List Rat}(h:∀ x,evV a x*evV b x=1):∃ c:Rat,c≠0∧∀ x,evV b x=c:=by
 have ha:tz a≠[]:=fun h0=>by have:=h 0;rw [aC.1 h0,nXz] at this;exact absurd this (by decide)
 have hb:tz b≠[]:=fun h0=>by have:=h 0;rw [aC.1 h0,nYa] at this;exact absurd this (by decide)
 have h1:∀ x,evV (aw a b) x=evV [1] x:=fun x=>by rw [aV,h x];show (1:Rat)=0*x+1;grind
 have h2:=dl h1;have h3:=kt ha hb;have h4:ln [1]=1:=by decide
 have h5:=eH ha;have h6:=eH hb;have h7:(tz b).length=1:=by show ln b=1;omega
 obtain ⟨c,hc⟩:=List.length_eq_one_iff.1 h7;have h8:∀ x,evV b x=c:=fun x=>by rw [←wU b,hc];show 0*x+c=c;grind
 exact ⟨c,fun h0=>by have:=h 0;rw [h8,h0,nYa] at this;exact absurd this (by decide),h8⟩
theorem yA{p:List Rat}(h:tz p≠[])(h1:Rt p p):∃ c:Rat,c≠0∧∀ n,seq (sqfV p) n=seq p n*c:=by
 obtain ⟨g1,q1,⟨a1,rfl⟩,-,⟨-,-,u,v,⟨bu,rfl⟩,⟨bv,rfl⟩,h4⟩,h2,-⟩:=h1.dv;obtain ⟨g2,q2,⟨a2,rfl⟩,-,⟨⟨k1,⟨b1,rfl⟩,h5⟩,⟨k2,⟨b2,rfl⟩,h6⟩,-⟩,h3,-⟩:=(kX h).dv;have e1:∀ x,evV a1 x=1:=by
  have i1:∀ x,evV (aw (gK a1 [1]) p) x=0:=fun x=>by
   rw [aV,ey];show (evV a1 x-(0*x+1))*evV p x=0;have:=h2 x;grind
  have i2:=aC.2 i1;have i3:tz (gK a1 [1])=[]:=Classical.byContradiction fun hn=>by
   have h7:=kt hn h;have h8:=eH hn;have h9:=eH h;have h0:ln (aw (gK a1 [1]) p)=0:=by show (tz _).length=0;rw [i2];rfl
   omega
  intro x;have h7:=aC.1 i3 x;rw [ey] at h7;have h8:evV [1] x=1:=by show 0*x+1=(1:Rat);grind
  rw [h8] at h7;grind
 obtain ⟨c,hc,h7⟩:=qU (a:=bE (aw bu b1) (aw bv b2)) (b:=a2) (fun x=>by
  have i1:=h4 x;rw [e1 x,h5 x,h6 x] at i1;rw [gX,aV,aV];grind)
 refine ⟨c⁻¹,fun h0=>by have k:=nYi c hc;rw [h0,nYa] at k;exact absurd k (by decide),fun n=>?_⟩;rw [←aS];refine iK (fun x=>?_) n;rw [bT,h3 x,h7 x,←nYc,Rat.inv_mul_cancel c hc,Rat.one_mul]
theorem Br{p:List Rat}(h:tz p≠[])(lo hi:Rat):cntV p lo hi=rX p lo hi:=by
 have hd:∀ (r:List Rat),tz r≠[]→(rtV (remsV r) lo=true↔sg (evV r lo)=0):=fun r hr=>by
  obtain ⟨l,hl⟩:=nj hr;unfold rtV;rw [hl,decide_eq_true_eq];show sg (evV (av r) lo)=0↔_;rw [ow]
 have hne:=(kX h).ne;unfold cntV rX;rw [qM,qM];by_cases hr:2≤((remsV p).getLast?.getD []).length
 ·have e:rootV p=sqfV p:=by unfold rootV;rw [if_pos hr]
  rw [e];by_cases h0:sg (evV (sqfV p) lo)=0
  ·rw [if_pos h0,if_pos ((hd _ hne).2 h0)]
  ·rw [if_neg h0,if_neg (fun k=>h0 ((hd _ hne).1 k))]
 ·have e:rootV p=p:=by unfold rootV;rw [if_neg hr]
  have hrt:=sN h;rw [e] at hrt ⊢;obtain ⟨c,hc,h1⟩:=yA h hrt;rw [mT hc h1,mT hc h1];have h2:evV (sqfV p) lo=c*evV p lo:=iI (fun n=>by rw [h1 n,nYb]) lo;by_cases h0:sg (evV p lo)=0
  ·rw [if_pos ((hd _ h).2 h0),if_pos (by rw [h2,jZ,h0,Int.mul_zero])]
  ·rw [if_neg (fun k=>h0 ((hd _ h).1 k)),if_neg (fun k=>by
    rw [h2,jZ] at k;rcases Int.mul_eq_zero.1 k with k|k
    ·exact hc (AG.1 k)
    ·exact h0 k)]
theorem pos_eq{p:List Rat}{lo hi:Rat}(hlh:lo≤hi):posV (tz p) lo hi=kI p lo hi:=by
 unfold posV kI;rw [aT];by_cases h:tz p=[]
 ·rw [if_pos h,if_pos h]
 ·rw [if_neg h,if_neg h,wB hlh,wI hlh,ow,wU];by_cases h1:sg (evV p lo)≤0
  ·rw [if_pos h1,decide_eq_false (fun k=>by have:=k.2;omega)]
  ·rw [if_neg h1,Br (by rw [aT];exact h)];by_cases h2:rX (tz p) lo hi=0
   ·rw [decide_eq_true h2,decide_eq_true ⟨h2,by omega⟩]
   ·rw [decide_eq_false h2,decide_eq_false (fun k=>h2 k.1)]
end Go.Proofs.YtohahgiidooijaaGreat.Sg
