/- fixed.Nearest. -/
import Derived.Test.YtohahgiidooijaaGreatQNK3
set_option linter.unusedVariables false
namespace Go.Proofs.YtohahgiidooijaaGreat
open Go.RowKit Go.Front Go.Num
attribute [local go_sem] XW.cell XW.frozen
theorem mI{w1:World}{b:Nat}{T:TypeId}{c0 c1 v0:Value}{F:World→Prop}(hb:w1.heap[b]?=some (.cells #[c0,c1] T (0,0)))(hn:#[c0,c1].toList.all gt=true)(h:∀ w2,lc w1 b T #[v0,c1] w2→F w2) :
  F (w1.setCell ⟨b,0,none⟩ v0) :=
 h _ (lc.of (nXa.1 hb).1 (aj hb hn) (aD.setCell w1 ⟨b,0,none⟩ v0) (by simp [World.setCell]) (aJ hb 0 v0))
theorem fe{b:Int}{f:Nat}{r o:Int}{q:Rat}{neg:Bool}{m:Nat}(h2:bU r (q*(2:Rat) ^ f)=sg neg m)(h:4294967296≤m):bM b f r o q=(0,false) :=
 ep fun k=>by
  have h1:=kv k.2;rw [h2] at h1;unfold sg at h1;split at h1 <;> omega
theorem mh{y:Rat}:bU 3 y=sg (decide (y<0)) (y.abs.floor).natAbs:=by
 unfold bU;rw [if_neg (by decide)];by_cases h:y<0
 ·rw [if_pos ⟨rfl,h⟩,decide_eq_true h,Rat.abs_of_nonpos (Rat.le_of_lt h)];have:0≤(-y).floor:=Rat.le_floor_iff.2 (by show ((0:Int):Rat)≤-y;have:((0:Int):Rat)=0:=rfl;grind);simp only [sg,if_true];omega
 ·rw [if_neg (fun k=>h k.2),decide_eq_false h,Rat.abs_of_nonneg (Rat.not_lt.1 h)];have:0≤y.floor:=Rat.le_floor_iff.2 (Rat.not_lt.1 h);simp only [sg,Bool.false_eq_true,if_false];omega
theorem ie{w:World}{a:Option Addr}{c m:Nat}(h:U32 w a 1 c (digs m)):1≤m∧m<4294967296∧∃ b off,a=some ⟨b,off,none⟩∧w.cell? ⟨b,off,none⟩=some (.int .u32 ((m:Nat):Int)):=by
 have hl:=h.len;have hm:m<4294967296:=by
  have:=aE h.dig;rw [af,hl] at this;simpa [W32] using this
 have h1:1≤m:=by
  apply Nat.pos_of_ne_zero;intro h0;rw [aI.2 h0] at hl;cases hl
 obtain ⟨b,off,d,e1,e2,e3,e4⟩:=h.at (k:=0) (by omega);refine ⟨h1,hm,b,off,e1,?_⟩;have hd:digs m=[d]:=by
  match hg:digs m,hl with
  | [x],_=>rw [hg] at e3;simp at e3;rw [e3]
 have:m=d:=by rw [←af m,hd];simp [val]
 rw [this];exact e2
theorem ig{w:World}{a:Option Addr}{n c m:Nat}(h:U32 w a n c (digs m))(hn:1<n):4294967296≤m:=by
 apply Nat.le_of_not_lt;intro hm;have:=aN (v:=m) (k:=1) (by simpa [W32] using hm);have:=h.len;omega
theorem fN{w:World}{a:Option Addr}{c m:Nat}(h:U32 w a 0 c (digs m)):m=0:=aI.1 (nXi.1 h.len)
theorem mG{f:Nat}(h:f≤30):wrap64 (2 ^ min f 64)=((2 ^ f:Nat):Int):=by
 rw [Nat.min_eq_left (by omega)];have h1:=jE h;have e:((2:Int) ^ f)=((2 ^ f:Nat):Int):=by push_cast;rfl
 rw [e,IntWalk.wrap64_in _ (by omega)]
set_option maxRecDepth 8000 in
set_option maxHeartbeats 16000000 in
theorem jT(b r o:Int)(f S:Nat)(s:RH)(q:Rat)(w:World)(h:bX w s q)(hz:Sz S q)(hS:S≤1000)(hf:(⟨b,f,r,o⟩:Wd).valid=true→f≤30) :
  av 41 [(⟨b,f,r,o⟩:Wd).v,s.v] w (fun _:Unit=>IB (bM b f r o q).1 (bM b f r o q).2) (fun _ _=>True):=by
 obtain ⟨sn,sa,sl,sc,sb,sm,sd⟩:=s;have HX:=Hi (Ext.refl w);have HR:=Hi h;have HZ:=Hi hz;clear h hz;obtain ⟨p,hp⟩:∃ p,p=bM b f r o q:=⟨_,rfl⟩;have HP:=Hi hp;rw [←hp];clear hp;obtain ⟨ok,hok⟩:∃ v,v=(⟨b,f,r,o⟩:Wd).valid:=⟨_,rfl⟩;have HK:=Hi hok;clear hok;unfold av;go_enter Tryz.func41,Tryz.ntmps41
 go_upto_region 1 with fail
 refine k9 ?_;intro w1 hE B1 B2 hz_w1 hr_w1;refine mV2 hE ?_ HX HR;clear HX HR;intro HX HR;have hs_w1:=hE.size;clear hE;replace b_B1:=bX3 B1;replace b_B2:=bX3 B2
 go_wp2_with fail
 refine cM (ff ⟨b,f,r,o⟩ _) fun x2 w2 hE _=>?_
 refine mV4 hE ?_ B1 B2 HX HR;clear B1 B2 HX HR;intro B1 B2 HX HR;have hs_w2:=hE.size;clear hE;replace b_B1:=bX3 B1;replace b_B2:=bX3 B2;rw [←HK.out];cases ok
 case false =>
  have HE:Hid (p=(0,false)):=Hi (by rw [HP.out];exact ep fun k=>by have:=HK.out;rw [k.1] at this;cases this);go_wp2
  go_ret2
  exact ⟨(),by rw [HE.out];rfl,HX.out,trivial⟩
 have Hf:Hid (f≤30):=Hi (hf HK.out.symm);clear hf;have ZF:Hid (Sz 1 ((2:Rat) ^ f)):=Hi (f8 Hf.out);have ZY:Hid (Sz 1001 (q*(2:Rat) ^ f)):=Hi ((HZ.out.mul ZF.out).mono (by omega));have Z1:Hid (Sz 1 ((1:Int):Rat)):=Hi (Sz.int (by decide));have Z2:Hid (Sz 1 ((2:Int):Rat)):=Hi (Sz.int (by decide));have ZH:Hid (Sz 2 (((1:Int):Rat) / ((2:Int):Rat))):=Hi (Z1.out.div Z2.out);have hsh:=mG Hf.out;have HB2:=Hi (jE Hf.out);have Etw:Hid ((2:Rat) ^ f=((((2 ^ f:Nat):Int)):Rat)):=Hi (gQ f);obtain ⟨P,hP⟩:∃ P,P=2 ^ f:=⟨_,rfl⟩;rw [←hP] at hsh HB2 Etw;clear hP
 go_upto_region 3 with fail
 refine ag 7 (fun opIx=>match opIx with
  | 4=>.spec RH default RH.v (fun s w'=>aQ w' s (((2:Rat) ^ f)))
  | 5=>.spec RH default RH.v (fun s w'=>aQ w' s ((q*(2:Rat) ^ f)))
  | 6=>.alloc 30 #[.bool false,.slice none 0 0,.slice none 0 0]
  | _=>.quiet) (fun|5=>[4]|_=>[]) (by kernel_rfl) (by kernel_rfl) (fun w0 he0 hz0 hc0 hf0=>?_)
 replace he0:=Hi he0;simp only [pT]
 repeat (refine wpq fun K h=>?_;go_big_quiet_op;refine h _ ?_;clear h K;(try simp only [hsh]))
 refine wps he0.out rfl rfl (fun w1 hW hG=>?_) fun x41=>?_
 ·exact spc [.int .i64 (P:Nat)] Tryz.func76 ((by rw [Etw.out];exact mq _ _ (by have:=HB2.out;omega) (by have:=HB2.out;omega)))
 simp only [pS]
 repeat (refine wpq fun K h=>?_;go_big_quiet_op;refine h _ ?_;clear h K;(try simp only [hsh]))
 refine wps he0.out rfl rfl (fun w1 hW hG=>?_) fun x42=>?_
 ·have g41:=(hG 4 (by decide):aM _ _).get fun _ e g=>g.ext e
  exact spc [RH.v ⟨sn,sa,sl,sc,sb,sm,sd⟩,x41.v] Tryz.func100 (ln _ _ _ _ _ (HR.out.ext hW) (g41.raw ZF.out (by decide)))
 simp only [pS]
 repeat (refine wpq fun K h=>?_;go_big_quiet_op;refine h _ ?_;clear h K;(try simp only [hsh]))
 refine bi rfl rfl (fun w=>by simp [execOp,go_sem,ptr]) (fun b43 hb43 hl43=>?_);simp only [pS]
 repeat (refine wpq fun K h=>?_;go_big_quiet_op;refine h _ ?_;clear h K;(try simp only [hsh]))
 refine am ?_;intro w3 hI;have hE:=he0.out.trans hI.ext;have G41:=gT (hI.facts 4);have G42:=gT (hI.facts 5);have A43:Hid (w3.heap[b43]?=some (.cells #[.bool false,.slice none 0 0,.slice none 0 0] 30 (0,0))):=hI.facts 6;rw [hz0] at hl43;clear hI he0 hz0 hc0 hf0;refine mV4 hE ?_ B1 B2 HX HR;clear B1 B2 HX HR;intro B1 B2 HX HR;have hs_w3:=hE.size;clear hE;replace b_B1:=bX3 B1;replace b_B2:=bX3 B2;replace b_A43:=bX3 A43;simp only [pD,ptr];clear G41;clear HR
 go_upto_region 4 with fail
 refine eo A43.out rfl ?_;intro w4 T;replace HX:=Hi (T.ext HX.out (by omega));replace B1:=Hi (T.rest _ _ (by omega) B1.out);replace B2:=Hi (T.rest _ _ (by omega) B2.out);replace G42:=Hi (G42.out.keep T.keep);replace A43:=Hi (T.bx);have hs_w4:=nle T.size;have hr_w4:=nle T.size.symm;clear T;replace b_B1:=bX3 B1;replace b_B2:=bX3 B2;replace b_A43:=bX3 A43;obtain ⟨y,hy⟩:∃ y,y=q*(2:Rat) ^ f:=⟨_,rfl⟩;have HY:=Hi hy;rw [←hy] at G42 ZY;clear hy;have hb43w:b43<w4.heap.size:=b_A43.2.2
 go_upto_region 5 with fail
 refine nmA ?_;intro w5 hE B7 hz_w5 hr_w5;refine mV5 hE ?_ HX B1 B2 G42 A43;clear HX B1 B2 G42 A43;intro HX B1 B2 G42 A43;have hs_w5:=hE.size;clear hE;replace b_B1:=bX3 B1;replace b_B2:=bX3 B2;replace b_A43:=bX3 A43;replace b_B7:=bX3 B7;by_cases h2:r=2
 case pos =>
  subst h2
  go_upto_region 8 with fail
  refine wpG 4 (fun opIx=>match opIx with
   | 1=>.spec RH default RH.v (fun s w'=>aQ w' s (((1:Int):Rat) / ((2:Int):Rat)))
   | 2=>.spec RH default RH.v (fun s w'=>aQ w' s (y+((1:Int):Rat) / ((2:Int):Rat)))
   | 3=>.spec IH default IH.v (fun s w'=>aV w' s ((y+((1:Int):Rat) / ((2:Int):Rat)).floor))
   | _=>.quiet) (fun|2=>[1]|3=>[2]|_=>[]) fun w0 he0 hz0 hc0 hf0=>?_
  refine wps he0.out rfl rfl (fun w1 hW hG=>?_) fun x44=>?_
  ·exact spc [.int .i64 1,.int .i64 2] Tryz.func103 (jO 1 2 _ (by decide) (by decide) (by decide) (by decide) (by decide))
  refine qZ ?_;refine wps he0.out rfl rfl (fun w1 hW hG=>?_) fun x45=>?_
  ·have g44:=(hG 1 (by decide):aM _ _).get fun _ e g=>g.ext e
   exact spc [x42.v,x44.v] Tryz.func102 (lq x42 x44 _ _ _ ((G42.out.ext hW).raw ZY.out (by decide)) (g44.raw ZH.out (by decide)))
  refine qZ ?_;refine wps he0.out rfl rfl (fun w1 hW hG=>?_) fun x46=>?_
  ·have g45:=(hG 2 (by decide):aM _ _).get fun _ e g=>g.ext e
   exact spc [x45.v] Tryz.func101 (dz x45 _ _ (g45.raw (ZY.out.add ZH.out) (by decide)))
  refine qZ ?_;refine am ?_;intro w8 hI;have hE:=he0.out.trans hI.ext;have G44:=gT (hI.facts 1);have G45:=gT (hI.facts 2);have G46:=gT (hI.facts 3);clear hI he0 hz0 hc0 hf0;refine mV6 hE ?_ B7 HX B1 B2 A43 G42;clear B7 HX B1 B2 A43 G42;intro B7 HX B1 B2 A43 G42;have hs_w8:=hE.size;clear hE;replace b_B1:=bX3 B1;replace b_B2:=bX3 B2;replace b_A43:=bX3 A43;replace b_B7:=bX3 B7;simp only [pD];obtain ⟨neg,a,n,c0⟩:=x46;have HN46:Hid (neg=decide ((y+((1:Int):Rat) / ((2:Int):Rat)).floor<0)):=Hi G46.out.1;obtain ⟨m,hm⟩:∃ m,m=(y+((1:Int):Rat) / ((2:Int):Rat)).floor.natAbs:=⟨_,rfl⟩;have UM:Hid (U32 w8 a n c0 (digs m)):=Hi (by rw [hm];exact G46.out.2);have HW:Hid (bU 2 y=sg neg m):=Hi (by rw [HN46.out,hm,bA];unfold bU;rw [if_pos rfl]);clear G44;clear G45;clear G46;clear hm HN46
  go_upto_region 12 with fail
  refine bB B7.out rfl ?_;intro w9 T;have UN:=T.keep _ _ _ _ UM.out;clear UM;have UM:=Hi UN;clear UN;replace HX:=Hi (T.ext HX.out (by omega));replace B1:=Hi (T.rest _ _ (by omega) B1.out);replace B2:=Hi (T.rest _ _ (by omega) B2.out);replace G42:=Hi (G42.out.keep T.keep);replace A43:=Hi (T.rest _ _ (by omega) A43.out);replace B7:=Hi (T.bx);have hs_w9:=nle T.size;have hr_w9:=nle T.size.symm;clear T;replace b_B1:=bX3 B1;replace b_B2:=bX3 B2;replace b_A43:=bX3 A43;replace b_B7:=bX3 B7;by_cases hn1:1<n
  case pos =>
   have HE:Hid (p=(0,false)):=Hi (by rw [HP.out];exact fe (by rw [←HY.out];exact HW.out) (ig UM.out hn1));go_wp2
   go_ret2
   exact ⟨(),by rw [HE.out];rfl,HX.out,trivial⟩
  by_cases hn0:n=0
  case pos =>
   subst hn0;have hm0:=fN UM.out;subst hm0;have HW0:Hid (bU 2 y=0):=Hi (by rw [HW.out];unfold sg;cases neg <;> rfl);cases neg
   case false =>
    go_wp2_with fail
    refine cM (bD ⟨b,f,2,o⟩ (0) _) fun x9 w9 hE _=>?_
    refine mV7 hE ?_ UM HX B1 B2 G42 A43 B7;clear UM HX B1 B2 G42 A43 B7;intro UM HX B1 B2 G42 A43 B7;have hs_w9:=hE.size;clear hE;replace b_B1:=bX3 B1;replace b_B2:=bX3 B2;replace b_A43:=bX3 A43;replace b_B7:=bX3 B7;obtain ⟨c,hc⟩:∃ c,c=(⟨b,f,2,o⟩:Wd).fits (0):=⟨_,rfl⟩;have HE:Hid (p=if c=true then (0,true) else (0,false)):=Hi (by rw [HP.out];exact aU HK.out.symm (by rw [←HY.out];exact HW0.out) hc.symm);rw [←hc];clear hc;cases c
    case false =>
     go_wp2
     go_ret2
     exact ⟨(),by rw [HE.out];rfl,HX.out,trivial⟩
    case true =>
     go_wp2
     go_ret2
     exact ⟨(),by rw [HE.out];rfl,HX.out,trivial⟩
   case true =>
    go_wp2_with fail
    refine cM (bD ⟨b,f,2,o⟩ (0) _) fun x9 w9 hE _=>?_
    refine mV7 hE ?_ UM HX B1 B2 G42 A43 B7;clear UM HX B1 B2 G42 A43 B7;intro UM HX B1 B2 G42 A43 B7;have hs_w9:=hE.size;clear hE;replace b_B1:=bX3 B1;replace b_B2:=bX3 B2;replace b_A43:=bX3 A43;replace b_B7:=bX3 B7;obtain ⟨c,hc⟩:∃ c,c=(⟨b,f,2,o⟩:Wd).fits (0):=⟨_,rfl⟩;have HE:Hid (p=if c=true then (0,true) else (0,false)):=Hi (by rw [HP.out];exact aU HK.out.symm (by rw [←HY.out];exact HW0.out) hc.symm);rw [←hc];clear hc;cases c
    case false =>
     go_wp2
     go_ret2
     exact ⟨(),by rw [HE.out];rfl,HX.out,trivial⟩
    case true =>
     go_wp2
     go_ret2
     exact ⟨(),by rw [HE.out];rfl,HX.out,trivial⟩
  case neg =>
   obtain rfl:n=1:=by omega
   obtain ⟨m1,m2,bb,off,rfl,hcc⟩:=ie UM.out;cases neg
   case false =>
    have HWm:Hid (bU 2 y=(m:Int)):=Hi (by rw [HW.out];rfl)
    go_wp2_with fail
    refine cM (bD ⟨b,f,2,o⟩ ((m:Int)) _) fun x9 w9 hE _=>?_
    refine mV7 hE ?_ UM HX B1 B2 G42 A43 B7;clear UM HX B1 B2 G42 A43 B7;intro UM HX B1 B2 G42 A43 B7;have hs_w9:=hE.size;clear hE;replace b_B1:=bX3 B1;replace b_B2:=bX3 B2;replace b_A43:=bX3 A43;replace b_B7:=bX3 B7;obtain ⟨c,hc⟩:∃ c,c=(⟨b,f,2,o⟩:Wd).fits ((m:Int)):=⟨_,rfl⟩;have HE:Hid (p=if c=true then ((m:Int),true) else (0,false)):=Hi (by rw [HP.out];exact aU HK.out.symm (by rw [←HY.out];exact HWm.out) hc.symm);rw [←hc];clear hc;cases c
    case false =>
     go_wp2
     go_ret2
     exact ⟨(),by rw [HE.out];rfl,HX.out,trivial⟩
    case true =>
     go_wp2
     go_ret2
     exact ⟨(),by rw [HE.out];rfl,HX.out,trivial⟩
   case true =>
    have HWm:Hid (bU 2 y=-(m:Int)):=Hi (by rw [HW.out];rfl)
    go_wp2_with fail
    refine cM (bD ⟨b,f,2,o⟩ (-(m:Int)) _) fun x9 w9 hE _=>?_
    refine mV7 hE ?_ UM HX B1 B2 G42 A43 B7;clear UM HX B1 B2 G42 A43 B7;intro UM HX B1 B2 G42 A43 B7;have hs_w9:=hE.size;clear hE;replace b_B1:=bX3 B1;replace b_B2:=bX3 B2;replace b_A43:=bX3 A43;replace b_B7:=bX3 B7;obtain ⟨c,hc⟩:∃ c,c=(⟨b,f,2,o⟩:Wd).fits (-(m:Int)):=⟨_,rfl⟩;have HE:Hid (p=if c=true then (-(m:Int),true) else (0,false)):=Hi (by rw [HP.out];exact aU HK.out.symm (by rw [←HY.out];exact HWm.out) hc.symm);rw [←hc];clear hc;cases c
    case false =>
     go_wp2
     go_ret2
     exact ⟨(),by rw [HE.out];rfl,HX.out,trivial⟩
    case true =>
     go_wp2
     go_ret2
     exact ⟨(),by rw [HE.out];rfl,HX.out,trivial⟩
 have h2b:(r == 2)=false:=by rw [nXp];exact h2
 by_cases h3:r=3
 case pos =>
  subst h3
  go_wp2_with fail
  refine cM (lr x42 _ _ (G42.out.raw ZY.out (by decide))) fun x10 w10 hE G10=>?_
  refine mV6 hE ?_ HX B1 B2 G42 A43 B7;clear HX B1 B2 G42 A43 B7;intro HX B1 B2 G42 A43 B7;have hs_w10:=hE.size;clear hE;replace b_B1:=bX3 B1;replace b_B2:=bX3 B2;replace b_A43:=bX3 A43;replace b_B7:=bX3 B7;have ZA:Hid (Sz 1001 y.abs):=Hi ⟨by rw [(gJ y).1];simpa using ZY.out.1,by rw [(gJ y).2];exact ZY.out.2⟩
  go_wp2_with fail
  refine cM (dz x10 _ _ (G10.out.raw ZA.out (by decide))) fun x11 w11 hE G11=>?_
  refine mV7 hE ?_ G10 HX B1 B2 G42 A43 B7;clear G10 HX B1 B2 G42 A43 B7;intro G10 HX B1 B2 G42 A43 B7;have hs_w11:=hE.size;clear hE;replace b_B1:=bX3 B1;replace b_B2:=bX3 B2;replace b_A43:=bX3 A43;replace b_B7:=bX3 B7;obtain ⟨neg0,a,n,c0⟩:=x11;obtain ⟨m,hm⟩:∃ m,m=y.abs.floor.natAbs:=⟨_,rfl⟩;have UM:Hid (U32 w11 a n c0 (digs m)):=Hi (by rw [hm];exact G11.out.2);clear G10;clear G11
  go_upto_region 11 with fail
  refine bB B7.out rfl ?_;intro w12 T;have UN:=T.keep _ _ _ _ UM.out;clear UM;have UM:=Hi UN;clear UN;replace HX:=Hi (T.ext HX.out (by omega));replace B1:=Hi (T.rest _ _ (by omega) B1.out);replace B2:=Hi (T.rest _ _ (by omega) B2.out);replace G42:=Hi (G42.out.keep T.keep);replace A43:=Hi (T.rest _ _ (by omega) A43.out);replace B7:=Hi (T.bx);have hs_w12:=nle T.size;have hr_w12:=nle T.size.symm;clear T;replace b_B1:=bX3 B1;replace b_B2:=bX3 B2;replace b_A43:=bX3 A43;replace b_B7:=bX3 B7
  go_wp2_with fail
  refine cM (jL x42 _ _ (G42.out.raw ZY.out (by decide))) fun x13 w13 hE _=>?_
  refine mV7 hE ?_ UM HX B1 B2 G42 A43 B7;clear UM HX B1 B2 G42 A43 B7;intro UM HX B1 B2 G42 A43 B7;have hs_w13:=hE.size;clear hE;replace b_B1:=bX3 B1;replace b_B2:=bX3 B2;replace b_A43:=bX3 A43;replace b_B7:=bX3 B7;obtain ⟨e,he⟩:∃ e,e=fS y 0:=⟨_,rfl⟩;rw [←he];have HNe:Hid (decide (e<0)=decide (y<0)):=Hi (by rw [he];exact decide_eq_decide.2 jS);clear he
  go_upto_region 12 with fail
  have UN:=UM.out;clear UM;refine mI B7.out rfl ?_;intro w14 T;replace UN:=T.keep _ _ _ _ UN;have UM:=Hi UN;clear UN;replace HX:=Hi (T.ext HX.out (by omega));replace B1:=Hi (T.rest _ _ (by omega) B1.out);replace B2:=Hi (T.rest _ _ (by omega) B2.out);replace G42:=Hi (G42.out.keep T.keep);replace A43:=Hi (T.rest _ _ (by omega) A43.out);replace B7:=Hi (T.bx);have hs_w14:=nle T.size;have hr_w14:=nle T.size.symm;clear T;replace b_B1:=bX3 B1;replace b_B2:=bX3 B2;replace b_A43:=bX3 A43;replace b_B7:=bX3 B7;obtain ⟨neg,hneg⟩:∃ v,v=decide (e<0):=⟨_,rfl⟩;have HW:Hid (bU 3 y=sg neg m):=Hi (by rw [hneg,HNe.out,hm];exact mh);clear hm;rw [←hneg] at B7 ⊢;clear hneg;replace b_B1:=bX3 B1;replace b_B2:=bX3 B2;replace b_A43:=bX3 A43;replace b_B7:=bX3 B7;by_cases hn1:1<n
  case pos =>
   have HE:Hid (p=(0,false)):=Hi (by rw [HP.out];exact fe (by rw [←HY.out];exact HW.out) (ig UM.out hn1));go_wp2
   go_ret2
   exact ⟨(),by rw [HE.out];rfl,HX.out,trivial⟩
  by_cases hn0:n=0
  case pos =>
   subst hn0;have hm0:=fN UM.out;subst hm0;have HW0:Hid (bU 3 y=0):=Hi (by rw [HW.out];unfold sg;cases neg <;> rfl);cases neg
   case false =>
    go_wp2_with fail
    refine cM (bD ⟨b,f,3,o⟩ (0) _) fun x9 w9 hE _=>?_
    refine mV7 hE ?_ UM HX B1 B2 G42 A43 B7;clear UM HX B1 B2 G42 A43 B7;intro UM HX B1 B2 G42 A43 B7;have hs_w9:=hE.size;clear hE;replace b_B1:=bX3 B1;replace b_B2:=bX3 B2;replace b_A43:=bX3 A43;replace b_B7:=bX3 B7;obtain ⟨c,hc⟩:∃ c,c=(⟨b,f,3,o⟩:Wd).fits (0):=⟨_,rfl⟩;have HE:Hid (p=if c=true then (0,true) else (0,false)):=Hi (by rw [HP.out];exact aU HK.out.symm (by rw [←HY.out];exact HW0.out) hc.symm);rw [←hc];clear hc;cases c
    case false =>
     go_wp2
     go_ret2
     exact ⟨(),by rw [HE.out];rfl,HX.out,trivial⟩
    case true =>
     go_wp2
     go_ret2
     exact ⟨(),by rw [HE.out];rfl,HX.out,trivial⟩
   case true =>
    go_wp2_with fail
    refine cM (bD ⟨b,f,3,o⟩ (0) _) fun x9 w9 hE _=>?_
    refine mV7 hE ?_ UM HX B1 B2 G42 A43 B7;clear UM HX B1 B2 G42 A43 B7;intro UM HX B1 B2 G42 A43 B7;have hs_w9:=hE.size;clear hE;replace b_B1:=bX3 B1;replace b_B2:=bX3 B2;replace b_A43:=bX3 A43;replace b_B7:=bX3 B7;obtain ⟨c,hc⟩:∃ c,c=(⟨b,f,3,o⟩:Wd).fits (0):=⟨_,rfl⟩;have HE:Hid (p=if c=true then (0,true) else (0,false)):=Hi (by rw [HP.out];exact aU HK.out.symm (by rw [←HY.out];exact HW0.out) hc.symm);rw [←hc];clear hc;cases c
    case false =>
     go_wp2
     go_ret2
     exact ⟨(),by rw [HE.out];rfl,HX.out,trivial⟩
    case true =>
     go_wp2
     go_ret2
     exact ⟨(),by rw [HE.out];rfl,HX.out,trivial⟩
  case neg =>
   obtain rfl:n=1:=by omega
   obtain ⟨m1,m2,bb,off,rfl,hcc⟩:=ie UM.out;cases neg
   case false =>
    have HWm:Hid (bU 3 y=(m:Int)):=Hi (by rw [HW.out];rfl)
    go_wp2_with fail
    refine cM (bD ⟨b,f,3,o⟩ ((m:Int)) _) fun x9 w9 hE _=>?_
    refine mV7 hE ?_ UM HX B1 B2 G42 A43 B7;clear UM HX B1 B2 G42 A43 B7;intro UM HX B1 B2 G42 A43 B7;have hs_w9:=hE.size;clear hE;replace b_B1:=bX3 B1;replace b_B2:=bX3 B2;replace b_A43:=bX3 A43;replace b_B7:=bX3 B7;obtain ⟨c,hc⟩:∃ c,c=(⟨b,f,3,o⟩:Wd).fits ((m:Int)):=⟨_,rfl⟩;have HE:Hid (p=if c=true then ((m:Int),true) else (0,false)):=Hi (by rw [HP.out];exact aU HK.out.symm (by rw [←HY.out];exact HWm.out) hc.symm);rw [←hc];clear hc;cases c
    case false =>
     go_wp2
     go_ret2
     exact ⟨(),by rw [HE.out];rfl,HX.out,trivial⟩
    case true =>
     go_wp2
     go_ret2
     exact ⟨(),by rw [HE.out];rfl,HX.out,trivial⟩
   case true =>
    have HWm:Hid (bU 3 y=-(m:Int)):=Hi (by rw [HW.out];rfl)
    go_wp2_with fail
    refine cM (bD ⟨b,f,3,o⟩ (-(m:Int)) _) fun x9 w9 hE _=>?_
    refine mV7 hE ?_ UM HX B1 B2 G42 A43 B7;clear UM HX B1 B2 G42 A43 B7;intro UM HX B1 B2 G42 A43 B7;have hs_w9:=hE.size;clear hE;replace b_B1:=bX3 B1;replace b_B2:=bX3 B2;replace b_A43:=bX3 A43;replace b_B7:=bX3 B7;obtain ⟨c,hc⟩:∃ c,c=(⟨b,f,3,o⟩:Wd).fits (-(m:Int)):=⟨_,rfl⟩;have HE:Hid (p=if c=true then (-(m:Int),true) else (0,false)):=Hi (by rw [HP.out];exact aU HK.out.symm (by rw [←HY.out];exact HWm.out) hc.symm);rw [←hc];clear hc;cases c
    case false =>
     go_wp2
     go_ret2
     exact ⟨(),by rw [HE.out];rfl,HX.out,trivial⟩
    case true =>
     go_wp2
     go_ret2
     exact ⟨(),by rw [HE.out];rfl,HX.out,trivial⟩
 have h3b:(r == 3)=false:=by rw [nXp];exact h3
 go_wp2_with fail
 refine cM (dz x42 _ _ (G42.out.raw ZY.out (by decide))) fun x10 w10 hE G10=>?_
 refine mV6 hE ?_ HX B1 B2 G42 A43 B7;clear HX B1 B2 G42 A43 B7;intro HX B1 B2 G42 A43 B7;have hs_w10:=hE.size;clear hE;replace b_B1:=bX3 B1;replace b_B2:=bX3 B2;replace b_A43:=bX3 A43;replace b_B7:=bX3 B7;obtain ⟨neg,a,n,c0⟩:=x10;have HN46:Hid (neg=decide (y.floor<0)):=Hi G10.out.1;obtain ⟨m,hm⟩:∃ m,m=y.floor.natAbs:=⟨_,rfl⟩;have UM:Hid (U32 w10 a n c0 (digs m)):=Hi (by rw [hm];exact G10.out.2);have HW:Hid (bU r y=sg neg m):=Hi (by rw [HN46.out,hm,bA];unfold bU;rw [if_neg h2,if_neg (fun k=>h3 k.1)]);clear G10;clear hm HN46
 go_upto_region 12 with fail
 refine bB B7.out rfl ?_;intro w12 T;have UN:=T.keep _ _ _ _ UM.out;clear UM;have UM:=Hi UN;clear UN;replace HX:=Hi (T.ext HX.out (by omega));replace B1:=Hi (T.rest _ _ (by omega) B1.out);replace B2:=Hi (T.rest _ _ (by omega) B2.out);replace G42:=Hi (G42.out.keep T.keep);replace A43:=Hi (T.rest _ _ (by omega) A43.out);replace B7:=Hi (T.bx);have hs_w12:=nle T.size;have hr_w12:=nle T.size.symm;clear T;replace b_B1:=bX3 B1;replace b_B2:=bX3 B2;replace b_A43:=bX3 A43;replace b_B7:=bX3 B7;by_cases hn1:1<n
 case pos =>
  have HE:Hid (p=(0,false)):=Hi (by rw [HP.out];exact fe (by rw [←HY.out];exact HW.out) (ig UM.out hn1));go_wp2
  go_ret2
  exact ⟨(),by rw [HE.out];rfl,HX.out,trivial⟩
 by_cases hn0:n=0
 case pos =>
  subst hn0;have hm0:=fN UM.out;subst hm0;have HW0:Hid (bU r y=0):=Hi (by rw [HW.out];unfold sg;cases neg <;> rfl);cases neg
  case false =>
   go_wp2_with fail
   refine cM (bD ⟨b,f,r,o⟩ (0) _) fun x9 w9 hE _=>?_
   refine mV7 hE ?_ UM HX B1 B2 G42 A43 B7;clear UM HX B1 B2 G42 A43 B7;intro UM HX B1 B2 G42 A43 B7;have hs_w9:=hE.size;clear hE;replace b_B1:=bX3 B1;replace b_B2:=bX3 B2;replace b_A43:=bX3 A43;replace b_B7:=bX3 B7;obtain ⟨c,hc⟩:∃ c,c=(⟨b,f,r,o⟩:Wd).fits (0):=⟨_,rfl⟩;have HE:Hid (p=if c=true then (0,true) else (0,false)):=Hi (by rw [HP.out];exact aU HK.out.symm (by rw [←HY.out];exact HW0.out) hc.symm);rw [←hc];clear hc;cases c
   case false =>
    go_wp2
    go_ret2
    exact ⟨(),by rw [HE.out];rfl,HX.out,trivial⟩
   case true =>
    go_wp2
    go_ret2
    exact ⟨(),by rw [HE.out];rfl,HX.out,trivial⟩
  case true =>
   go_wp2_with fail
   refine cM (bD ⟨b,f,r,o⟩ (0) _) fun x9 w9 hE _=>?_
   refine mV7 hE ?_ UM HX B1 B2 G42 A43 B7;clear UM HX B1 B2 G42 A43 B7;intro UM HX B1 B2 G42 A43 B7;have hs_w9:=hE.size;clear hE;replace b_B1:=bX3 B1;replace b_B2:=bX3 B2;replace b_A43:=bX3 A43;replace b_B7:=bX3 B7;obtain ⟨c,hc⟩:∃ c,c=(⟨b,f,r,o⟩:Wd).fits (0):=⟨_,rfl⟩;have HE:Hid (p=if c=true then (0,true) else (0,false)):=Hi (by rw [HP.out];exact aU HK.out.symm (by rw [←HY.out];exact HW0.out) hc.symm);rw [←hc];clear hc;cases c
   case false =>
    go_wp2
    go_ret2
    exact ⟨(),by rw [HE.out];rfl,HX.out,trivial⟩
   case true =>
    go_wp2
    go_ret2
    exact ⟨(),by rw [HE.out];rfl,HX.out,trivial⟩
 case neg =>
  obtain rfl:n=1:=by omega
  obtain ⟨m1,m2,bb,off,rfl,hcc⟩:=ie UM.out;cases neg
  case false =>
   have HWm:Hid (bU r y=(m:Int)):=Hi (by rw [HW.out];rfl)
   go_wp2_with fail
   refine cM (bD ⟨b,f,r,o⟩ ((m:Int)) _) fun x9 w9 hE _=>?_
   refine mV7 hE ?_ UM HX B1 B2 G42 A43 B7;clear UM HX B1 B2 G42 A43 B7;intro UM HX B1 B2 G42 A43 B7;have hs_w9:=hE.size;clear hE;replace b_B1:=bX3 B1;replace b_B2:=bX3 B2;replace b_A43:=bX3 A43;replace b_B7:=bX3 B7;obtain ⟨c,hc⟩:∃ c,c=(⟨b,f,r,o⟩:Wd).fits ((m:Int)):=⟨_,rfl⟩;have HE:Hid (p=if c=true then ((m:Int),true) else (0,false)):=Hi (by rw [HP.out];exact aU HK.out.symm (by rw [←HY.out];exact HWm.out) hc.symm);rw [←hc];clear hc;cases c
   case false =>
    go_wp2
    go_ret2
    exact ⟨(),by rw [HE.out];rfl,HX.out,trivial⟩
   case true =>
    go_wp2
    go_ret2
    exact ⟨(),by rw [HE.out];rfl,HX.out,trivial⟩
  case true =>
   have HWm:Hid (bU r y=-(m:Int)):=Hi (by rw [HW.out];rfl)
   go_wp2_with fail
   refine cM (bD ⟨b,f,r,o⟩ (-(m:Int)) _) fun x9 w9 hE _=>?_
   refine mV7 hE ?_ UM HX B1 B2 G42 A43 B7;clear UM HX B1 B2 G42 A43 B7;intro UM HX B1 B2 G42 A43 B7;have hs_w9:=hE.size;clear hE;replace b_B1:=bX3 B1;replace b_B2:=bX3 B2;replace b_A43:=bX3 A43;replace b_B7:=bX3 B7;obtain ⟨c,hc⟩:∃ c,c=(⟨b,f,r,o⟩:Wd).fits (-(m:Int)):=⟨_,rfl⟩;have HE:Hid (p=if c=true then (-(m:Int),true) else (0,false)):=Hi (by rw [HP.out];exact aU HK.out.symm (by rw [←HY.out];exact HWm.out) hc.symm);rw [←hc];clear hc;cases c
   case false =>
    go_wp2
    go_ret2
    exact ⟨(),by rw [HE.out];rfl,HX.out,trivial⟩
   case true =>
    go_wp2
    go_ret2
    exact ⟨(),by rw [HE.out];rfl,HX.out,trivial⟩
end Go.Proofs.YtohahgiidooijaaGreat
