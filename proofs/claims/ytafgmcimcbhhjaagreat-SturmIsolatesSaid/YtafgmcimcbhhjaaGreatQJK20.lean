import Derived.Test.YtafgmcimcbhhjaaGreatQJK19
set_option linter.unusedVariables false
set_option maxHeartbeats 16000000
set_option maxRecDepth 8000
namespace Go.Proofs.YtafgmcimcbhhjaaGreat
open Go.RowKit Go.Front Go.Num Stab Sg
attribute [local go_sem] XW.cell XW.frozen
theorem o5(l:List Rat):rootV (tz l)=tz (rootV (tz l))∧remsV (rootV (tz l))=remsV (rootV l):=by
 unfold rootV;rw [mL];split
 ·rw [sY];refine ⟨?_,rfl⟩;unfold sqfV;rw [dI]
 ·exact ⟨(aM l).symm,mL l⟩
theorem vi{l:List Rat}{wd:Rat}{D T m Y E K:Nat}(H:SrK (rootV (tz l)) wd D T m Y E K)(lo hi:Rat):cntV l lo hi=clc (rootV (tz l)) lo hi:=by
 unfold cntV clc;rw [←(o5 l).2,(H.var lo).1,(H.var hi).1,(H.var lo).2];by_cases h:evV (rootV (tz l)) lo=0
 ·rw [if_pos h,if_pos (decide_eq_true h)]
 ·rw [if_neg h,if_neg (by rw [decide_eq_false h];exact Bool.noConfusion)]
theorem vP:wd6 0=((1:Int):Rat):=by
 unfold wd6;rw [Nat.pow_zero];decide +kernel
theorem vQ(k:Nat):wd6 k*(((1:Int):Rat) / ((2:Int):Rat))=wd6 (k+1):=by
 unfold wd6;have e1:((1:Int):Rat)=1:=rfl;have e2:((2:Int):Rat)=2:=rfl;have e3:((2 ^ (k+1):Nat):Rat)=((2 ^ k:Nat):Rat)*2:=by rw [nXt,Rat.natCast_mul];rfl
 have hp:(0:Rat)<((2 ^ k:Nat):Rat):=by exact_mod_cast Nat.two_pow_pos k
 rw [e1,e2,e3];generalize ((2 ^ k:Nat):Rat)=P at *
 have h1:=aw (a:=1) (b:=P) (by grind);have h2:=aw (a:=1) (b:=2) dZ;have h3:=aw (a:=1) (b:=P*2) (by grind);generalize 1 / P=x at *
 generalize 1 / (P*2)=z at *
 generalize (1:Rat) / 2=y at *
 have h4:(x*y-z)*(P*2)=0:=by grind
 rcases nXr.1 h4 with h5|h5 <;> grind
theorem Aa{w1:World}{b:Nat}{T:TypeId}{c0 c1 c2 c3 c4 v1 v2 v3:Value}{F:World→Prop}(hb:w1.heap[b]?=some (.cells #[c0,c1,c2,c3,c4] T (0,0)))(hn:#[c0,c1,c2,c3,c4].toList.all fj=true)(h:∀ w2,dK w1 b T #[c0,v1,v2,v3,c4] w2→F w2) :
  F (((w1.setCell ⟨b,1,none⟩ v1).setCell ⟨b,2,none⟩ v2).setCell ⟨b,3,none⟩ v3) :=
 h _ (dK.of (nXb.1 hb).1 (aj hb hn) (((aV.setCell w1 ⟨b,1,none⟩ v1).trans (aV.setCell _ ⟨b,2,none⟩ v2)).trans (aV.setCell _ ⟨b,3,none⟩ v3)) (by simp [World.setCell]) (aH (aH (aH hb 1 v1) 2 v2) 3 v3))
theorem zZ{w1:World}{b b':Nat}{T T':TypeId}{c0 c1 c2 c3 c4 v0 v1 v2 v3 v4 d0 d1 d2 d3 d4 u0 u1 u2 u3 u4:Value}{F:World→Prop}(hb:w1.heap[b]?=some (.cells #[c0,c1,c2,c3,c4] T (0,0)))(hn:#[c0,c1,c2,c3,c4].toList.all fj=true)
 (hb':w1.heap[b']?=some (.cells #[d0,d1,d2,d3,d4] T' (0,0)))(hn':#[d0,d1,d2,d3,d4].toList.all fj=true)(hne:b'≠b)
 (H:∀ w2 w3,dK w1 b T #[v0,v1,v2,v3,v4] w2→dK w2 b' T' #[u0,u1,u2,u3,u4] w3→F w3) :
  F ((((((((((w1.setCell ⟨b,0,none⟩ v0).setCell ⟨b,1,none⟩ v1).setCell ⟨b,2,none⟩ v2).setCell ⟨b,3,none⟩ v3).setCell ⟨b,4,none⟩ v4).setCell ⟨b',0,none⟩ u0).setCell ⟨b',1,none⟩ u1).setCell ⟨b',2,none⟩ u2).setCell ⟨b',3,none⟩ u3).setCell ⟨b',4,none⟩ u4) :=
 kS (v0:=v0) (v1:=v1) (v2:=v2) (v3:=v3) (v4:=v4) (F:=fun W=>F (((((W.setCell ⟨b',0,none⟩ u0).setCell ⟨b',1,none⟩ u1).setCell ⟨b',2,none⟩ u2).setCell ⟨b',3,none⟩ u3).setCell ⟨b',4,none⟩ u4)) hb hn fun w2 T2 =>
  kS (v0:=u0) (v1:=u1) (v2:=u2) (v3:=u3) (v4:=u4) (F:=F) (T2.rest _ _ hne hb') hn' fun w3 T3=>H w2 w3 T2 T3
theorem qg(pa:Option Addr)(P pc:Nat)(s t:RH)(z:Int)(w:World)(hz:z<0∨256<z) :
  au 32 [.slice pa P pc,IvV (s,t),.int .i64 z] w (fun _:Unit=>.tuple #[.slice none 0 0,.int .i64 1]) (fun _ _=>True):=by
 have HX:=Hi (Ext.refl w);obtain ⟨sn,sa,sl,sc,sb,sm,sd⟩:=s;obtain ⟨tn,ta,tl,tc,tb,tm,td⟩:=t;unfold au;go_enter Tryz.func32,Tryz.ntmps32
 go_upto_region 1 with fail
 refine nmA ?_;intro w1 hE B4 hz_w1 hr_w1;replace HX:=hE.tr HX;have hs_w1:=hE.size;replace b_B4:=bX3 B4;by_cases h0:z<0
 ·clear hz;go_wp2;exact nXa (v:=.tuple #[.slice none 0 0,.int .i64 1]) (by simp [results,Tryz.results32,go_sem]) rfl ⟨(),rfl,HX.out,trivial⟩
 ·have h1:256<z:=zo;clear hz;go_wp2;exact nXa (v:=.tuple #[.slice none 0 0,.int .i64 1]) (by simp [results,Tryz.results32,go_sem]) rfl ⟨(),rfl,HX.out,trivial⟩
theorem wo(pa:Option Addr)(P pc:Nat)(l:List Rat)(s t:RH)(bits:Nat)(w:World)(h:cD w ⟨pa,P,pc⟩ l)(h0:tz l=[])(hb:bits≤256) :
  au 32 [.slice pa P pc,IvV (s,t),.int .i64 (bits:Nat)] w (fun _:Unit=>.tuple #[.slice none 0 0,.int .i64 3]) (fun _ _=>True):=by
 have HX:=Hi (Ext.refl w);have LP:=Hi h;have HCk:Hid (oM l=3):=Hi (by unfold oM;rw [if_neg (by rw [h0];decide),if_pos h0]);obtain ⟨sn,sa,sl,sc,sb,sm,sd⟩:=s;obtain ⟨tn,ta,tl,tc,tb,tm,td⟩:=t;have hb1:¬ ((bits:Nat):Int)<0:=zo;have hb2:¬ (256:Int)<((bits:Nat):Int):=zo;clear h h0;unfold au;go_enter Tryz.func32,Tryz.ntmps32
 go_upto_region 1 with fail
 refine nmA ?_;intro w1 hE B4 hz_w1 hr_w1;refine mV2 hE ?_ HX LP;clear HX LP;intro HX LP;have hs_w1:=hE.size;replace b_B4:=bX3 B4
 go_wp2_with fail
 refine cM (iW pa P pc l _ LP.out) fun x19 w19 hE _=>?_
 refine mV3 hE ?_ B4 HX LP;clear B4 HX LP;intro B4 HX LP;have hs_w19:=hE.size;replace b_B4:=bX3 B4;rw [HCk.out];go_wp2;exact nXa (v:=.tuple #[.slice none 0 0,.int .i64 3]) (by simp [results,Tryz.results32,go_sem]) rfl ⟨(),rfl,HX.out,trivial⟩
theorem Cl(q:List Rat)(wd:Rat)(E:Nat)(lo hi:Rat):flP (isP q wd E lo hi)=(if evV q lo=0 then [lo,lo] else [])++(if lo<hi then flP (opS q wd E lo hi)++(if evV q hi=0 then [hi,hi] else []) else []):=by
 unfold isP;rw [f7]
 congr 1
 ·split <;> rfl
 ·split
  ·rw [f7]
   congr 1
   split <;> rfl
  ·rfl
theorem ws(pa:Option Addr)(P pc:Nat)(l:List Rat)(K:Nat)(s t:RH)(a b:Rat)(bits D T m Y E:Nat)(w:World)(h:cD w ⟨pa,P,pc⟩ l)(hP:P≤49)(h0:tz l≠[])(hk:FrK K l)(hK:K≤12000000)(hK2:(P+1)*(K / 3)≤25000000)(hsq:FrK K (sqfV l))
 (hs:aS w s a)(ht:aS w t b)(H:SrK (rootV (tz l)) (wd6 bits) D T m Y E K)(dl:Dy D (W32 ^ T) 0 (loV a b))(dh:Dy D (W32 ^ T) 0 (hiV a b))(hd:(hiV a b-loV a b)*((W32 ^ Y:Nat):Rat)≤((2 ^ E:Nat):Rat))(hb:bits≤256) :
  au 32 [.slice pa P pc,IvV (s,t),.int .i64 (bits:Nat)] w (fun x:SH=>.tuple #[x.v,.int .i64 0]) (fun x w'=>gV w' x (flP (isP (rootV (tz l)) (wd6 bits) E (loV a b) (hiV a b)))):=by
 have HX:=Hi (Ext.refl w);have LP:=Hi (RIn.of h);have HS:=Hi hs;have HT:=Hi ht;have hlen:=h.len;simp only at hlen;have H0:=Hi h0;have HKp:=Hi hk;have HKs:=Hi hsq;have HCk:Hid (oM l=0):=Hi (by unfold oM;rw [if_neg (by have:=ah l;omega),if_neg h0]);have HH:=Hi H;have hT2:=H.t;obtain ⟨q,hq⟩:∃ q,q=rootV (tz l):=⟨_,rfl⟩;have HMS:Hid (LLE (remsV (rootV l)) (remsV q)):=Hi (fun _=>by rw [hq,(o5 l).2]);rw [←hq] at HH ⊢;obtain ⟨lo,hlo⟩:∃ lo,lo=loV a b:=⟨_,rfl⟩;obtain ⟨hi,hhi⟩:∃ hi,hi=hiV a b:=⟨_,rfl⟩;have HLE:Hid (lo≤hi):=Hi (by rw [hlo,hhi];exact xg a b);rw [←hlo] at dl hd;rw [←hhi] at dh hd;rw [←hlo,←hhi];have HLO:=Hi hlo;have HHI:=Hi hhi;have DL:=Hi dl;have DH:=Hi dh;have HD:=Hi hd;have ZL:=Hi (HH.out.sz (Nat.zero_le _) dl);have ZH:=Hi (HH.out.sz (Nat.zero_le _) dh);have hb1:¬ ((bits:Nat):Int)<0:=zo;have hb2:¬ (256:Int)<((bits:Nat):Int):=zo;have HP0:=Hi (gA HH.out.sp.ne);obtain ⟨sn,sa,sl,sc,sb,sm,sd⟩:=s;obtain ⟨tn,ta,tl,tc,tb,tm,td⟩:=t;clear h hs ht h0 hk hsq H dl dh hd hq hlo hhi;unfold au;go_enter Tryz.func32,Tryz.ntmps32
 go_upto_region 1 with fail
 refine nmA ?_;intro w1 hE B4 hz_w1 hr_w1;refine mV4 hE ?_ HX LP HS HT;clear HX LP HS HT;intro HX LP HS HT;have hs_w1:=hE.size;replace b_B4:=bX3 B4
 go_wp2_with fail
 refine cM (iW pa P pc l _ LP.out.raw) fun x19 w19 hE _=>?_
 refine mV5 hE ?_ B4 HX LP HS HT;clear B4 HX LP HS HT;intro B4 HX LP HS HT;have hs_w19:=hE.size;replace b_B4:=bX3 B4;rw [HCk.out]
 go_wp2_with fail
 refine cM (gE ⟨sn,sa,sl,sc,sb,sm,sd⟩ ⟨tn,ta,tl,tc,tb,tm,td⟩ a b _ HS.out HT.out) fun x24 w24 hE G24=>?_
 refine mV5 hE ?_ B4 HX LP HS HT;clear B4 HX LP HS HT;intro B4 HX LP HS HT;have hs_w24:=hE.size;replace b_B4:=bX3 B4;obtain ⟨⟨ln,la,ll,lc,lb,lm,ld⟩,⟨hn,ha,hl,hc,hb',hm,hd⟩⟩:=x24;rw [←HLO.out,←HHI.out] at G24;have HL:=Hi G24.out.1;have HI:=Hi G24.out.2;clear G24;clear HS;clear HT
 go_upto_region 7 with fail
 refine df B4.out rfl ?_;intro w25 T;replace HX:=Hi (T.ext HX.out zo);replace LP:=Hi (LP.out.put T zo);replace B4:=Hi (T.bx);replace HL:=Hi (HL.out.keep T.keep);replace HI:=Hi (HI.out.keep T.keep);have hs_w25:=nle T.size;have hr_w25:=nle T.size.symm;clear T;replace b_B4:=bX3 B4
 go_wp2_with fail
 refine cM (mD pa P pc l K _ LP.out.raw zo H0.out HKp.out hK hK2 HKs.out) fun x26 w26 hE G26=>?_
 refine mV5 hE ?_ HX LP B4 HL HI;clear HX LP B4 HL HI;intro HX LP B4 HL HI;have hs_w26:=hE.size;replace b_B4:=bX3 B4;rw [HMS.out ()] at G26;obtain ⟨va,vn,vc⟩:=x26;simp only [CV,SH.v]
 go_wp2_with fail
 refine cM (d9 1 _ dZ dZ) fun x27 w27 hE G27=>?_
 refine mV6 hE ?_ G26 HX LP B4 HL HI;clear G26 HX LP B4 HL HI;intro G26 HX LP B4 HL HI;have hs_w27:=hE.size;replace b_B4:=bX3 B4
 go_upto_region 8 with fail
 have HC:=G26;have HXW:=HX;clear G26;clear LP;clear HX;have HE:=Hi (Ext.refl w27);refine nmA ?_;intro w28 hE B9 hz_w28 hr_w28;refine mV5 hE ?_ G27 B4 HL HI HE;clear G27 B4 HL HI HE;intro G27 B4 HL HI HE;have hs_w28:=hE.size;replace b_B4:=bX3 B4;replace b_B9:=bX3 B9;obtain ⟨b9,hb9⟩:∃ k,k=w27.heap.size:=⟨_,rfl⟩;obtain ⟨b4,hb4⟩:∃ k,k=w.heap.size:=⟨_,rfl⟩;have hw9:w27.heap.size≤b9:=zo;have hw4:b4<w27.heap.size:=by have:=HXW.out.size;omega
 rw [←hb9] at B9 ⊢;rw [←hb4] at B4 ⊢;clear hb9 hb4 b_B4 b_B9;have HG:Hid (aB w28 x27 (wd6 0)):=Hi (by rw [vP];exact G27.out);have HL0:=HL;have HI0:=HI;have B40:=B4;have HE0:=HE;have B90:=B9;have hw28:=HE.out.size;clear HL;clear HI;clear HE;clear B4 B9 G27;go_wp2
 go_loopg [30] bits (fun g iv wr=>∃ (k:Nat) (u:RH),k+g=bits∧iv=.int .i64 (k:Nat)∧Ext w27 wr∧aB wr ⟨ln,la,ll,lc,lb,lm,ld⟩ lo∧aB wr ⟨hn,ha,hl,hc,hb',hm,hd⟩ hi∧wr.heap[b4]?=some (.cells #[.bool ln,.slice la ll lc,.slice lb lm ld,.bool hn,.slice ha hl hc,.slice hb' hm hd] 38 (0,0))∧wr.heap[b9]?=some (.cells #[.slice va vn vc,.bool u.neg,.slice u.a u.n u.c,.slice u.b u.m u.d,.slice none 0 0] 106 (0,0))∧aB wr u (wd6 k))
 case atStart=>exact ⟨0,x27,zo,rfl,HE0.out,HL0.out,HI0.out,B40.out,B90.out,HG.out⟩
 case round =>
  obtain ⟨k,⟨un,ua,ul,uc,ub,um,ud⟩,hk,rfl,g1,g2,g3,g4,g5,g6⟩:=hrel;clear HE0 HL0 HI0 B40 B90 HG;have HE:=Hi g1;have HL:=Hi g2;have HI:=Hi g3;have B4:=Hi g4;have B9:=Hi g5;have HU:=Hi g6;have hwr:=g1.size;have ZU:=Hi (sF (show k≤256 by omega));clear g1 g2 g3 g4 g5 g6;simp only at B9;replace b_B4:=bX3 B4;replace b_B9:=bX3 B9;by_cases h0:gk=0
  case neg =>
   have hin:(k:Int)<bits:=zo
   go_upto_region 10 with fail
   refine wpG 4 (fun opIx=>match opIx with
    | 2=>sR (((1:Int):Rat) / ((2:Int):Rat))
    | 3=>sR (wd6 (k+1))
    | _=>.quiet) (fun|3=>[2]|_=>[]) fun w0 he0 hz0 hc0 hf0=>?_
   refine wps he0 (fun w1 hW hG=>?_) fun x50=>?_
   ·exact spc [.int .i64 1,.int .i64 2] Tryz.func86 (nN 1 2 _ dZ dZ dZ dZ dZ)
   refine qZ ?_;refine wps he0 (fun w1 hW hG=>?_) fun x51=>?_
   ·have g50:=gS (hG 2 dZ);exact spc [RH.v ⟨un,ua,ul,uc,ub,um,ud⟩,x50.v] Tryz.func85 ((by rw [←vQ];exact bQ _ x50 _ _ _ ((HU.out.ext hW).raw ZU.out dZ) (g50.raw xA dZ)))
   refine qZ ?_;refine aq ?_;intro w51 hI;have hE:=he0.out.trans hI.ext;have G50:=gT (hI.facts 2);have G51:=gT (hI.facts 3);clear hI he0 hz0 hc0 hf0;refine mV6 hE ?_ HE HL HI B4 B9 HU;clear HE HL HI B4 B9 HU;intro HE HL HI B4 B9 HU;have hs_w51:=hE.size;replace b_B4:=bX3 B4;replace b_B9:=bX3 B9;simp only [pD]
   go_upto_region 11 with fail
   refine Aa B9.out rfl ?_;intro w52 T;replace HE:=Hi (T.ext HE.out zo);replace HL:=Hi (HL.out.keep T.keep);replace HI:=Hi (HI.out.keep T.keep);replace HU:=Hi (HU.out.keep T.keep);replace B4:=Hi (T.rest _ _ zo B4.out);replace B9:=Hi (T.bx);replace G50:=Hi (G50.out.keep T.keep);replace G51:=Hi (G51.out.keep T.keep);have hs_w52:=nle T.size;have hr_w52:=nle T.size.symm;clear T;replace b_B4:=bX3 B4;replace b_B9:=bX3 B9;go_wp2
   go_roundg (gk-1)
   case measure=>omega
   case rel=>exact ⟨k+1,x51,zo,by go_num,HE.out,HL.out,HI.out,B4.out,B9.out,G51.out⟩
  subst h0;obtain rfl:k=bits:=by omega
  have hin:¬ (k:Int)<k:=zo;have hP1:=HH.out.var lo;have hP2:=HH.out.var hi;have hv1:=HH.out.vle lo;have hv2:=HH.out.vle hi;obtain ⟨n1,hn1⟩:∃ k,k=v6 q lo:=⟨_,rfl⟩;obtain ⟨n2,hn2⟩:∃ k,k=v6 q hi:=⟨_,rfl⟩;obtain ⟨r1,hr1⟩:∃ k:Bool,k=decide (evV q lo=0):=⟨_,rfl⟩;obtain ⟨r2,hr2⟩:∃ k:Bool,k=decide (evV q hi=0):=⟨_,rfl⟩;have hop:opc q lo hi≤50:=by unfold opc;split <;> omega
  have HOP:=Hi hop;rw [←hn1] at hv1 hP1;rw [←hn2] at hv2 hP2;rw [←hr1] at hP1;rw [←hr2] at hP2;have HP1:=Hi hP1;have HP2:=Hi hP2;have HN1:=Hi hn1;have HN2:=Hi hn2;have HR1:=Hi hr1;have HR2:=Hi hr2;obtain ⟨l1,hl1⟩:∃ l,l=(if evV q lo=0 then [lo,lo] else []):=⟨_,rfl⟩;have HT1:Hid (r1=true→LsE l1 [lo,lo]):=Hi (fun k _=>by rw [hl1,if_pos (by rw [hr1] at k;exact of_decide_eq_true k)]);have HF1:Hid (r1=false→LsE l1 []):=Hi (fun k _=>by rw [hl1,if_neg (by rw [hr1] at k;exact of_decide_eq_false k)]);have HLE1:Hid (l1.length≤2):=Hi (by rw [hl1];split <;> simp);have HV:Hid (LsE (flP (isP q (wd6 k) E lo hi)) (l1++(if lo<hi then flP (opS q (wd6 k) E lo hi)++(if r2=true then [hi,hi] else []) else []))):=Hi (fun _=>by
   rw [Cl,hl1,hr2];by_cases k2:evV q hi=0
   ·rw [if_pos k2,decide_eq_true k2,if_pos (show true=true from rfl)]
   ·rw [if_neg k2,decide_eq_false k2,if_neg (show ¬ false=true from Bool.noConfusion)])
  have hb9r:b9<wr.heap.size:=b_B9.2.2;clear hP1 hP2 hn1 hn2 hr1 hr2 hl1 hop
  go_upto_region 12 with fail
  refine wpG 8 (fun opIx=>match opIx with
   | 2=>sU (PlV ⟨ln,la,ll,lc,lb,lm,ld⟩ (n1:Nat) r1)
   | 5=>sU (PlV ⟨hn,ha,hl,hc,hb',hm,hd⟩ (n2:Nat) r2)
   | 6=>.alloc 108 #[.bool false,.slice none 0 0,.slice none 0 0,.int .i64 0,.bool false]
   | 7=>.alloc 108 #[.bool false,.slice none 0 0,.slice none 0 0,.int .i64 0,.bool false]
   | _=>.quiet) (fun _=>[]) fun w0 he0 hz0 hc0 hf0=>?_
  refine wps he0 (fun w1 hW hG=>?_) fun x60=>?_
  ·exact spc [.pointer (some ⟨b9,0,none⟩),RH.v ⟨ln,la,ll,lc,lb,lm,ld⟩] Tryz.func87 ((by have h:=jw b9 ⟨va,vn,vc⟩ ⟨un,ua,ul,uc,ub,um,ud⟩ (.slice none 0 0) (remsV q) K ⟨ln,la,ll,lc,lb,lm,ld⟩ lo (3*T+m+1) _ (hW.block B9.out) (HC.out.ext (HE.out.trans hW)) HP0.out (HL.out.ext hW) ZL.out zo zo HH.out.tm;rw [HP1.out.1,HP1.out.2] at h;exact h))
  refine qZ ?_;refine wps he0 (fun w1 hW hG=>?_) fun x61=>?_
  ·exact spc [.pointer (some ⟨b9,0,none⟩),RH.v ⟨hn,ha,hl,hc,hb',hm,hd⟩] Tryz.func87 ((by have h:=jw b9 ⟨va,vn,vc⟩ ⟨un,ua,ul,uc,ub,um,ud⟩ (.slice none 0 0) (remsV q) K ⟨hn,ha,hl,hc,hb',hm,hd⟩ hi (3*T+m+1) _ (hW.block B9.out) (HC.out.ext (HE.out.trans hW)) HP0.out (HI.out.ext hW) ZH.out zo zo HH.out.tm;rw [HP2.out.1,HP2.out.2] at h;exact h))
  refine qZ ?_;refine aW rfl rfl (fun w=>by simp [execOp,go_sem,ptr]) (fun b10 hb10 hl10=>?_);refine qZ ?_;refine aW rfl rfl (fun w=>by simp [execOp,go_sem,ptr]) (fun b11 hb11 hl11=>?_);refine qZ ?_;refine aq ?_;intro w61 hI;have hE:=he0.out.trans hI.ext;have A10:Hid (w61.heap[b10]?=some (.cells #[.bool false,.slice none 0 0,.slice none 0 0,.int .i64 0,.bool false] 108 (0,0))):=hI.facts 6;rw [hz0] at hl10;have A11:Hid (w61.heap[b11]?=some (.cells #[.bool false,.slice none 0 0,.slice none 0 0,.int .i64 0,.bool false] 108 (0,0))):=hI.facts 7;rw [hz0] at hl11;clear hI he0 hz0 hc0 hf0;refine mV6 hE ?_ HE HL HI HU B4 B9;clear HE HL HI HU B4 B9;intro HE HL HI HU B4 B9;have hs_w61:=hE.size;replace b_B4:=bX3 B4;replace b_B9:=bX3 B9;replace b_A10:=bX3 A10;replace b_A11:=bX3 A11;simp only [pD,ptr];have hne:b11≠b10:=fun h=>hb11 (Or.inl h)
  (try clear b_B4);clear B4
  go_upto_region 13 with fail
  refine zZ A10.out rfl A11.out rfl hne ?_;intro w62 w63 T U;have hb10l:=b_A10.2.2;have hb11l:=b_A11.2.2;replace HE:=Hi (T.ext HE.out zo);replace HL:=Hi (HL.out.keep T.keep);replace HI:=Hi (HI.out.keep T.keep);replace HU:=Hi (HU.out.keep T.keep);replace B9:=Hi (T.rest _ _ zo B9.out);replace A10:=Hi (T.bx);replace A11:=Hi (T.rest _ _ zo A11.out);have hs_w62:=nle T.size;have hr_w62:=nle T.size.symm;clear T;replace b_B9:=bX3 B9;replace b_A10:=bX3 A10;replace b_A11:=bX3 A11;have T:=U;clear U;replace HE:=Hi (T.ext HE.out zo);replace HL:=Hi (HL.out.keep T.keep);replace HI:=Hi (HI.out.keep T.keep);replace HU:=Hi (HU.out.keep T.keep);replace B9:=Hi (T.rest _ _ zo B9.out);replace A10:=Hi (T.rest _ _ zo A10.out);replace A11:=Hi (T.bx);have hs_w63:=nle T.size;have hr_w63:=nle T.size.symm;clear T;replace b_B9:=bX3 B9;replace b_A10:=bX3 A10;replace b_A11:=bX3 A11;have HA:Hid (SrA w63 b9 b9 ⟨va,vn,vc⟩ ⟨un,ua,ul,uc,ub,um,ud⟩ ⟨none,0,0⟩ []):=Hi ⟨B9.out,jo.nil _ _,b_B9.2.2⟩
  (try clear b_B9);clear B9
  go_upto_if 45 with fail
  go_cut [] (fun wc=>∃ (x3:SH) (L3:Nat),SrA wc b9 L3 ⟨va,vn,vc⟩ ⟨un,ua,ul,uc,ub,um,ud⟩ x3 l1∧Srx b9 b9 w63 wc∧(L3=b9∨w63.heap.size≤L3))
  case first =>
   cases r1
   case false =>
    go_wp2_with fail
    go_meet
    case rel=>exact ⟨⟨none,0,0⟩,b9,by rw [HF1.out (by first|trivial|rfl) ()];exact HA.out,Srx.of_ext (Ext.refl _),Or.inl rfl⟩
   case true =>
    go_wp2_with fail
    refine Calls.mono (eO b9 b9 ⟨va,vn,vc⟩ ⟨un,ua,ul,uc,ub,um,ud⟩ ⟨none,0,0⟩ [] ⟨ln,la,ll,lc,lb,lm,ld⟩ ⟨ln,la,ll,lc,lb,lm,ld⟩ lo lo (3*T+m+1) _ HA.out dZ HL.out HL.out ZL.out ZL.out zo Rat.le_refl) ?_;rintro e3 w64 ⟨x3,L3,rfl,hA3,hS3,hL3⟩;have HA3:=Hi hA3;have HS3:=Hi hS3;clear hA3 hS3
    go_wp2_with fail
    go_meet
    case rel=>exact ⟨x3,L3,by rw [HT1.out (by first|trivial|rfl) ()];exact HA3.out,HS3.out,hL3⟩
  case rest =>
  obtain ⟨⟨x3a,x3n,x3c⟩,L3,hA3,T,hL3⟩:=hcut;have HA3:=Hi hA3;have hL3l:=hA3.lt;clear hA3 HA;replace HE:=Hi (T.ext HE.out zo zo);replace HL:=Hi (HL.out.keep T.keep);replace HI:=Hi (HI.out.keep T.keep);replace HU:=Hi (HU.out.keep T.keep);replace A10:=Hi (T.rest zo zo A10.out);replace A11:=Hi (T.rest zo zo A11.out);have hs_wc:=T.size;clear T;replace b_A10:=bX3 A10;replace b_A11:=bX3 A11;have hL3w:w27.heap.size≤L3:=zo
  go_wp2_with fail
  refine cM (fh ⟨ln,la,ll,lc,lb,lm,ld⟩ ⟨hn,ha,hl,hc,hb',hm,hd⟩ lo hi _ (HL.out.raw ZL.out zo) (HI.out.raw ZH.out zo)) fun x55 w55 hE _=>?_
  refine mV7 hE ?_ HA3 HE HL HI HU A10 A11;clear HA3 HE HL HI HU A10 A11;intro HA3 HE HL HI HU A10 A11;have hs_w55:=hE.size;replace b_A10:=bX3 A10;replace b_A11:=bX3 A11;have HA4:=HA3;clear HA3;obtain ⟨cc,hcc⟩:∃ k,k=dJ lo hi:=⟨_,rfl⟩;rw [←hcc];by_cases hlt:lo<hi
  case neg =>
   have hc0:¬ cc<0:=fun k=>hlt (kf.1 (by rw [←hcc];exact k))
   have HVN:Hid (LsE (flP (isP q (wd6 k) E lo hi)) l1):=Hi (fun _=>by rw [HV.out (),if_neg hlt,List.append_nil]);clear hlt hcc;have BS:=Hi HA4.out.bx;simp only at BS
   (try clear b_A10);clear A10
   (try clear b_A11);clear A11
   replace b_BS:=bX3 BS;go_wp2;exact nXa (v:=.tuple #[SH.v ⟨x3a,x3n,x3c⟩,.int .i64 0]) (by simp [results,Tryz.results32,go_sem]) rfl ⟨⟨x3a,x3n,x3c⟩,rfl,HXW.out.trans HE.out,by rw [HVN.out ()];exact (jo.can HA4.out.own).2⟩
  have hc0:cc<0:=by rw [hcc];exact kf.2 hlt
  have HLT:=Hi hlt;have hfl:((flP (opS q (wd6 k) E lo hi)).length:Int)=2*opc q lo hi:=by rw [nb];have:=(tO HH.out.sp E 0 hlt DL.out DH.out HD.out).len;omega
  have HFL:=Hi hfl;have HVT:Hid (r2=true→LsE (flP (isP q (wd6 k) E lo hi)) ((l1++flP (opS q (wd6 k) E lo hi))++[hi,hi])):=Hi (fun e _=>by rw [HV.out (),if_pos hlt,if_pos e,List.append_assoc]);have HVF:Hid (r2=false→LsE (flP (isP q (wd6 k) E lo hi)) (l1++flP (opS q (wd6 k) E lo hi))):=Hi (fun e _=>by rw [HV.out (),if_pos hlt,if_neg (by rw [e];exact Bool.noConfusion),List.append_nil]);clear hlt hcc hfl
  go_wp2_with fail
  refine Calls.mono (by
   have h:=wN HH.out E 0 zo b9 L3 ⟨va,vn,vc⟩ ⟨un,ua,ul,uc,ub,um,ud⟩ ⟨x3a,x3n,x3c⟩ l1 ⟨ln,la,ll,lc,lb,lm,ld⟩ ⟨hn,ha,hl,hc,hb',hm,hd⟩ lo hi w27 _ HE.out hw9 hL3w HC.out HA4.out HU.out HL.out HI.out HLT.out DL.out DH.out HD.out (by have h1:=HOP.out;have h2:=HLE1.out;omega);rw [←HN1.out,←HR1.out,←HN2.out,←HR2.out] at h;exact h) ?_
  rintro e4 w59 ⟨⟨x4a,x4n,x4c⟩,L4,rfl,hA4,T,hL4⟩;have HA5:=Hi hA4;have hx4:x4n≤100000:=by
   have h1:=hA4.len;have h2:=HFL.out;have h3:=HOP.out;have h4:=HLE1.out;rw [nXi] at h1;simp only at h1;omega
  clear hA4 HA4;replace HE:=Hi (T.ext HE.out zo zo);replace HL:=Hi (HL.out.keep T.keep);replace HI:=Hi (HI.out.keep T.keep);replace HU:=Hi (HU.out.keep T.keep);replace A10:=Hi (T.rest zo zo A10.out);replace A11:=Hi (T.rest zo zo A11.out);have hs_w59:=T.size;clear T;replace b_A10:=bX3 A10;replace b_A11:=bX3 A11;cases r2
  case false =>
   have BS:=Hi HA5.out.bx;simp only at BS;replace b_A10:=bX3 A10;replace b_A11:=bX3 A11;replace b_BS:=bX3 BS;go_wp2;exact nXa (v:=.tuple #[SH.v ⟨x4a,x4n,x4c⟩,.int .i64 0]) (by simp [results,Tryz.results32,go_sem]) rfl ⟨⟨x4a,x4n,x4c⟩,rfl,HXW.out.trans HE.out,by rw [HVF.out (by first|trivial|rfl) ()];exact (jo.can HA5.out.own).2⟩
  case true =>
   have hL4w:w27.heap.size≤L4:=zo
   go_wp2_with fail
   refine Calls.mono (eO b9 L4 ⟨va,vn,vc⟩ ⟨un,ua,ul,uc,ub,um,ud⟩ ⟨x4a,x4n,x4c⟩ _ ⟨hn,ha,hl,hc,hb',hm,hd⟩ ⟨hn,ha,hl,hc,hb',hm,hd⟩ hi hi (3*T+m+1) _ HA5.out hx4 HI.out HI.out ZH.out ZH.out zo Rat.le_refl) ?_;rintro e5 w66 ⟨⟨x5a,x5n,x5c⟩,L5,rfl,hA6,T,hL5⟩;have HA6:=Hi hA6;clear hA6 HA5
   (try clear b_A10);clear A10
   (try clear b_A11);clear A11
   replace HE:=Hi (T.ext HE.out zo zo);replace HL:=Hi (HL.out.keep T.keep);replace HI:=Hi (HI.out.keep T.keep);replace HU:=Hi (HU.out.keep T.keep);have hs_w66:=T.size;clear T;have BS:=Hi HA6.out.bx;simp only at BS;replace b_BS:=bX3 BS;go_wp2;exact nXa (v:=.tuple #[SH.v ⟨x5a,x5n,x5c⟩,.int .i64 0]) (by simp [results,Tryz.results32,go_sem]) rfl ⟨⟨x5a,x5n,x5c⟩,rfl,HXW.out.trans HE.out,by rw [HVT.out (by first|trivial|rfl) ()];exact (jo.can HA6.out.own).2⟩
theorem zK{S n:Nat}{p:List Rat}(hf:FrB S p)(hl:p.length≤n)(hn:n≤1000)(h0:tz p≠[]):(∀ y ∈ ar (rootV (tz p)),Wz (isS S n) y)∧(rootV (tz p)).length≤n:=by
 have h00:tz (tz p)≠[]:=by rw [aM];exact h0
 have h1:=ah p;unfold rootV;split
 ·exact ⟨Br hf hl hn h0,by have:=mz h00;omega⟩
 ·refine ⟨?_,zo⟩;rw [mA];obtain ⟨h1,D,h2,h3,h4⟩:=hf;exact fun y hy=>(cY (fun x hx=>h4 x (eB hx)) h2 y hy).mono (nXf (Nat.le_succ S) (Nat.le_mul_of_pos_right _ zo))
theorem Bp{l:List Rat}{S n T bits K:Nat}{lo hi:Rat}(hf:FrB S l)(hl:l.length≤n)(hn:n≤49)(h0:tz l≠[])(za:Sz T lo)(zb:Sz T hi)(hlh:lo≤hi)(hb:bits≤256)(hK:K≤16000000)(hT2:isT S n T≤20000) :
  SrK (rootV (tz l)) (wd6 bits) (lo.den*hi.den) T (isM S n T) (isY S n T) (32*isM S n T) K∧Dy (lo.den*hi.den) (W32 ^ T) 0 lo∧Dy (lo.den*hi.den) (W32 ^ T) 0 hi∧(hi-lo)*((W32 ^ isY S n T:Nat):Rat)≤((2 ^ (32*isM S n T):Nat):Rat):=by
 have h00:tz (tz l)≠[]:=by rw [aM];exact h0
 have hrt:=jz h00;obtain ⟨hw,hql⟩:=zK hf hl zo h0;have hwl:(ar (rootV (tz l))).length≤n:=by rw [aC];have:=ah (rootV (tz l));omega
 obtain ⟨b1,b2⟩:=Bm za;obtain ⟨b3,b4⟩:=Bm zb;have hYY:W32 ^ yu (isS S n) n T≤W32 ^ isY S n T:=nXp ay (by unfold isY;omega);have hYr:((W32 ^ yu (isS S n) n T:Nat):Rat)≤((W32 ^ isY S n T:Nat):Rat):=by exact_mod_cast hYY
 refine ⟨⟨⟨hrt.ne,hrt.cp,Nat.mul_pos lo.den_pos hi.den_pos,?_,fun a b h1 h2 h3 h4=>?_,?_⟩,(o5 l).1.symm,nXe _,hT2,zo,hK,(sF hb).mono dZ⟩,nc za (Nat.dvd_mul_right _ _),nc zb (Nat.dvd_mul_left _ _),?_⟩
 ·rw [show 2*T=T+T by omega,Nat.pow_add];exact nXx (nYl za.2) (nYl zb.2)
 ·refine sep hrt.ne hrt.cp hw hwl zo h1 h2 h3 ?_;have:=aY hYr (show 0≤b-a by grind);grind
 ·unfold wd6;have e1:((1:Int):Rat)=1:=rfl;rw [e1];have hp:(0:Rat)<((2 ^ bits:Nat):Rat):=by exact_mod_cast Nat.two_pow_pos bits
  have h1:=aw (a:=1) (b:=((2 ^ bits:Nat):Rat)) (by grind);have h2:((2 ^ bits:Nat):Rat)≤((W32 ^ isY S n T:Nat):Rat):=by
   have a1:(2:Nat) ^ bits≤2 ^ 256:=nXp dZ hb;have a2:(2:Nat) ^ 256≤W32 ^ 8:=by decide
   have a3:W32 ^ 8≤W32 ^ isY S n T:=nXp ay (by unfold isY;omega)
   exact_mod_cast nXf a1 (nXf a2 a3)
  have h3:=uV (show (0:Rat)<1 by decide) hp;generalize 1 / ((2 ^ bits:Nat):Rat)=c at *
  have h4:=aY h2 (Rat.le_of_lt h3);grind
 ·rw [BK];have e:((W32 ^ isM S n T:Nat):Rat)=((W32 ^ isY S n T:Nat):Rat)*((W32 ^ T:Nat):Rat)*((W32 ^ 1:Nat):Rat):=by
   unfold isM;rw [Nat.pow_add,Nat.pow_add,Rat.natCast_mul,Rat.natCast_mul]
  have h2:(2:Rat)≤((W32 ^ 1:Nat):Rat):=by decide +kernel
  have hY0:(0:Rat)≤((W32 ^ isY S n T:Nat):Rat):=by exact_mod_cast Nat.zero_le _
  have hT0:(0:Rat)≤((W32 ^ T:Nat):Rat):=by exact_mod_cast Nat.zero_le _
  rw [e];generalize ((W32 ^ isY S n T:Nat):Rat)=y at *
  generalize ((W32 ^ T:Nat):Rat)=t at *
  generalize ((W32 ^ 1:Nat):Rat)=u at *
  have a1:=cz (show hi-lo≤2*t by grind) hY0;have a2:=aY h2 (mX hY0 hT0);grind
theorem Cb:isT 19 12 1≤20000:=by decide
structure Bb (p:List Rat) (lo hi wd:Rat) (N:Nat) (qs:List Rat):Prop where
 len:(N:Int)=(xS p lo hi).1
 l2:qs.length=2*N
 sz:∀ j,j<2*N→Sz 20000 (qs.getD j 0)
 at':∀ j,j<N→lo≤qs.getD (2*j) 0∧qs.getD (2*j) 0≤qs.getD (2*j+1) 0∧qs.getD (2*j+1) 0≤hi∧qs.getD (2*j+1) 0-qs.getD (2*j) 0≤wd∧cntV p (qs.getD (2*j) 0) (qs.getD (2*j+1) 0)=1
 srt:∀ j,j+1<N→qs.getD (2*j+1) 0≤qs.getD (2*(j+1)) 0
theorem Ap{l:List Rat}{wd:Rat}{D T m Y E K:Nat}(h0:tz l≠[])(H:SrK (rootV (tz l)) wd D T m Y E K){lo hi:Rat}(h1:lo≤hi)(h2:Dy D (W32 ^ T) 0 lo)(h3:Dy D (W32 ^ T) 0 hi)(h4:(hi-lo)*((W32 ^ Y:Nat):Rat)≤((2 ^ E:Nat):Rat)) :
  ∃ N,Bb l lo hi wd N (flP (isP (rootV (tz l)) wd E lo hi)):=by
 have hI:=Cd H.sp h1 h2 h3 h4;have hz:∀ y ∈ flP (isP (rootV (tz l)) wd E lo hi),Sz 20000 y:=Cc (fun e x he hx=>(H.sz he hx).mono H.t) h2 h3;generalize isP (rootV (tz l)) wd E lo hi=L at *
 refine ⟨L.length,by rw [ru h0,vi H];exact hI.len,nb L,fun j hj=>?_,fun j hj=>?_,fun j hj=>?_⟩
 ·have hl:j<(flP L).length:=by rw [nb];exact hj
  rw [nXd,List.getElem?_eq_getElem hl];exact hz _ (List.getElem_mem _)
 ·obtain ⟨e1,e2⟩:=qR L j hj;have h:=hI.all _ (List.getElem_mem hj);rw [e1,e2,vi H];exact ⟨h.lo,h.le,h.hi,h.wd,h.one⟩
 ·obtain ⟨-,e2⟩:=qR L j zo;obtain ⟨e1,-⟩:=qR L (j+1) hj;rw [e1,e2];exact List.pairwise_iff_getElem.1 hI.srt j (j+1) zo hj zo
theorem xu{p:List Rat}{lo hi wd:Rat}(h:tz p=[]):Bb p lo hi wd 0 [] :=
 ⟨by rw [rt h];rfl,rfl,fun j hj=>by omega,fun j hj=>by omega,fun j hj=>by omega⟩
def DJ(w:World)(x:SH)(p:List Rat)(lo hi wd:Rat):Prop:=∃ qs,gV w x qs∧Bb p lo hi wd x.n qs
theorem xv(pa:Option Addr)(P pc:Nat)(p:List Rat)(s t:RH)(lo hi:Rat)(bits:Nat)(w:World)(h:cD w ⟨pa,P,pc⟩ p)(z:ScS p)(hs:aS w s lo)(ht:aS w t hi)(za:Sz 1 lo)(zb:Sz 1 hi)(hle:lo≤hi)(hb:bits≤256) :
  au 32 [.slice pa P pc,IvV (s,t),.int .i64 (bits:Nat)] w (fun x:SH=>.tuple #[x.v,.int .i64 (xS p lo hi).2]) (fun x w'=>DJ w' x p lo hi (wd6 bits)):=by
 have hP:P≤12:=by have h1:=h.len;have h2:=z.ln;simp only at h1;omega
 by_cases h0:tz p=[]
 ·rw [rt h0];exact Calls.mono (wo pa P pc p s t bits w h h0 hb) (fun e w' ⟨_,he,hx,_⟩=>⟨⟨none,0,0⟩,he,hx,[],gV.nil w',xu h0⟩)
 ·rw [ru h0];obtain ⟨hH,dl,dh,hd⟩:=Bp (K:=1100000) z.fb z.ln dZ h0 za zb hle hb dZ Cb;have hR:=ws pa P pc p 1100000 s t lo hi bits _ _ _ _ _ w h zo h0 z.frk dZ zo (z.sqf h0) hs ht hH (by rw [lE hle];exact dl) (by rw [lF hle];exact dh) (by rw [lE hle,lF hle];exact hd) hb;rw [lE hle,lF hle] at hR;obtain ⟨N,hq⟩:=Ap h0 hH hle dl dh hd;refine hR.weak (fun x w' _ hx=>⟨_,hx,?_⟩);have h1:=hx.len;have h2:=hq.l2;rw [show x.n=N by omega];exact hq
structure RoF (p rl:List Rat) (b:Option Rat):Prop where
 c:∃ c:Int,c≠0∧c.natAbs≤3∧∀ x,evV p x=(c:Rat)*(Pd rl x*Qd b x)
 sx:Sx b
 tw:∀ a ∈ rl,Tw a
 tz:tz p=p
structure RoD (ds rl:List Rat):Prop where
 nd:ds.Nodup
 mem:∀ x,x ∈ ds↔x ∈ rl
theorem yN{c:Int}(h:c≠0):(c:Rat)≠0:=fun h0=>h (Rat.intCast_eq_zero_iff.1 h0)
theorem RoF.fac{p rl:List Rat}{b:Option Rat}(h:RoF p rl b):Fac p rl b:=let ⟨c,h1,_,h3⟩:=h.c;⟨c,yN h1,h3⟩
theorem RoF.ne{p rl:List Rat}{b:Option Rat}(h:RoF p rl b):Go.Proofs.YtafgmcimcbhhjaaGreat.tz p≠[]:=h.fac.ne h.sx.pos
theorem RoF.fr{p rl:List Rat}{b:Option Rat}(h:RoF p rl b)(hl:rl.length≤9):FrL 2 (16*12 ^ rl.length) p:=let ⟨c,_,h2,h3⟩:=h.c;yQ h.sx h.tw hl h2 h3
theorem RoF.len{p rl:List Rat}{b:Option Rat}(h:RoF p rl b):p.length=rl.length+dg b+1:=by
 have h1:=(pA h.sx h.tw h.fac).1;rw [h.tz] at h1;exact h1
theorem AI(b:Option Rat):dg b≤2:=by
 cases b with
 | none=>exact Nat.zero_le _
 | some _=>exact nXe _
theorem RoF.sz{p rl:List Rat}{b:Option Rat}(h:RoF p rl b)(hl:rl.length≤9):SzL 2 p:=(h.fr hl).sz dZ (Nat.mul_pos dZ (nYm dZ)) (zQ hl)
theorem uH{p:List Rat}{n:Nat}(hn:n≤9)(h:FrL 2 (16*12 ^ n) p)(hl:p.length≤12):FrK 2125764 p :=
 ⟨2,16*12 ^ n,dZ,Nat.mul_pos dZ (nYm dZ),zQ hn,h,Or.inl (nXf (nXg _ (nXp dZ hl)) dZ)⟩
theorem t6{p q rl:List Rat}{b:Option Rat}(h:Fac p rl b)(hb:Sx b)(ha:∀ a ∈ rl,Tw a)(hl:rl.length≤9)(hd:Dv (evV (bq q)) (evV p)):FrK 2125764 (bq q)∧∃ rl' b',rl'.Sublist rl∧Sx b'∧Fac (bq q) rl' b':=by
 obtain ⟨⟨n,hn,h1⟩,rl',b',h2,h3,h4⟩:=BX h hb ha hl hd;have h5:=(pA h3 (fun a k=>ha a (h2.subset k)) h4).1;rw [dI] at h5;have:=AI b';have:=h2.length_le;exact ⟨uH zo h1 zo,rl',b',h2,h3,h4⟩
theorem pz{p rl:List Rat}{b:Option Rat}(h:Fac p rl b)(hb:Sx b)(ha:∀ a ∈ rl,Tw a)(hl:rl.length≤9):FrK 2125764 (sqfV p):=(t6 h hb ha hl (kx (h.ne hb.pos)).dvp).1
theorem zY:∀ (n:Nat) (p rl:List Rat) (b:Option Rat),Fac p rl b→Sx b→(∀ a ∈ rl,Tw a)→rl.length≤9→FrK 2125764 p→OkC 2125764 n p:=by
 intro n;induction n with
 | zero=>intro p rl b _ _ _ _ _;trivial
 | succ n ih =>
  intro p rl b h hb ha hl hk;have h1:=t6 (q:=bN p (derL p)) h hb ha hl (by rw [kd];exact qN p);rw [kd] at h1;obtain ⟨h2,rl',b',h3,h4,h5⟩:=h1;exact ⟨hk,pz h hb ha hl,ih _ rl' b' h5 h4 (fun a k=>ha a (h3.subset k)) (nXf h3.length_le hl) h2⟩
theorem Bj{q:Rat}(h:q≠0):tz [q]=[q]:=by
 have h1:tz [q]≠[]:=fun h0=>by
  have:=ax.1 h0 0;rw [show evV [q] 0=q by show 0*0+q=q;grind] at this;exact h this
 have h2:=iL [q];have h3:=ah [q];have h4:=nYg.2 h1;simp only [List.length_cons,List.length_nil] at h3;rw [h2,show (tz [q]).length=1 by omega];rfl
theorem RoF.start{n:Int}(h:n≠0)(h2:n.natAbs≤3):RoF [(n:Rat)] [] none :=
 ⟨⟨n,h,h2,fun x=>by show 0*x+(n:Rat)=n*(1*1);grind⟩,fun c e=>by (cases e),fun a k=>by simp at k,Bj (yN h)⟩
theorem RoF.neg{p rl:List Rat}{b:Option Rat}(h:RoF p rl b):RoF (bS p ((-1:Int):Rat)) rl b:=by
 obtain ⟨c,h1,h2,h3⟩:=h.c;refine ⟨⟨-c,zo,zo,fun x=>?_⟩,h.sx,h.tw,aM _⟩;have e:evV (bS p ((-1:Int):Rat)) x=((-1:Int):Rat)*evV p x:=eC (fun i=>by
  unfold bS;rw [aT,aQ];grind) x
 rw [e,h3 x,Rat.intCast_neg,Rat.intCast_neg];grind
theorem RoF.step{p rl:List Rat}(h:RoF p rl none){x:Rat}(hx:Tw x):RoF (aI p [-x,((1:Int):Rat)]) (x :: rl) none:=by
 obtain ⟨c,h1,h2,h3⟩:=h.c;refine ⟨⟨c,h1,h2,fun y=>?_⟩,h.sx,fun a k=>?_,tY _ _⟩
 ·rw [aU,h3 y,show evV [-x,((1:Int):Rat)] y=y-x from n6 x y];show _=(c:Rat)*((y-x)*Pd rl y*Qd none y);grind
 ·rcases List.mem_cons.1 k with rfl|k
  ·exact hx
  ·exact h.tw a k
theorem RoF.quad{p rl:List Rat}(h:RoF p rl none){e:Rat}(he:Sx (some e)):RoF (aI p [e,((0:Int):Rat),((1:Int):Rat)]) rl (some e):=by
 obtain ⟨c,h1,h2,h3⟩:=h.c;refine ⟨⟨c,h1,h2,fun y=>?_⟩,he,h.tw,tY _ _⟩;rw [aU,h3 y];show (c:Rat)*(Pd rl y*1)*(((0*y+((1:Int):Rat))*y+((0:Int):Rat))*y+e)=(c:Rat)*(Pd rl y*(y*y+e));have e1:((1:Int):Rat)=1:=rfl;have e0:((0:Int):Rat)=0:=rfl;rw [e1,e0];grind
def zq(p ds:List Rat):Prop:=∃ rl b,RoF p rl b∧RoD ds rl∧rl.length≤9
theorem zq.frk{p ds:List Rat}(h:zq p ds):FrK 2125764 p∧FrK 2125764 (sqfV p)∧Go.Proofs.YtafgmcimcbhhjaaGreat.tz p≠[]∧p.length≤12:=by
 obtain ⟨rl,b,h1,-,hl⟩:=h;have h2:=h1.len;have:=AI b;exact ⟨uH hl (h1.fr hl) zo,pz h1.fac h1.sx h1.tw hl,h1.ne,zo⟩
theorem zq.sz{p ds:List Rat}(h:zq p ds):SzL 2 p:=by
 obtain ⟨rl,b,h1,-,hl⟩:=h;exact h1.sz hl
theorem RoD.nil:RoD [] []:=⟨List.nodup_nil,fun x=>Iff.rfl⟩
theorem RoD.more{ds rl rl':List Rat}(h:RoD ds rl){x:Rat}(hx:x ∉ ds)(h1:∀ y ∈ rl',y=x∨y ∈ rl)(h2:∀ y ∈ rl,y ∈ rl')(h3:x ∈ rl'):RoD (ds++[x]) rl':=by
 refine ⟨?_,fun y=>?_⟩
 ·rw [List.nodup_append];exact ⟨h.nd,by simp,fun a ha b hb=>by
   obtain rfl:b=x:=by simpa using hb
   intro e;exact hx (e ▸ ha)⟩
 ·rw [List.mem_append,nXu,h.mem];constructor
  ·rintro (k|k)
   ·exact h2 y k
   ·rw [k];exact h3
  ·intro k;rcases h1 y k with k|k
   ·exact Or.inr k
   ·exact Or.inl k
theorem yj:∀ t:Nat,t<4→0<((1+(t:Int):Int):Rat) / ((16:Int):Rat)∧((1+(t:Int):Int):Rat) / ((16:Int):Rat)*16=((1+(t:Int):Int):Rat)∧(((1+(t:Int):Int):Rat) / ((16:Int):Rat)).num.natAbs<W32∧(((1+(t:Int):Int):Rat) / ((16:Int):Rat)).den<W32:=by decide +kernel
theorem C9{t:Nat}(h:t<4):Sx (some (((1+(t:Int):Int):Rat) / ((16:Int):Rat))):=fun c e=>by
 cases e;have h1:=yj t h;exact ⟨h1.1,1+(t:Int),h1.2.1,zo⟩
theorem zL{p ds:List Rat}(h:zq p ds):ScS p:=by
 have hl:=h.frk.2.2.2;obtain ⟨rl,b,h1,-,h3⟩:=h;exact ⟨FrB.mono ⟨dZ,_,Nat.mul_pos dZ (nYm dZ),zQ h3,h1.fr h3⟩ (show 2≤19 by decide),hl⟩
end Go.Proofs.YtafgmcimcbhhjaaGreat
/- Intervals of the reference: Hull, Width, Same, Inside. -/
namespace Go.Proofs.YtafgmcimcbhhjaaGreat
open Go.RowKit Go.Front Go.Num Stab
attribute [local go_sem] XW.cell XW.frozen
theorem yv(a b c d e f:Value)(w:World):(Instr.field 38 (.agg #[a,b,c,d,e,f]) 0).run Tryz.prog w=.ok (.agg #[a,b,c]) w:=by
 simp [Instr.field,asAgg,go_sem]
theorem yx(a b c d e f:Value)(w:World):(Instr.field 38 (.agg #[a,b,c,d,e,f]) 1).run Tryz.prog w=.ok (.agg #[d,e,f]) w:=by
 simp [Instr.field,asAgg,go_sem]
theorem BZ{T:Nat}{a b:Rat}(za:Sz T a)(zb:Sz T b):Sz T (loV a b):=by rcases n4 a b with e|e <;> rw [e] <;> assumption
theorem Ce{T:Nat}{a b:Rat}(za:Sz T a)(zb:Sz T b):Sz T (hiV a b):=by rcases oh a b with e|e <;> rw [e] <;> assumption
theorem l8(s t:RH)(a b:Rat)(T:Nat)(w:World)(hs:aS w s a)(ht:aS w t b)(za:Sz T a)(zb:Sz T b)(hT:T≤10000000) :
  au 38 [IvV (s,t)] w RH.v (fun x w'=>aB w' x (hiV a b-loV a b)):=by
 have HX:=Hi (Ext.refl w);have HS:=Hi hs;have HT:=Hi ht;have ZA:=Hi (BZ za zb);have ZB:=Hi (Ce za zb);clear hs ht za zb;unfold au;go_enter Tryz.func38,Tryz.ntmps38;obtain ⟨sn,sa,sl,sc,sb,sm,sd⟩:=s;obtain ⟨tn,ta,tl,tc,tb,tm,td⟩:=t
 go_upto_region 1 with fail
 refine hZ ?_;intro w1 hE B1 B2 hz_w1 hr_w1;refine mV3 hE ?_ HX HS HT;clear HX HS HT;intro HX HS HT;have hs_w1:=hE.size;replace b_B1:=bX3 B1;replace b_B2:=bX3 B2
 go_wp2_with fail
 refine cM (dq ⟨sn,sa,sl,sc,sb,sm,sd⟩ ⟨tn,ta,tl,tc,tb,tm,td⟩ a b _ HS.out HT.out) fun x4 w4 hE G4=>?_
 refine mV5 hE ?_ B1 B2 HX HS HT;clear B1 B2 HX HS HT;intro B1 B2 HX HS HT;have hs_w4:=hE.size;replace b_B1:=bX3 B1;replace b_B2:=bX3 B2;obtain ⟨⟨ln,la,ll,lc,lb,lm,ld⟩,⟨hn,ha,hl,hc,hb,hm,hd⟩⟩:=x4;have HL:=Hi G4.out.1;have HH:=Hi G4.out.2;clear G4;clear HS;clear HT
 go_upto_region 2 with fail
 refine df B1.out rfl ?_;intro w5 T;replace HX:=Hi (T.ext HX.out zo);replace B1:=Hi (T.bx);replace B2:=Hi (T.rest _ _ zo B2.out);replace HL:=Hi (HL.out.keep T.keep);replace HH:=Hi (HH.out.keep T.keep);have hs_w5:=nle T.size;have hr_w5:=nle T.size.symm;clear T;replace b_B1:=bX3 B1;replace b_B2:=bX3 B2
 go_wp2_with fail
 refine cM (nL ⟨hn,ha,hl,hc,hb,hm,hd⟩ ⟨ln,la,ll,lc,lb,lm,ld⟩ (hiV a b) (loV a b) _ (HH.out.raw ZB.out zo) (HL.out.raw ZA.out zo)) fun x9 w9 hE G9=>?_
 refine mV5 hE ?_ HX B1 B2 HL HH;clear HX B1 B2 HL HH;intro HX B1 B2 HL HH;have hs_w9:=hE.size;replace b_B1:=bX3 B1;replace b_B2:=bX3 B2;go_wp2;refine bi (F:=fun W=>bodyPost _ _ _ _ _ W) B2.out rfl ?_;intro w10 T;replace HX:=Hi (T.ext HX.out zo);replace B1:=Hi (T.rest _ _ zo B1.out);replace B2:=Hi (T.bx);replace HL:=Hi (HL.out.keep T.keep);replace HH:=Hi (HH.out.keep T.keep);replace G9:=Hi (G9.out.keep T.keep);have hs_w10:=nle T.size;have hr_w10:=nle T.size.symm;clear T;replace b_B1:=bX3 B1;replace b_B2:=bX3 B2;exact nXa (v:=RH.v x9) (by simp [results,Tryz.results38,go_sem,b_B2.1]) rfl ⟨x9,rfl,HX.out,G9.out⟩
theorem n8(s t u v:RH)(a b c d:Rat)(T:Nat)(w:World)(hs:aS w s a)(ht:aS w t b)(hu:aS w u c)(hv:aS w v d)(zc:Sz T c)(zd:Sz T d)(hT:T≤1000) :
  au 33 [IvV (s,t),IvV (u,v)] w (fun _:Unit=>.bool (decide (loV c d≤a∧a≤hiV c d) && decide (loV c d≤b∧b≤hiV c d))) (fun _ _=>True):=by
 have HX:=Hi (Ext.refl w);have HS:=Hi hs;have HT:=Hi ht;have HU:=Hi hu;have HV:=Hi hv;have ZC:=Hi zc;have ZD:=Hi zd;clear hs ht hu hv zc zd;unfold au;go_enter Tryz.func33,Tryz.ntmps33;obtain ⟨sn,sa,sl,sc,sb,sm,sd⟩:=s;obtain ⟨tn,ta,tl,tc,tb,tm,td⟩:=t;obtain ⟨un,ua,ul,uc,ub,um,ud⟩:=u;obtain ⟨vn,va,vl,vc,vb,vm,vd⟩:=v
 go_upto_region 1 with fail
 refine hZ ?_;intro w1 hE B2 B3 hz_w1 hr_w1;refine mV5 hE ?_ HX HS HT HU HV;clear HX HS HT HU HV;intro HX HS HT HU HV;have hs_w1:=hE.size;replace b_B2:=bX3 B2;replace b_B3:=bX3 B3
 go_wp2_with fail
 refine cM (me ⟨un,ua,ul,uc,ub,um,ud⟩ ⟨vn,va,vl,vc,vb,vm,vd⟩ ⟨sn,sa,sl,sc,sb,sm,sd⟩ c d a T _ HU.out HV.out HS.out ZC.out ZD.out hT) fun x8 w8 hE _=>?_
 refine mV7 hE ?_ B2 B3 HX HS HT HU HV;clear B2 B3 HX HS HT HU HV;intro B2 B3 HX HS HT HU HV;have hs_w8:=hE.size;replace b_B2:=bX3 B2;replace b_B3:=bX3 B3;obtain ⟨r,hr⟩:∃ r,r=decide (loV c d≤a∧a≤hiV c d):=⟨_,rfl⟩;have HR:=Hi hr.symm;rw [←hr];clear hr;cases r with
 | false =>
  go_wp2
  go_ret
  exact ⟨(),by rw [HR.out];rfl,HX.out,trivial⟩
 | true =>
 go_wp2_with fail
 refine cM (me ⟨un,ua,ul,uc,ub,um,ud⟩ ⟨vn,va,vl,vc,vb,vm,vd⟩ ⟨tn,ta,tl,tc,tb,tm,td⟩ c d b T _ HU.out HV.out HT.out ZC.out ZD.out hT) fun x13 w13 hE _=>?_
 refine mV7 hE ?_ B2 B3 HX HS HT HU HV;clear B2 B3 HX HS HT HU HV;intro B2 B3 HX HS HT HU HV;have hs_w13:=hE.size;replace b_B2:=bX3 B2;replace b_B3:=bX3 B3;obtain ⟨r,hr⟩:∃ r,r=decide (loV c d≤b∧b≤hiV c d):=⟨_,rfl⟩;have HR2:=Hi hr.symm;rw [←hr];clear hr;go_wp2
 go_ret
 exact ⟨(),by rw [HR.out,HR2.out];rfl,HX.out,trivial⟩
end Go.Proofs.YtafgmcimcbhhjaaGreat
