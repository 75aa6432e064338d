/- Intervals of the reference: Hull, Width, Same, Inside. -/
import Derived.Test.YtofhkmcllihgmaaGreatQUK7
import Derived.Test.YtofhkmcllihgmaaGreatQUBn5
import Derived.Test.YtofhkmcllihgmaaGreatQUK1
import Derived.Test.YtofhkmcllihgmaaGreatQUM7
import Derived.Test.YtofhkmcllihgmaaGreatQUK8
import Derived.Laws.EntriesVeiled
import Derived.Test.YtofhkmcllihgmaaGreatQUK6
set_option linter.unusedVariables false
set_option maxRecDepth 8000
set_option maxHeartbeats 4000000
namespace Go.Proofs.YtofhkmcllihgmaaGreat
open Go.RowKit Go.Front Go.Num Stab
attribute [local go_sem] XW.cell XW.frozen
theorem zU{w1:World}{b b':Nat}{T T':TypeId}{c0 c1 c2 c3 c4 c5 v0 v1 v2 v3 v4 v5 d0 d1 d2 d3 d4 d5 u0 u1 u2 u3 u4 u5:Value}{F:World→Prop}(hb:w1.heap[b]?=some (.cells #[c0,c1,c2,c3,c4,c5] T (0,0)))(hn:#[c0,c1,c2,c3,c4,c5].toList.all eX=true)
 (hb':w1.heap[b']?=some (.cells #[d0,d1,d2,d3,d4,d5] T' (0,0)))(hn':#[d0,d1,d2,d3,d4,d5].toList.all eX=true)(hne:b'≠b)
 (H:∀ w2 w3,dN w1 b T #[v0,v1,v2,v3,v4,v5] w2→dN w2 b' T' #[u0,u1,u2,u3,u4,u5] w3→F w3) :
  F ((((((((((((w1.setCell ⟨b,0,none⟩ v0).setCell ⟨b,1,none⟩ v1).setCell ⟨b,2,none⟩ v2).setCell ⟨b,3,none⟩ v3).setCell ⟨b,4,none⟩ v4).setCell ⟨b,5,none⟩ v5).setCell ⟨b',0,none⟩ u0).setCell ⟨b',1,none⟩ u1).setCell ⟨b',2,none⟩ u2).setCell ⟨b',3,none⟩ u3).setCell ⟨b',4,none⟩ u4).setCell ⟨b',5,none⟩ u5) :=
 bK (v0:=v0) (v1:=v1) (v2:=v2) (v3:=v3) (v4:=v4) (v5:=v5) (F:=fun W=>F ((((((W.setCell ⟨b',0,none⟩ u0).setCell ⟨b',1,none⟩ u1).setCell ⟨b',2,none⟩ u2).setCell ⟨b',3,none⟩ u3).setCell ⟨b',4,none⟩ u4).setCell ⟨b',5,none⟩ u5)) hb hn fun w2 T2 =>
  bK (v0:=u0) (v1:=u1) (v2:=u2) (v3:=u3) (v4:=u4) (v5:=u5) (F:=F) (T2.rest _ _ hne hb') hn' fun w3 T3=>H w2 w3 T2 T3
theorem kD{T:Nat}{a b:Rat}(za:Sz T a)(zb:Sz T b):Sz T (loV a b):=by rcases ox a b with e|e <;> rw [e] <;> assumption
theorem kF{T:Nat}{a b:Rat}(za:Sz T a)(zb:Sz T b):Sz T (hiV a b):=by rcases rK a b with e|e <;> rw [e] <;> assumption
theorem oz(s t u v:RH)(a b c d:Rat)(T:Nat)(w:World)(hs:aO w s a)(ht:aO w t b)(hu:aO w u c)(hv:aO w v d)(za:Sz T a)(zb:Sz T b)(zc:Sz T c)(zd:Sz T d)(hT:T≤10000000) :
  au 266 [IvV (s,t),IvV (u,v)] w IvV (fun x w'=>IvC w' x (loV (loV a b) (loV c d)) (hiV (hiV a b) (hiV c d))):=by
 have HX:=Hi (Ext.refl w);have HS:=Hi hs;have HT:=Hi ht;have HU:=Hi hu;have HV:=Hi hv;have Z1:=Hi (kD za zb);have Z2:=Hi (kF za zb);have Z3:=Hi (kD zc zd);have Z4:=Hi (kF zc zd);clear hs ht hu hv za zb zc zd;unfold au;go_enter Tryz.func266,Tryz.ntmps266;obtain ⟨sn,sa,sl,sc,sb,sm,sd⟩:=s;obtain ⟨tn,ta,tl,tc,tb,tm,td⟩:=t;obtain ⟨un,ua,ul,uc,ub,um,ud⟩:=u;obtain ⟨vn,va,vl,vc,vb,vm,vd⟩:=v
 go_upto_region 1 with fail
 refine vz ?_;intro w1 hE B2 B3 B4 hz_w1 hr_w1;refine mV5 hE ?_ HX HS HT HU HV;clear HX HS HT HU HV;intro HX HS HT HU HV;have hs_w1:=hE.size;clear hE;replace b_B2:=b3 B2;replace b_B3:=b3 B3;replace b_B4:=b3 B4;refine wpG 4 (fun opIx=>match opIx with
  | 1=>.spec (RH×RH) (default) (IvV) (fun x w'=>IvC w' x (loV a b) (hiV a b))
  | 3=>.spec (RH×RH) (default) (IvV) (fun x w'=>IvC w' x (loV c d) (hiV c d))
  | _=>.quiet) (fun _=>[]) fun w0 he0 hz0 hc0 hf0=>?_
 refine wps he0.out rfl rfl (fun w1 hW hG=>?_) fun x20=>?_
 ·exact spc [IvV (⟨sn,sa,sl,sc,sb,sm,sd⟩,⟨tn,ta,tl,tc,tb,tm,td⟩)] Tryz.func75 (bG ⟨sn,sa,sl,sc,sb,sm,sd⟩ ⟨tn,ta,tl,tc,tb,tm,td⟩ _ _ _ (HS.out.ext hW) (HT.out.ext hW))
 refine qZ ?_;refine wps he0.out rfl rfl (fun w1 hW hG=>?_) fun x21=>?_
 ·exact spc [IvV (⟨un,ua,ul,uc,ub,um,ud⟩,⟨vn,va,vl,vc,vb,vm,vd⟩)] Tryz.func75 (bG ⟨un,ua,ul,uc,ub,um,ud⟩ ⟨vn,va,vl,vc,vb,vm,vd⟩ _ _ _ (HU.out.ext hW) (HV.out.ext hW))
 refine qZ ?_;refine wpF_nil ?_;intro w2 hI;have hE:=he0.out.trans hI.ext;have G20:=gT (hI.facts 1);have G21:=gT (hI.facts 3);clear hI he0 hz0 hc0 hf0
 refine mV8 hE ?_ B2 B3 B4 HX HS HT HU HV;clear B2 B3 B4 HX HS HT HU HV;intro B2 B3 B4 HX HS HT HU HV
 have hs_w2:=hE.size;clear hE;replace b_B2:=b3 B2;replace b_B3:=b3 B3;replace b_B4:=b3 B4;simp only [pD];obtain ⟨⟨an,aa,al,ac,ab,am,ad⟩,⟨bn,ba,bl,bc,bb,bm,bd⟩⟩:=x20;obtain ⟨⟨cn,ca,cl,cc,cb,cm,cd⟩,⟨dn,da,dl,dc,db,dm,dd⟩⟩:=x21;have H1:=Hi G20.out.1;have H2:=Hi G20.out.2;have H3:=Hi G21.out.1;have H4:=Hi G21.out.2;clear G20 G21;simp only at H1 H2 H3 H4;clear HS;clear HT;clear HU;clear HV
 go_upto_region 2 with fail
 refine zU B2.out rfl B3.out rfl (by omega) ?_;intro w3 w4 T T4;replace HX:=Hi (T.ext HX.out (by omega));replace B2:=Hi (T.bx);replace B3:=Hi (T.rest _ _ (by omega) B3.out);replace B4:=Hi (T.rest _ _ (by omega) B4.out);replace H1:=Hi (H1.out.keep T.keep);replace H2:=Hi (H2.out.keep T.keep);replace H3:=Hi (H3.out.keep T.keep);replace H4:=Hi (H4.out.keep T.keep);have hs_w3:=nle T.size;have hr_w3:=nle T.size.symm;clear T;replace b_B2:=b3 B2;replace b_B3:=b3 B3;replace b_B4:=b3 B4;have T:=T4;clear T4;replace HX:=Hi (T.ext HX.out (by omega));replace B2:=Hi (T.rest _ _ (by omega) B2.out);replace B3:=Hi (T.bx);replace B4:=Hi (T.rest _ _ (by omega) B4.out);replace H1:=Hi (H1.out.keep T.keep);replace H2:=Hi (H2.out.keep T.keep);replace H3:=Hi (H3.out.keep T.keep);replace H4:=Hi (H4.out.keep T.keep);have hs_w4:=nle T.size;have hr_w4:=nle T.size.symm;clear T;replace b_B2:=b3 B2;replace b_B3:=b3 B3;replace b_B4:=b3 B4;refine wpG 10 (fun opIx=>match opIx with
  | 4=>.spec RH default RH.v (fun s w'=>aw w' s (loV (loV a b) (loV c d)))
  | 9=>.spec RH default RH.v (fun s w'=>aw w' s (hiV (hiV a b) (hiV c d)))
  | _=>.quiet) (fun _=>[]) fun w0 he0 hz0 hc0 hf0=>?_
 refine wps he0.out rfl rfl (fun w1 hW hG=>?_) fun x22=>?_
 ·exact spc [RH.v ⟨an,aa,al,ac,ab,am,ad⟩,RH.v ⟨cn,ca,cl,cc,cb,cm,cd⟩] Tryz.func30 (jO _ _ _ _ _ ((H1.out.ext hW).raw Z1.out (by omega)) ((H3.out.ext hW).raw Z3.out (by omega)))
 refine qZ ?_;refine wps he0.out rfl rfl (fun w1 hW hG=>?_) fun x23=>?_
 ·exact spc [RH.v ⟨bn,ba,bl,bc,bb,bm,bd⟩,RH.v ⟨dn,da,dl,dc,db,dm,dd⟩] Tryz.func161 (mK _ _ _ _ _ ((H2.out.ext hW).raw Z2.out (by omega)) ((H4.out.ext hW).raw Z4.out (by omega)))
 refine qZ ?_;refine wpF_nil ?_;intro w5 hI;have hE:=he0.out.trans hI.ext;have G22:=gT (hI.facts 4);have G23:=gT (hI.facts 9);clear hI he0 hz0 hc0 hf0
 refine mV8 hE ?_ HX B2 B3 B4 H1 H3 H2 H4;clear HX B2 B3 B4 H1 H3 H2 H4;intro HX B2 B3 B4 H1 H3 H2 H4
 have hs_w5:=hE.size;clear hE;replace b_B2:=b3 B2;replace b_B3:=b3 B3;replace b_B4:=b3 B4;simp only [pD];go_wp2;refine bK (F:=fun W=>bodyPost _ _ _ _ _ W) B4.out rfl ?_;intro w10 T;replace HX:=Hi (T.ext HX.out (by omega));replace B2:=Hi (T.rest _ _ (by omega) B2.out);replace B3:=Hi (T.rest _ _ (by omega) B3.out);replace B4:=Hi (T.bx);replace H1:=Hi (H1.out.keep T.keep);replace H2:=Hi (H2.out.keep T.keep);replace H3:=Hi (H3.out.keep T.keep);replace H4:=Hi (H4.out.keep T.keep);replace G22:=Hi (G22.out.keep T.keep);replace G23:=Hi (G23.out.keep T.keep);have hs_w10:=nle T.size;have hr_w10:=nle T.size.symm;clear T;replace b_B2:=b3 B2;replace b_B3:=b3 B3;replace b_B4:=b3 B4;exact bodyPost_ret (v:=IvV (x22,x23)) (by simp [results,Tryz.results266,go_sem,b_B4.1]) rfl ⟨(x22,x23),rfl,HX.out,G22.out,G23.out⟩
theorem gg(s t:RH)(a b:Rat)(T:Nat)(w:World)(hs:aO w s a)(ht:aO w t b)(za:Sz T a)(zb:Sz T b)(hT:T≤10000000) :
  au 39 [IvV (s,t)] w RH.v (fun x w'=>aw w' x (hiV a b-loV a b)):=by
 have HX:=Hi (Ext.refl w);have HS:=Hi hs;have HT:=Hi ht;have ZA:=Hi (kD za zb);have ZB:=Hi (kF za zb);clear hs ht za zb;unfold au;go_enter Tryz.func39,Tryz.ntmps39;obtain ⟨sn,sa,sl,sc,sb,sm,sd⟩:=s;obtain ⟨tn,ta,tl,tc,tb,tm,td⟩:=t
 go_upto_region 1 with fail
 refine iK ?_;intro w1 hE B1 B2 hz_w1 hr_w1;refine mV3 hE ?_ HX HS HT;clear HX HS HT;intro HX HS HT;have hs_w1:=hE.size;clear hE;replace b_B1:=b3 B1;replace b_B2:=b3 B2
 go_wp2_with fail
 refine cM (bG ⟨sn,sa,sl,sc,sb,sm,sd⟩ ⟨tn,ta,tl,tc,tb,tm,td⟩ a b _ HS.out HT.out) fun x4 w4 hE G4=>?_
 refine mV5 hE ?_ B1 B2 HX HS HT;clear B1 B2 HX HS HT;intro B1 B2 HX HS HT
 have hs_w4:=hE.size;clear hE;replace b_B1:=b3 B1;replace b_B2:=b3 B2;obtain ⟨⟨ln,la,ll,lc,lb,lm,ld⟩,⟨hn,ha,hl,hc,hb,hm,hd⟩⟩:=x4;have HL:=Hi G4.out.1;have HH:=Hi G4.out.2;clear G4;clear HS;clear HT
 go_upto_region 2 with fail
 refine bK B1.out rfl ?_;intro w5 T;replace HX:=Hi (T.ext HX.out (by omega));replace B1:=Hi (T.bx);replace B2:=Hi (T.rest _ _ (by omega) B2.out);replace HL:=Hi (HL.out.keep T.keep);replace HH:=Hi (HH.out.keep T.keep);have hs_w5:=nle T.size;have hr_w5:=nle T.size.symm;clear T;replace b_B1:=b3 B1;replace b_B2:=b3 B2
 go_wp2_with fail
 refine cM (mI ⟨hn,ha,hl,hc,hb,hm,hd⟩ ⟨ln,la,ll,lc,lb,lm,ld⟩ (hiV a b) (loV a b) _ (HH.out.raw ZB.out (by omega)) (HL.out.raw ZA.out (by omega))) fun x9 w9 hE G9=>?_
 refine mV5 hE ?_ HX B1 B2 HL HH;clear HX B1 B2 HL HH;intro HX B1 B2 HL HH
 have hs_w9:=hE.size;clear hE;replace b_B1:=b3 B1;replace b_B2:=b3 B2;go_wp2;refine aI (F:=fun W=>bodyPost _ _ _ _ _ W) B2.out rfl ?_;intro w10 T;replace HX:=Hi (T.ext HX.out (by omega));replace B1:=Hi (T.rest _ _ (by omega) B1.out);replace B2:=Hi (T.bx);replace HL:=Hi (HL.out.keep T.keep);replace HH:=Hi (HH.out.keep T.keep);replace G9:=Hi (G9.out.keep T.keep);have hs_w10:=nle T.size;have hr_w10:=nle T.size.symm;clear T;replace b_B1:=b3 B1;replace b_B2:=b3 B2;exact bodyPost_ret (v:=RH.v x9) (by simp [results,Tryz.results39,go_sem,b_B2.1]) rfl ⟨x9,rfl,HX.out,G9.out⟩
end Go.Proofs.YtofhkmcllihgmaaGreat
/- SmallRat, SmallPoly of package make. -/
set_option linter.unusedVariables false
namespace Go.Proofs.YtofhkmcllihgmaaGreat
open Go.RowKit Go.Front Go.Num
attribute [local go_sem] XW.cell XW.frozen
end Go.Proofs.YtofhkmcllihgmaaGreat
/- awake of law 07; SmallOn. -/
set_option linter.unusedVariables false
set_option maxRecDepth 100000
set_option maxHeartbeats 8000000
namespace Go.Proofs.YtofhkmcllihgmaaGreat
open Go.RowKit Go.Front Go.Num Stab
attribute [local go_sem] XW.cell XW.frozen
abbrev bq1:List Rat:=[((0:Int):Rat),((0:Int):Rat),((1:Int):Rat)]
abbrev bq2:List Rat:=[((1:Int):Rat) / ((4:Int):Rat),((0:Int):Rat),((1:Int):Rat)]
abbrev bq3:List Rat:=[((1:Int):Rat),((-1:Int):Rat),((1:Int):Rat)]
theorem Bg{s:Nat}{a b c:Rat}(ha:Sz s a)(hb:Sz s b)(hc:Sz s c):SzL s [a,b,c]:=by
 intro x hx;simp only [List.mem_cons,List.not_mem_nil,or_false] at hx;rcases hx with rfl|rfl|rfl <;> assumption
theorem qI:tz bq1=bq1∧tz bq2=bq2:=by decide +kernel
theorem i11:loV (loV ((-1:Int):Rat) ((1:Int):Rat)) (hiV ((-1:Int):Rat) ((1:Int):Rat))=((-1:Int):Rat)∧hiV (loV ((-1:Int):Rat) ((1:Int):Rat)) (hiV ((-1:Int):Rat) ((1:Int):Rat))=((1:Int):Rat)∧loV ((-1:Int):Rat) ((1:Int):Rat)=((-1:Int):Rat)∧hiV ((-1:Int):Rat) ((1:Int):Rat)=((1:Int):Rat):=by decide +kernel
theorem Dr:cfV bq1 ((-1:Int):Rat) ((1:Int):Rat)=bq3:=by decide +kernel
theorem Dq:(prV bq2 ((-1:Int):Rat) ((1:Int):Rat))=some [((-1:Int):Rat),0,0,((1:Int):Rat)]:=by decide +kernel
theorem Dp:(prV bq1 ((-1:Int):Rat) ((1:Int):Rat))=none:=by decide +kernel
theorem lz(w:World):au 112 [] w IvV (fun x w'=>aw w' x.1 ((-1:Int):Rat)∧aw w' x.2 ((1:Int):Rat)):=by
 have HX:=Hi (Ext.refl w);unfold au;go_enter Tryz.func112,Tryz.ntmps112
 go_upto_region 1 with fail
 refine nmA ?_;intro w0 hE B0 hz_w0 hr_w0;replace HX:=hE.tr HX;have hs_w0:=hE.size;clear hE;replace b_B0:=b3 B0
 go_wp2_with fail
 refine cM (aK (-1) _ (by decide) (by decide)) fun x1 w1 hE G1=>?_
 refine mV2 hE ?_ B0 HX;clear B0 HX;intro B0 HX
 have hs_w1:=hE.size;clear hE;replace b_B0:=b3 B0
 go_wp2_with fail
 refine cM (aK 1 _ (by decide) (by decide)) fun x2 w2 hE G2=>?_
 refine mV3 hE ?_ G1 B0 HX;clear G1 B0 HX;intro G1 B0 HX
 have hs_w2:=hE.size;clear hE;replace b_B0:=b3 B0
 go_wp2_with fail
 refine cM (et x1 x2 _ _ _ (G1.out.raw (Sz.int (by decide)) (by decide)) (G2.out.raw (Sz.int (by decide)) (by decide))) fun x3 w3 hE G3=>?_
 refine mV4 hE ?_ G2 G1 B0 HX;clear G2 G1 B0 HX;intro G2 G1 B0 HX
 have hs_w3:=hE.size;clear hE;replace b_B0:=b3 B0;rw [i11.2.2.1,i11.2.2.2] at G3;have HL:=Hi G3.out.1;have HH:=Hi G3.out.2;clear G3;go_wp2;refine bK (F:=fun W=>bodyPost _ _ _ _ _ W) B0.out rfl ?_;intro w10 T;replace HX:=Hi (T.ext HX.out (by omega));replace B0:=Hi (T.bx);replace G1:=Hi (G1.out.keep T.keep);replace G2:=Hi (G2.out.keep T.keep);replace HL:=Hi (HL.out.keep T.keep);replace HH:=Hi (HH.out.keep T.keep);have hs_w10:=nle T.size;have hr_w10:=nle T.size.symm;clear T;replace b_B0:=b3 B0;exact bodyPost_ret (v:=IvV x3) (by simp [results,Tryz.results112,go_sem,b_B0.1]) rfl ⟨x3,rfl,HX.out,HL.out,HH.out⟩
theorem dZ(w:World):au 35 [] w (fun _:Unit=>.bool true) (fun _ _=>True):=by
 have HX:=Hi (Ext.refl w);have Z0:Hid (Sz 1 ((0:Int):Rat)):=Hi (Sz.int (by decide));have Z1:Hid (Sz 1 ((1:Int):Rat)):=Hi (Sz.int (by decide));have ZM:Hid (Sz 1 ((-1:Int):Rat)):=Hi (Sz.int (by decide));have ZQ:Hid (Sz 1 (((1:Int):Rat) / ((4:Int):Rat))):=Hi ⟨by decide +kernel,by decide +kernel⟩;have ZL1:Hid (SzL 1 bq1):=Hi (Bg Z0.out Z0.out Z1.out);have ZL2:Hid (SzL 1 bq2):=Hi (Bg ZQ.out Z0.out Z1.out);have T1:=Hi qI.1;have T2:=Hi qI.2;have I1:Hid (loV ((-1:Int):Rat) ((1:Int):Rat)=((-1:Int):Rat)∧hiV ((-1:Int):Rat) ((1:Int):Rat)=((1:Int):Rat)):=Hi i11.2.2;unfold au;go_enter Tryz.func35,Tryz.ntmps35
 go_wp2_with fail
 refine cM (aK 0 _ (by decide) (by decide)) fun x6 w6 hE G6=>?_
 replace HX:=hE.tr HX;have hs_w6:=hE.size;clear hE
 go_wp2_with fail
 refine cM (aK 0 _ (by decide) (by decide)) fun x7 w7 hE G7=>?_
 refine mV2 hE ?_ G6 HX;clear G6 HX;intro G6 HX
 have hs_w7:=hE.size;clear hE
 go_wp2_with fail
 refine cM (aK 1 _ (by decide) (by decide)) fun x8 w8 hE G8=>?_
 refine mV3 hE ?_ G7 G6 HX;clear G7 G6 HX;intro G7 G6 HX
 have hs_w8:=hE.size;clear hE
 go_wp2_with fail
 refine nmA (F:=fun W=>Calls _ _ _ W _) ?_;intro w9 hE B9 hz_w9 hr_w9
 refine mV4 hE ?_ G8 G7 G6 HX;clear G8 G7 G6 HX;intro G8 G7 G6 HX
 have hs_w9:=hE.size;clear hE;replace b_B9:=b3 B9
 change Calls _ _ _ _ _
 have L1:Hid (ce w9 ⟨some ⟨w8.heap.size,0,none⟩,3,3⟩ bq1):=Hi (qE B9.out G6.out G7.out G8.out)
 (try clear b_B9);clear B9
 clear G6;clear G7;clear G8;refine cM (lz _) fun x10 w10 hE G10=>?_
 refine mV2 hE ?_ HX L1;clear HX L1;intro HX L1
 have hs_w10:=hE.size;clear hE;obtain ⟨xl,xh⟩:=x10;have HL:=Hi G10.out.1;have HH:=Hi G10.out.2;clear G10
 go_wp2_with fail
 refine cM (uY _ 3 3 bq1 xl xh _ _ 1 1 _ (L1.out.raw ZL1.out (by decide)) (HL.out.raw ZM.out (by decide)) (HH.out.raw Z1.out (by decide)) (by decide) (by rw [T1.out];decide) (by rw [T1.out];decide) (by rw [T1.out];exact ZL1.out) ZM.out Z1.out (by decide) (by decide)) fun x11 w11 hE G11=>?_
 refine mV2 hE ?_ HX L1;clear HX L1;intro HX L1;have hs_w11:=hE.size;clear hE;rw [T1.out,I1.out.1,I1.out.2,Dr] at G11;obtain ⟨ca,cn,cc⟩:=x11;have hcn:cn=3:=by have:=G11.out.len;exact this.symm
 subst hcn;have LC:=Hi G11.out.can;clear G11 HL HH;simp only [SH.v];clear L1
 go_wp2_with fail
 refine cM (cN 1 4 _ (by decide) (by decide) (by decide) (by decide)) fun x13 w13 hE G13=>?_
 refine mV2 hE ?_ HX LC;clear HX LC;intro HX LC;have hs_w13:=hE.size;clear hE
 go_wp2_with fail
 refine cM (aK 0 _ (by decide) (by decide)) fun x14 w14 hE G14=>?_
 refine mV3 hE ?_ G13 HX LC;clear G13 HX LC;intro G13 HX LC
 have hs_w14:=hE.size;clear hE
 go_wp2_with fail
 refine cM (aK 1 _ (by decide) (by decide)) fun x15 w15 hE G15=>?_
 refine mV4 hE ?_ G14 G13 HX LC;clear G14 G13 HX LC;intro G14 G13 HX LC
 have hs_w15:=hE.size;clear hE
 go_wp2_with fail
 refine nmA (F:=fun W=>Calls _ _ _ W _) ?_;intro w16 hE B16 hz_w16 hr_w16
 refine mV5 hE ?_ G15 G14 G13 HX LC;clear G15 G14 G13 HX LC;intro G15 G14 G13 HX LC
 have hs_w16:=hE.size;clear hE;replace b_B16:=b3 B16
 change Calls _ _ _ _ _
 have L2:Hid (ce w16 ⟨some ⟨w15.heap.size,0,none⟩,3,3⟩ bq2):=Hi (qE B16.out G13.out G14.out G15.out)
 (try clear b_B16);clear B16
 clear G13;clear G14;clear G15;refine cM (lz _) fun x17 w17 hE G17=>?_
 refine mV3 hE ?_ HX LC L2;clear HX LC L2;intro HX LC L2
 have hs_w17:=hE.size;clear hE;obtain ⟨xl,xh⟩:=x17;have HL:=Hi G17.out.1;have HH:=Hi G17.out.2;clear G17
 go_wp2_with fail
 refine cM (lh _ 3 3 bq2 xl xh _ _ 1 1 _ (L2.out.raw ZL2.out (by decide)) (HL.out.raw ZM.out (by decide)) (HH.out.raw Z1.out (by decide)) (by decide) (by rw [T2.out];decide) (by rw [T2.out];exact ZL2.out) ZM.out Z1.out (by decide) (by decide)) fun x18 w18 hE G18=>?_
 refine mV3 hE ?_ HX LC L2;clear HX LC L2;intro HX LC L2;have hs_w18:=hE.size;clear hE;rw [T2.out,I1.out.1,I1.out.2,Dq] at G18;obtain ⟨⟨⟨⟨ln,la,ll,lc,lb,lm,ld⟩,⟨hn',ha,hl,hcc,hb,hm,hd⟩⟩,⟨sa,sn,sc⟩⟩,e18⟩:=x18;obtain ⟨he,-,ho⟩:=G18.out;simp only at he ho;subst he;have hsn:sn=2:=by have:=ho.len;simp only [List.length_cons,List.length_nil] at this;omega
 subst hsn;clear ho G18 HL HH;clear L2
 go_upto_region 3 with fail
 refine nmA ?_;intro w19 hE B2 hz_w19 hr_w19;refine mV2 hE ?_ HX LC;clear HX LC;intro HX LC;have hs_w19:=hE.size;clear hE;replace b_B2:=b3 B2
 go_wp2_with fail
 refine cM (aK 0 _ (by decide) (by decide)) fun x22 w22 hE G22=>?_
 refine mV3 hE ?_ B2 HX LC;clear B2 HX LC;intro B2 HX LC
 have hs_w22:=hE.size;clear hE;replace b_B2:=b3 B2
 go_wp2_with fail
 refine cM (aK 0 _ (by decide) (by decide)) fun x23 w23 hE G23=>?_
 refine mV4 hE ?_ G22 B2 HX LC;clear G22 B2 HX LC;intro G22 B2 HX LC
 have hs_w23:=hE.size;clear hE;replace b_B2:=b3 B2
 go_wp2_with fail
 refine cM (aK 1 _ (by decide) (by decide)) fun x24 w24 hE G24=>?_
 refine mV5 hE ?_ G23 G22 B2 HX LC;clear G23 G22 B2 HX LC;intro G23 G22 B2 HX LC
 have hs_w24:=hE.size;clear hE;replace b_B2:=b3 B2
 go_wp2_with fail
 refine nmA (F:=fun W=>Calls _ _ _ W _) ?_;intro w25 hE B25 hz_w25 hr_w25
 refine mV6 hE ?_ G24 G23 G22 B2 HX LC;clear G24 G23 G22 B2 HX LC;intro G24 G23 G22 B2 HX LC
 have hs_w25:=hE.size;clear hE;replace b_B2:=b3 B2;replace b_B25:=b3 B25
 change Calls _ _ _ _ _
 have L3:Hid (ce w25 ⟨some ⟨w24.heap.size,0,none⟩,3,3⟩ bq1):=Hi (qE B25.out G22.out G23.out G24.out)
 (try clear b_B25);clear B25
 clear G22;clear G23;clear G24;refine cM (lz _) fun x26 w26 hE G26=>?_
 refine mV4 hE ?_ B2 HX LC L3;clear B2 HX LC L3;intro B2 HX LC L3
 have hs_w26:=hE.size;clear hE;replace b_B2:=b3 B2;obtain ⟨xl,xh⟩:=x26;have HL:=Hi G26.out.1;have HH:=Hi G26.out.2;clear G26
 go_wp2_with fail
 refine cM (lh _ 3 3 bq1 xl xh _ _ 1 1 _ (L3.out.raw ZL1.out (by decide)) (HL.out.raw ZM.out (by decide)) (HH.out.raw Z1.out (by decide)) (by decide) (by rw [T1.out];decide) (by rw [T1.out];exact ZL1.out) ZM.out Z1.out (by decide) (by decide)) fun x27 w27 hE G27=>?_
 refine mV4 hE ?_ B2 HX LC L3;clear B2 HX LC L3;intro B2 HX LC L3;have hs_w27:=hE.size;clear hE;replace b_B2:=b3 B2;rw [T1.out,I1.out.1,I1.out.2,Dp] at G27;have hx27:=G27.out;unfold PvP at hx27;subst hx27;clear G27 HL HH;clear L3
 go_upto_region 4 with fail
 refine nmA ?_;intro w28 hE B4 hz_w28 hr_w28;refine mV3 hE ?_ B2 HX LC;clear B2 HX LC;intro B2 HX LC;have hs_w28:=hE.size;clear hE;replace b_B2:=b3 B2;replace b_B4:=b3 B4
 go_wp2_with fail
 refine cM (aK 1 _ (by decide) (by decide)) fun x44 w44 hE G44=>?_
 refine mV4 hE ?_ B4 B2 HX LC;clear B4 B2 HX LC;intro B4 B2 HX LC
 have hs_w44:=hE.size;clear hE;replace b_B2:=b3 B2;replace b_B4:=b3 B4
 go_wp2_with fail
 refine cM (aK (-1) _ (by decide) (by decide)) fun x45 w45 hE G45=>?_
 refine mV5 hE ?_ G44 B4 B2 HX LC;clear G44 B4 B2 HX LC;intro G44 B4 B2 HX LC
 have hs_w45:=hE.size;clear hE;replace b_B2:=b3 B2;replace b_B4:=b3 B4
 go_wp2_with fail
 refine cM (aK 1 _ (by decide) (by decide)) fun x46 w46 hE G46=>?_
 refine mV6 hE ?_ G45 G44 B4 B2 HX LC;clear G45 G44 B4 B2 HX LC;intro G45 G44 B4 B2 HX LC
 have hs_w46:=hE.size;clear hE;replace b_B2:=b3 B2;replace b_B4:=b3 B4
 go_wp2_with fail
 refine nmA (F:=fun W=>Calls _ _ _ W _) ?_;intro w47 hE B47 hz_w47 hr_w47
 refine mV7 hE ?_ G46 G45 G44 B4 B2 HX LC;clear G46 G45 G44 B4 B2 HX LC;intro G46 G45 G44 B4 B2 HX LC
 have hs_w47:=hE.size;clear hE;replace b_B2:=b3 B2;replace b_B4:=b3 B4;replace b_B47:=b3 B47
 change Calls _ _ _ _ _
 have L4:Hid (ce w47 ⟨some ⟨w46.heap.size,0,none⟩,3,3⟩ bq3):=Hi (qE B47.out G44.out G45.out G46.out)
 (try clear b_B47);clear B47
 clear G44;clear G45;clear G46;refine cM ((by have h:=mG ⟨ca,3,cc⟩ ⟨some ⟨w46.heap.size,0,none⟩,3,3⟩ bq3 bq3 _ LC.out L4.out;rw [decide_eq_true rfl] at h;exact h)) fun x48 w48 hE _=>?_
 refine mV4 hE ?_ B4 B2 HX LC;clear B4 B2 HX LC;intro B4 B2 HX LC
 have hs_w48:=hE.size;clear hE;replace b_B2:=b3 B2;replace b_B4:=b3 B4;go_wp2
 go_ret
 exact ⟨(),rfl,HX.out,trivial⟩
end Go.Proofs.YtofhkmcllihgmaaGreat
/- Package bernstein: the closure of Bound. -/
set_option linter.unusedVariables false
namespace Go.Proofs.YtofhkmcllihgmaaGreat
open Go.RowKit Go.Front Go.Num Stab
attribute [local go_sem] XW.cell XW.frozen
end Go.Proofs.YtofhkmcllihgmaaGreat
/- Powers and binomial coefficients. -/
set_option linter.unusedVariables false
namespace Go.Proofs.YtofhkmcllihgmaaGreat
open Go.RowKit Go.Front Go.Num
attribute [local go_sem] XW.cell XW.frozen
end Go.Proofs.YtofhkmcllihgmaaGreat
/- Package bernstein: Bound. -/
set_option linter.unusedVariables false
namespace Go.Proofs.YtofhkmcllihgmaaGreat
open Go.RowKit Go.Front Go.Num Stab
attribute [local go_sem] XW.cell XW.frozen
end Go.Proofs.YtofhkmcllihgmaaGreat
/- Package bernstein: what Range and Bound find, in plain words. -/
set_option linter.unusedVariables false
namespace Go.Proofs.YtofhkmcllihgmaaGreat
open Go.Num Stab
def bcL(p:List Rat)(a b:Rat):List Rat:=row p.length (bcV p a (b-a))
theorem iX(p:List Rat)(a b:Rat):(bcL p a b).length=p.length:=aF _ _
theorem n3(n:Nat)(f:Nat→Rat)(c:Rat):(row n f).map (c*·)=row n (fun i=>c*f i):=by unfold row;rw [List.map_map];rfl
theorem yG(p:List Rat)(a b:Rat):lcW p a b=(bcL p a b).map (lcK p a b*·):=by rw [C8];unfold bcL;rw [n3]
theorem tk{c:Rat}(hc:0<c)(m x:Rat):mnF (c*m) (c*x)=c*mnF m x∧mxF (c*m) (c*x)=c*mxF m x:=by
 have key:∀ u v:Rat,c*u<c*v↔u<v:=fun u v=>Rat.mul_lt_mul_left hc
 unfold mnF mxF;constructor
 ·by_cases h:x<m
  ·rw [if_pos h,if_pos ((key _ _).2 h)]
  ·rw [if_neg h,if_neg (fun h2=>h ((key _ _).1 h2))]
 ·by_cases h:m<x
  ·rw [if_pos h,if_pos ((key _ _).2 h)]
  ·rw [if_neg h,if_neg (fun h2=>h ((key _ _).1 h2))]
theorem xu{c:Rat}(hc:0<c)(l:List Rat):∀ m,(l.map (c*·)).foldl mnF (c*m)=c*l.foldl mnF m∧(l.map (c*·)).foldl mxF (c*m)=c*l.foldl mxF m:=by
 induction l with
 | nil=>intro m;exact ⟨rfl,rfl⟩
 | cons x l ih =>
  intro m;simp only [List.map_cons,List.foldl_cons];rw [(tk hc m x).1,(tk hc m x).2];exact ⟨(ih _).1,(ih _).2⟩
theorem wV(c:Rat)(l:List Rat)(i:Nat):(l.map (c*·)).getD i 0=c*l.getD i 0:=by
 by_cases h:i<l.length
 ·simp [h]
 ·rw [cq (by rw [List.length_map];omega),cq (by omega)];grind
theorem BG{c:Rat}(hc:0<c)(l:List Rat):mnL (l.map (c*·))=c*mnL l∧mxL (l.map (c*·))=c*mxL l:=by
 unfold mnL mxL;rw [wV];exact xu hc l _
theorem C5(a b:Rat):mdV a b-a=(b-a)*hf∧b-mdV a b=(b-a)*hf∧mdV a b=a+(b-a)*hf:=by
 have h:=hf2;have e:mdV a b=(a+b)*hf:=rfl;rw [e];refine ⟨?_,?_,?_⟩ <;> grind
theorem DY{p:List Rat}(hp:p≠[])(a b:Rat):hlL (bcL p a b)=(bcL p a (mdV a b)).map ((2:Rat) ^ (p.length-1)*·)∧hlR (bcL p a b)=(bcL p (mdV a b) b).map ((2:Rat) ^ (p.length-1)*·):=by
 have hl:0<p.length:=List.length_pos_iff.2 hp;obtain ⟨e1,e2,e3⟩:=C5 a b;unfold hlL hlR;rw [iX];unfold bcL;rw [n3,n3];have g:∀ j,j<p.length→(row p.length (bcV p a (b-a))).getD j 0=bcV p a (b-a) j:=fun j hj=>bM _ hj
 constructor
 ·refine aR (fun j hj=>?_);show _*lfb _ j=_;rw [e1,←u6 hp a (b-a) j hj];unfold lfb;rw [kr j hf (fun k _ hk=>g k (by omega))]
 ·refine aR (fun j hj=>?_);show _*rtb _ _ j=_;rw [e2,e3,←qJ hp a (b-a) j hj];unfold rtb;rw [kr (p.length-1-j) hf (fun k _ hk=>g k (by omega))]
def rbn:Nat→List Rat→Rat→Rat→Rat
 | 0,p,a,b=>mnL (bcL p a b)
 | d+1,p,a,b=>mnF (rbn d p a (mdV a b)) (rbn d p (mdV a b) b)
def rbx:Nat→List Rat→Rat→Rat→Rat
 | 0,p,a,b=>mxL (bcL p a b)
 | d+1,p,a,b=>mxF (rbx d p a (mdV a b)) (rbx d p (mdV a b) b)
theorem Ai(p:List Rat)(a b:Rat):lcK p a b*(((1:Int):Rat) / lcK p a b)=1:=by
 have h:lcK p a b≠0:=Rat.ne_of_gt (oy p a b);rw [show ((1:Int):Rat)=1 from rfl,Rat.div_def,Rat.one_mul,Rat.mul_inv_cancel _ h]
theorem Dn(p:List Rat)(a b:Rat):cfV p a b=bcL p a b:=by
 unfold cfV;rw [yG,List.map_map];have hK:=Ai p a b;refine (List.map_congr_left (fun x _=>?_)).trans (List.map_id _);show lcK p a b*x*_=x;grind
theorem iW{p:List Rat}{a b:Rat}{i:Nat}(h:i<p.length):mnL (bcL p a b)≤bcV p a (b-a) i∧bcV p a (b-a) i≤mxL (bcL p a b):=by
 have:=yC (l:=bcL p a b) (k:=i) (by rw [iX];exact h);unfold bcL at this ⊢
 rwa [bM _ h] at this
theorem Cx{p:List Rat}(hp:p≠[]){a b t:Rat}(h0:0≤t)(h1:t≤1):mnL (bcL p a b)≤evV p (a+t*(b-a))∧evV p (a+t*(b-a))≤mxL (bcL p a b):=by
 have hl:0<p.length:=List.length_pos_iff.2 hp;rw [←xU hp];exact ⟨CO h0 h1 (fun j hj=>(iW (by omega)).1),CN h0 h1 (fun j hj=>(iW (by omega)).2)⟩
theorem pW{l:List Rat}{m M:Rat}(h:l≠[])(hm:∀ x ∈ l,m≤x∧x≤M):m≤mnL l∧mxL l≤M:=⟨(hm _ (lQ h).1).1,(hm _ (lQ h).2).2⟩
theorem tp{n:Nat}{f:Nat→Rat}{x:Rat}(h:x ∈ row n f):∃ i,i<n∧x=f i:=by
 obtain ⟨i,hi,rfl⟩:=List.mem_map.1 h;exact ⟨i,List.mem_range.1 hi,rfl⟩
theorem Do{p:List Rat}(hp:p≠[])(a b:Rat):(mnL (bcL p a b)≤mnL (bcL p a (mdV a b))∧mxL (bcL p a (mdV a b))≤mxL (bcL p a b))∧(mnL (bcL p a b)≤mnL (bcL p (mdV a b) b)∧mxL (bcL p (mdV a b) b)≤mxL (bcL p a b)):=by
 have hl:0<p.length:=List.length_pos_iff.2 hp;obtain ⟨e1,e2,e3⟩:=C5 a b;have hne:∀ x y,bcL p x y≠[]:=fun x y h=>by have:=iX p x y;rw [h] at this;simp at this;omega
 have h0:(0:Rat)≤hf:=by decide +kernel
 have h1:hf≤(1:Rat):=by decide +kernel
 constructor
 ·refine pW (hne _ _) (fun x hx=>?_);obtain ⟨i,hi,rfl⟩:=tp hx;rw [e1,←u6 hp a (b-a) i hi];exact ⟨uF h0 h1 (fun j _ hj=>(iW (by omega)).1),uE h0 h1 (fun j _ hj=>(iW (by omega)).2)⟩
 ·refine pW (hne _ _) (fun x hx=>?_);obtain ⟨i,hi,rfl⟩:=tp hx;rw [e2,e3,←qJ hp a (b-a) i hi];exact ⟨uF h0 h1 (fun j _ hj=>(iW (by omega)).1),uE h0 h1 (fun j _ hj=>(iW (by omega)).2)⟩
theorem DN{a b:Rat}(h:a≤b):a≤mdV a b∧mdV a b≤b:=by
 obtain ⟨e1,e2,e3⟩:=C5 a b;have h0:(0:Rat)≤hf:=by decide +kernel
 have:=Rat.mul_nonneg (show (0:Rat)≤b-a by grind) h0;constructor <;> grind
theorem CV{p:List Rat}(hp:p≠[])(d:Nat):∀ a b x,a≤x→x≤b→rbn d p a b≤evV p x∧evV p x≤rbx d p a b:=by
 induction d with
 | zero =>
  intro a b x h1 h2;by_cases hab:a=b
  ·subst hab;have:x=a:=by grind
   subst this;have:=Cx hp (a:=x) (b:=x) (t:=0) (Rat.le_refl) (by decide)
   rwa [show x+0*(x-x)=x by grind] at this
  ·have hw:0<b-a:=by grind
   have hw0:b-a≠0:=Rat.ne_of_gt hw;have e:(x-a) / (b-a)*(b-a)=x-a:=by rw [Rat.div_def,Rat.mul_assoc,Rat.inv_mul_cancel _ hw0];grind
   have hi:0<(b-a)⁻¹:=Rat.inv_pos.2 hw;have t0:0≤(x-a) / (b-a):=by rw [Rat.div_def];exact Rat.mul_nonneg (by grind) (by grind)
   have t1:(x-a) / (b-a)≤1:=by
    have h3:(b-x)*(b-a)⁻¹=(b-a)*(b-a)⁻¹-(x-a)*(b-a)⁻¹:=by grind
    have h4:=Rat.mul_nonneg (show (0:Rat)≤b-x by grind) (show (0:Rat)≤(b-a)⁻¹ by grind);rw [Rat.mul_inv_cancel _ hw0] at h3;rw [Rat.div_def];grind
   have:=Cx hp (a:=a) (b:=b) t0 t1
   rwa [e,show a+(x-a)=x by grind] at this
 | succ d ih =>
  intro a b x h1 h2;unfold rbn rbx;by_cases hm:x≤mdV a b
  ·have:=ih a (mdV a b) x h1 hm;unfold mnF mxF;constructor <;> split <;> grind
  ·have:=ih (mdV a b) b x (by grind) h2;unfold mnF mxF;constructor <;> split <;> grind
end Go.Proofs.YtofhkmcllihgmaaGreat
/- Package bernstein: what Prove finds, in plain words. -/
set_option linter.unusedVariables false
namespace Go.Proofs.YtofhkmcllihgmaaGreat
open Go.Num Stab
def psV(p:List Rat)(a b:Rat):Bool:=!p.isEmpty && decide (0<mnL (bcL p a b))
theorem v8{l:List Rat}(h:l≠[]):gR l=decide (0<mnL l):=by
 have e:gR l=true↔0<mnL l:=by
  unfold gR;rw [List.all_eq_true];constructor
  ·intro h1;exact of_decide_eq_true (h1 _ (lQ h).1)
  ·intro h1 x hx;obtain ⟨k,hk,rfl⟩:=List.mem_iff_getElem.1 hx;have:=(yC (l:=l) hk).1;rw [List.getD_eq_getElem?_getD,List.getElem?_eq_getElem hk] at this;exact decide_eq_true (by simp at this;grind)
 by_cases h2:0<mnL l
 ·rw [decide_eq_true h2];exact e.2 h2
 ·rw [decide_eq_false h2];rcases hb:gR l with _|_
  ·rfl
  ·exact absurd (e.1 hb) h2
theorem Cy{p:List Rat}(hp:p≠[])(a b:Rat):bcL p a b≠[]:=fun h=>by
 have:=iX p a b;rw [h] at this;exact hp (List.length_eq_zero_iff.1 this.symm)
theorem sT{p:List Rat}(hp:p≠[])(a b:Rat):psV p a b=decide (0<mnL (bcL p a b)):=by
 unfold psV;have:p.isEmpty=false:=by rw [List.isEmpty_eq_false_iff];exact hp
 rw [this];rfl
theorem zL{p:List Rat}(hp:p≠[]){c:Rat}(hc:0<c)(a b:Rat):gR ((bcL p a b).map (c*·))=psV p a b:=by
 rw [v8 (fun h=>Cy hp a b (List.map_eq_nil_iff.1 h)),sT hp,(BG hc _).1];have:(0:Rat)<c*mnL (bcL p a b)↔0<mnL (bcL p a b):=by
  have:=Rat.mul_lt_mul_left (a:=0) (b:=mnL (bcL p a b)) hc
  rwa [Rat.mul_zero] at this
 exact decide_eq_decide.2 this
def ckV(p:List Rat):Rat→List (Rat×Rat)→Rat→Bool
 | at',[],hi=>decide (at'=hi)
 | at',(a,b) :: l,hi=>decide (a=at') && psV p a b && ckV p b l hi
def prs:List Rat→List (Rat×Rat)
 | a :: b :: l=>(a,b) :: prs l
 | _=>[]
end Go.Proofs.YtofhkmcllihgmaaGreat
/- Lists of intervals in any form; what Check says. -/
set_option linter.unusedVariables false
namespace Go.Proofs.YtofhkmcllihgmaaGreat
open Go.RowKit Go.Front Go.Num Stab
attribute [local go_sem] XW.cell XW.frozen
structure IvS (w:World) (s:SH) (rs:List RH):Prop where
 len:rs.length=s.n*2
 le:s.n≤s.c
 max:s.c≤9223372036854775807
 at':s.n=0∨∃ b off,s.a=some ⟨b,off,none⟩∧∀ k,k<s.n*2→RAt w b (off+k*3) (rs.getD k default)
theorem IvS.ext{w w':World}{s:SH}{rs:List RH}(h:IvS w s rs)(he:Ext w w'):IvS w' s rs :=
 ⟨h.len,h.le,h.max,h.at'.imp id fun ⟨b,off,h1,h2⟩=>⟨b,off,h1,fun k hk=>(h2 k hk).ext he⟩⟩
instance {w w':World} {s:SH} {rs:List RH}:Go.Front.Mv w w' (IvS w s rs) (IvS w' s rs):=⟨fun e h=>IvS.ext h e⟩

theorem IvS.nil(w:World):IvS w ⟨none,0,0⟩ []:=⟨rfl,Nat.le_refl _,by decide,Or.inl rfl⟩
def iZ(w:World)(s:SH)(qs:List Rat):Prop:=∃ rs,IvS w s rs∧dT aO w rs qs
def mt(w:World)(s:SH)(qs:List Rat):Prop:=∃ rs,IvS w s rs∧dT aw w rs qs
theorem iZ.ext{w w':World}{s:SH}{qs:List Rat}(h:iZ w s qs)(he:Ext w w'):iZ w' s qs:=let ⟨rs,h1,h2⟩:=h;⟨rs,h1.ext he,h2.raw_ext he⟩
instance {w w':World} {s:SH} {qs:List Rat}:Go.Front.Mv w w' (iZ w s qs) (iZ w' s qs):=⟨fun e h=>iZ.ext h e⟩

theorem mt.ext{w w':World}{s:SH}{qs:List Rat}(h:mt w s qs)(he:Ext w w'):mt w' s qs:=let ⟨rs,h1,h2⟩:=h;⟨rs,h1.ext he,h2.can_ext he⟩
instance {w w':World} {s:SH} {qs:List Rat}:Go.Front.Mv w w' (mt w s qs) (mt w' s qs):=⟨fun e h=>mt.ext h e⟩

theorem iZ.len{w:World}{s:SH}{qs:List Rat}(h:iZ w s qs):qs.length=s.n*2:=let ⟨_,h1,h2⟩:=h;h2.1.symm.trans h1.len
theorem mt.raw{w:World}{s:SH}{qs:List Rat}{k:Nat}(h:mt w s qs)(hs:SzL k qs)(hk:k≤134217728):iZ w s qs :=
 let ⟨rs,h1,h2⟩:=h;⟨rs,h1,h2.1,fun i hi=>(h2.2 i hi).raw (hs.at hi) hk⟩
theorem eL.can{w:World}{D:Nat→Prop}{s:SH}{n:Nat}{qs:List Rat}(h:eL w D s.v n qs):s.n=n∧mt w s qs:=by
 obtain ⟨rs,h1,h2⟩:=h;rcases h1 with ⟨e,rfl,rfl⟩|⟨L,cap,re,e,h3,h4,h5,h6,h7,h8⟩
 ·obtain ⟨a,m,c⟩:=s;simp only [SH.v,Value.slice.injEq] at e;obtain ⟨rfl,rfl,rfl⟩:=e;exact ⟨rfl,[],IvS.nil _,h2⟩
 ·obtain ⟨a,m,c⟩:=s;simp only [SH.v,Value.slice.injEq] at e;obtain ⟨rfl,rfl,rfl⟩:=e;exact ⟨rfl,rs,⟨h5,h6,h7,Or.inr ⟨L,0,rfl,fun k hk=>by rw [Nat.zero_add];exact h4.at (by rw [h5];exact hk)⟩⟩,h2⟩
def IAt(w:World)(b o:Nat)(r t:RH):Prop:=w.cell? ⟨b,o,none⟩=some (.bool r.neg)∧w.cell? ⟨b,o+1,none⟩=some (.slice r.a r.n r.c)∧w.cell? ⟨b,o+2,none⟩=some (.slice r.b r.m r.d) ∧
 w.cell? ⟨b,o+3,none⟩=some (.bool t.neg)∧w.cell? ⟨b,o+4,none⟩=some (.slice t.a t.n t.c)∧w.cell? ⟨b,o+5,none⟩=some (.slice t.b t.m t.d)
theorem iZ.at{w:World}{ao:Option Addr}{n c:Nat}{qs:List Rat}(h:iZ w ⟨ao,n,c⟩ qs){k:Nat}(hk:k<n) :
  ∃ b off r t,ao=some ⟨b,off,none⟩∧b<w.heap.size∧IAt w b (off+k*6) r t∧aO w r (qs.getD (2*k) 0)∧aO w t (qs.getD (2*k+1) 0):=by
 have hl:=h.len;obtain ⟨rs,h1,h2⟩:=h;rcases h1.at' with h0|⟨b,off,h3,h4⟩
 ·simp only at h0;omega
 ·simp only at h3 h4 hl;have g1:=h4 (2*k) (by omega);have g2:=h4 (2*k+1) (by omega);rw [show off+2*k*3=off+k*6 by omega] at g1;rw [show off+(2*k+1)*3=off+k*6+3 by omega] at g2;exact ⟨b,off,_,_,h3,World.block_lt_of_cell? _ _ g1.1,⟨g1.1,g1.2.1,g1.2.2,g2.1,g2.2.1,g2.2.2⟩,h2.2 (2*k) (by omega),h2.2 (2*k+1) (by omega)⟩
def tps(qs:List Rat):List (Rat×Rat):=(prs qs).map (fun x=>(loV x.1 x.2,hiV x.1 x.2))
theorem sU:∀ qs:List Rat,(prs qs).length=qs.length / 2
 | []=>rfl
 | [a]=>by simp [prs]
 | a :: b :: l=>by
  show (prs l).length+1=_;rw [sU l];simp only [List.length_cons];omega
theorem yr:∀ (qs:List Rat) (k:Nat),2*k+1<qs.length→(prs qs)[k]?=some (qs.getD (2*k) 0,qs.getD (2*k+1) 0)
 | [],k,h=>by simp at h
 | [_],k,h=>by simp at h
 | a :: b :: l,0,_=>rfl
 | a :: b :: l,k+1,h=>by
  show (prs l)[k]?=_;rw [yr l k (by simp only [List.length_cons] at h;omega)];rfl
theorem nP(qs:List Rat):(tps qs).length=qs.length / 2:=by unfold tps;rw [List.length_map,sU]
theorem ph{qs:List Rat}{k:Nat}(h:2*k+1<qs.length):(tps qs).drop k=(loV (qs.getD (2*k) 0) (qs.getD (2*k+1) 0),hiV (qs.getD (2*k) 0) (qs.getD (2*k+1) 0)) :: (tps qs).drop (k+1):=by
 have hl:k<(tps qs).length:=by rw [nP];omega
 rw [List.drop_eq_getElem_cons hl]
 congr 1
 have e:(tps qs)[k]?=some (loV (qs.getD (2*k) 0) (qs.getD (2*k+1) 0),hiV (qs.getD (2*k) 0) (qs.getD (2*k+1) 0)):=by
  unfold tps;rw [List.getElem?_map,yr qs k h];rfl
 rw [List.getElem?_eq_getElem hl] at e;exact Option.some.inj e
def ckE(p:List Rat)(lo hi:Rat)(l:List (Rat×Rat)):Int:=if l≠[]∧ckV p lo l hi=true then 0 else 22
theorem oP(p:List Rat)(lo hi:Rat):ckE p lo hi []=22:=if_neg (fun h=>h.1 rfl)
theorem zK(a b:Rat):psV [] a b=false:=rfl
theorem xN(lo hi:Rat)(l:List (Rat×Rat)):ckE [] lo hi l=22:=by
 cases l with
 | nil=>exact oP _ _ _
 | cons x l =>
  refine if_neg (fun h=>?_);have h2:=h.2;unfold ckV at h2;rw [zK] at h2;simp at h2
theorem rQ{p:List Rat}{lo hi:Rat}{l:List (Rat×Rat)}(h:ckV p lo l hi=false):ckE p lo hi l=22:=if_neg (fun h2=>by rw [h] at h2;exact absurd h2.2 (by decide))
theorem yU{p:List Rat}{lo hi:Rat}{l:List (Rat×Rat)}(h0:l≠[])(h:ckV p lo l hi=true):ckE p lo hi l=0:=if_pos ⟨h0,h⟩
end Go.Proofs.YtofhkmcllihgmaaGreat
