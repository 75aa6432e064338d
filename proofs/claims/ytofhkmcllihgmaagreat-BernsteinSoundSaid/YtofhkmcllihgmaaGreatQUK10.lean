/- Check of package bernstein. -/
import Derived.Test.YtofhkmcllihgmaaGreatQUK9
import Derived.Test.YtofhkmcllihgmaaGreatQUK8
import Derived.Test.YtofhkmcllihgmaaGreatQUK4
import Derived.Test.YtofhkmcllihgmaaGreatQUK2
import Derived.Test.YtofhkmcllihgmaaGreatQUK1
set_option linter.unusedVariables false
namespace Go.Proofs.YtofhkmcllihgmaaGreat
open Go.RowKit Go.Front Go.Num Stab
attribute [local go_sem] XW.cell XW.frozen
theorem eE{a b:Rat}:dM a b=0↔a=b:=by
 unfold dM;constructor
 ·intro h;split at h
  ·omega
  ·split at h
   ·assumption
   ·omega
 ·rintro rfl;rw [if_neg (by grind),if_pos rfl]
theorem CX{p:List Rat}(hp:p≠[])(a b:Rat):gR (lcW p a b)=psV p a b:=by rw [yG];exact zL hp (oy p a b) a b
theorem mi(p:List Rat)(q a b hi:Rat)(l:List (Rat×Rat)):ckV p q ((a,b) :: l) hi=(decide (a=q) && psV p a b && ckV p b l hi):=rfl
theorem yV{p:List Rat}{q v:Rat}{l:List (Rat×Rat)}{k:Nat}(h:l.length≤k):ckV p q (l.drop k) v=decide (q=v):=by rw [List.drop_eq_nil_of_le h];rfl
set_option maxRecDepth 8000 in
set_option maxHeartbeats 16000000 in
theorem iV(ao:Option Addr)(n cap:Nat)(l:List Rat)(s t:RH)(xo:Option Addr)(xn xc:Nat)(qs:List Rat)(a b:Rat)(S T:Nat)(w:World)(h:dU w ⟨ao,n,cap⟩ l)(hs:aO w s a)(ht:aO w t b)(hx:iZ w ⟨xo,xn,xc⟩ qs)(hn:n≤1000)(h8:(tz l).length≤8)(hz:SzL S (tz l))(za:Sz T a)(zb:Sz T b)(zq:SzL T qs)(hS:S≤1000)(hT:T≤450)(hxm:xn≤1000000) :
  au 34 [.slice ao n cap,SgV ((s,t),⟨xo,xn,xc⟩)] w (fun _:Unit=>.int .i64 (ckE (tz l) (loV a b) (hiV a b) (tps qs))) (fun _ _=>True):=by
 have HX:=Hi (Ext.refl w);have HS:=Hi hs;have HT:=Hi ht;have LA:=Hi h;have LX:=Hi hx;have ZA:=Hi (kD za zb);have ZB:=Hi (kF za zb);have HZ:=Hi hz;have ZQ:=Hi zq;have HQl:Hid (qs.length=xn*2):=Hi hx.len;have HTl:Hid ((tps qs).length=xn):=Hi (by rw [nP,hx.len];simp only;omega);clear h hs ht hx za zb hz zq;obtain ⟨sn,sa,sl,sc,sb,sm',sd⟩:=s;obtain ⟨tn,ta,tl,tc,tb,tm,td⟩:=t;obtain ⟨N,hN⟩:∃ N,N=(tz l).length:=⟨_,rfl⟩;have HN:=Hi hN;obtain ⟨r,hr⟩:∃ r,r=ckE (tz l) (loV a b) (hiV a b) (tps qs):=⟨_,rfl⟩;have HR:=Hi hr;rw [←hr];clear hr;unfold au;go_enter Tryz.func34,Tryz.ntmps34
 go_upto_region 1 with fail
 refine nmA ?_;intro w1 hE B3 hz_w1 hr_w1;refine mV5 hE ?_ HX HS HT LA LX;clear HX HS HT LA LX;intro HX HS HT LA LX;have hs_w1:=hE.size;clear hE;replace b_B3:=b3 B3
 go_wp2_with fail
 refine cM (jU ao n cap l _ LA.out) fun x14 w14 hE _=>?_
 refine mV6 hE ?_ B3 HX HS HT LA LX;clear B3 HX HS HT LA LX;intro B3 HX HS HT LA LX
 have hs_w14:=hE.size;clear hE;replace b_B3:=b3 B3;rw [←hN];have hd1:¬ (48:Int)<(N:Int)-1:=by omega
 clear hN;by_cases h0:N=0
 case pos =>
  subst h0;have hd2:((0:Nat):Int)-1<0:=by decide
  have HV:Hid (r=22):=Hi (by rw [HR.out,List.length_eq_zero_iff.1 HN.out.symm,xN]);go_wp2
  go_ret
  exact ⟨(),by rw [HV.out];rfl,HX.out,trivial⟩
 have hd2:¬ (N:Int)-1<0:=by omega
 have HP0:Hid (tz l≠[]):=Hi (fun e=>h0 (by rw [HN.out,e];rfl));by_cases hx0:xn=0
 case pos =>
  subst hx0;have HV:Hid (r=22):=Hi (by rw [HR.out,List.length_eq_zero_iff.1 HTl.out,oP]);go_wp2
  go_ret
  exact ⟨(),by rw [HV.out];rfl,HX.out,trivial⟩
 have hxb:((xn:Int) == 0)=false:=by rw [beq_eq_false_iff_ne];omega
 go_wp2_with fail
 refine cM (eU ⟨sn,sa,sl,sc,sb,sm',sd⟩ ⟨tn,ta,tl,tc,tb,tm,td⟩ a b _ HS.out HT.out) fun x29 w29 hE G29=>?_
 refine mV6 hE ?_ B3 HX HS HT LA LX;clear B3 HX HS HT LA LX;intro B3 HX HS HT LA LX;have hs_w29:=hE.size;clear hE;replace b_B3:=b3 B3;obtain ⟨⟨ln,la,ll,lc,lb,lm,ld⟩,⟨hn',ha,hl,hcc,hb,hm,hd⟩⟩:=x29;have HL:=Hi G29.out.1;have HH:=Hi G29.out.2;clear G29;simp only at HL HH;clear HS;clear HT;obtain ⟨u,hu⟩:∃ u,u=loV a b:=⟨_,rfl⟩;obtain ⟨v,hv⟩:∃ v,v=hiV a b:=⟨_,rfl⟩;rw [←hu] at HL ZA HR;rw [←hv] at HH ZB HR;clear hu hv;have LA9:=LA;have LX9:=LX;have HH9:=HH;have HL9:=HL;have HX9:=HX;have hXn:Ext w29 w29:=Ext.refl w29;have HXn:=Hi hXn;clear hXn
 go_upto_region 8 with fail
 refine iK ?_;intro w30 hE B6 B7 hz_w30 hr_w30;refine mV7 hE ?_ B3 HX LA LX HL HH HXn;clear B3 HX LA LX HL HH HXn;intro B3 HX LA LX HL HH HXn;have hs_w30:=hE.size;clear hE;replace b_B3:=b3 B3;replace b_B6:=b3 B6;replace b_B7:=b3 B7;obtain ⟨b6,hb6⟩:∃ x,x=w29.heap.size:=⟨_,rfl⟩;obtain ⟨b7,hb7⟩:∃ x,x=w29.heap.size+1:=⟨_,rfl⟩;have q6:w29.heap.size≤b6:=by omega
 have q7w:w.heap.size≤b7:=by omega
 have q7:w29.heap.size≤b7:=by omega
 have n67:b6≠b7:=by omega
 rw [←hb7] at B7;rw [←hb6] at B6;rw [←hb7,←hb6];have hCK:ckV (tz l) u (tps qs) v=ckV (tz l) u ((tps qs).drop 0) v:=rfl;have HCK0:=Hi hCK;have hne:tps qs≠[]:=fun e=>by have:=HTl.out;rw [e] at this;exact hx0 this.symm
 have HNE:=Hi hne;clear hCK hne hb6 hb7 b_B6 b_B7;go_wp2
 go_loopg [35] xn (fun g i wr=>∃ (j:Nat) (e:RH) (q:Rat),j+g=xn∧i=.int .i64 (j:Nat)∧Ext w29 wr∧wr.heap[b6]?=some (.cells #[.bool ln,.slice la ll lc,.slice lb lm ld,.bool hn',.slice ha hl hcc,.slice hb hm hd] 49 (0,0))∧wr.heap[b7]?=some (.cells #[.bool e.neg,.slice e.a e.n e.c,.slice e.b e.m e.d] 30 (0,0))∧aw wr e q∧Sz T q∧ckV (tz l) u (tps qs) v=ckV (tz l) q ((tps qs).drop j) v)
 case atStart=>exact ⟨0,⟨ln,la,ll,lc,lb,lm,ld⟩,u,by omega,rfl,HXn.out,B6.out,B7.out,HL.out,ZA.out,HCK0.out⟩
 case round =>
  obtain ⟨j,⟨en,ea,el,ec,eb,em,ed⟩,q,hj,rfl,g1,g2,g3,g4,g5,g6⟩:=hrel;clear HXn B6 B7 HL HH HCK0 HX LA LX;have HXn:=Hi g1;have B6:=Hi g2;have B7:=Hi g3;have GE:=Hi g4;have ZE:=Hi g5;have HCK:=Hi g6;have HX:=Hi (HX9.out.trans g1);have LA:=Hi (LA9.out.ext g1);have LX:=Hi (LX9.out.ext g1);have HH:=Hi (HH9.out.ext g1);clear g1 g2 g3 g4 g5 g6;simp only at B7;replace b_B6:=b3 B6;replace b_B7:=b3 B7;have p7:b7<wr.heap.size:=b_B7.2.2;by_cases h1:gk=0
  case pos =>
   subst h1;obtain rfl:j=xn:=by omega
   have hin:¬ (j:Int)<(j:Int):=by omega
   rw [yV (by rw [HTl.out];exact Nat.le_refl _)] at HCK
   go_wp2_with fail
   refine cM (lI ⟨en,ea,el,ec,eb,em,ed⟩ ⟨hn',ha,hl,hcc,hb,hm,hd⟩ q v _ (GE.out.raw ZE.out (by omega)) (HH.out.raw ZB.out (by omega))) fun x61 w61 hE _=>?_
   refine mV8 hE ?_ HXn B6 B7 GE HX LA LX HH;clear HXn B6 B7 GE HX LA LX HH;intro HXn B6 B7 GE HX LA LX HH;have hs_w61:=hE.size;clear hE;replace b_B6:=b3 B6;replace b_B7:=b3 B7;by_cases h2:q=v
   case pos =>
    have HV:Hid (r=0):=Hi (by rw [HR.out];exact yU HNE.out (by rw [HCK.out];exact decide_eq_true h2));rw [eE.2 h2];clear h2;go_wp2
    go_ret
    exact ⟨(),by rw [HV.out];rfl,HX.out,trivial⟩
   have HV:Hid (r=22):=Hi (by rw [HR.out];exact rQ (by rw [HCK.out];exact decide_eq_false h2));have hc:¬ dM q v=0:=fun h=>h2 (eE.1 h)
   obtain ⟨c,e⟩:∃ c,c=dM q v:=⟨_,rfl⟩;rw [←e] at hc ⊢;have hcb:(c == 0)=false:=by rw [beq_eq_false_iff_ne];exact hc
   clear e h2;go_wp2
   go_ret
   exact ⟨(),by rw [HV.out];rfl,HX.out,trivial⟩
  have hin:(j:Int)<xn:=by omega
  obtain ⟨bw,off,r1,t1,hao,hbl,⟨f1,f2,f3,f4,f5,f6⟩,R1,R2⟩:=LX.out.at (k:=j) (by omega);have Zx1:=Hi (ZQ.out.at (i:=2*j) (by rw [HQl.out];omega));have Zx2:=Hi (ZQ.out.at (i:=2*j+1) (by rw [HQl.out];omega));rw [ph (by rw [HQl.out];omega)] at HCK;obtain ⟨x1,hx1⟩:∃ x,x=qs.getD (2*j) 0:=⟨_,rfl⟩;obtain ⟨x2,hx2⟩:∃ x,x=qs.getD (2*j+1) 0:=⟨_,rfl⟩;rw [←hx1] at R1 Zx1 HCK;rw [←hx2] at R2 Zx2 HCK;obtain ⟨rn,ra,rl,rc,rb,rm,rd⟩:=r1;obtain ⟨kn,ka,kl,kc,kb,km,kd⟩:=t1;simp only at f1 f2 f3 f4 f5 f6;have RP:=Hi R1;have RK:=Hi R2;subst hao;clear R1 R2 hx1 hx2
  go_upto_region 11 with fail
  refine nmA ?_;intro w40 hE B9 hz_w40 hr_w40;refine mV8 hE ?_ HXn B6 B7 GE HX LA LX HH;clear HXn B6 B7 GE HX LA LX HH;intro HXn B6 B7 GE HX LA LX HH;refine mV2 hE ?_ RP RK;clear RP RK;intro RP RK;have hs_w40:=hE.size;clear hE;replace b_B6:=b3 B6;replace b_B7:=b3 B7;replace b_B9:=b3 B9;clear f1 f2 f3 f4 f5 f6
  go_wp2_with fail
  refine cM (eU ⟨rn,ra,rl,rc,rb,rm,rd⟩ ⟨kn,ka,kl,kc,kb,km,kd⟩ x1 x2 _ RP.out RK.out) fun x41 w41 hE G41=>?_
  refine mV8 hE ?_ B9 HXn B6 B7 GE HX LA LX;clear B9 HXn B6 B7 GE HX LA LX;intro B9 HXn B6 B7 GE HX LA LX
  refine mV3 hE ?_ HH RP RK;clear HH RP RK;intro HH RP RK
  have hs_w41:=hE.size;clear hE;replace b_B6:=b3 B6;replace b_B7:=b3 B7;replace b_B9:=b3 B9;obtain ⟨⟨cn,ca,cl,cc,cb,cm,cd⟩,⟨dn,da,dl,dc,db,dm,dd⟩⟩:=x41;have HC:=Hi G41.out.1;have HD:=Hi G41.out.2;clear G41;simp only at HC HD;clear RP;clear RK;have ZC:=Hi (kD Zx1.out Zx2.out);have ZD:=Hi (kF Zx1.out Zx2.out);have hcd:=kE x1 x2;obtain ⟨c1,hc1⟩:∃ c,c=loV x1 x2:=⟨_,rfl⟩;obtain ⟨d1,hd1'⟩:∃ c,c=hiV x1 x2:=⟨_,rfl⟩;rw [←hc1,←hd1'] at HCK hcd;rw [←hc1] at HC ZC;rw [←hd1'] at HD ZD;have HCD:=Hi hcd;clear hc1 hd1' hcd
  go_upto_region 12 with fail
  refine nmA ?_;intro w42 hE B10 hz_w42 hr_w42;refine mV8 hE ?_ B9 HXn B6 B7 GE HX LA LX;clear B9 HXn B6 B7 GE HX LA LX;intro B9 HXn B6 B7 GE HX LA LX;refine mV3 hE ?_ HH HC HD;clear HH HC HD;intro HH HC HD;have hs_w42:=hE.size;clear hE;replace b_B6:=b3 B6;replace b_B7:=b3 B7;replace b_B9:=b3 B9;replace b_B10:=b3 B10
  go_wp2_with fail
  refine cM (lI ⟨cn,ca,cl,cc,cb,cm,cd⟩ ⟨en,ea,el,ec,eb,em,ed⟩ c1 q _ (HC.out.raw ZC.out (by omega)) (GE.out.raw ZE.out (by omega))) fun x44 w44 hE _=>?_
  refine mV8 hE ?_ B10 B9 HXn B6 B7 GE HX LA;clear B10 B9 HXn B6 B7 GE HX LA;intro B10 B9 HXn B6 B7 GE HX LA
  refine mV4 hE ?_ LX HH HC HD;clear LX HH HC HD;intro LX HH HC HD
  have hs_w44:=hE.size;clear hE;replace b_B6:=b3 B6;replace b_B7:=b3 B7;replace b_B9:=b3 B9;replace b_B10:=b3 B10;by_cases h2:c1=q
  case neg =>
   have HV:Hid (r=22):=Hi (by rw [HR.out];exact rQ (by rw [HCK.out,mi,decide_eq_false h2];rfl));have hc:¬ dM c1 q=0:=fun h=>h2 (eE.1 h)
   obtain ⟨c,e⟩:∃ c,c=dM c1 q:=⟨_,rfl⟩;rw [←e] at hc ⊢;have hcb:(c == 0)=false:=by rw [beq_eq_false_iff_ne];exact hc
   clear e h2;go_wp2
   go_ret
   exact ⟨(),by rw [HV.out];rfl,HX.out,trivial⟩
  have HCK2:Hid (ckV (tz l) u (tps qs) v=(psV (tz l) c1 d1 && ckV (tz l) d1 ((tps qs).drop (j+1)) v)):=Hi (by rw [HCK.out,mi,decide_eq_true h2,Bool.true_and]);rw [eE.2 h2];clear h2 HCK
  go_wp2_with fail
  refine cM ((by have h:=rT ao n cap l ⟨cn,ca,cl,cc,cb,cm,cd⟩ ⟨dn,da,dl,dc,db,dm,dd⟩ c1 d1 S T _ LA.out (HC.out.raw ZC.out (by omega)) (HD.out.raw ZD.out (by omega)) hn h8 HZ.out ZC.out ZD.out hS hT;rw [gL HCD.out,gN HCD.out] at h;exact h)) fun x49 w49 hE G49=>?_
  refine mV8 hE ?_ B10 B9 HXn B6 B7 GE HX LA;clear B10 B9 HXn B6 B7 GE HX LA;intro B10 B9 HXn B6 B7 GE HX LA
  refine mV4 hE ?_ LX HH HC HD;clear LX HH HC HD;intro LX HH HC HD
  have hs_w49:=hE.size;clear hE;replace b_B6:=b3 B6;replace b_B7:=b3 B7;replace b_B9:=b3 B9;replace b_B10:=b3 B10;obtain ⟨⟨ya,yn,yc⟩,⟨zn,za,zl,zc,zb,zm,zd⟩⟩:=x49;have LY:=Hi G49.out.1.can;clear G49;simp only at LY;have hyn:yn≤8:=by have:=LY.out.len;rw [kS] at this;simp only at this;omega
  have HWZ:Hid (SzL (9*S+80*T+76) (lcW (tz l) c1 d1)):=Hi (fun x hx=>(qf HZ.out h8 ZC.out ZD.out HCD.out x hx).sz (by omega));have HPS:=Hi (CX HP0.out c1 d1)
  go_upto_region 15 with fail
  refine nmA ?_;intro w50 hE B12 hz_w50 hr_w50;refine mV8 hE ?_ B10 B9 HXn B6 B7 GE HX LA;clear B10 B9 HXn B6 B7 GE HX LA;intro B10 B9 HXn B6 B7 GE HX LA;refine mV5 hE ?_ LX HH HC HD LY;clear LX HH HC HD LY;intro LX HH HC HD LY;have hs_w50:=hE.size;clear hE;replace b_B6:=b3 B6;replace b_B7:=b3 B7;replace b_B9:=b3 B9;replace b_B10:=b3 B10;replace b_B12:=b3 B12
  go_wp2_with fail
  refine cM (mp ya yn yc _ (9*S+80*T+76) _ LY.out (by omega) HWZ.out (by omega)) fun x53 w53 hE _=>?_
  refine mV8 hE ?_ B12 B10 B9 HXn B6 B7 GE HX;clear B12 B10 B9 HXn B6 B7 GE HX;intro B12 B10 B9 HXn B6 B7 GE HX
  refine mV6 hE ?_ LA LX HH HC HD LY;clear LA LX HH HC HD LY;intro LA LX HH HC HD LY
  have hs_w53:=hE.size;clear hE;replace b_B6:=b3 B6;replace b_B7:=b3 B7;replace b_B9:=b3 B9;replace b_B10:=b3 B10;replace b_B12:=b3 B12;rw [HPS.out];obtain ⟨pv,hpv⟩:∃ pv,pv=psV (tz l) c1 d1:=⟨_,rfl⟩;rw [←hpv] at HCK2 ⊢;clear hpv HPS;cases pv with
  | false =>
   have HV:Hid (r=22):=Hi (by rw [HR.out];exact rQ (by rw [HCK2.out];rfl));go_wp2
   go_ret
   exact ⟨(),by rw [HV.out];rfl,HX.out,trivial⟩
  | true =>
  clear LA;clear LX;clear LY
  go_upto_region 18 with fail
  refine aI B7.out rfl ?_;intro w60 T;replace HX:=Hi (T.ext HX.out (by omega));replace HXn:=Hi (T.ext HXn.out (by omega));replace B6:=Hi (T.rest _ _ (by omega) B6.out);replace B7:=Hi (T.bx);replace GE:=Hi (GE.out.keep T.keep);replace HH:=Hi (HH.out.keep T.keep);replace B9:=Hi (T.rest _ _ (by omega) B9.out);replace HC:=Hi (HC.out.keep T.keep);replace HD:=Hi (HD.out.keep T.keep);replace B10:=Hi (T.rest _ _ (by omega) B10.out);replace B12:=Hi (T.rest _ _ (by omega) B12.out);have hs_w60:=nle T.size;have hr_w60:=nle T.size.symm;clear T;replace b_B6:=b3 B6;replace b_B7:=b3 B7;replace b_B9:=b3 B9;replace b_B10:=b3 B10;replace b_B12:=b3 B12;go_wp2
  go_roundg (gk-1)
  case measure=>omega
  case rel=>exact ⟨j+1,⟨dn,da,dl,dc,db,dm,dd⟩,d1,by omega,by go_num,HXn.out,B6.out,B7.out,HD.out,ZD.out,by rw [HCK2.out,Bool.true_and]⟩
end Go.Proofs.YtofhkmcllihgmaaGreat
/- Binomial of the reference 07; Bound of package stability. -/
set_option linter.unusedVariables false
namespace Go.Proofs.YtofhkmcllihgmaaGreat
open Go.RowKit Go.Front Go.Num
attribute [local go_sem] XW.cell XW.frozen
def bnd(m:Nat):Nat→Rat
 | 0=>1
 | i+1=>bnd m i*(((m+(i+1):Nat):Int):Rat) / (((i+1:Nat):Int):Rat)
theorem li{m:Nat}(hm:m≤64):∀ i,i≤100→Sz (2*i+1) (bnd m i)
 | 0,_=>Sz.one
 | i+1,h=>by
  have h1:=li hm i (by omega);have h2:Sz 1 (((m+(i+1):Nat):Int):Rat):=Sz.int (by unfold W32;omega);have h3:Sz 1 (((i+1:Nat):Int):Rat):=Sz.int (by unfold W32;omega);exact ((h1.mul h2).div h3).mono (by omega)
set_option maxRecDepth 8000 in
set_option maxHeartbeats 2000000 in
theorem nC(m k:Nat)(z:Int)(w:World)(hm:m≤64)(hk:k≤100)(hz:z=(m:Int)+k) :
  au 286 [.int .i64 z,.int .i64 (k:Nat)] w RH.v (fun x w'=>aw w' x (bnd m k)):=by
 have HX:=Hi (Ext.refl w);have hzk:z-(k:Int)=m:=by omega
 have hz1:0≤z∧z≤200:=by omega
 clear hz;unfold au;go_enter Tryz.func286,Tryz.ntmps286
 go_upto_region 1 with fail
 refine nmA ?_;intro w1 hE B4 hz_w1 hr_w1;replace HX:=hE.tr HX;have hs_w1:=hE.size;clear hE;replace b_B4:=b3 B4
 go_wp2_with fail
 refine cM (aK 1 _ (by decide) (by decide)) fun x2 w2 hE G2=>?_
 refine mV2 hE ?_ B4 HX;clear B4 HX;intro B4 HX
 have hs_w2:=hE.size;clear hE;replace b_B4:=b3 B4
 go_upto_region 2 with fail
 refine nmA ?_;intro y3 hE B5 hz_y3 hr_y3
 refine mV3 hE ?_ G2 B4 HX;clear G2 B4 HX;intro G2 B4 HX
 have hs_y3:=hE.size;clear hE;replace b_B4:=b3 B4;replace b_B5:=b3 B5;obtain ⟨b5,hb5⟩:∃ b,b=w2.heap.size:=⟨_,rfl⟩;have hb5w:w.heap.size+1≤b5:=by omega
 rw [←hb5] at B5 ⊢;clear hb5 b_B4 b_B5;have G0:Hid (aw y3 x2 (bnd m 0)):=G2;go_wp2
 go_loopg [6] k (fun g v wr=>∃ (j:Nat) (f:RH),j+g=k∧v=.int .i64 ((j:Int)+1)∧Ext w wr∧wr.heap[w.heap.size]?=some (.cells #[.bool false,.slice none 0 0,.slice none 0 0] 30 (0,0))∧wr.heap[b5]?=some (.cells #[.bool f.neg,.slice f.a f.n f.c,.slice f.b f.m f.d] 30 (0,0))∧aw wr f (bnd m j))
 case atStart=>exact ⟨0,x2,by omega,rfl,HX.out,B4.out,B5.out,G0.out⟩
 case round =>
  obtain ⟨j,f,hj,rfl,g1,g3,g4,g5⟩:=hrel;clear HX B4 B5 G2 G0;have HX:=Hi g1;have B4:=Hi g3;have B5:=Hi g4;have GF:=Hi g5;clear g1 g3 g4 g5;replace b_B4:=b3 B4;replace b_B5:=b3 B5;by_cases h0:gk=0
  case pos =>
   subst h0;obtain rfl:j=k:=by omega
   have hjn:¬ ((j:Int)+1≤j):=by omega
   go_wp2;have hF:=((((Fin.start (L:=w.heap.size) HX.out (ai B4.out rfl)).set (by omega) (i:=0) (v:=.bool f.neg) rfl).set (by omega) (i:=1) (v:=.slice f.a f.n f.c) rfl).set (by omega) (i:=2) (v:=.slice f.b f.m f.d) rfl);exact bodyPost_ret (v:=f.v) (by simp [results,Tryz.results286,go_sem,ae B4.out]) rfl ⟨f,rfl,hF.ext,GF.out.keep hF.keep⟩
  have hjn:(j:Int)+1≤k:=by omega
  have ZF:=Hi (li hm j (by omega));obtain ⟨p1,hp1⟩:∃ p:Nat,p=m+(j+1):=⟨_,rfl⟩;have hP1:(m:Int)+((j:Int)+1)=(p1:Nat):=by omega
  have hp1b:p1≤1000:=by omega
  have Z1:Hid (Sz 1 (((p1:Nat):Int):Rat)):=Hi (Sz.int (by unfold W32;omega));have Z2:Hid (Sz 1 (((j:Int)+1:Int):Rat)):=Hi (Sz.int (by unfold W32;omega));have HN:Hid (bnd m j*(((p1:Nat):Int):Rat) / (((j:Int)+1:Int):Rat)=bnd m (j+1)):=Hi (by rw [hp1];rfl);clear hp1
  go_upto_region 5 with fail
  refine wpG 11 (fun opIx=>match opIx with
   | 6=>.spec RH default RH.v (fun s w'=>aw w' s ((((p1:Nat):Int):Rat)))
   | 7=>.spec RH default RH.v (fun s w'=>aw w' s (bnd m j*(((p1:Nat):Int):Rat)))
   | 9=>.spec RH default RH.v (fun s w'=>aw w' s ((((j:Int)+1:Int):Rat)))
   | 10=>.spec RH default RH.v (fun s w'=>aw w' s (bnd m (j+1)))
   | _=>.quiet) (fun|7=>[6]|10=>[7,9]|_=>[]) fun w0 he0 hz0 hc0 hf0=>?_
  refine wps he0.out rfl rfl (fun w1 hW hG=>?_) fun x20=>?_
  ·exact spc [.int .i64 (p1:Nat)] Tryz.func63 (aK (p1:Nat) _ (by omega) (by omega))
  refine qZ ?_;refine wps he0.out rfl rfl (fun w1 hW hG=>?_) fun x21=>?_
  ·have g20:=(hG 6 (by decide):ay _ _).get fun _ e g=>g.ext e
   exact spc [f.v,x20.v] Tryz.func38 (bW f x20 _ _ _ ((GF.out.ext hW).raw ZF.out (by omega)) (g20.raw Z1.out (by decide)))
  refine qZ ?_;refine wps he0.out rfl rfl (fun w1 hW hG=>?_) fun x22=>?_
  ·exact spc [.int .i64 ((j:Int)+1)] Tryz.func63 (aK ((j:Int)+1) _ (by omega) (by omega))
  refine qZ ?_;refine wps he0.out rfl rfl (fun w1 hW hG=>?_) fun x23=>?_
  ·have g21:=(hG 7 (by decide):ay _ _).get fun _ e g=>g.ext e
   have g22:=(hG 9 (by decide):ay _ _).get fun _ e g=>g.ext e
   exact spc [x21.v,x22.v] Tryz.func73 ((by rw [←HN.out];exact eO x21 x22 _ _ _ (g21.raw (ZF.out.mul Z1.out) (by omega)) (g22.raw Z2.out (by decide))))
  refine qZ ?_;refine wpF_nil ?_;intro w6 hI;have hE:=he0.out.trans hI.ext;have G20:=gT (hI.facts 6);have G21:=gT (hI.facts 7);have G22:=gT (hI.facts 9);have G23:=gT (hI.facts 10);clear hI he0 hz0 hc0 hf0;refine mV4 hE ?_ HX B4 B5 GF;clear HX B4 B5 GF;intro HX B4 B5 GF;have hs_w6:=hE.size;clear hE;replace b_B4:=b3 B4;replace b_B5:=b3 B5;simp only [pD]
  go_upto_region 4 with fail
  refine aI B5.out rfl ?_;intro y7 T;replace HX:=Hi (T.ext HX.out (by omega));replace B4:=Hi (T.rest _ _ (by omega) B4.out);replace B5:=Hi (T.bx);replace GF:=Hi (GF.out.keep T.keep);replace G20:=Hi (G20.out.keep T.keep);replace G21:=Hi (G21.out.keep T.keep);replace G22:=Hi (G22.out.keep T.keep);replace G23:=Hi (G23.out.keep T.keep);have hs_y7:=nle T.size;have hr_y7:=nle T.size.symm;clear T;replace b_B4:=b3 B4;replace b_B5:=b3 B5;clear hP1;go_wp2
  go_roundg (gk-1)
  case measure=>omega
  case rel=>exact ⟨j+1,x23,by omega,by go_num,HX.out,B4.out,B5.out,G23.out⟩
end Go.Proofs.YtofhkmcllihgmaaGreat
/- Coefficients of the reference 07. -/
set_option linter.unusedVariables false
set_option maxRecDepth 8000
set_option maxHeartbeats 16000000
namespace Go.Proofs.YtofhkmcllihgmaaGreat
open Go.RowKit Go.Front Go.Num Stab
attribute [local go_sem] XW.cell XW.frozen
theorem ug(n:Nat):fc (n+1)=fc n*(n+1):=rfl
theorem uW(m:Nat):∀ k,bnd m k=((ch (m+k) k:Nat):Rat)
 | 0=>by rw [kt];rfl
 | k+1=>by
  have ih:=uW m k;show bnd m k*(((m+(k+1):Nat):Int):Rat) / (((k+1:Nat):Int):Rat)=_;have h1:=AQ (n:=m+k) (k:=k) (by omega);have h2:=AQ (n:=m+(k+1)) (k:=k+1) (by omega);rw [show m+k-k=m by omega] at h1;rw [show m+(k+1)-(k+1)=m by omega,show m+(k+1)=m+k+1 by omega,ug,ug,←h1] at h2;have h3:ch (m+k+1) (k+1)*(k+1)=ch (m+k) k*(m+k+1):=by
   have hp:0<fc k*fc m:=Nat.mul_pos (uh _) (uh _);apply Nat.eq_of_mul_eq_mul_right hp
   calc ch (m+k+1) (k+1)*(k+1)*(fc k*fc m)=ch (m+k+1) (k+1)*(fc k*(k+1)*fc m):=by grind
    _=ch (m+k) k*(fc k*fc m)*(m+k+1):=h2
    _=_:=by grind
  have h4:((ch (m+k+1) (k+1):Nat):Rat)*((k+1:Nat):Rat)=((ch (m+k) k:Nat):Rat)*((m+k+1:Nat):Rat):=by
   rw [←Rat.natCast_mul,←Rat.natCast_mul,h3]
  have h5:((k+1:Nat):Rat)≠0:=wD (by omega);rw [ih,show m+(k+1)=m+k+1 by omega,Rat.intCast_natCast,Rat.intCast_natCast,←h4,Rat.div_def,Rat.mul_assoc,Rat.mul_inv_cancel _ h5,Rat.mul_one]
theorem Cw{w:World}{x:Nat×RH}{q:Rat}(h:fs w x q):ce w ⟨some ⟨x.1,0,none⟩,1,1⟩ [q] :=
 ⟨[x.2],RBk.rs (rs:=[x.2]) (re:=#[]) h.1 rfl (Nat.le_refl _) (by decide),(dT.nil _ _).snoc h.2⟩
theorem jC{s:Nat}{q:Rat}(h:Sz s q):SzL s [q]:=by
 intro x hx;obtain rfl:x=q:=by simpa using hx
 exact h
def hnV(p:List Rat)(a w:Rat):Nat→List Rat
 | 0=>[]
 | j+1=>cG (aD (hnV p a w j) [a,w]) [p.getD (p.length-1-j) 0]
theorem xZ(ps qs:List Rat)(i:Nat):(cG ps qs).getD i 0=ps.getD i 0+qs.getD i 0:=by
 unfold cG;rw [aW];by_cases h:i<max ps.length qs.length
 ·simp [h]
 ·rw [cq (by simp;omega),cq (by omega),cq (by omega)];decide +kernel
theorem Ae(b:List Rat)(a w:Rat)(i:Nat):(aD b [a,w]).getD i 0=b.getD i 0*a+if 0<i then b.getD (i-1) 0*w else 0:=by
 have e:(aD b [a,w]).getD i 0=ap b (seq [a,w]) i:=congrFun (dh b [a,w]) i;rw [e,AT];show a*b.getD i 0+sh (fun n=>w*b.getD n 0+sh (fun _=>0) n) i=_;cases i with
 | zero =>
  rw [if_neg (by omega)];show a*_+(0:Rat)=_;grind
 | succ i =>
  rw [if_pos (by omega)];show a*_+(w*b.getD i 0+sh (fun _=>0) i)=_+b.getD i 0*w;rw [show sh (fun _=>(0:Rat)) i=0 by rw [zB]];grind
theorem yJ(p:List Rat)(a w:Rat)(j:Nat):∀ k,(hnV p a w j).getD k 0=hq p a w j k:=by
 induction j with
 | zero=>intro k;rfl
 | succ j ih =>
  intro k;show (cG (aD (hnV p a w j) [a,w]) [p.getD (p.length-1-j) 0]).getD k 0=_;rw [xZ,Ae,ih];cases k with
  | zero =>
   rw [if_neg (by omega)];show _+(0:Rat)+p.getD (p.length-1-j) 0=hq p a w j 0*a+p.getD (p.length-1-j) 0;grind
  | succ k =>
   rw [if_pos (by omega),show k+1-1=k by omega,ih];show _+_+(0:Rat)=hq p a w j (k+1)*a+hq p a w j k*w;grind
theorem kf(p:List Rat)(a w:Rat):∀ j,(hnV p a w j).length≤3*j
 | 0=>Nat.le_refl _
 | j+1=>by
  have ih:=kf p a w j;have h1:=jj (hnV p a w j) [a,w];show (cG (aD (hnV p a w j) [a,w]) [p.getD (p.length-1-j) 0]).length≤_;unfold cG;refine Nat.le_trans (aj _) ?_;simp only [List.length_map,List.length_range,List.length_cons,List.length_nil] at h1 ⊢;omega
theorem tN{p:List Rat}{a w:Rat}{S U:Nat}(hp:FrB S p)(hl:FrB U [a,w]):∀ j,j≤100→FrB (j*(U+S+2)+1) (hnV p a w j)
 | 0,_=>by rw [Nat.zero_mul];exact FrB.nil
 | j+1,hj=>by
  have ih:=tN hp hl j (by omega);have hlen:=kf p a w j;have h1:=ih.mul hl (by omega);have h2:FrB S [p.getD (p.length-1-j) 0]:=by
   obtain ⟨h0,D,e1,e2,e3⟩:=hp;exact ⟨h0,D,e1,e2,fun x hx=>by rw [List.mem_singleton.1 hx];exact e3.at _⟩
  exact (h1.add h2).mono (by rw [Nat.succ_mul];omega)
theorem FrB.getDz{S:Nat}{l:List Rat}(h:FrB S l)(i:Nat):Sz S (l.getD i 0):=by
 obtain ⟨h0,D,h1,h2,h3⟩:=h;exact (h3.at i).sz h0 h1 h2
def cfS(p:List Rat)(a w:Rat)(i m:Nat):Rat:=sm m (fun k=>hq p a w p.length k*(bnd (i-k) k / bnd (p.length-1-k) k))
theorem Ct{p:List Rat}(hp:p≠[])(a w:Rat){i:Nat}(hi:i<p.length):cfS p a w i (i+1)=bcV p a w i:=by
 unfold bcV;rw [uU];refine sm_congr (fun k hk=>?_);rw [uW,uW,show i-k+k=i by omega,show p.length-1-k+k=p.length-1 by omega,Rat.div_def];grind
theorem wO{a b:Rat}{T:Nat}(za:Sz T a)(zb:Sz T b)(hT:1≤T):FrB (6*T+4) [a,b-a]:=by
 have h:SzL (2*T+1) [a,b-a]:=by
  intro x hx;rcases List.mem_cons.1 hx with rfl|h
  ·exact za.mono (by omega)
  ·rw [List.mem_singleton.1 h];exact (zb.sub za).mono (by omega)
 exact (FrB.of h (n:=2) (Nat.le_refl 2)).mono (by omega)
theorem yW{p:List Rat}{a w:Rat}{U:Nat}(h:∀ k,Sz U (hq p a w p.length k))(hp:p.length≤8)(i:Nat)(hi:i<p.length):∀ m,m≤i+1→Sz (m*(U+40)+1) (cfS p a w i m)
 | 0,_=>by rw [Nat.zero_mul];exact Sz.zero (by decide)
 | m+1,hm=>by
  have ih:=yW h hp i hi m (by omega);have h1:=(li (m:=i-m) (by omega) m (by omega)).mono (show 2*m+1≤17 by omega);have h2:=(li (m:=p.length-1-m) (by omega) m (by omega)).mono (show 2*m+1≤17 by omega);exact (ih.add ((h m).mul (h1.div h2))).mono (by rw [Nat.succ_mul];omega)
theorem rx(ao:Option Addr)(n cap:Nat)(l:List Rat)(s t:RH)(w:World)(h:dU w ⟨ao,n,cap⟩ l)(hn:n≤1000)(h0:tz l=[]) :
  au 265 [.slice ao n cap,IvV (s,t)] w SH.v (fun x w'=>x=⟨none,0,0⟩):=by
 have HX:=Hi (Ext.refl w);have LA:=Hi h;have H0:=Hi h0;clear h h0;obtain ⟨sn,sa,sl,sc,sb,sm,sd⟩:=s;obtain ⟨tn,ta,tl,tc,tb,tm,td⟩:=t;unfold au;go_enter Tryz.func265,Tryz.ntmps265
 go_upto_region 1 with fail
 refine nmA ?_;intro w1 hE B3 hz_w1 hr_w1;replace HX:=hE.tr HX;have hs_w1:=hE.size;clear hE;replace b_B3:=b3 B3
 go_wp2_with fail
 refine cM (aQ ao n cap l _ (LA.out.ext HX.out) (by omega)) fun x14 w14 hE G14=>?_
 refine mV2 hE ?_ B3 HX;clear B3 HX;intro B3 HX
 have hs_w14:=hE.size;clear hE;replace b_B3:=b3 B3;obtain ⟨xa,xn,xc⟩:=x14;have hxn:xn=0:=by have:=G14.out.len;rw [H0.out] at this;exact this.symm
 subst hxn;simp only [SH.v];go_wp2
 go_ret
 exact ⟨⟨none,0,0⟩,rfl,HX.out,rfl⟩
theorem ry(ao:Option Addr)(n cap:Nat)(l:List Rat)(s t:RH)(a b:Rat)(S T:Nat)(w:World)(h:dU w ⟨ao,n,cap⟩ l)(hs:aO w s a)(ht:aO w t b)(hn:n≤1000)(h0:tz l≠[])(h8:(tz l).length≤8)(hz:FrB S (tz l))(za:Sz T a)(zb:Sz T b)(hS:S≤100)(hT1:1≤T)(hT:T≤60) :
  au 265 [.slice ao n cap,IvV (s,t)] w SH.v (fun x w'=>dA w.heap.size w' x (bcL (tz l) (loV a b) (hiV a b))):=by
 have HX:=Hi (Ext.refl w);have LA:=Hi h;have HS:=Hi hs;have HT:=Hi ht;have H0:=Hi h0;have HZ:=Hi hz;have ZA:=Hi (kD za zb);have ZB:=Hi (kF za zb);have HLO:Hid (loV (loV a b) (hiV a b)=loV a b):=Hi (gL (kE a b));have HHI:Hid (hiV (loV a b) (hiV a b)=hiV a b):=Hi (gN (kE a b));have HLN:=Hi (wO ZA.out ZB.out hT1);clear h h0 hs ht za zb hz;obtain ⟨sn,sa,sl,sc,sb,sm',sd⟩:=s;obtain ⟨tn,ta,tl,tc,tb,tm,td⟩:=t;unfold au;go_enter Tryz.func265,Tryz.ntmps265
 go_upto_region 1 with fail
 refine nmA ?_;intro w1 hE B3 hz_w1 hr_w1;refine mV3 hE ?_ HX HS HT;clear HX HS HT;intro HX HS HT;have hs_w1:=hE.size;clear hE;replace b_B3:=b3 B3
 go_wp2_with fail
 refine cM (aQ ao n cap l _ (LA.out.ext HX.out) (by omega)) fun x14 w14 hE G14=>?_
 refine mV4 hE ?_ B3 HX HS HT;clear B3 HX HS HT;intro B3 HX HS HT
 have hs_w14:=hE.size;clear hE;replace b_B3:=b3 B3;obtain ⟨pa,P,pc⟩:=x14;obtain ⟨p,hp⟩:∃ p,p=tz l:=⟨_,rfl⟩;have HV:Hid (bcL (tz l) (loV a b) (hiV a b)=bcL p (loV a b) (hiV a b)):=Hi (by rw [hp]);rw [←hp] at G14 H0 HZ h8;have HPN:=Hi G14.out;have hP:=G14.out.len;simp only at hP;have HPl:=Hi hP;have hP1:0<P:=by
  rcases Nat.eq_zero_or_pos P with h|h
  ·exact absurd (List.length_eq_zero_iff.1 (hP.trans h)) H0.out
  ·exact h
 have hP8:P≤8:=by omega
 have hp1:=HPN.out.can.le;have hp2:=HPN.out.can.max;simp only at hp1 hp2;obtain ⟨N1,hN1⟩:∃ N1,P=N1+1:=⟨P-1,by omega⟩;have hN1i:(P:Int)-1=(N1:Nat):=by omega
 have HN1:=Hi hN1;clear hN1;clear hp G14 hP;simp only [SH.v];have hPb:((P:Int) == 0)=false:=by rw [beq_eq_false_iff_ne];omega
 go_wp2_with fail
 refine cM (bG ⟨sn,sa,sl,sc,sb,sm',sd⟩ ⟨tn,ta,tl,tc,tb,tm,td⟩ a b _ HS.out HT.out) fun x19 w19 hE G19=>?_
 refine mV5 hE ?_ B3 HX HS HT HPN;clear B3 HX HS HT HPN;intro B3 HX HS HT HPN;have hs_w19:=hE.size;clear hE;replace b_B3:=b3 B3;obtain ⟨⟨ln,la,ll,lc,lb,lm,ld⟩,⟨hn',ha,hl,hcc,hb,hm,hd⟩⟩:=x19;have HL:=Hi G19.out.1;have HH:=Hi G19.out.2;clear G19;simp only at HL HH;clear HS;clear HT
 go_upto_region 5 with fail
 refine bK B3.out rfl ?_;intro w20 T;replace HX:=Hi (T.ext HX.out (by omega));replace B3:=Hi (T.bx);replace HPN:=Hi (HPN.out.put T (by omega));replace HL:=Hi (HL.out.keep T.keep);replace HH:=Hi (HH.out.keep T.keep);have hs_w20:=nle T.size;have hr_w20:=nle T.size.symm;clear T;replace b_B3:=b3 B3;have HPL:=Hi HPN.out.can;clear HPN;obtain ⟨u,hu⟩:∃ u,u=loV a b:=⟨_,rfl⟩;obtain ⟨v,hv⟩:∃ v,v=hiV a b:=⟨_,rfl⟩;have HV2:Hid (bcL (tz l) (loV a b) (hiV a b)=bcL p u v):=Hi (by rw [HV.out,hu,hv]);rw [←hu] at HL ZA HLO HHI HLN;rw [←hv] at HH ZB HLO HHI HLN;clear hu hv
 go_upto_region 6 with fail
 refine wpG 5 (fun opIx=>match opIx with
  | 3=>.spec RH default RH.v (fun s w'=>aw w' s (v-u))
  | 4=>.spec (Nat) (0) (fun b:Nat=>.slice (some ⟨b,0,none⟩) 2 2) (fun b w'=>ce w' ⟨some ⟨b,0,none⟩,2,2⟩ [u,v-u])
  | _=>.quiet) (fun|4=>[3]|_=>[]) fun w0 he0 hz0 hc0 hf0=>?_
 refine wps he0.out rfl rfl (fun w1 hW hG=>?_) fun x30=>?_
 ·exact spc [IvV (⟨ln,la,ll,lc,lb,lm,ld⟩,⟨hn',ha,hl,hcc,hb,hm,hd⟩)] Tryz.func39 ((by have h:=gg ⟨ln,la,ll,lc,lb,lm,ld⟩ ⟨hn',ha,hl,hcc,hb,hm,hd⟩ u v T _ ((HL.out.ext hW).raw ZA.out (by omega)) ((HH.out.ext hW).raw ZB.out (by omega)) ZA.out ZB.out (by omega);rw [HLO.out,HHI.out] at h;exact h))
 refine qZ ?_;refine wps he0.out rfl rfl (fun w1 hW hG=>?_) fun x31=>?_
 ·have g30:=(hG 3 (by decide):ay _ _).get fun _ e g=>g.ext e
  exact i7 ⟨ln,la,ll,lc,lb,lm,ld⟩ x30 _ _ (HL.out.ext hW) g30 rfl (by simp [execOp,go_sem])
 refine qZ ?_;refine wpF_nil ?_;intro w24 hI;have hE:=he0.out.trans hI.ext;have G30:=gT (hI.facts 3);have G31:=gT (hI.facts 4);clear hI he0 hz0 hc0 hf0
 refine mV5 hE ?_ HX B3 HL HH HPL;clear HX B3 HL HH HPL;intro HX B3 HL HH HPL
 have hs_w24:=hE.size;clear hE;replace b_B3:=b3 B3;simp only [pD];have HLI:=G31;clear G30 G31;have HZL:Hid (SzL (6*T+4) [u,v-u]):=Hi HLN.out.sz;have HFB:Hid (∀ j,j≤8→FrB (j*(6*T+4+S+2)+1) (hnV p u (v-u) j)):=Hi (fun j hj=>tN HZ.out HLN.out j (by omega));have HZS:Hid (SzL S p):=Hi HZ.out.sz;clear HL;clear HH
 (try clear b_B3);clear B3
 go_wp2
 go_loopg [7,8] P (fun g y i wr=>∃ (j:Nat) (s:SH) (z:Int),y=s.v∧j+g=P∧i=.int .i64 z∧z=(g:Int)-1∧Ext w24 wr∧ce wr s (hnV p u (v-u) j))
 case atStart=>exact ⟨0,⟨none,0,0⟩,_,rfl,by omega,rfl,by omega,Ext.refl _,(dA.nil 0 _).can⟩
 case round =>
  obtain ⟨j,s,z,rfl,hj,rfl,hz,hE,g2⟩:=hrel;have LO:=Hi g2;have HE2:=Hi hE;clear g2;obtain ⟨qa,qn,qc⟩:=s;simp only [SH.v];have hqn:=LO.out.len;simp only at hqn;have hqs:=kf p u (v-u) j;rw [hqn] at hqs;have HQF:=Hi ((HFB.out j (by omega)).mono (show _≤4000 by have:=Nat.mul_le_mul (show j≤8 by omega) (show 6*T+4+S+2≤466 by omega);omega));clear hqn;refine mV3 hE ?_ HX HPL HLI;clear HX HPL HLI;intro HX HPL HLI;have hs_wr:=hE.size;clear hE;by_cases h0:gk=0
  case neg =>
   obtain ⟨i,rfl⟩:∃ i,gk=i+1:=⟨gk-1,by omega⟩;obtain rfl:z=(i:Int):=by omega
   clear hz;have Hh:Hid (hnV p u (v-u) (j+1)=cG (aD (hnV p u (v-u) j) [u,v-u]) [p.getD i 0]):=Hi (by show cG _ [p.getD (p.length-1-j) 0]=_;rw [HPl.out,show P-1-j=i by omega]);have HMF:=Hi ((HQF.out.mul HLN.out (by have:=kf p u (v-u) j;omega)).mono (show 4000+(6*T+4)+1≤5000 by omega));have HMl:Hid ((aD (hnV p u (v-u) j) [u,v-u]).length≤100):=Hi (by
    have h1:=jj (hnV p u (v-u) j) [u,v-u];have h2:=kf p u (v-u) j;simp only [List.length_cons,List.length_nil] at h1;omega)
   have ZP:=Hi (HZS.out.at (i:=i) (by rw [HPl.out];omega));obtain ⟨b,off,r,hao,hat,hP⟩:=HPL.out.at (k:=i) (by omega);have hbl:=RAt.lt hat;obtain ⟨hc1,hc2,hc3⟩:=hat;obtain ⟨rneg,ra,rn,rc,rb,rm,rd⟩:=r;simp only at hc1 hc2 hc3;subst hao;have RP:=Hi hP;clear hP h0
   go_upto_region 11 with fail
   refine wpG 9 (fun opIx=>match opIx with
    | 2=>.spec (SH) (default) (SH.v) (fun s w'=>ce w' s (aD (hnV p u (v-u) j) [u,v-u]))
    | 7=>.spec (Nat×RH) ((0,default)) (fun p=>.slice (some ⟨p.1,0,none⟩) 1 1) (fun p' w'=>fs w' p' (p.getD i 0))
    | 8=>.spec (SH) (default) (SH.v) (fun s w'=>ce w' s (hnV p u (v-u) (j+1)))
    | _=>.quiet) (fun|8=>[2,7]|_=>[]) fun w0 he0 hz0 hc0 hf0=>?_
   refine wps he0.out rfl rfl (fun w1 hW hG=>?_) fun x2=>?_
   ·exact spc [.slice qa qn qc,.slice (some ⟨x31,0,none⟩) 2 2] Tryz.func21 ((pR qa _ qn qc 2 2 _ _ 4000 _ ((LO.out.ext hW).raw HQF.out.sz (by decide)) ((HLI.out.ext hW).raw HZL.out (by omega)) (by omega) (by decide) HQF.out.sz (HZL.out.mono (by omega)) (by omega)).weak (fun x w' _ h=>h.can))
   refine qZ ?_;refine wps he0.out rfl rfl (fun w1 hW hG=>?_) fun x7=>?_
   ·exact fX ⟨rneg,ra,rn,rc,rb,rm,rd⟩ _ (RP.out.ext hW) rfl (by simp [execOp,go_sem])
   refine qZ ?_;refine wps he0.out rfl rfl (fun w1 hW hG=>?_) fun x8=>?_
   ·have g2:=(hG 2 (by decide):ay _ _).get fun _ e g=>g.ext e
    have g7:=(hG 7 (by decide):ay _ _).get fun _ e g=>g.ext e
    exact spc [x2.v,.slice (some ⟨x7.1,0,none⟩) 1 1] Tryz.func68 ((qM x2.a (some ⟨x7.1,0,none⟩) x2.n x2.c 1 1 _ _ _ (g2.raw HMF.out.sz (by decide)) ((Cw g7).raw (jC ZP.out) (by omega)) (by have h1:=g2.len;have h2:=HMl.out;rw [h1] at h2;omega) (by decide) (HMF.out.sz.mono (by decide)) ((jC ZP.out).mono (by omega))).weak (fun x w' _ h=>by rw [Hh.out];exact h.can))
   refine qZ ?_;refine wpF_nil ?_;intro w8 hI;have hE:=he0.out.trans hI.ext;have G2:=gT (hI.facts 2);have G7:=gT (hI.facts 7);have G8:=gT (hI.facts 8);clear hI he0 hz0 hc0 hf0;refine mV5 hE ?_ HE2 HX HPL LO HLI;clear HE2 HX HPL LO HLI;intro HE2 HX HPL LO HLI;have hs_w8:=hE.size;clear hE;simp only [pD];go_wp2
   go_roundg i
   case measure=>omega
   case rel=>exact ⟨j+1,x8,_,rfl,by omega,by go_num,by omega,HE2.out,G8.out⟩
  subst h0;obtain rfl:z=-1:=by omega
  obtain rfl:j=P:=by omega
  clear hz hj;obtain ⟨wq,hwq⟩:∃ x,x=wr:=⟨_,rfl⟩;subst hwq;have HXq:=Hi (Ext.refl wq);have hszq:=HX.out.size;have HQZ:Hid (∀ k,Sz 4000 (hq p u (v-u) j k)):=Hi (fun k=>by rw [←yJ];exact HQF.out.getDz k);have HBC:Hid (∀ i,i<j→cfS p u (v-u) i (i+1)=bcV p u (v-u) i):=Hi (fun i hi=>Ct H0.out u (v-u) (by rw [HPl.out];exact hi));have HCZ:Hid (∀ i,i<j→∀ m,m≤i+1→Sz (m*(4000+40)+1) (cfS p u (v-u) i m)):=Hi (fun i hi m hm=>yW (fun k=>by rw [HPl.out];exact HQZ.out k) (by rw [HPl.out];exact hP8) i (by rw [HPl.out];exact hi) m hm);have HBL:=Hi (iX p u v);go_wp2
  go_loopg [9,10] j (fun g y i wr=>∃ (m:Nat) (s2:SH),y=s2.v∧m+g=j∧i=.int .i64 (m:Nat)∧Ext wq wr∧bZ wr (wq.heap.size≤·) s2.v ((bcL p u v).take m))
  case atStart=>exact ⟨0,⟨none,0,0⟩,rfl,by omega,rfl,Ext.refl _,bZ.nil _ _⟩
  case round =>
   obtain ⟨m,s2,rfl,hm',rfl,g1,g2⟩:=hrel;clear HXq;have HXq:=Hi g1;have HO:=Hi g2;clear g1 g2;have hsr:=HXq.out.size;by_cases h0:gk=0
   case pos =>
    subst h0;obtain rfl:m=j:=by omega
    have hin:¬ (m:Int)≤(N1:Nat):=by have:=HN1.out;omega
    have hfull:(bcL p u v).take m=bcL p u v:=List.take_of_length_le (by rw [HBL.out,HPl.out];exact Nat.le_refl _);have HF:=Hi HO.out.lin;rw [hfull] at HF;go_wp2
    go_ret
    exact ⟨s2,rfl,HX.out.trans HXq.out,by rw [HV2.out];exact LIn.mono HF.out (by omega) (Nat.le_refl _)⟩
   have hin:(m:Int)≤(N1:Nat):=by have:=HN1.out;omega
   go_wp2_with fail
   refine cM (aK 0 _ (by decide) (by decide)) fun x47 w47 hE G47=>?_
   refine mV2 hE ?_ HXq HO;clear HXq HO;intro HXq HO;have hs_w47:=hE.size;clear hE;have HO1:Hid (bZ w47 (fun k=>wq.heap.size≤k∧k<w47.heap.size) s2.v ((bcL p u v).take m)):=Hi (HO.out.mono (fun k hk h=>⟨h,hk⟩));clear HO
   go_upto_region 17 with fail
   refine nmA ?_;intro w48 hE B11 hz_w48 hr_w48
   refine mV3 hE ?_ G47 HXq HO1;clear G47 HXq HO1;intro G47 HXq HO1
   have hs_w48:=hE.size;clear hE;replace b_B11:=b3 B11;obtain ⟨b11,hb11⟩:∃ b,b=w47.heap.size:=⟨_,rfl⟩;have q11:wq.heap.size≤b11:=by omega
   rw [←hb11] at B11 HO1 ⊢;have HS0:Hid (aw w48 x47 (cfS p u (v-u) m 0)):=G47;clear hb11 b_B11;go_wp2
   go_loopg [12] (m+1) (fun g y wr=>∃ (k:Nat) (x:RH),k+g=m+1∧y=.int .i64 (k:Nat)∧Ext wq wr∧bZ wr (fun k=>wq.heap.size≤k∧k<b11) s2.v ((bcL p u v).take m)∧wr.heap[b11]?=some (.cells #[.bool x.neg,.slice x.a x.n x.c,.slice x.b x.m x.d] 30 (0,0))∧aw wr x (cfS p u (v-u) m k))
   case atStart=>exact ⟨0,x47,by omega,rfl,HXq.out,HO1.out,B11.out,HS0.out⟩
   case round =>
    obtain ⟨k,⟨xn,xa,xl,xc,xb,xm,xd⟩,hk,rfl,g1,g2,g3,g4⟩:=hrel;clear HXq HO1 B11 HS0 G47;have HXq:=Hi g1;have HO:=Hi g2;have B11:=Hi g3;have GS:=Hi g4;clear g1 g2 g3 g4;simp only at B11;have hsr2:=HXq.out.size;replace b_B11:=b3 B11;by_cases h1:gk=0
    case pos =>
     subst h1;obtain rfl:k=m+1:=by omega
     have hkm:¬ (((m+1:Nat):Int))≤(m:Int):=by omega
     rw [HBC.out m (by omega)] at GS;have HO2:Hid (bZ wr (wq.heap.size≤·) s2.v ((bcL p u v).take m)):=Hi (HO.out.mono (fun k hk h=>h.1));have hTk:Hid ((bcL p u v).take m++[bcV p u (v-u) m]=(bcL p u v).take (m+1)):=Hi (by
      have e:(bcL p u v).getD m 0=bcV p u (v-u) m:=by unfold bcL;exact bM _ (by rw [HPl.out];omega)
      rw [←e];exact cT (by rw [HBL.out,HPl.out];omega))
     have hTl:((bcL p u v).take m).length≤8:=by rw [List.length_take];omega
     have HTL:=Hi hTl;clear hTl
     go_upto_region 15 with (at_builtin;refine bJ rfl (.tmp 66) (.tmp 68) 22 Tryz.underlying22 rfl (wq.heap.size≤·) _ _ ⟨xn,xa,xl,xc,xb,xm,xd⟩ _ rfl HO2.out rfl GS.out (by have:=HTL.out;omega) (fun k hk=>by omega) ?_;intro s' y3 q1 q2 q3)
     have HX3:=Hi (Ext.mods HXq.out q2 (fun k h=>h));have HO3:Hid (bZ y3 (wq.heap.size≤·) s'.v ((bcL p u v).take (m+1))):=Hi (by rw [←hTk.out];exact q1);clear q1 q2 q3;go_wp2
     go_roundg (gk-1)
     case measure=>omega
     case rel=>exact ⟨m+1,s',rfl,by omega,by go_num,HX3.out,HO3.out⟩
    have hkm:(k:Int)≤(m:Int):=by omega
    have hQk:hq p u (v-u) j k=(hnV p u (v-u) j).getD k 0:=(yJ _ _ _ _ _).symm;have HQk:=Hi hQk;have ZB1:=Hi (li (m:=m-k) (by omega) k (by omega));have ZB2:=Hi (li (m:=N1-k) (by have:=HN1.out;omega) k (by omega));have ZC:=Hi (HCZ.out m (by omega) k (by omega));have HSt:Hid (cfS p u (v-u) m (k+1)=cfS p u (v-u) m k+hq p u (v-u) j k*(bnd (m-k) k / bnd (N1-k) k)):=Hi (by
     show sm (k+1) _=_;simp only [sm];rw [HPl.out,show j-1=N1 by have:=HN1.out;omega];unfold cfS;rw [HPl.out,show j-1=N1 by have:=HN1.out;omega])
    have hmk:((m:Nat):Int)=((m-k:Nat):Int)+k:=by omega
    have hnk:((N1:Nat):Int)=((N1-k:Nat):Int)+k:=by have:=HN1.out;omega
    have LQ:=Hi (LO.out.ext HXq.out);have zc:k*(4000+40)+1≤36000:=by omega
    clear hQk
    go_upto_region 20 with fail
    refine wpG 13 (fun opIx=>match opIx with
     | 3=>.spec RH default RH.v (fun s w'=>aw w' s (hq p u (v-u) j k))
     | 6=>.spec RH default RH.v (fun s w'=>aw w' s (bnd (m-k) k))
     | 9=>.spec RH default RH.v (fun s w'=>aw w' s (bnd (N1-k) k))
     | 10=>.spec RH default RH.v (fun s w'=>aw w' s (bnd (m-k) k / bnd (N1-k) k))
     | 11=>.spec RH default RH.v (fun s w'=>aw w' s (hq p u (v-u) j k*(bnd (m-k) k / bnd (N1-k) k)))
     | 12=>.spec RH default RH.v (fun s w'=>aw w' s (cfS p u (v-u) m (k+1)))
     | _=>.quiet) (fun|10=>[6,9]|11=>[3,10]|12=>[11]|_=>[]) fun w0 he0 hz0 hc0 hf0=>?_
    refine wps he0.out rfl rfl (fun w1 hW hG=>?_) fun x60=>?_
    ·exact spc [.slice qa qn qc,.int .i64 (k:Nat)] Tryz.func143 ((by rw [HQk.out];exact kw qa qn qc _ k _ ((LQ.out.ext hW).raw HQF.out.sz (by decide)) (by omega)))
    refine qZ ?_;refine wps he0.out rfl rfl (fun w1 hW hG=>?_) fun x61=>?_
    ·exact spc [.int .i64 (m:Nat),.int .i64 (k:Nat)] Tryz.func286 (nC (m-k) k (m:Nat) _ (by omega) (by omega) hmk)
    refine qZ ?_;refine wps he0.out rfl rfl (fun w1 hW hG=>?_) fun x62=>?_
    ·exact spc [.int .i64 (N1:Nat),.int .i64 (k:Nat)] Tryz.func286 (nC (N1-k) k (N1:Nat) _ (by have:=HN1.out;omega) (by omega) hnk)
    refine qZ ?_;refine wps he0.out rfl rfl (fun w1 hW hG=>?_) fun x63=>?_
    ·have g61:=(hG 6 (by decide):ay _ _).get fun _ e g=>g.ext e
     have g62:=(hG 9 (by decide):ay _ _).get fun _ e g=>g.ext e
     exact spc [x61.v,x62.v] Tryz.func73 (eO x61 x62 _ _ _ (g61.raw ZB1.out (by omega)) (g62.raw ZB2.out (by omega)))
    refine qZ ?_;refine wps he0.out rfl rfl (fun w1 hW hG=>?_) fun x64=>?_
    ·have g60:=(hG 3 (by decide):ay _ _).get fun _ e g=>g.ext e
     have g63:=(hG 10 (by decide):ay _ _).get fun _ e g=>g.ext e
     exact spc [x60.v,x63.v] Tryz.func38 (bW x60 x63 _ _ _ (g60.raw (HQZ.out k) (by decide)) (g63.raw (ZB1.out.div ZB2.out) (by omega)))
    refine qZ ?_;refine wps he0.out rfl rfl (fun w1 hW hG=>?_) fun x65=>?_
    ·have g64:=(hG 11 (by decide):ay _ _).get fun _ e g=>g.ext e
     exact spc [RH.v ⟨xn,xa,xl,xc,xb,xm,xd⟩,x64.v] Tryz.func31 ((by rw [HSt.out];exact bX _ x64 _ _ _ ((GS.out.ext hW).raw ZC.out (by omega)) (g64.raw ((HQZ.out k).mul (ZB1.out.div ZB2.out)) (by omega))))
    refine qZ ?_;refine wpF_nil ?_;intro w49 hI;have hE:=he0.out.trans hI.ext;have G60:=gT (hI.facts 3);have G61:=gT (hI.facts 6);have G62:=gT (hI.facts 9);have G63:=gT (hI.facts 10);have G64:=gT (hI.facts 11);have G65:=gT (hI.facts 12);clear hI he0 hz0 hc0 hf0;refine mV4 hE ?_ HXq HO B11 GS;clear HXq HO B11 GS;intro HXq HO B11 GS;have hs_w49:=hE.size;clear hE;replace b_B11:=b3 B11;simp only [pD];clear hmk hnk
    go_upto_region 19 with fail
    refine aI B11.out rfl ?_;intro w50 T;replace HXq:=Hi (T.ext HXq.out (by omega));replace HO:=Hi (HO.out.put T (by intro h;(try dsimp only at h);omega));replace B11:=Hi (T.bx);replace GS:=Hi (GS.out.keep T.keep);replace G60:=Hi (G60.out.keep T.keep);replace G61:=Hi (G61.out.keep T.keep);replace G62:=Hi (G62.out.keep T.keep);replace G63:=Hi (G63.out.keep T.keep);replace G64:=Hi (G64.out.keep T.keep);replace G65:=Hi (G65.out.keep T.keep);have hs_w50:=nle T.size;have hr_w50:=nle T.size.symm;clear T;replace b_B11:=b3 B11;go_wp2
    go_roundg (gk-1)
    case measure=>omega
    case rel=>exact ⟨k+1,x65,by omega,by go_num,HXq.out,HO.out,B11.out,G65.out⟩
end Go.Proofs.YtofhkmcllihgmaaGreat
