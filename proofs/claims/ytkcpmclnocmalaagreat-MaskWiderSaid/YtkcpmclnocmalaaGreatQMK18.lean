import Derived.Test.YtkcpmclnocmalaaGreatQMK17
import Derived.Handy
set_option linter.unusedVariables false
set_option maxHeartbeats 16000000
set_option maxRecDepth 16000
namespace Go.Proofs.YtkcpmclnocmalaaGreat
open Go.RowKit Go.Front Go.Num Stab
attribute [local go_sem] XW.cell XW.frozen
theorem ib{a b:Rat}:cG a b=0↔a=b:=by
 unfold cG;constructor
 ·intro h;split at h
  ·omega
  ·split at h
   ·assumption
   ·omega
 ·rintro rfl;rw [if_neg (by grind),if_pos rfl]
theorem EV{p:List Rat}(hp:p≠[])(a b:Rat):iN (lcW p a b)=psV p a b:=by rw [DF];exact Bn hp (vk p a b) a b
theorem wI(p:List Rat)(q a b hi:Rat)(l:List (Rat×Rat)):ckV p q ((a,b) :: l) hi=(decide (a=q) && psV p a b && ckV p b l hi):=rfl
theorem En{p:List Rat}{q v:Rat}{l:List (Rat×Rat)}{k:Nat}(h:l.length≤k):ckV p q (l.drop k) v=decide (q=v):=by rw [List.drop_eq_nil_of_le h];rfl
theorem tq(ao:Option Addr)(n cap:Nat)(l:List Rat)(s t:RH)(xo:Option Addr)(xn xc:Nat)(qs:List Rat)(a b:Rat)(S T:Nat)(w:World)(h:cN w ⟨ao,n,cap⟩ l)(hs:aX w s a)(ht:aX w t b)(hx:jR w ⟨xo,xn,xc⟩ qs)(hn:n≤1000)(h8:(tz l).length≤8)(hz:SzL S (tz l))(za:Sz T a)(zb:Sz T b)(zq:SzL T qs)(hS:S≤1000)(hT:T≤450)(hxm:xn≤1000000) :
  ar 237 [.slice ao n cap,SgV ((s,t),⟨xo,xn,xc⟩)] w (fun _:Unit=>.int .i64 (ckE (tz l) (loV a b) (hiV a b) (tps qs))) (fun _ _=>True):=by
 have HX:=Hi (Ext.refl w);have HS:=Hi hs;have HT:=Hi ht;have LA:=Hi h;have LX:=Hi hx;have ZA:=Hi (DC za zb);have ZB:=Hi (DK za zb);have HZ:=Hi hz;have ZQ:=Hi zq;have HQl:Hid (qs.length=xn*2):=Hi hx.len;have HTl:Hid ((tps qs).length=xn):=Hi (by rw [tM,hx.len];simp only;omega);clear h hs ht hx za zb hz zq;obtain ⟨sn,sa,sl,sc,sb,sm',sd⟩:=s;obtain ⟨tn,ta,tl,tc,tb,tm,td⟩:=t;obtain ⟨N,hN⟩:∃ N,N=(tz l).length:=⟨_,rfl⟩;have HN:=Hi hN;obtain ⟨r,hr⟩:∃ r,r=ckE (tz l) (loV a b) (hiV a b) (tps qs):=⟨_,rfl⟩;have HR:=Hi hr;rw [←hr];clear hr;unfold ar;go_enter Tryz.func237,Tryz.ntmps237
 go_upto_region 1 with fail
 refine nmA ?_;intro w1 hE B3 hz_w1 hr_w1;refine mV5 hE ?_ HX HS HT LA LX;clear HX HS HT LA LX;intro HX HS HT LA LX;have hs_w1:=hE.size;replace b_B3:=bX3 B3
 go_wp2_with fail
 refine cM (cV ao n cap l _ LA.out) fun x14 w14 hE _=>?_
 refine mV6 hE ?_ B3 HX HS HT LA LX;clear B3 HX HS HT LA LX;intro B3 HX HS HT LA LX;have hs_w14:=hE.size;replace b_B3:=bX3 B3;rw [←hN];have hd1:¬ (48:Int)<(N:Int)-1:=zo;clear hN;by_cases h0:N=0
 case pos =>
  subst h0;have hd2:((0:Nat):Int)-1<0:=by decide
  have HV:Hid (r=22):=Hi (by rw [HR.out,nXj.1 HN.out.symm,zK]);go_wp2
  go_ret
  exact ⟨(),by rw [HV.out];rfl,HX.out,trivial⟩
 have hd2:¬ (N:Int)-1<0:=zo;have HP0:Hid (tz l≠[]):=Hi (fun e=>h0 (by rw [HN.out,e];rfl));by_cases hx0:xn=0
 case pos =>
  subst hx0;have HV:Hid (r=22):=Hi (by rw [HR.out,nXj.1 HTl.out,wJ]);go_wp2
  go_ret
  exact ⟨(),by rw [HV.out];rfl,HX.out,trivial⟩
 have hxb:((xn:Int) == 0)=false:=by rw [nXs];omega
 go_wp2_with fail
 refine cM (cE ⟨sn,sa,sl,sc,sb,sm',sd⟩ ⟨tn,ta,tl,tc,tb,tm,td⟩ a b _ HS.out HT.out) fun x29 w29 hE G29=>?_
 refine mV6 hE ?_ B3 HX HS HT LA LX;clear B3 HX HS HT LA LX;intro B3 HX HS HT LA LX;have hs_w29:=hE.size;replace b_B3:=bX3 B3;obtain ⟨⟨ln,la,ll,lc,lb,lm,ld⟩,⟨hn',ha,hl,hcc,hb,hm,hd⟩⟩:=x29;have HL:=Hi G29.out.1;have HH:=Hi G29.out.2;clear G29;simp only at HL HH;clear HS;clear HT;obtain ⟨u,hu⟩:∃ u,u=loV a b:=⟨_,rfl⟩;obtain ⟨v,hv⟩:∃ v,v=hiV a b:=⟨_,rfl⟩;rw [←hu] at HL ZA HR;rw [←hv] at HH ZB HR;clear hu hv;have LA9:=LA;have LX9:=LX;have HH9:=HH;have HL9:=HL;have HX9:=HX;have hXn:Ext w29 w29:=Ext.refl w29;have HXn:=Hi hXn;clear hXn
 go_upto_region 8 with fail
 refine eX ?_;intro w30 hE B6 B7 hz_w30 hr_w30;refine mV7 hE ?_ B3 HX LA LX HL HH HXn;clear B3 HX LA LX HL HH HXn;intro B3 HX LA LX HL HH HXn;have hs_w30:=hE.size;replace b_B3:=bX3 B3;replace b_B6:=bX3 B6;replace b_B7:=bX3 B7;obtain ⟨b6,hb6⟩:∃ x,x=w29.heap.size:=⟨_,rfl⟩;obtain ⟨b7,hb7⟩:∃ x,x=w29.heap.size+1:=⟨_,rfl⟩;have q6:w29.heap.size≤b6:=zo;have q7w:w.heap.size≤b7:=zo;have q7:w29.heap.size≤b7:=zo;have n67:b6≠b7:=zo;rw [←hb7] at B7;rw [←hb6] at B6;rw [←hb7,←hb6];have hCK:ckV (tz l) u (tps qs) v=ckV (tz l) u ((tps qs).drop 0) v:=rfl;have HCK0:=Hi hCK;have hne:tps qs≠[]:=fun e=>by have:=HTl.out;rw [e] at this;exact hx0 this.symm
 have HNE:=Hi hne;clear hCK hne hb6 hb7 b_B6 b_B7;go_wp2
 go_loopg [35] xn (fun g i wr=>∃ (j:Nat) (e:RH) (q:Rat),j+g=xn∧i=.int .i64 (j:Nat)∧Ext w29 wr∧wr.heap[b6]?=some (.cells #[.bool ln,.slice la ll lc,.slice lb lm ld,.bool hn',.slice ha hl hcc,.slice hb hm hd] 39 (0,0))∧wr.heap[b7]?=some (.cells #[.bool e.neg,.slice e.a e.n e.c,.slice e.b e.m e.d] 37 (0,0))∧aA wr e q∧Sz T q∧ckV (tz l) u (tps qs) v=ckV (tz l) q ((tps qs).drop j) v)
 case atStart=>exact ⟨0,⟨ln,la,ll,lc,lb,lm,ld⟩,u,zo,rfl,HXn.out,B6.out,B7.out,HL.out,ZA.out,HCK0.out⟩
 case round =>
  obtain ⟨j,⟨en,ea,el,ec,eb,em,ed⟩,q,hj,rfl,g1,g2,g3,g4,g5,g6⟩:=hrel;clear HXn B6 B7 HL HH HCK0 HX LA LX;have HXn:=Hi g1;have B6:=Hi g2;have B7:=Hi g3;have GE:=Hi g4;have ZE:=Hi g5;have HCK:=Hi g6;have HX:=Hi (HX9.out.trans g1);have LA:=Hi (LA9.out.ext g1);have LX:=Hi (LX9.out.ext g1);have HH:=Hi (HH9.out.ext g1);clear g1 g2 g3 g4 g5 g6;simp only at B7;replace b_B6:=bX3 B6;replace b_B7:=bX3 B7;have p7:b7<wr.heap.size:=b_B7.2.2;by_cases h1:gk=0
  case pos =>
   subst h1;obtain rfl:j=xn:=by omega
   have hin:¬ (j:Int)<(j:Int):=zo;rw [En (by rw [HTl.out];exact nXe _)] at HCK
   go_wp2_with fail
   refine cM (bS ⟨en,ea,el,ec,eb,em,ed⟩ ⟨hn',ha,hl,hcc,hb,hm,hd⟩ q v _ (GE.out.raw ZE.out zo) (HH.out.raw ZB.out zo)) fun x61 w61 hE _=>?_
   refine mV8 hE ?_ HXn B6 B7 GE HX LA LX HH;clear HXn B6 B7 GE HX LA LX HH;intro HXn B6 B7 GE HX LA LX HH;have hs_w61:=hE.size;replace b_B6:=bX3 B6;replace b_B7:=bX3 B7;by_cases h2:q=v
   case pos =>
    have HV:Hid (r=0):=Hi (by rw [HR.out];exact Em HNE.out (by rw [HCK.out];exact decide_eq_true h2));rw [ib.2 h2];clear h2;go_wp2
    go_ret
    exact ⟨(),by rw [HV.out];rfl,HX.out,trivial⟩
   have HV:Hid (r=22):=Hi (by rw [HR.out];exact CF (by rw [HCK.out];exact decide_eq_false h2));have hc:¬ cG q v=0:=fun h=>h2 (ib.1 h)
   obtain ⟨c,e⟩:∃ c,c=cG q v:=⟨_,rfl⟩;rw [←e] at hc ⊢;have hcb:(c == 0)=false:=by rw [nXs];exact hc
   clear e h2;go_wp2
   go_ret
   exact ⟨(),by rw [HV.out];rfl,HX.out,trivial⟩
  have hin:(j:Int)<xn:=zo;obtain ⟨bw,off,r1,t1,hao,hbl,⟨f1,f2,f3,f4,f5,f6⟩,R1,R2⟩:=LX.out.at (k:=j) zo;have Zx1:=Hi (ZQ.out.at (i:=2*j) (by rw [HQl.out];omega));have Zx2:=Hi (ZQ.out.at (i:=2*j+1) (by rw [HQl.out];omega));rw [xC (by rw [HQl.out];omega)] at HCK;obtain ⟨x1,hx1⟩:∃ x,x=qs.getD (2*j) 0:=⟨_,rfl⟩;obtain ⟨x2,hx2⟩:∃ x,x=qs.getD (2*j+1) 0:=⟨_,rfl⟩;rw [←hx1] at R1 Zx1 HCK;rw [←hx2] at R2 Zx2 HCK;obtain ⟨rn,ra,rl,rc,rb,rm,rd⟩:=r1;obtain ⟨kn,ka,kl,kc,kb,km,kd⟩:=t1;simp only at f1 f2 f3 f4 f5 f6;have RP:=Hi R1;have RK:=Hi R2;subst hao;clear R1 R2 hx1 hx2
  go_upto_region 11 with fail
  refine nmA ?_;intro w40 hE B9 hz_w40 hr_w40;refine mV8 hE ?_ HXn B6 B7 GE HX LA LX HH;clear HXn B6 B7 GE HX LA LX HH;intro HXn B6 B7 GE HX LA LX HH;refine mV2 hE ?_ RP RK;clear RP RK;intro RP RK;have hs_w40:=hE.size;replace b_B6:=bX3 B6;replace b_B7:=bX3 B7;replace b_B9:=bX3 B9;clear f1 f2 f3 f4 f5 f6
  go_wp2_with fail
  refine cM (cE ⟨rn,ra,rl,rc,rb,rm,rd⟩ ⟨kn,ka,kl,kc,kb,km,kd⟩ x1 x2 _ RP.out RK.out) fun x41 w41 hE G41=>?_
  refine mV8 hE ?_ B9 HXn B6 B7 GE HX LA LX;clear B9 HXn B6 B7 GE HX LA LX;intro B9 HXn B6 B7 GE HX LA LX;refine mV3 hE ?_ HH RP RK;clear HH RP RK;intro HH RP RK;have hs_w41:=hE.size;replace b_B6:=bX3 B6;replace b_B7:=bX3 B7;replace b_B9:=bX3 B9;obtain ⟨⟨cn,ca,cl,cc,cb,cm,cd⟩,⟨dn,da,dl,dc,db,dm,dd⟩⟩:=x41;have HC:=Hi G41.out.1;have HD:=Hi G41.out.2;clear G41;simp only at HC HD;clear RP;clear RK;have ZC:=Hi (DC Zx1.out Zx2.out);have ZD:=Hi (DK Zx1.out Zx2.out);have hcd:=sV x1 x2;obtain ⟨c1,hc1⟩:∃ c,c=loV x1 x2:=⟨_,rfl⟩;obtain ⟨d1,hd1'⟩:∃ c,c=hiV x1 x2:=⟨_,rfl⟩;rw [←hc1,←hd1'] at HCK hcd;rw [←hc1] at HC ZC;rw [←hd1'] at HD ZD;have HCD:=Hi hcd;clear hc1 hd1' hcd
  go_upto_region 12 with fail
  refine nmA ?_;intro w42 hE B10 hz_w42 hr_w42;refine mV8 hE ?_ B9 HXn B6 B7 GE HX LA LX;clear B9 HXn B6 B7 GE HX LA LX;intro B9 HXn B6 B7 GE HX LA LX;refine mV3 hE ?_ HH HC HD;clear HH HC HD;intro HH HC HD;have hs_w42:=hE.size;replace b_B6:=bX3 B6;replace b_B7:=bX3 B7;replace b_B9:=bX3 B9;replace b_B10:=bX3 B10
  go_wp2_with fail
  refine cM (bS ⟨cn,ca,cl,cc,cb,cm,cd⟩ ⟨en,ea,el,ec,eb,em,ed⟩ c1 q _ (HC.out.raw ZC.out zo) (GE.out.raw ZE.out zo)) fun x44 w44 hE _=>?_
  refine mV8 hE ?_ B10 B9 HXn B6 B7 GE HX LA;clear B10 B9 HXn B6 B7 GE HX LA;intro B10 B9 HXn B6 B7 GE HX LA;refine mV4 hE ?_ LX HH HC HD;clear LX HH HC HD;intro LX HH HC HD;have hs_w44:=hE.size;replace b_B6:=bX3 B6;replace b_B7:=bX3 B7;replace b_B9:=bX3 B9;replace b_B10:=bX3 B10;by_cases h2:c1=q
  case neg =>
   have HV:Hid (r=22):=Hi (by rw [HR.out];exact CF (by rw [HCK.out,wI,decide_eq_false h2];rfl));have hc:¬ cG c1 q=0:=fun h=>h2 (ib.1 h)
   obtain ⟨c,e⟩:∃ c,c=cG c1 q:=⟨_,rfl⟩;rw [←e] at hc ⊢;have hcb:(c == 0)=false:=by rw [nXs];exact hc
   clear e h2;go_wp2
   go_ret
   exact ⟨(),by rw [HV.out];rfl,HX.out,trivial⟩
  have HCK2:Hid (ckV (tz l) u (tps qs) v=(psV (tz l) c1 d1 && ckV (tz l) d1 ((tps qs).drop (j+1)) v)):=Hi (by rw [HCK.out,wI,decide_eq_true h2,Bool.true_and]);rw [ib.2 h2];clear h2 HCK
  go_wp2_with fail
  refine cM ((by have h:=tp ao n cap l ⟨cn,ca,cl,cc,cb,cm,cd⟩ ⟨dn,da,dl,dc,db,dm,dd⟩ c1 d1 S T _ LA.out (HC.out.raw ZC.out zo) (HD.out.raw ZD.out zo) hn h8 HZ.out ZC.out ZD.out hS hT;rw [jD HCD.out,je HCD.out] at h;exact h)) fun x49 w49 hE G49=>?_
  refine mV8 hE ?_ B10 B9 HXn B6 B7 GE HX LA;clear B10 B9 HXn B6 B7 GE HX LA;intro B10 B9 HXn B6 B7 GE HX LA;refine mV4 hE ?_ LX HH HC HD;clear LX HH HC HD;intro LX HH HC HD;have hs_w49:=hE.size;replace b_B6:=bX3 B6;replace b_B7:=bX3 B7;replace b_B9:=bX3 B9;replace b_B10:=bX3 B10;obtain ⟨⟨ya,yn,yc⟩,⟨zn,za,zl,zc,zb,zm,zd⟩⟩:=x49;have LY:=Hi G49.out.1.can;clear G49;simp only at LY;have hyn:yn≤8:=by have:=LY.out.len;rw [ow] at this;simp only at this;omega
  have HWZ:Hid (SzL (9*S+80*T+76) (lcW (tz l) c1 d1)):=Hi (fun x hx=>(AD HZ.out h8 ZC.out ZD.out HCD.out x hx).sz zo);have HPS:=Hi (EV HP0.out c1 d1)
  go_upto_region 15 with fail
  refine nmA ?_;intro w50 hE B12 hz_w50 hr_w50;refine mV8 hE ?_ B10 B9 HXn B6 B7 GE HX LA;clear B10 B9 HXn B6 B7 GE HX LA;intro B10 B9 HXn B6 B7 GE HX LA;refine mV5 hE ?_ LX HH HC HD LY;clear LX HH HC HD LY;intro LX HH HC HD LY;have hs_w50:=hE.size;replace b_B6:=bX3 B6;replace b_B7:=bX3 B7;replace b_B9:=bX3 B9;replace b_B10:=bX3 B10;replace b_B12:=bX3 B12
  go_wp2_with fail
  refine cM (nC ya yn yc _ (9*S+80*T+76) _ LY.out zo HWZ.out zo) fun x53 w53 hE _=>?_
  refine mV8 hE ?_ B12 B10 B9 HXn B6 B7 GE HX;clear B12 B10 B9 HXn B6 B7 GE HX;intro B12 B10 B9 HXn B6 B7 GE HX;refine mV6 hE ?_ LA LX HH HC HD LY;clear LA LX HH HC HD LY;intro LA LX HH HC HD LY;have hs_w53:=hE.size;replace b_B6:=bX3 B6;replace b_B7:=bX3 B7;replace b_B9:=bX3 B9;replace b_B10:=bX3 B10;replace b_B12:=bX3 B12;rw [HPS.out];obtain ⟨pv,hpv⟩:∃ pv,pv=psV (tz l) c1 d1:=⟨_,rfl⟩;rw [←hpv] at HCK2 ⊢;clear hpv HPS;cases pv with
  | false =>
   have HV:Hid (r=22):=Hi (by rw [HR.out];exact CF (by rw [HCK2.out];rfl));go_wp2
   go_ret
   exact ⟨(),by rw [HV.out];rfl,HX.out,trivial⟩
  | true =>
  clear LA;clear LX;clear LY
  go_upto_region 18 with fail
  refine aN B7.out rfl ?_;intro w60 T;replace HX:=Hi (T.ext HX.out zo);replace HXn:=Hi (T.ext HXn.out zo);replace B6:=Hi (T.rest _ _ zo B6.out);replace B7:=Hi (T.bx);replace GE:=Hi (GE.out.keep T.keep);replace HH:=Hi (HH.out.keep T.keep);replace B9:=Hi (T.rest _ _ zo B9.out);replace HC:=Hi (HC.out.keep T.keep);replace HD:=Hi (HD.out.keep T.keep);replace B10:=Hi (T.rest _ _ zo B10.out);replace B12:=Hi (T.rest _ _ zo B12.out);have hs_w60:=nle T.size;have hr_w60:=nle T.size.symm;clear T;replace b_B6:=bX3 B6;replace b_B7:=bX3 B7;replace b_B9:=bX3 B9;replace b_B10:=bX3 B10;replace b_B12:=bX3 B12;go_wp2
  go_roundg (gk-1)
  case measure=>omega
  case rel=>exact ⟨j+1,⟨dn,da,dl,dc,db,dm,dd⟩,d1,zo,by go_num,HXn.out,B6.out,B7.out,HD.out,ZD.out,by rw [HCK2.out,Bool.true_and]⟩
attribute [local irreducible] Go.Front.wpF
abbrev PbT(y:((RH×RH)×SH)×Bool):Value:=.tuple #[SgV y.1,.bool y.2]
def PvQ(B:Nat)(w:World)(y:((RH×RH)×SH)×Bool)(a b:Rat)(r:Option (List Rat)):Prop :=
 match r with
 | none=>y.2=false
 | some qs=>y.2=true∧IvC w y.1.1 a b∧iP w (B≤·) y.1.2.v y.1.2.n qs
theorem PvP.ext{B:Nat}{w w':World}{x:((RH×RH)×SH)×Int}{a b:Rat}{r:Option (List Rat)}(h:PvP B w x a b r)(he:Ext w w'):PvP B w' x a b r:=by
 cases r with
 | none=>exact h
 | some qs=>exact ⟨h.1,h.2.1.ext he,h.2.2.ext he⟩
instance {B:Nat} {w w':World} {x:((RH×RH)×SH)×Int} {a b:Rat} {r:Option (List Rat)}:Go.Front.Mv w w' (PvP B w x a b r) (PvP B w' x a b r):=⟨fun e h=>PvP.ext h e⟩

theorem lW(x:SH×(RH×RH))(l:List Rat)(a b:Rat)(S T:Nat)(w:World)(hl:bg w x.1 l)(hi:IvC w x.2 a b)(ht:tz l=l)(h7:l.length≤7)(zl:SzL S l)(za:Sz T a)(zb:Sz T b)(hS:S≤1000)(hT:T≤450)(hab:a≤b) :
  ar 236 [PgV x] w PbT (fun y w'=>PvQ w.heap.size w' y a b (prV l a b)):=by
 obtain ⟨⟨qa,qn,qc⟩,⟨sn,sa,sl,sc,sb,sm,sd⟩,⟨tn,ta,tl,tc,tb,tm,td⟩⟩:=x;have HX:=Hi (Ext.refl w);have LA:=Hi (hl.raw zl zo);have HS:=Hi (hi.1.raw za zo);have HT:=Hi (hi.2.raw zb zo);have hqn:qn≤7:=by have:=hl.len;simp only at this;omega
 have HC:Hid (∀ w1,Ext w w1→ar 238 [.slice qa qn qc,IvV (⟨sn,sa,sl,sc,sb,sm,sd⟩,⟨tn,ta,tl,tc,tb,tm,td⟩)] w1 PvT (fun x w'=>PvP w1.heap.size w' x a b (prV l a b))):=Hi (fun w1 he=>by
  have k:=tj qa qn qc l ⟨sn,sa,sl,sc,sb,sm,sd⟩ ⟨tn,ta,tl,tc,tb,tm,td⟩ a b S T w1 (LA.out.ext he) (HS.out.ext he) (HT.out.ext he) zo (by rw [ht];omega) (by rw [ht];exact zl) za zb hS hT;rw [jD hab,je hab,ht] at k;exact k)
 clear hl hi ht zl za zb hab;simp only [PgV];unfold ar;go_enter Tryz.func236,Tryz.ntmps236
 go_upto_region 1 with fail
 refine eX ?_;intro w1 hE B1 B2 hz_w1 hr_w1;replace HX:=hE.tr HX;have hs_w1:=hE.size;replace b_B1:=bX3 B1;replace b_B2:=bX3 B2
 go_wp2_with fail
 refine cM (HC.out _ HX.out) fun x11 w11 hE G11=>?_
 refine mV3 hE ?_ B1 B2 HX;clear B1 B2 HX;intro B1 B2 HX;have hs_w11:=hE.size;replace b_B1:=bX3 B1;replace b_B2:=bX3 B2;obtain ⟨⟨⟨⟨ln,la,ll,lc,lb,lm,ld⟩,⟨hn,ha,hl,hc,hb,hm,hd⟩⟩,⟨xa,xn,xc⟩⟩,e⟩:=x11
 go_upto_region 2 with fail
 refine nmA ?_;intro w12 hE B4 hz_w12 hr_w12;refine mV4 hE ?_ G11 B1 B2 HX;clear G11 B1 B2 HX;intro G11 B1 B2 HX;have hs_w12:=hE.size;replace b_B1:=bX3 B1;replace b_B2:=bX3 B2;replace b_B4:=bX3 B4;have G12:=G11;clear G11;obtain ⟨r,hr⟩:∃ r,r=prV l a b:=⟨_,rfl⟩;rw [←hr] at G12;have HV:=Hi hr;clear hr HC LA;cases r with
 | none =>
  have g:=G12.out;have he:e=22:=by have g2:((((⟨ln,la,ll,lc,lb,lm,ld⟩:RH),(⟨hn,ha,hl,hc,hb,hm,hd⟩:RH)),(⟨xa,xn,xc⟩:SH)),e)=(((zR,zR),(⟨none,0,0⟩:SH)),(22:Int)):=g;exact congrArg Prod.snd g2
  clear g G12;subst he;go_wp2;refine jB B2.out (by rfl) ?_;intro w20 T;replace HX:=Hi (T.ext HX.out zo);replace B1:=Hi (T.rest _ _ zo B1.out);replace B2:=Hi (T.bx);replace B4:=Hi (T.rest _ _ zo B4.out);have hs_w20:=nle T.size;have hr_w20:=nle T.size.symm;clear T;replace b_B1:=bX3 B1;replace b_B2:=bX3 B2;replace b_B4:=bX3 B4;exact nXa (v:=PbT (((⟨ln,la,ll,lc,lb,lm,ld⟩,⟨hn,ha,hl,hc,hb,hm,hd⟩),⟨xa,xn,xc⟩),false)) (by simp [results,Tryz.results236,go_sem,b_B2.1]) rfl ⟨(((⟨ln,la,ll,lc,lb,lm,ld⟩,⟨hn,ha,hl,hc,hb,hm,hd⟩),⟨xa,xn,xc⟩),false),rfl,HX.out,by rw [←HV.out];rfl⟩
 | some qs =>
  have g:=G12.out;have g2:e=0∧IvC w12 (⟨ln,la,ll,lc,lb,lm,ld⟩,⟨hn,ha,hl,hc,hb,hm,hd⟩) a b∧iP w12 (w1.heap.size≤·) (SH.v ⟨xa,xn,xc⟩) xn qs:=g;obtain ⟨he,hI,hO⟩:=g2;subst he;have HI1:=Hi hI.1;have HI2:=Hi hI.2;have HO:=Hi hO;clear g G12 hI hO;go_wp2;refine jB B2.out (by rfl) ?_;intro w20 T;replace HX:=Hi (T.ext HX.out zo);replace B1:=Hi (T.rest _ _ zo B1.out);replace B2:=Hi (T.bx);replace B4:=Hi (T.rest _ _ zo B4.out);replace HI1:=Hi (HI1.out.keep T.keep);replace HI2:=Hi (HI2.out.keep T.keep);replace HO:=Hi (HO.out.put T (by intro h;(try dsimp only at h);omega));have hs_w20:=nle T.size;have hr_w20:=nle T.size.symm;clear T;replace b_B1:=bX3 B1;replace b_B2:=bX3 B2;replace b_B4:=bX3 B4;exact nXa (v:=PbT (((⟨ln,la,ll,lc,lb,lm,ld⟩,⟨hn,ha,hl,hc,hb,hm,hd⟩),⟨xa,xn,xc⟩),true)) (by simp [results,Tryz.results236,go_sem,b_B2.1]) rfl ⟨(((⟨ln,la,ll,lc,lb,lm,ld⟩,⟨hn,ha,hl,hc,hb,hm,hd⟩),⟨xa,xn,xc⟩),true),rfl,HX.out,by rw [←HV.out];exact ⟨rfl,⟨HI1.out,HI2.out⟩,HO.out.mono (fun k _ h=>by omega)⟩⟩
theorem sX(w:World):ar 234 [.agg #[]] w PbT (fun y _=>y=(((zR,zR),⟨none,0,0⟩),true)):=by
 have HX:=Hi (Ext.refl w);unfold ar;go_enter Tryz.func234,Tryz.ntmps234
 go_upto_region 1 with fail
 refine eX ?_;intro w1 hE B1 B2 hz_w1 hr_w1;replace HX:=hE.tr HX;have hs_w1:=hE.size;replace b_B1:=bX3 B1;replace b_B2:=bX3 B2;go_wp2;refine jB B2.out (by rfl) ?_;intro w20 T;replace HX:=Hi (T.ext HX.out zo);replace B1:=Hi (T.rest _ _ zo B1.out);replace B2:=Hi (T.bx);have hs_w20:=nle T.size;have hr_w20:=nle T.size.symm;clear T;replace b_B1:=bX3 B1;replace b_B2:=bX3 B2;exact nXa (v:=PbT (((zR,zR),⟨none,0,0⟩),true)) (by simp [results,Tryz.results234,go_sem,b_B2.1]) rfl ⟨(((zR,zR),⟨none,0,0⟩),true),rfl,HX.out,rfl⟩
theorem pI(v:Value)(w:World)(hv:∃ y:(RH×RH)×SH,v=SgV y):ar 233 [.agg #[],v] w (fun _:Unit=>.bool true) (fun _ _=>True):=by
 obtain ⟨⟨⟨⟨ln,la,ll,lc,lb,lm,ld⟩,⟨hn,ha,hl,hc,hb,hm,hd⟩⟩,⟨xa,xn,xc⟩⟩,rfl⟩:=hv;have HX:=Hi (Ext.refl w);unfold ar;go_enter Tryz.func233,Tryz.ntmps233
 go_upto_region 1 with fail
 refine eX ?_;intro w1 hE B2 B3 hz_w1 hr_w1;replace HX:=hE.tr HX;have hs_w1:=hE.size;replace b_B2:=bX3 B2;replace b_B3:=bX3 B3;go_wp2
 go_ret
 exact ⟨(),rfl,HX.out,trivial⟩
theorem kG(x:SH×(RH×RH))(y:(RH×RH)×SH)(l qs:List Rat)(a b:Rat)(S T:Nat)(w:World)(hl:bg w x.1 l)(hi:IvC w x.2 a b)(hy:IvC w y.1 a b)(hq:jq w y.2 qs)(ht:tz l=l)(h7:l.length≤7)(zl:SzL S l)(za:Sz T a)(zb:Sz T b)(zq:SzL T qs)(hS:S≤1000)(hT:T≤450)(hab:a≤b)(hn:y.2.n≤1000000)
 (hk:ckE l a b (tps qs)=0) :
  ar 235 [PgV x,SgV y] w (fun _:Unit=>.bool true) (fun _ _=>True):=by
 obtain ⟨⟨qa,qn,qc⟩,⟨sn,sa,sl,sc,sb,sm,sd⟩,⟨tn,ta,tl,tc,tb,tm,td⟩⟩:=x;obtain ⟨⟨⟨un,ua,ul,uc,ub,um,ud⟩,⟨vn,va,vl,vc,vb,vm,vd⟩⟩,⟨xa,xn,xc⟩⟩:=y;have HX:=Hi (Ext.refl w);have HS:=Hi (hi.1.raw za zo);have HT:=Hi (hi.2.raw zb zo);have HU:=Hi (hy.1.raw za zo);have HV:=Hi (hy.2.raw zb zo);have hqn:qn≤7:=by have:=hl.len;simp only at this;omega
 have HZ:Hid (Sz T a∧Sz T b∧loV a b=a∧hiV a b=b∧cG a a=0∧cG b b=0):=Hi ⟨za,zb,jD hab,je hab,ib.2 rfl,ib.2 rfl⟩;have HC:Hid (∀ w1,Ext w w1→ar 237 [.slice qa qn qc,SgV ((⟨un,ua,ul,uc,ub,um,ud⟩,⟨vn,va,vl,vc,vb,vm,vd⟩),⟨xa,xn,xc⟩)] w1 (fun _:Unit=>.int .i64 0) (fun _ _=>True)):=Hi (fun w1 he=>by
  have k:=tq qa qn qc l ⟨un,ua,ul,uc,ub,um,ud⟩ ⟨vn,va,vl,vc,vb,vm,vd⟩ xa xn xc qs a b S T w1 ((hl.raw zl zo).ext he) ((hy.1.raw za zo).ext he) ((hy.2.raw zb zo).ext he) ((hq.raw zq zo).ext he) zo (by rw [ht];omega) (by rw [ht];exact zl) za zb zq hS hT hn;rw [jD hab,je hab,ht,hk] at k;exact k)
 clear hl hi hy hq ht zl za zb zq hab hk;simp only [PgV];unfold ar;go_enter Tryz.func235,Tryz.ntmps235
 go_upto_region 1 with fail
 refine eX ?_;intro w1 hE B2 B3 hz_w1 hr_w1;refine mV5 hE ?_ HX HS HT HU HV;clear HX HS HT HU HV;intro HX HS HT HU HV;have hs_w1:=hE.size;replace b_B2:=bX3 B2;replace b_B3:=bX3 B3
 go_wp2_with fail
 refine cM (cE ⟨un,ua,ul,uc,ub,um,ud⟩ ⟨vn,va,vl,vc,vb,vm,vd⟩ a b _ HU.out HV.out) fun x8 w8 hE G8=>?_
 refine mV7 hE ?_ B2 B3 HX HS HT HU HV;clear B2 B3 HX HS HT HU HV;intro B2 B3 HX HS HT HU HV;have hs_w8:=hE.size;replace b_B2:=bX3 B2;replace b_B3:=bX3 B3;obtain ⟨⟨ln,la,ll,lc,lb,lm,ld⟩,⟨hn',ha,hl,hc,hb,hm,hd⟩⟩:=x8;have HL:=Hi G8.out.1;have HH:=Hi G8.out.2;rw [HZ.out.2.2.1] at HL;rw [HZ.out.2.2.2.1] at HH;clear G8;simp only at HL HH
 go_upto_region 2 with fail
 refine nmA ?_;intro w9 hE B5 hz_w9 hr_w9;refine mV8 hE ?_ B2 B3 HX HS HT HU HV HL;clear B2 B3 HX HS HT HU HV HL;intro B2 B3 HX HS HT HU HV HL;replace HH:=mV hE HH;have hs_w9:=hE.size;replace b_B2:=bX3 B2;replace b_B3:=bX3 B3;replace b_B5:=bX3 B5
 go_wp2_with fail
 refine cM (bS ⟨ln,la,ll,lc,lb,lm,ld⟩ ⟨sn,sa,sl,sc,sb,sm,sd⟩ a a _ (HL.out.raw HZ.out.1 zo) HS.out) fun x14 w14 hE _=>?_
 refine mV8 hE ?_ B5 B2 B3 HX HS HT HU HV;clear B5 B2 B3 HX HS HT HU HV;intro B5 B2 B3 HX HS HT HU HV;refine mV2 hE ?_ HL HH;clear HL HH;intro HL HH;have hs_w14:=hE.size;replace b_B2:=bX3 B2;replace b_B3:=bX3 B3;replace b_B5:=bX3 B5;rw [HZ.out.2.2.2.2.1]
 go_wp2_with fail
 refine cM (bS ⟨hn',ha,hl,hc,hb,hm,hd⟩ ⟨tn,ta,tl,tc,tb,tm,td⟩ b b _ (HH.out.raw HZ.out.2.1 zo) HT.out) fun x22 w22 hE _=>?_
 refine mV8 hE ?_ B5 B2 B3 HX HS HT HU HV;clear B5 B2 B3 HX HS HT HU HV;intro B5 B2 B3 HX HS HT HU HV;refine mV2 hE ?_ HL HH;clear HL HH;intro HL HH;have hs_w22:=hE.size;replace b_B2:=bX3 B2;replace b_B3:=bX3 B3;replace b_B5:=bX3 B5;rw [HZ.out.2.2.2.2.2]
 go_wp2_with fail
 refine cM (HC.out _ HX.out) fun x29 w29 hE _=>?_
 refine mV8 hE ?_ B5 B2 B3 HX HS HT HU HV;clear B5 B2 B3 HX HS HT HU HV;intro B5 B2 B3 HX HS HT HU HV;refine mV2 hE ?_ HL HH;clear HL HH;intro HL HH;have hs_w29:=hE.size;replace b_B2:=bX3 B2;replace b_B3:=bX3 B3;replace b_B5:=bX3 B5;go_wp2
 go_ret
 exact ⟨(),rfl,HX.out,trivial⟩
abbrev SgH:=(RH×RH)×SH
def sgE:AZ SgH:=⟨42,7,fun x=>[.bool x.1.1.neg,.slice x.1.1.a x.1.1.n x.1.1.c,.slice x.1.1.b x.1.1.m x.1.1.d,.bool x.1.2.neg,.slice x.1.2.a x.1.2.n x.1.2.c,.slice x.1.2.b x.1.2.m x.1.2.d,.slice x.2.a x.2.n x.2.c],SgV ((zR,zR),⟨none,0,0⟩),136⟩
theorem Al:sgE.Ok where
 len:=fun _=>rfl
 nu:=fun _=>rfl
 one:=fun x u hu=>by
  have h:u ∈ ([.bool x.1.1.neg,.slice x.1.1.a x.1.1.n x.1.1.c,.slice x.1.1.b x.1.1.m x.1.1.d,.bool x.1.2.neg,.slice x.1.2.a x.1.2.n x.1.2.c,.slice x.1.2.b x.1.2.m x.1.2.d,.slice x.2.a x.2.n x.2.c]:List Value):=hu;simp only [List.mem_cons,List.not_mem_nil,or_false] at h;rcases h with rfl|rfl|rfl|rfl|rfl|rfl|rfl <;> rfl
 zs:=rfl
 zn:=rfl
 info:=by kernel_rfl
 pos:=by decide
 small:=by decide
def SgB(w:World)(L:Nat)(x:SgH):Prop:=∃ re,w.heap[L]?=some (.cells (#[.bool x.1.1.neg,.slice x.1.1.a x.1.1.n x.1.1.c,.slice x.1.1.b x.1.1.m x.1.1.d,.bool x.1.2.neg,.slice x.1.2.a x.1.2.n x.1.2.c,.slice x.1.2.b x.1.2.m x.1.2.d,.slice x.2.a x.2.n x.2.c]++re) 42 (0,0))
theorem SgB.ext{w w':World}{L:Nat}{x:SgH}(h:SgB w L x)(he:Ext w w'):SgB w' L x:=let ⟨re,h⟩:=h;⟨re,he.block h⟩
instance {w w':World} {L:Nat} {x:SgH}:Go.Front.Mv w w' (SgB w L x) (SgB w' L x):=⟨fun e h=>SgB.ext h e⟩

theorem SgB.put{w w':World}{L b:Nat}{x:SgH}{T:TypeId}{cs:Array Value}(h:SgB w L x)(t:cT w b T cs w')(hb:L≠b):SgB w' L x:=let ⟨re,h⟩:=h;⟨re,t.rest _ _ hb h⟩
theorem SgB.lt{w:World}{L:Nat}{x:SgH}(h:SgB w L x):L<w.heap.size:=let ⟨_,h⟩:=h;(nXb.1 h).1
theorem SgB.cell{w:World}{L:Nat}{x:SgH}(h:SgB w L x):w.cell? ⟨L,0,none⟩=some (.bool x.1.1.neg)∧w.cell? ⟨L,1,none⟩=some (.slice x.1.1.a x.1.1.n x.1.1.c)∧w.cell? ⟨L,2,none⟩=some (.slice x.1.1.b x.1.1.m x.1.1.d)∧w.cell? ⟨L,3,none⟩=some (.bool x.1.2.neg)∧w.cell? ⟨L,4,none⟩=some (.slice x.1.2.a x.1.2.n x.1.2.c)∧w.cell? ⟨L,5,none⟩=some (.slice x.1.2.b x.1.2.m x.1.2.d)∧w.cell? ⟨L,6,none⟩=some (.slice x.2.a x.2.n x.2.c):=by
 obtain ⟨re,h⟩:=h;refine ⟨?_,?_,?_,?_,?_,?_,?_⟩
 ·rw [ae h,Array.getElem?_append_left (show 0<7 by decide)];rfl
 ·rw [ae h,Array.getElem?_append_left (show 1<7 by decide)];rfl
 ·rw [ae h,Array.getElem?_append_left (show 2<7 by decide)];rfl
 ·rw [ae h,Array.getElem?_append_left (show 3<7 by decide)];rfl
 ·rw [ae h,Array.getElem?_append_left (show 4<7 by decide)];rfl
 ·rw [ae h,Array.getElem?_append_left (show 5<7 by decide)];rfl
 ·rw [ae h,Array.getElem?_append_left (show 6<7 by decide)];rfl
theorem Ak{w:World}{D:Nat→Prop}{s:SH}{x:SgH}(h:lB sgE w D s.v [x]):∃ L cap,s=⟨some ⟨L,0,none⟩,1,cap⟩∧D L∧SgB w L x∧1≤cap∧cap≤9223372036854775807:=by
 rcases h with ⟨-,h⟩|⟨L,cap,re,h1,h2,h3,h4,h5,-⟩
 ·cases h
 ·obtain ⟨a,n,c⟩:=s;simp only [SH.v,Value.slice.injEq] at h1;obtain ⟨rfl,rfl,rfl⟩:=h1;exact ⟨L,c,rfl,h2,⟨re,h3⟩,h4,h5⟩
theorem yu{w1:World}{b:Nat}{T:TypeId}{c0 c1 c2 c3 c4 c5 c6 c7 c8 v0 v1 v2 v3 v4 v5 v6:Value}{F:World→Prop}(hb:w1.heap[b]?=some (.cells #[c0,c1,c2,c3,c4,c5,c6,c7,c8] T (0,0)))(hn:#[c0,c1,c2,c3,c4,c5,c6,c7,c8].toList.all dL=true)(h:∀ w2,cT w1 b T #[v0,v1,v2,v3,v4,v5,v6,c7,c8] w2→F w2) :
  F (((((((w1.setCell ⟨b,0,none⟩ v0).setCell ⟨b,1,none⟩ v1).setCell ⟨b,2,none⟩ v2).setCell ⟨b,3,none⟩ v3).setCell ⟨b,4,none⟩ v4).setCell ⟨b,5,none⟩ v5).setCell ⟨b,6,none⟩ v6):=by
 have e0:=ax hb 0 v0;simp only [List.setIfInBounds_toArray,List.set_cons_zero] at e0;have e1:=ax e0 1 v1;simp only [List.setIfInBounds_toArray,List.set_cons_zero,List.set_cons_succ] at e1;have e2:=ax e1 2 v2;simp only [List.setIfInBounds_toArray,List.set_cons_zero,List.set_cons_succ] at e2;have e3:=ax e2 3 v3;simp only [List.setIfInBounds_toArray,List.set_cons_zero,List.set_cons_succ] at e3;have e4:=ax e3 4 v4;simp only [List.setIfInBounds_toArray,List.set_cons_zero,List.set_cons_succ] at e4;have e5:=ax e4 5 v5;simp only [List.setIfInBounds_toArray,List.set_cons_zero,List.set_cons_succ] at e5;have e6:=ax e5 6 v6;simp only [List.setIfInBounds_toArray,List.set_cons_zero,List.set_cons_succ] at e6;exact h _ (cT.of (nXb.1 hb).1 (ai hb hn) (((((((aL.setCell w1 ⟨b,0,none⟩ v0).trans (aL.setCell _ ⟨b,1,none⟩ v1)).trans (aL.setCell _ ⟨b,2,none⟩ v2)).trans (aL.setCell _ ⟨b,3,none⟩ v3)).trans (aL.setCell _ ⟨b,4,none⟩ v4)).trans (aL.setCell _ ⟨b,5,none⟩ v5)).trans (aL.setCell _ ⟨b,6,none⟩ v6)) (by simp [World.setCell]) e6)
theorem Dq{w1:World}{b i:Nat}{T:TypeId}{c0 c1 c2 c3 c4 c5 c6 c7 c8 v:Value}{F:World→Prop}(hb:w1.heap[b]?=some (.cells #[c0,c1,c2,c3,c4,c5,c6,c7,c8] T (0,0)))(hn:#[c0,c1,c2,c3,c4,c5,c6,c7,c8].toList.all dL=true)(h:∀ w2,cT w1 b T (#[c0,c1,c2,c3,c4,c5,c6,c7,c8].setIfInBounds i v) w2→F w2):F (w1.setCell ⟨b,i,none⟩ v) :=
 h _ (cT.of (nXb.1 hb).1 (ai hb hn) (aL.setCell w1 ⟨b,i,none⟩ v) (by simp [World.setCell]) (ax hb i v))
theorem uJ{w1:World}{b:Nat}{T:TypeId}{c0 c1 c2 c3 c4 c5 c6 c7 c8 v0 v1 v2 v3 v4 v5 v6 v7 v8:Value}{F:World→Prop}(hb:w1.heap[b]?=some (.cells #[c0,c1,c2,c3,c4,c5,c6,c7,c8] T (0,0)))(hn:#[c0,c1,c2,c3,c4,c5,c6,c7,c8].toList.all dL=true)(h:∀ w2,cT w1 b T #[v0,v1,v2,v3,v4,v5,v6,v7,v8] w2→F w2) :
  F (((((((((w1.setCell ⟨b,0,none⟩ v0).setCell ⟨b,1,none⟩ v1).setCell ⟨b,2,none⟩ v2).setCell ⟨b,3,none⟩ v3).setCell ⟨b,4,none⟩ v4).setCell ⟨b,5,none⟩ v5).setCell ⟨b,6,none⟩ v6).setCell ⟨b,7,none⟩ v7).setCell ⟨b,8,none⟩ v8):=by
 have e0:=ax hb 0 v0;simp only [List.setIfInBounds_toArray,List.set_cons_zero] at e0;have e1:=ax e0 1 v1;simp only [List.setIfInBounds_toArray,List.set_cons_zero,List.set_cons_succ] at e1;have e2:=ax e1 2 v2;simp only [List.setIfInBounds_toArray,List.set_cons_zero,List.set_cons_succ] at e2;have e3:=ax e2 3 v3;simp only [List.setIfInBounds_toArray,List.set_cons_zero,List.set_cons_succ] at e3;have e4:=ax e3 4 v4;simp only [List.setIfInBounds_toArray,List.set_cons_zero,List.set_cons_succ] at e4;have e5:=ax e4 5 v5;simp only [List.setIfInBounds_toArray,List.set_cons_zero,List.set_cons_succ] at e5;have e6:=ax e5 6 v6;simp only [List.setIfInBounds_toArray,List.set_cons_zero,List.set_cons_succ] at e6;have e7:=ax e6 7 v7;simp only [List.setIfInBounds_toArray,List.set_cons_zero,List.set_cons_succ] at e7;have e8:=ax e7 8 v8;simp only [List.setIfInBounds_toArray,List.set_cons_zero,List.set_cons_succ] at e8;exact h _ (cT.of (nXb.1 hb).1 (ai hb hn) (((((((((aL.setCell w1 ⟨b,0,none⟩ v0).trans (aL.setCell _ ⟨b,1,none⟩ v1)).trans (aL.setCell _ ⟨b,2,none⟩ v2)).trans (aL.setCell _ ⟨b,3,none⟩ v3)).trans (aL.setCell _ ⟨b,4,none⟩ v4)).trans (aL.setCell _ ⟨b,5,none⟩ v5)).trans (aL.setCell _ ⟨b,6,none⟩ v6)).trans (aL.setCell _ ⟨b,7,none⟩ v7)).trans (aL.setCell _ ⟨b,8,none⟩ v8)) (by simp [World.setCell]) e8)
structure MpH where
 d:SgH
 L1:Nat
 c1:Nat
 L2:Nat
 c2:Nat
 u:SgH
abbrev MpV(x:MpH):Value:=.agg #[.bool x.d.1.1.neg,.slice x.d.1.1.a x.d.1.1.n x.d.1.1.c,.slice x.d.1.1.b x.d.1.1.m x.d.1.1.d,.bool x.d.1.2.neg,.slice x.d.1.2.a x.d.1.2.n x.d.1.2.c,.slice x.d.1.2.b x.d.1.2.m x.d.1.2.d,.slice x.d.2.a x.d.2.n x.d.2.c,.slice (some ⟨x.L1,0,none⟩) 1 x.c1,.slice (some ⟨x.L2,0,none⟩) 1 x.c2]
structure MpP (w:World) (x:MpH) (a b:Rat) (dq uq:List Rat):Prop where
 di:IvC w x.d.1 a b
 dl:jq w x.d.2 dq
 ui:IvC w x.u.1 a b
 ul:jq w x.u.2 uq
 b1:SgB w x.L1 ((zR,zR),⟨none,0,0⟩)
 b2:SgB w x.L2 x.u
 h1:1≤x.c1∧x.c1≤9223372036854775807
 h2:1≤x.c2∧x.c2≤9223372036854775807
theorem MpP.ext{w w':World}{x:MpH}{a b:Rat}{dq uq:List Rat}(h:MpP w x a b dq uq)(he:Ext w w'):MpP w' x a b dq uq:=⟨h.di.ext he,h.dl.ext he,h.ui.ext he,h.ul.ext he,h.b1.ext he,h.b2.ext he,h.h1,h.h2⟩
instance {w w':World} {x:MpH} {a b:Rat} {dq uq:List Rat}:Go.Front.Mv w w' (MpP w x a b dq uq) (MpP w' x a b dq uq):=⟨fun e h=>MpP.ext h e⟩

abbrev MpZ:Value:=.agg #[.bool false,.slice none 0 0,.slice none 0 0,.bool false,.slice none 0 0,.slice none 0 0,.slice none 0 0,.slice none 0 0,.slice none 0 0]
abbrev MpT(x:Value×Int):Value:=.tuple #[x.1,.int .i64 x.2]
def MpQ(w:World)(x:Value×Int)(a b:Rat)(dq:List Rat)(r:Option (List Rat)):Prop :=
 match r with
 | none=>x=(MpZ,22)
 | some uq=>x.2=0∧∃ p:MpH,x.1=MpV p∧MpP w p a b dq uq
end Go.Proofs.YtkcpmclnocmalaaGreat
/- Package mask: Check for one band whose minimum is 0, squares. -/
namespace Go.Front
open Go.RowKit
section
variable {P:Program} {o:Oper} {a:Act}
theorem kq{α:Type}{mk:α→Value}{φ:α→World→Prop}{w:World}{f:FuncId}{fn:Func}{r:Operand}{name:String}{t:TypeId}{v v':Value}{xs:Array Operand}{ats:Array TypeId}(args:List Value)
 (ho:o.op=.call { callee:=.invoke r name,args:=xs,argTypes:=ats })(hr:a.eval r=.iface t v)(hm:∀ w,(method (P.types.size+Made.depth) t v name).run P w=.ok (f,v') w)(ha:v' :: xs.toList.map a.eval=args)
 (hf:P.funcs[f]?=some fn)(hn:(fn.name == "runtime.NumGoroutine")=false)(hb:fn.body.isNone=false)
 (h:Calls P f args.toArray w (fun e w''=>∃ x,e=.returned (mk x)∧Ext w w''∧φ x w'')):bV P o a w mk φ:=by
 obtain ⟨dst,op,type,pos,after,guard⟩:=o;simp only at ho;subst ho;unfold bV;have e:(execOp a.eval { dst,op:=.call { callee:=.invoke r name,args:=xs,argTypes:=ats },type,pos,after,guard }).run P w=(callFunc f args.toArray).run P w:=by
  have ha':#[v']++xs.map a.eval=args.toArray:=by
   rw [←ha];apply Array.ext';simp
  have e0:(#[Value.iface t v]++xs.map a.eval)[0]?=some (.iface t v):=by rw [Array.getElem?_append_left (by simp)];rfl
  simp only [execOp,resolve,hr];show (invoke (.fn (.method name) #[]) (#[Value.iface t v]++xs.map a.eval)).run P w=_;simp only [invoke,e0];have e2:(#[Value.iface t v]++xs.map a.eval).extract 1 (#[Value.iface t v]++xs.map a.eval).size=xs.map a.eval:=by simp
  rw [e2];simp [callMethod,hm,ha',Result.andThen]
 rw [e,gj hf hn hb];exact ⟨Ext.refl _,h⟩
theorem fH{Q:st}{rest:List Oper}{k:Nat}{Γ:Fac}{B:Own}{ops:Array Oper}{w0:World}{kind:Nat→Kind}{dep:Nat→List Nat}{x:Operand}{t:TypeId}{v:Value}(hk:kind k=.quiet)(hg:Region.wanted o (yielded ops a.tmps)=true)(ho:o.op=.nilCheck x)(hx:a.eval x=.iface t v)
 (h:wpF P ops w0 kind dep Q rest (k+1) (a.put o.dst (.iface t v)) Γ B):wpF P ops w0 kind dep Q (o :: rest) k a Γ B:=by
 refine tD _ hk hg (fun w _=>?_) h;obtain ⟨dst,op,type,pos,after,guard⟩:=o;simp only at ho;subst ho;simp only [execOp,hx];rfl
end
end Go.Front
namespace Go.Proofs.YtkcpmclnocmalaaGreat
open Go.RowKit Go.Front Go.Num Stab
attribute [local go_sem] XW.cell XW.frozen
attribute [local irreducible] Go.Front.wpF
theorem pG(na da ba:Option Addr)(nn nc dn dc bc:Nat)(nu de qs:List Rat)(S T:Nat)(a b d:Rat)(dq uq:List Rat)(p:MpH)(w:World)(hn:bg w ⟨na,nn,nc⟩ nu)(hd:bg w ⟨da,dn,dc⟩ de)(h:fq w ⟨ba,1,bc⟩ qs)(ho:jo S 1 nu de qs)(hq:qs=[a,b,0,d])
 (hp:MpP w p a b dq uq)(zd:SzL T dq)(zu:SzL T uq)(hST:S≤T)(hT:T≤450)(kd:ckE de a b (tps dq)=0)(ku:ckE (beV nu de d) a b (tps uq)=0)(ld:dq.length≤100000)(lu:uq.length≤100000) :
  ar 10 [QV (⟨na,nn,nc⟩,⟨da,dn,dc⟩),.slice ba 1 bc,.bool true,MpV p] w (fun _:Unit=>.int .i64 0) (fun _ _=>True):=by
 have HX:=Hi (Ext.refl w);have LN:=Hi hn;have LD:=Hi hd;have LB:=Hi h;have HO:=Hi ho;have HQ:=Hi hq;have hS1:=ho.s1;have hS:=ho.s6;have hnn:nn≤7:=by have:=hn.len;have h2:=ho.zn.ln;simp only at this;omega
 have hdn:dn≤7:=by have:=hd.len;have h2:=ho.zd.ln;simp only at this;omega
 have hbd:=ho.bd 0 zo;rw [hq] at hbd;have HBD:Hid (tB S a b 0 d):=Hi hbd;have HSz:Hid (Sz T a∧Sz T b∧SzL T dq∧SzL T uq∧ckE de a b (tps dq)=0∧ckE (beV nu de d) a b (tps uq)=0):=Hi ⟨hbd.1.1.mono hST,hbd.1.2.1.mono hST,zd,zu,kd,ku⟩;have ZBE:=Hi (ho.zn.be ho.zd hbd.1.2.2.2 hS1);obtain ⟨⟨⟨⟨ln,la,ll,lc,lb,lm,ld'⟩,⟨hn',ha,hl,hc,hb,hm,hd'⟩⟩,⟨xa,xn,xc⟩⟩,M1,d1,M2,d2,⟨⟨⟨vn,va,vl,vc,vb,vm,vd⟩,⟨wn,wa,wl,wc,wb,wm,wd⟩⟩,⟨ya,yn,yc⟩⟩⟩:=p;have HP:=Hi hp;have hxn:xn≤1000000:=by have:=hp.dl.len;simp only at this;omega
 have hyn:yn≤1000000:=by have:=hp.ul.len;simp only at this;omega
 have hd1:=hp.h1;have hd2:=hp.h2;clear hn hd h ho hbd hq zd zu kd ku hp ld lu;unfold ar;simp only [QV,SH.v,MpV];go_enter Tryz.func10,Tryz.ntmps10
 go_upto_region 1 with fail
 refine eX ?_;intro w1 hE B4 B7 hz_w1 hr_w1;refine mV5 hE ?_ HX LN LD LB HP;clear HX LN LD LB HP;intro HX LN LD LB HP;have hs_w1:=hE.size;replace b_B4:=bX3 B4;replace b_B7:=bX3 B7
 go_wp2_with fail
 refine cM (gw na da ba nn nc dn dc 1 bc nu de qs S _ LN.out LD.out LB.out HO.out.bd dZ dZ hS1 zo HO.out.zn.fb.sz HO.out.zd.fb.sz hnn hdn HO.out.td HO.out.d0) fun x14 w14 hE _=>?_
 refine mV7 hE ?_ B4 B7 HX LN LD LB HP;clear B4 B7 HX LN LD LB HP;intro B4 B7 HX LN LD LB HP;have hs_w14:=hE.size;replace b_B4:=bX3 B4;replace b_B7:=bX3 B7
 go_wp2_with fail
 refine cM (lp na da ba nn nc dn dc bc nu de qs S a b d _ LN.out LD.out LB.out HO.out HQ.out) fun x35 w35 hE G35=>?_
 refine mV7 hE ?_ B4 B7 HX LN LD LB HP;clear B4 B7 HX LN LD LB HP;intro B4 B7 HX LN LD LB HP;have hs_w35:=hE.size;replace b_B4:=bX3 B4;replace b_B7:=bX3 B7;obtain ⟨⟨⟨pa,pn,pc⟩,⟨sn,sa,sl,sc,sb,sm,sd⟩,⟨tn,ta,tl,tc,tb,tm,td⟩⟩,⟨⟨ua,un,uc⟩,⟨gn,ga,gl,gc,gb,gm,gd⟩,⟨fn,fa,fl,fc,fb,fm,fd⟩⟩,L1,c1,L2,c2⟩:=x35;have HG:=Hi G35.out;have hc1:=G35.out.h1;have hc2:=G35.out.h2;clear G35;simp only at hc1 hc2 hd1 hd2;clear LN;clear LD;clear LB
 go_upto_region 7 with fail
 refine nmA ?_;intro w36 hE B10 hz_w36 hr_w36;refine mV5 hE ?_ B4 B7 HX HP HG;clear B4 B7 HX HP HG;intro B4 B7 HX HP HG;have hs_w36:=hE.size;replace b_B4:=bX3 B4;replace b_B7:=bX3 B7;replace b_B10:=bX3 B10
 go_wp2_with fail
 refine cM (kG (⟨pa,pn,pc⟩,(⟨sn,sa,sl,sc,sb,sm,sd⟩,⟨tn,ta,tl,tc,tb,tm,td⟩)) ((⟨ln,la,ll,lc,lb,lm,ld'⟩,⟨hn',ha,hl,hc,hb,hm,hd'⟩),⟨xa,xn,xc⟩) de dq a b S T _ HG.out.dp HG.out.di HP.out.di HP.out.dl HO.out.td HO.out.zd.ln HO.out.zd.fb.sz HSz.out.1 HSz.out.2.1 HSz.out.2.2.1 zo hT HBD.out.2.2.1 hxn HSz.out.2.2.2.2.1) fun x40 w40 hE _=>?_
 refine mV6 hE ?_ B10 B4 B7 HX HP HG;clear B10 B4 B7 HX HP HG;intro B10 B4 B7 HX HP HG;have hs_w40:=hE.size;replace b_B4:=bX3 B4;replace b_B7:=bX3 B7;replace b_B10:=bX3 B10;go_wp2;refine wp_loop_rounds 2 ?_;rw [rounds_succ];have cK1:=HG.out.b1.cell;have cK2:=HG.out.b2.cell;have lK1:=HG.out.b1.lt;have lK2:=HG.out.b2.lt;obtain ⟨m1,m2,m3,m4,m5,m6,m7⟩:=HP.out.b1.cell;obtain ⟨k1,k2,k3,k4,k5,k6,k7⟩:=HP.out.b2.cell;have lM1:=HP.out.b1.lt;have lM2:=HP.out.b2.lt;simp only at cK1 cK2 lK1 lK2 m1 m2 m3 m4 m5 m6 m7 k1 k2 k3 k4 k5 k6 k7 lM1 lM2
 go_upto_region 12 with fail
 refine ah 30 (fun opIx=>match opIx with
  | 12=>sU (.bool true)
  | 27=>sU (.bool true)
  | _=>.quiet) (fun _=>[]) kZ kZ (fun w0 he0 hz0 hc0 hf0=>?_)
 replace he0:=Hi he0;simp only [pT]
 repeat (first|(refine wpq fun K h=>?_;go_big_quiet_op;refine h _ ?_;clear h K)|(refine fH rfl rfl rfl rfl ?_;simp only [pS]))
 refine wps he0 (fun w1 hW hG=>?_) fun x60=>?_
 ·exact kq (t:=138) (v:=.agg #[]) [.agg #[],SgV ((zR,zR),⟨none,0,0⟩)] rfl rfl (fun w=>by kernel_rfl) rfl Tryz.func233 kZ kZ (pI _ _ ⟨_,rfl⟩)
 simp only [pS]
 repeat (first|(refine wpq fun K h=>?_;go_big_quiet_op;refine h _ ?_;clear h K)|(refine fH rfl rfl rfl rfl ?_;simp only [pS]))
 refine bN rfl rfl (fun w1 hw1 hG=>?_) (fun x61=>?_)
 ·have hW:=he0.out.trans hw1;exact (by have hW:=he0.out.trans hw1;have g:=HG.out.ext hW;have p:=HP.out.ext hW;exact kq (t:=140) (v:=PgV ((⟨ua,un,uc⟩,(⟨gn,ga,gl,gc,gb,gm,gd⟩,⟨fn,fa,fl,fc,fb,fm,fd⟩)))) [PgV ((⟨ua,un,uc⟩,(⟨gn,ga,gl,gc,gb,gm,gd⟩,⟨fn,fa,fl,fc,fb,fm,fd⟩))),SgV ((⟨vn,va,vl,vc,vb,vm,vd⟩,⟨wn,wa,wl,wc,wb,wm,wd⟩),⟨ya,yn,yc⟩)] rfl rfl (fun w=>by kernel_rfl) rfl Tryz.func235 kZ kZ (kG (⟨ua,un,uc⟩,(⟨gn,ga,gl,gc,gb,gm,gd⟩,⟨fn,fa,fl,fc,fb,fm,fd⟩)) ((⟨vn,va,vl,vc,vb,vm,vd⟩,⟨wn,wa,wl,wc,wb,wm,wd⟩),⟨ya,yn,yc⟩) (beV nu de d) uq a b (S+S+S+1) T _ g.up g.ui p.ui p.ul (wV _ _ _) ZBE.out.ln ZBE.out.fb.sz HSz.out.1 HSz.out.2.1 HSz.out.2.2.2.1 zo hT HBD.out.2.2.1 hyn HSz.out.2.2.2.2.2))
 simp only [pS]
 repeat (first|(refine wpq fun K h=>?_;go_big_quiet_op;refine h _ ?_;clear h K)|(refine fH rfl rfl rfl rfl ?_;simp only [pS]))
 refine aq ?_;intro w50 hI;have hE:=he0.out.trans hI.ext;clear hI he0 hz0 hc0 hf0;refine mV6 hE ?_ B10 B4 B7 HX HP HG;clear B10 B4 B7 HX HP HG;intro B10 B4 B7 HX HP HG;have hs_w50:=hE.size;replace b_B4:=bX3 B4;replace b_B7:=bX3 B7;replace b_B10:=bX3 B10;simp only [pD];go_wp2;rw [rounds_succ];go_wp2
 go_ret
 exact ⟨(),rfl,HX.out,trivial⟩
end Go.Proofs.YtkcpmclnocmalaaGreat
