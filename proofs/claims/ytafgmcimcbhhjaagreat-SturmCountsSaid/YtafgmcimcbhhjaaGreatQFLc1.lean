import Derived.Test.YtafgmcimcbhhjaaGreatQFJnR
set_option linter.unusedVariables false
namespace Go.Proofs.YtafgmcimcbhhjaaGreat
open Go.RowKit Go.Front Go.Num Stab Sg
attribute [local go_sem] XW.cell XW.frozen
theorem pk{n m:Nat}(h:sm4 n m=true):n≤4∧m≤4:=of_decide_eq_true h
theorem wR{s t:RH}(h:Cg s t=true):(s.n≤4∧s.m≤4)∧t.n≤4∧t.m≤4:=by
 unfold Cg at h;rw [Bool.and_eq_true] at h;exact ⟨pk h.1,pk h.2⟩
theorem kY{w:World}{s:RH}(h:fP w s)(k:s.n≤4∧s.m≤4):∃ q,aR w s q∧Sz 4 q:=by
 obtain ⟨q,hq⟩:=fP.raw h zo zo;exact ⟨q,hq,hq.sz dZ k.1 k.2⟩
theorem xI{w1:World}{b b':Nat}{T T':TypeId}{a0 a1 a2 a3 a4 a5 u0 u1 u2 u3 u4 u5 c0 c1 c2 v0 v1 v2:Value}{F:World→Prop}(hb:w1.heap[b]?=some (.cells #[a0,a1,a2,a3,a4,a5] T (0,0)))(hn:#[a0,a1,a2,a3,a4,a5].toList.all fY=true)
 (hb':w1.heap[b']?=some (.cells #[c0,c1,c2] T' (0,0)))(hn':#[c0,c1,c2].toList.all fY=true)(h1:b'≠b)
 (H:∀ w2 w3,fe w1 b T #[u0,u1,u2,u3,u4,u5] w2→fe w2 b' T' #[v0,v1,v2] w3→F w3) :
  F (((((((((w1.setCell ⟨b,0,none⟩ u0).setCell ⟨b,1,none⟩ u1).setCell ⟨b,2,none⟩ u2).setCell ⟨b,3,none⟩ u3).setCell ⟨b,4,none⟩ u4).setCell ⟨b,5,none⟩ u5).setCell ⟨b',0,none⟩ v0).setCell ⟨b',1,none⟩ v1).setCell ⟨b',2,none⟩ v2) :=
 cz (v0:=u0) (v1:=u1) (v2:=u2) (v3:=u3) (v4:=u4) (v5:=u5) (F:=fun W=>F (((W.setCell ⟨b',0,none⟩ v0).setCell ⟨b',1,none⟩ v1).setCell ⟨b',2,none⟩ v2)) hb hn fun w2 T2 =>
  aY (v0:=v0) (v1:=v1) (v2:=v2) (F:=F) (T2.rest _ _ h1 hb') hn' fun w3 T3=>H w2 w3 T2 T3
theorem Ap{p ds:List Rat}(h:zZ p ds):ScS p:=by
 have hl:=h.frk.2.2.2;obtain ⟨rl,b,h1,-,h3⟩:=h;exact ⟨FrB.mono ⟨dZ,_,Nat.mul_pos dZ (nYm dZ),At h3,h1.fr h3⟩ (show 2≤19 by decide),hl⟩
set_option maxRecDepth 8000 in
set_option maxHeartbeats 16000000 in
theorem oT(pa:Option Addr)(P pc:Nat)(re:List RH)(s t u:RH)(lo:Option Addr)(lc:Nat)(ls:List Int)(za zb:Int)(w:World)
 (hp:RS w ⟨pa,P,pc⟩ re)(ip:∀ r ∈ re,fP w r)(hs:fP w s)(ht:fP w t)(hu:fP w u)
 (l0:eQ w lo ls)(l1:InR ls)(l2:ls.length≤9223372036854775807)(l3:ls.length≤lc)(l4:lc≤9223372036854775807)
 (a1:-9223372036854775808≤za)(a2:za≤9223372036854775807)(b1:-9223372036854775808≤zb)(b2:zb≤9223372036854775807) :
  ar 4 [.slice pa P pc,IvV (s,t),u.v,.slice lo ls.length lc,.int .i64 za,.int .i64 zb] w (fun _:Unit=>.bool true) (fun _ _=>True):=by
 obtain ⟨sn,sa,sl,sc,sb,sm,sd⟩:=s;obtain ⟨tn,ta,tl,tc,tb,tm,td⟩:=t;obtain ⟨un,ua,ul,uc,ub,um,ud⟩:=u;have HX:=Hi (Ext.refl w);have HRo:Hid (∀ w1,Ext w w1→ar 29 [.slice lo ls.length lc] w1 RT2 (fun x w'=>(∃ e,LIn w' x.1.1 x.2.1 w1.heap.size e)∧bB w' x.1.2 x.2.2∧zZ x.2.1 x.2.2)):=Hi (fun w1 hE=>sy lo lc ls w1 (l0.ext hE) l1 l2 l3 l4);obtain ⟨n0,e0⟩:∃ n,n=ls.length:=⟨_,rfl⟩;rw [←e0] at HRo ⊢;have HP:=Hi hp;have IP:=Hi ip;have IS:=Hi hs;have IT:=Hi ht;have IU:=Hi hu;clear e0 hp ip hs ht hu l0 l1 l2 l3 l4;unfold ar;go_enter Tryz.func4,Tryz.ntmps4
 go_upto_region 1 with fail
 refine jZ ?_;intro w1 hE B7 B8 hz_w1 hr_w1;replace HX:=hE.tr HX;have hs_w1:=hE.size;replace b_B7:=bX3 B7;replace b_B8:=bX3 B8
 go_wp2_with fail
 refine cM (mZ pa P pc re _ (HP.out.ext HX.out)) fun x31 w31 hE G31=>?_
 refine mV3 hE ?_ B7 B8 HX;clear B7 B8 HX;intro B7 B8 HX;have hs_w31:=hE.size;replace b_B7:=bX3 B7;replace b_B8:=bX3 B8;cases x31
 case false =>
  go_wp2_with fail
  refine cM (ig _) fun x43 w43 hE _=>?_
  refine mV3 hE ?_ B7 B8 HX;clear B7 B8 HX;intro B7 B8 HX;have hs_w43:=hE.size;replace b_B7:=bX3 B7;replace b_B8:=bX3 B8;go_wp2
  go_ret
  exact ⟨(),rfl,HX.out,trivial⟩
 go_wp2_with fail
 refine cM (pj ⟨sn,sa,sl,sc,sb,sm,sd⟩ ⟨tn,ta,tl,tc,tb,tm,td⟩ _) fun x35 w35 hE _=>?_
 refine mV3 hE ?_ B7 B8 HX;clear B7 B8 HX;intro B7 B8 HX;have hs_w35:=hE.size;replace b_B7:=bX3 B7;replace b_B8:=bX3 B8;obtain ⟨k1,hk1⟩:∃ k,k=Cg ⟨sn,sa,sl,sc,sb,sm,sd⟩ ⟨tn,ta,tl,tc,tb,tm,td⟩:=⟨_,rfl⟩;rw [←hk1];have HK1:=Hi hk1;clear hk1;cases k1
 case false =>
  go_wp2_with fail
  refine cM (ig _) fun x43 w43 hE _=>?_
  refine mV3 hE ?_ B7 B8 HX;clear B7 B8 HX;intro B7 B8 HX;have hs_w43:=hE.size;replace b_B7:=bX3 B7;replace b_B8:=bX3 B8;go_wp2
  go_ret
  exact ⟨(),rfl,HX.out,trivial⟩
 go_wp2_with fail
 refine cM (gu ⟨un,ua,ul,uc,ub,um,ud⟩ _) fun x40 w40 hE _=>?_
 refine mV3 hE ?_ B7 B8 HX;clear B7 B8 HX;intro B7 B8 HX;have hs_w40:=hE.size;replace b_B7:=bX3 B7;replace b_B8:=bX3 B8;obtain ⟨k2,hk2⟩:∃ k,k=sm4 ul um:=⟨_,rfl⟩;rw [show sm4 (RH.n ⟨un,ua,ul,uc,ub,um,ud⟩) (RH.m ⟨un,ua,ul,uc,ub,um,ud⟩)=k2 from hk2.symm];have HK2:=Hi hk2;clear hk2;cases k2
 case false =>
  go_wp2_with fail
  refine cM (ig _) fun x43 w43 hE _=>?_
  refine mV3 hE ?_ B7 B8 HX;clear B7 B8 HX;intro B7 B8 HX;have hs_w43:=hE.size;replace b_B7:=bX3 B7;replace b_B8:=bX3 B8;go_wp2
  go_ret
  exact ⟨(),rfl,HX.out,trivial⟩
 obtain ⟨hp8,sp⟩:=G31.out.1 rfl;obtain ⟨k1,k2⟩:=wR HK1.out.symm;obtain ⟨p,hp,zp⟩:=xe HP.out IP.out sp dZ dZ;obtain ⟨a,ha,zsa⟩:=kY IS.out k1;obtain ⟨b,hb,zsb⟩:=kY IT.out k2;obtain ⟨v,hv,zsv⟩:=kY IU.out (pk HK2.out.symm);have hpl:=hp.len;simp only at hpl;have HA:Hid (ScA w40 ⟨pa,P,pc⟩ ⟨sn,sa,sl,sc,sb,sm,sd⟩ ⟨tn,ta,tl,tc,tb,tm,td⟩ ⟨un,ua,ul,uc,ub,um,ud⟩ p a b v):=Hi ⟨hp.ext HX.out,ha.ext HX.out,hb.ext HX.out,hv.ext HX.out⟩;have HZ:Hid (ScZ p a b v):=Hi ⟨ScS.raw zp zo,zsa,zsb,zsv⟩;clear hp ha hb hv zp zsa zsb zsv hpl hp8 sp k1 k2 G31 HK1 HK2 HP IP IS IT IU
 go_upto_region 4 with fail
 obtain ⟨b8,e8⟩:∃ k,k=w.heap.size+1:=⟨_,rfl⟩;obtain ⟨b7,e7⟩:∃ k,k=w.heap.size:=⟨_,rfl⟩;have hne:b8≠b7:=zo;have hb7:w.heap.size≤b7:=zo;have hb8:w.heap.size≤b8:=zo;rw [←e8] at B8;rw [←e7] at B7
 try rw [←e8]
 try rw [←e7]
 clear e7 e8 b_B7 b_B8
 go_loopg [0,13] 2 (fun g up kp wr=>∃ (j:Nat) (y:SH) (s t u:RH) (q:List Rat) (a b v:Rat),j+g=2∧kp=.int .i64 (j:Nat)∧up=y.v∧Ext w wr∧ScA wr y s t u q a b v∧ScZ q a b v ∧
  wr.heap[b7]?=some (.cells #[.bool s.neg,.slice s.a s.n s.c,.slice s.b s.m s.d,.bool t.neg,.slice t.a t.n t.c,.slice t.b t.m t.d] 38 (0,0))∧wr.heap[b8]?=some (.cells #[.bool u.neg,.slice u.a u.n u.c,.slice u.b u.m u.d] 34 (0,0)))
 case atStart=>exact ⟨0,_,_,_,_,_,_,_,_,zo,rfl,rfl,HX.out,HA.out,HZ.out,B7.out,B8.out⟩
 case round =>
  obtain ⟨j,⟨ya,yn,yc⟩,⟨sn,sa,sl,sc,sb,sm,sd⟩,⟨tn,ta,tl,tc,tb,tm,td⟩,⟨un,ua,ul,uc,ub,um,ud⟩,q,a,b,v,hj,rfl,rfl,g1,g2,g3,g4,g5⟩:=hrel;clear HX HA HZ B7 B8;have HX:=Hi g1;have HA:=Hi g2;have HZ:=Hi g3;have B7:=Hi g4;have B8:=Hi g5;clear g1 g2 g3 g4 g5;simp only at B7 B8;simp only [SH.v];replace b_B7:=bX3 B7;replace b_B8:=bX3 B8;by_cases h0:gk=0
  case pos =>
   subst h0;have hj2:¬ (j:Int)<2:=zo
   go_wp2_with fail
   refine cM (ig _) fun x144 w144 hE _=>?_
   refine mV4 hE ?_ HX HA B7 B8;clear HX HA B7 B8;intro HX HA B7 B8;have hs_w144:=hE.size;replace b_B7:=bX3 B7;replace b_B8:=bX3 B8;go_wp2
   go_ret
   exact ⟨(),rfl,HX.out,trivial⟩
  have hj2:(j:Int)<2:=zo;obtain ⟨c1,c2,hc⟩:∃ c1 c2,Bu q (loV a b) (hiV a b)=(c1,c2):=⟨_,_,rfl⟩;obtain ⟨s0,hs0⟩:∃ s0,cu ((tz q).length+1) (ak q) v=s0:=⟨_,rfl⟩;obtain ⟨n1,hn1⟩:∃ n1,dX q (loV a b) (hiV a b)=n1:=⟨_,rfl⟩;obtain ⟨p1,hp1⟩:∃ p1,posV q (loV a b) (hiV a b)=p1:=⟨_,rfl⟩;have S1:Hid (∀ w',ScA w' ⟨ya,yn,yc⟩ ⟨sn,sa,sl,sc,sb,sm,sd⟩ ⟨tn,ta,tl,tc,tb,tm,td⟩ ⟨un,ua,ul,uc,ub,um,ud⟩ q a b v→ar 22 [.slice ya yn yc,IvV (⟨sn,sa,sl,sc,sb,sm,sd⟩,⟨tn,ta,tl,tc,tb,tm,td⟩)] w' (fun _:Unit=>.tuple #[.int .i64 c1,.int .i64 c2]) (fun _ _=>True)):=Hi (fun w' h=>by have k:=sc1 h HZ.out;rw [hc] at k;exact k);have S2:Hid (∀ w',ScA w' ⟨ya,yn,yc⟩ ⟨sn,sa,sl,sc,sb,sm,sd⟩ ⟨tn,ta,tl,tc,tb,tm,td⟩ ⟨un,ua,ul,uc,ub,um,ud⟩ q a b v→ar 23 [.slice ya yn yc,IvV (⟨sn,sa,sl,sc,sb,sm,sd⟩,⟨tn,ta,tl,tc,tb,tm,td⟩)] w' (fun _:Unit=>.tuple #[.int .i64 c1,.int .i64 c2]) (fun _ _=>True)):=Hi (fun w' h=>by have k:=sc2 h HZ.out;rw [hc] at k;exact k);have S3:Hid (∀ w',ScA w' ⟨ya,yn,yc⟩ ⟨sn,sa,sl,sc,sb,sm,sd⟩ ⟨tn,ta,tl,tc,tb,tm,td⟩ ⟨un,ua,ul,uc,ub,um,ud⟩ q a b v→ar 24 [.slice ya yn yc,RH.v ⟨un,ua,ul,uc,ub,um,ud⟩] w' (fun _:Unit=>.tuple #[.int .i64 s0,.int .i64 0]) (fun _ _=>True)):=Hi (fun w' h=>by have k:=sc3 h HZ.out;rw [hs0] at k;exact k);have S4:Hid (∀ w',ScA w' ⟨ya,yn,yc⟩ ⟨sn,sa,sl,sc,sb,sm,sd⟩ ⟨tn,ta,tl,tc,tb,tm,td⟩ ⟨un,ua,ul,uc,ub,um,ud⟩ q a b v→ar 25 [.slice ya yn yc,RH.v ⟨un,ua,ul,uc,ub,um,ud⟩] w' (fun _:Unit=>.tuple #[.int .i64 s0,.int .i64 0]) (fun _ _=>True)):=Hi (fun w' h=>by have k:=sc4 h HZ.out;rw [hs0] at k;exact k);have S5:Hid (∀ w',ScA w' ⟨ya,yn,yc⟩ ⟨sn,sa,sl,sc,sb,sm,sd⟩ ⟨tn,ta,tl,tc,tb,tm,td⟩ ⟨un,ua,ul,uc,ub,um,ud⟩ q a b v→ar 26 [.slice ya yn yc,IvV (⟨sn,sa,sl,sc,sb,sm,sd⟩,⟨tn,ta,tl,tc,tb,tm,td⟩)] w' (fun _:Unit=>.tuple #[.bool n1,.int .i64 0]) (fun _ _=>True)):=Hi (fun w' h=>by have k:=sc5 h HZ.out;rw [hn1] at k;exact k);have S6:Hid (∀ w',ScA w' ⟨ya,yn,yc⟩ ⟨sn,sa,sl,sc,sb,sm,sd⟩ ⟨tn,ta,tl,tc,tb,tm,td⟩ ⟨un,ua,ul,uc,ub,um,ud⟩ q a b v→ar 14 [.slice ya yn yc,IvV (⟨sn,sa,sl,sc,sb,sm,sd⟩,⟨tn,ta,tl,tc,tb,tm,td⟩)] w' (fun _:Unit=>.tuple #[.bool n1,.int .i64 0]) (fun _ _=>True)):=Hi (fun w' h=>by have k:=sc6 h HZ.out;rw [hn1] at k;exact k);have S7:Hid (∀ w',ScA w' ⟨ya,yn,yc⟩ ⟨sn,sa,sl,sc,sb,sm,sd⟩ ⟨tn,ta,tl,tc,tb,tm,td⟩ ⟨un,ua,ul,uc,ub,um,ud⟩ q a b v→ar 27 [.slice ya yn yc,IvV (⟨sn,sa,sl,sc,sb,sm,sd⟩,⟨tn,ta,tl,tc,tb,tm,td⟩)] w' (fun _:Unit=>.tuple #[.bool p1,.int .i64 0]) (fun _ _=>True)):=Hi (fun w' h=>by have k:=sc7 h HZ.out;rw [hp1] at k;exact k);have S8:Hid (∀ w',ScA w' ⟨ya,yn,yc⟩ ⟨sn,sa,sl,sc,sb,sm,sd⟩ ⟨tn,ta,tl,tc,tb,tm,td⟩ ⟨un,ua,ul,uc,ub,um,ud⟩ q a b v→ar 28 [.slice ya yn yc,IvV (⟨sn,sa,sl,sc,sb,sm,sd⟩,⟨tn,ta,tl,tc,tb,tm,td⟩)] w' (fun _:Unit=>.tuple #[.bool p1,.int .i64 0]) (fun _ _=>True)):=Hi (fun w' h=>by have k:=sc8 h HZ.out;rw [hp1] at k;exact k);clear hc hs0 hn1 hp1
  go_wp2_with fail
  refine cM (S1.out _ HA.out) fun x51 w51 hE _=>?_
  refine mV4 hE ?_ HX HA B7 B8;clear HX HA B7 B8;intro HX HA B7 B8;have hs_w51:=hE.size;replace b_B7:=bX3 B7;replace b_B8:=bX3 B8
  go_wp2_with fail
  refine cM (S2.out _ HA.out) fun x57 w57 hE _=>?_
  refine mV4 hE ?_ HX HA B7 B8;clear HX HA B7 B8;intro HX HA B7 B8;have hs_w57:=hE.size;replace b_B7:=bX3 B7;replace b_B8:=bX3 B8
  go_wp2_with fail
  refine cM (S3.out _ HA.out) fun x63 w63 hE _=>?_
  refine mV4 hE ?_ HX HA B7 B8;clear HX HA B7 B8;intro HX HA B7 B8;have hs_w63:=hE.size;replace b_B7:=bX3 B7;replace b_B8:=bX3 B8
  go_wp2_with fail
  refine cM (S4.out _ HA.out) fun x69 w69 hE _=>?_
  refine mV4 hE ?_ HX HA B7 B8;clear HX HA B7 B8;intro HX HA B7 B8;have hs_w69:=hE.size;replace b_B7:=bX3 B7;replace b_B8:=bX3 B8
  go_wp2_with fail
  refine cM (S5.out _ HA.out) fun x75 w75 hE _=>?_
  refine mV4 hE ?_ HX HA B7 B8;clear HX HA B7 B8;intro HX HA B7 B8;have hs_w75:=hE.size;replace b_B7:=bX3 B7;replace b_B8:=bX3 B8
  go_wp2_with fail
  refine cM (S6.out _ HA.out) fun x81 w81 hE _=>?_
  refine mV4 hE ?_ HX HA B7 B8;clear HX HA B7 B8;intro HX HA B7 B8;have hs_w81:=hE.size;replace b_B7:=bX3 B7;replace b_B8:=bX3 B8
  go_wp2_with fail
  refine cM (S7.out _ HA.out) fun x87 w87 hE _=>?_
  refine mV4 hE ?_ HX HA B7 B8;clear HX HA B7 B8;intro HX HA B7 B8;have hs_w87:=hE.size;replace b_B7:=bX3 B7;replace b_B8:=bX3 B8
  go_wp2_with fail
  refine cM (S8.out _ HA.out) fun x93 w93 hE _=>?_
  refine mV4 hE ?_ HX HA B7 B8;clear HX HA B7 B8;intro HX HA B7 B8;have hs_w93:=hE.size;replace b_B7:=bX3 B7;replace b_B8:=bX3 B8;clear S1 S2 S3 S4 S5 S6 S7 S8
  go_upto_region 16 with fail
  clear HA;have hB7:=b_B7.2.2;have hB8:=b_B8.2.2
  go_wp2_with fail
  refine cM (HRo.out _ HX.out) fun x136 w136 hE G136=>?_
  refine mV3 hE ?_ HX B7 B8;clear HX B7 B8;intro HX B7 B8;have hs_w136:=hE.size;replace b_B7:=bX3 B7;replace b_B8:=bX3 B8;obtain ⟨⟨⟨xa,xn,xc⟩,xy⟩,⟨qr,qd⟩⟩:=x136;obtain ⟨⟨Be,r1⟩,-,r2⟩:=G136.out;simp only at r1 r2;obtain ⟨B0,hB0⟩:∃ k,k=w93.heap.size:=⟨_,rfl⟩;rw [←hB0] at r1 hB7 hB8;clear hB0;have GQ:=Hi r1;have GZ:=Hi (Ap r2);have GS:=Hi (zZ.sz r2);clear r1 r2 G136
  go_wp2_with fail
  refine cM (Cw za zb _ a1 a2 b1 b2) fun x141 w141 hE G141=>?_
  refine mV4 hE ?_ HX B7 B8 GQ;clear HX B7 B8 GQ;intro HX B7 B8 GQ;have hs_w141:=hE.size;replace b_B7:=bX3 B7;replace b_B8:=bX3 B8;obtain ⟨⟨en,ea,el,ec,eb,em,ed⟩,⟨fn,fa,fl,fc,fb,fm,fd⟩⟩:=x141;have GE:=Hi G141.out.1;have GF:=Hi G141.out.2;clear G141;simp only at GE GF
  go_wp2_with fail
  refine cM (nJ za _ a1 a2) fun x143 w143 hE G143=>?_
  refine mV6 hE ?_ HX B7 B8 GQ GE GF;clear HX B7 B8 GQ GE GF;intro HX B7 B8 GQ GE GF;have hs_w143:=hE.size;replace b_B7:=bX3 B7;replace b_B8:=bX3 B8;obtain ⟨hn,ha,hl,hc,hb,hm,hd⟩:=x143
  go_upto_region 5 with fail
  refine xI B7.out rfl B8.out rfl hne ?_;intro w144 w145 T U;replace HX:=Hi (T.ext HX.out zo);replace B7:=Hi (T.bx);replace B8:=Hi (T.rest _ _ zo B8.out);replace GQ:=Hi (GQ.out.put T zo);replace GE:=Hi (GE.out.keep T.keep);replace GF:=Hi (GF.out.keep T.keep);replace G143:=Hi (G143.out.keep T.keep);have hs_w144:=nle T.size;have hr_w144:=nle T.size.symm;clear T;replace b_B7:=bX3 B7;replace b_B8:=bX3 B8;have T:=U;clear U;replace HX:=Hi (T.ext HX.out zo);replace B7:=Hi (T.rest _ _ zo B7.out);replace B8:=Hi (T.bx);replace GQ:=Hi (GQ.out.put T zo);replace GE:=Hi (GE.out.keep T.keep);replace GF:=Hi (GF.out.keep T.keep);replace G143:=Hi (G143.out.keep T.keep);have hs_w145:=nle T.size;have hr_w145:=nle T.size.symm;clear T;replace b_B7:=bX3 B7;replace b_B8:=bX3 B8;go_wp2
  go_roundg (gk-1)
  case measure=>omega
  case rel=>exact ⟨j+1,⟨xa,xn,xc⟩,⟨en,ea,el,ec,eb,em,ed⟩,⟨fn,fa,fl,fc,fb,fm,fd⟩,⟨hn,ha,hl,hc,hb,hm,hd⟩,qr,_,_,_,zo,by go_num,rfl,HX.out,⟨GQ.out.can.raw GS.out dZ,GE.out.raw (CD (dH za) (dH zb)) dZ,GF.out.raw (CI (dH za) (dH zb)) dZ,G143.out.raw (dH za) dZ⟩,⟨GZ.out,(CD (dH za) (dH zb)).mono dZ,(CI (dH za) (dH zb)).mono dZ,(dH za).mono dZ⟩,B7.out,B8.out⟩
end Go.Proofs.YtafgmcimcbhhjaaGreat
