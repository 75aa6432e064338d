/- Check of package bernstein. -/
import Derived.Test.YtpieblkklbilgaaGreatQKQL
import Derived.Test.YtpieblkklbilgaaGreatQKBnR
import Derived.Test.YtpieblkklbilgaaGreatQKBnE
import Derived.Test.YtpieblkklbilgaaGreatQKGU
import Derived.Test.YtpieblkklbilgaaGreatQKBn8
set_option linter.unusedVariables false
namespace Go.Proofs.YtpieblkklbilgaaGreat
open Go.RowKit Go.Front Go.Num Stab
attribute [local go_sem] XW.cell XW.frozen
theorem cmpR_eq0 {a b:Rat}:cmpR a b=0↔a=b:=by
 unfold cmpR
 constructor
 ·intro h
  split at h
  ·omega
  ·split at h
   ·assumption
   ·omega
 ·rintro rfl
  rw [if_neg (by grind),if_pos rfl]
theorem ps_lc {p:List Rat} (hp:p ≠ []) (a b:Rat):posL (lcW p a b)=psV p a b:=by rw [lc_bcL];exact posL_lc hp (lcK_pos p a b) a b
theorem ck_cons (p:List Rat) (q a b hi:Rat) (l:List (Rat × Rat)):ckV p q ((a,b) :: l) hi=(decide (a=q) && psV p a b && ckV p b l hi):=rfl
theorem ck_end {p:List Rat} {q v:Rat} {l:List (Rat × Rat)} {k:Nat} (h:l.length≤k):ckV p q (l.drop k) v=decide (q=v):=by rw [List.drop_eq_nil_of_le h];rfl
set_option maxRecDepth 8000 in
set_option maxHeartbeats 16000000 in
theorem bcheck_any (ao:Option Addr) (n cap:Nat) (l:List Rat) (s t:RH) (xo:Option Addr) (xn xc:Nat) (qs:List Rat) (a b:Rat) (S T:Nat) (w:World) (h:RawL w ⟨ao,n,cap⟩ l) (hs:RawR w s a) (ht:RawR w t b) (hx:RawIL w ⟨xo,xn,xc⟩ qs) (hn:n≤1000) (h8:(tz l).length≤8) (hz:SzL S (tz l)) (za:Sz T a) (zb:Sz T b) (zq:SzL T qs) (hS:S≤1000) (hT:T≤450) (hxm:xn≤1000000) :
  Does 26 [.slice ao n cap,SgV ((s,t),⟨xo,xn,xc⟩)] w (fun _:Unit=>.int .i64 (ckE (tz l) (loV a b) (hiV a b) (tps qs))) (fun _ _=>True):=by
 have HX:=Hi (Ext.refl w)
 have HS:=Hi hs
 have HT:=Hi ht
 have LA:=Hi h
 have LX:=Hi hx
 have ZA:=Hi (lo_sz za zb)
 have ZB:=Hi (hi_sz za zb)
 have HZ:=Hi hz
 have ZQ:=Hi zq
 have HQl:Hid (qs.length=xn * 2):=Hi hx.len
 have HTl:Hid ((tps qs).length=xn):=Hi (by rw [tps_len,hx.len];simp only;omega)
 clear h hs ht hx za zb hz zq
 obtain ⟨sn,sa,sl,sc,sb,sm',sd⟩:=s
 obtain ⟨tn,ta,tl,tc,tb,tm,td⟩:=t
 obtain ⟨N,hN⟩:∃ N,N=(tz l).length:=⟨_,rfl⟩
 have HN:=Hi hN
 obtain ⟨r,hr⟩:∃ r,r=ckE (tz l) (loV a b) (hiV a b) (tps qs):=⟨_,rfl⟩
 have HR:=Hi hr
 rw [← hr]
 clear hr
 unfold Does
 go_enter Tryz.func26,Tryz.ntmps26
 go_upto_region 1 with fail
 refine nm_alloc ?_
 intro w1 hE hB0 hz
 have hz_w1:=nle hz
 have hr_w1:=nle hz.symm
 clear hz
 replace HX:=hE.tr HX
 replace HS:=Hi (HS.out.ext hE)
 replace HT:=Hi (HT.out.ext hE)
 replace LA:=Hi (LA.out.ext hE)
 replace LX:=Hi (LX.out.ext hE)
 have hs_w1:=hE.size
 clear hE
 have B3:=Hi hB0
 clear hB0
 obtain ⟨c_B3,f_B3,l_B3⟩:=blk3 B3.out
 go_wp2_with fail
 refine Calls.mono (pdegree_any ao n cap l _ LA.out) ?_
 rintro e w14 ⟨x14,rfl,hE,-⟩
 replace HX:=hE.tr HX
 replace HS:=Hi (HS.out.ext hE)
 replace HT:=Hi (HT.out.ext hE)
 replace LA:=Hi (LA.out.ext hE)
 replace LX:=Hi (LX.out.ext hE)
 replace B3:=hE.bl B3
 have hs_w14:=hE.size
 clear hE
 try clear c_B3 f_B3 l_B3
 obtain ⟨c_B3,f_B3,l_B3⟩:=blk3 B3.out
 rw [← hN]
 have hd1:¬ (48:Int) < (N:Int) - 1:=by omega
 clear hN
 by_cases h0:N=0
 case pos =>
  subst h0
  have hd2:((0:Nat):Int) - 1 < 0:=by decide
  have HV:Hid (r=22):=Hi (by rw [HR.out,List.length_eq_zero_iff.1 HN.out.symm,ckE_zero])
  go_wp2
  go_ret
  exact ⟨(),by rw [HV.out];rfl,HX.out,trivial⟩
 have hd2:¬ (N:Int) - 1 < 0:=by omega
 have HP0:Hid (tz l ≠ []):=Hi (fun e=>h0 (by rw [HN.out,e];rfl))
 by_cases hx0:xn=0
 case pos =>
  subst hx0
  have HV:Hid (r=22):=Hi (by rw [HR.out,List.length_eq_zero_iff.1 HTl.out,ckE_nil])
  go_wp2
  go_ret
  exact ⟨(),by rw [HV.out];rfl,HX.out,trivial⟩
 have hxb:((xn:Int) == 0)=false:=by rw [beq_eq_false_iff_ne];omega
 go_wp2_with fail
 refine Calls.mono (ivtrim_any ⟨sn,sa,sl,sc,sb,sm',sd⟩ ⟨tn,ta,tl,tc,tb,tm,td⟩ a b _ HS.out HT.out) ?_
 rintro e w29 ⟨x29,rfl,hE,g29⟩
 have G29:=Hi g29
 clear g29
 replace HX:=hE.tr HX
 replace HS:=Hi (HS.out.ext hE)
 replace HT:=Hi (HT.out.ext hE)
 replace LA:=Hi (LA.out.ext hE)
 replace LX:=Hi (LX.out.ext hE)
 replace B3:=hE.bl B3
 have hs_w29:=hE.size
 clear hE
 try clear c_B3 f_B3 l_B3
 obtain ⟨c_B3,f_B3,l_B3⟩:=blk3 B3.out
 obtain ⟨⟨ln,la,ll,lc,lb,lm,ld⟩,⟨hn',ha,hl,hcc,hb,hm,hd⟩⟩:=x29
 have HL:=Hi G29.out.1
 have HH:=Hi G29.out.2
 clear G29
 simp only at HL HH
 clear HS
 clear HT
 obtain ⟨u,hu⟩:∃ u,u=loV a b:=⟨_,rfl⟩
 obtain ⟨v,hv⟩:∃ v,v=hiV a b:=⟨_,rfl⟩
 rw [← hu] at HL ZA HR
 rw [← hv] at HH ZB HR
 clear hu hv
 have LA9:=LA
 have LX9:=LX
 have HH9:=HH
 have HL9:=HL
 have HX9:=HX
 have hXn:Ext w29 w29:=Ext.refl w29
 have HXn:=Hi hXn
 clear hXn
 go_upto_region 8 with fail
 refine nm_alloc2 ?_
 intro w30 hE hB0 hB1 hz
 have hz_w30:=nle hz
 have hr_w30:=nle hz.symm
 clear hz
 replace HX:=hE.tr HX
 replace LA:=Hi (LA.out.ext hE)
 replace LX:=Hi (LX.out.ext hE)
 replace B3:=hE.bl B3
 replace HL:=Hi (HL.out.ext hE)
 replace HH:=Hi (HH.out.ext hE)
 replace HXn:=hE.tr HXn
 have hs_w30:=hE.size
 clear hE
 try clear c_B3 f_B3 l_B3
 obtain ⟨c_B3,f_B3,l_B3⟩:=blk3 B3.out
 have B6:=Hi hB0
 clear hB0
 obtain ⟨c_B6,f_B6,l_B6⟩:=blk3 B6.out
 have B7:=Hi hB1
 clear hB1
 obtain ⟨c_B7,f_B7,l_B7⟩:=blk3 B7.out
 obtain ⟨b6,hb6⟩:∃ x,x=w29.heap.size:=⟨_,rfl⟩
 obtain ⟨b7,hb7⟩:∃ x,x=w29.heap.size+1:=⟨_,rfl⟩
 have q6:w29.heap.size≤b6:=by omega
 have q7w:w.heap.size≤b7:=by omega
 have q7:w29.heap.size≤b7:=by omega
 have n67:b6 ≠ b7:=by omega
 rw [← hb7] at B7
 rw [← hb6] at B6
 rw [← hb7,← hb6]
 have hCK:ckV (tz l) u (tps qs) v=ckV (tz l) u ((tps qs).drop 0) v:=rfl
 have HCK0:=Hi hCK
 have hne:tps qs ≠ []:=fun e=>by have:=HTl.out;rw [e] at this;exact hx0 this.symm
 have HNE:=Hi hne
 clear hCK hne hb6 hb7 c_B6 f_B6 l_B6 c_B7 f_B7 l_B7
 go_wp2
 go_loopg [35] xn (fun g i wr=>∃ (j:Nat) (e:RH) (q:Rat),j+g=xn∧i=.int .i64 (j:Nat)∧Ext w29 wr∧wr.heap[b6]?=some (.cells #[.bool ln,.slice la ll lc,.slice lb lm ld,.bool hn',.slice ha hl hcc,.slice hb hm hd] 44 (0,0))∧wr.heap[b7]?=some (.cells #[.bool e.neg,.slice e.a e.n e.c,.slice e.b e.m e.d] 30 (0,0))∧CanR wr e q∧Sz T q∧ckV (tz l) u (tps qs) v=ckV (tz l) q ((tps qs).drop j) v)
 case atStart=>exact ⟨0,⟨ln,la,ll,lc,lb,lm,ld⟩,u,by omega,rfl,HXn.out,B6.out,B7.out,HL.out,ZA.out,HCK0.out⟩
 case round =>
  obtain ⟨j,⟨en,ea,el,ec,eb,em,ed⟩,q,hj,rfl,g1,g2,g3,g4,g5,g6⟩:=hrel
  clear HXn B6 B7 HL HH HCK0 HX LA LX
  have HXn:=Hi g1
  have B6:=Hi g2
  have B7:=Hi g3
  have GE:=Hi g4
  have ZE:=Hi g5
  have HCK:=Hi g6
  have HX:=Hi (HX9.out.trans g1)
  have LA:=Hi (LA9.out.ext g1)
  have LX:=Hi (LX9.out.ext g1)
  have HH:=Hi (HH9.out.ext g1)
  clear g1 g2 g3 g4 g5 g6
  simp only at B7
  try clear c_B6 f_B6 l_B6
  obtain ⟨c_B6,f_B6,l_B6⟩:=blk3 B6.out
  try clear c_B7 f_B7 l_B7
  obtain ⟨c_B7,f_B7,l_B7⟩:=blk3 B7.out
  have p7:b7 < wr.heap.size:=l_B7
  by_cases h1:gk=0
  case pos =>
   subst h1
   obtain rfl:j=xn:=by omega
   have hin:¬ (j:Int) < (j:Int):=by omega
   rw [ck_end (by rw [HTl.out];exact Nat.le_refl _)] at HCK
   go_wp2_with fail
   refine Calls.mono (rcmp_any ⟨en,ea,el,ec,eb,em,ed⟩ ⟨hn',ha,hl,hcc,hb,hm,hd⟩ q v _ (GE.out.raw ZE.out (by omega)) (HH.out.raw ZB.out (by omega))) ?_
   rintro e w61 ⟨x61,rfl,hE,-⟩
   replace HX:=hE.tr HX
   replace HXn:=hE.tr HXn
   replace B6:=hE.bl B6
   replace B7:=hE.bl B7
   replace GE:=Hi (GE.out.ext hE)
   replace HH:=Hi (HH.out.ext hE)
   replace LA:=Hi (LA.out.ext hE)
   replace LX:=Hi (LX.out.ext hE)
   have hs_w61:=hE.size
   clear hE
   try clear c_B6 f_B6 l_B6
   obtain ⟨c_B6,f_B6,l_B6⟩:=blk3 B6.out
   try clear c_B7 f_B7 l_B7
   obtain ⟨c_B7,f_B7,l_B7⟩:=blk3 B7.out
   by_cases h2:q=v
   case pos =>
    have HV:Hid (r=0):=Hi (by rw [HR.out];exact ck_yes HNE.out (by rw [HCK.out];exact decide_eq_true h2))
    rw [cmpR_eq0.2 h2]
    clear h2
    go_wp2
    go_ret
    exact ⟨(),by rw [HV.out];rfl,HX.out,trivial⟩
   have HV:Hid (r=22):=Hi (by rw [HR.out];exact ck_no (by rw [HCK.out];exact decide_eq_false h2))
   have hc:¬ cmpR q v=0:=fun h=>h2 (cmpR_eq0.1 h)
   obtain ⟨c,e⟩:∃ c,c=cmpR q v:=⟨_,rfl⟩
   rw [← e] at hc ⊢
   have hcb:(c == 0)=false:=by rw [beq_eq_false_iff_ne];exact hc
   clear e h2
   go_wp2
   go_ret
   exact ⟨(),by rw [HV.out];rfl,HX.out,trivial⟩
  have hin:(j:Int) < xn:=by omega
  obtain ⟨bw,off,r1,t1,hao,hbl,⟨f1,f2,f3,f4,f5,f6⟩,R1,R2⟩:=LX.out.at (k:=j) (by omega)
  have Zx1:=Hi (ZQ.out.at (i:=2 * j) (by rw [HQl.out];omega))
  have Zx2:=Hi (ZQ.out.at (i:=2 * j+1) (by rw [HQl.out];omega))
  rw [tps_drop (by rw [HQl.out];omega)] at HCK
  obtain ⟨x1,hx1⟩:∃ x,x=qs.getD (2 * j) 0:=⟨_,rfl⟩
  obtain ⟨x2,hx2⟩:∃ x,x=qs.getD (2 * j+1) 0:=⟨_,rfl⟩
  rw [← hx1] at R1 Zx1 HCK
  rw [← hx2] at R2 Zx2 HCK
  obtain ⟨rn,ra,rl,rc,rb,rm,rd⟩:=r1
  obtain ⟨kn,ka,kl,kc,kb,km,kd⟩:=t1
  simp only at f1 f2 f3 f4 f5 f6
  have RP:=Hi R1
  have RK:=Hi R2
  subst hao
  clear R1 R2 hx1 hx2
  go_upto_region 11 with fail
  refine nm_alloc ?_
  intro w40 hE hB0 hz
  have hz_w40:=nle hz
  have hr_w40:=nle hz.symm
  clear hz
  replace HX:=hE.tr HX
  replace HXn:=hE.tr HXn
  replace B6:=hE.bl B6
  replace B7:=hE.bl B7
  replace GE:=Hi (GE.out.ext hE)
  replace HH:=Hi (HH.out.ext hE)
  replace LA:=Hi (LA.out.ext hE)
  replace LX:=Hi (LX.out.ext hE)
  replace RP:=Hi (RP.out.ext hE)
  replace RK:=Hi (RK.out.ext hE)
  have hs_w40:=hE.size
  clear hE
  try clear c_B6 f_B6 l_B6
  obtain ⟨c_B6,f_B6,l_B6⟩:=blk3 B6.out
  try clear c_B7 f_B7 l_B7
  obtain ⟨c_B7,f_B7,l_B7⟩:=blk3 B7.out
  have B9:=Hi hB0
  clear hB0
  obtain ⟨c_B9,f_B9,l_B9⟩:=blk3 B9.out
  clear f1 f2 f3 f4 f5 f6
  go_wp2_with fail
  refine Calls.mono (ivtrim_any ⟨rn,ra,rl,rc,rb,rm,rd⟩ ⟨kn,ka,kl,kc,kb,km,kd⟩ x1 x2 _ RP.out RK.out) ?_
  rintro e w41 ⟨x41,rfl,hE,g41⟩
  have G41:=Hi g41
  clear g41
  replace HX:=hE.tr HX
  replace HXn:=hE.tr HXn
  replace B6:=hE.bl B6
  replace B7:=hE.bl B7
  replace GE:=Hi (GE.out.ext hE)
  replace HH:=Hi (HH.out.ext hE)
  replace LA:=Hi (LA.out.ext hE)
  replace LX:=Hi (LX.out.ext hE)
  replace RP:=Hi (RP.out.ext hE)
  replace RK:=Hi (RK.out.ext hE)
  replace B9:=hE.bl B9
  have hs_w41:=hE.size
  clear hE
  try clear c_B6 f_B6 l_B6
  obtain ⟨c_B6,f_B6,l_B6⟩:=blk3 B6.out
  try clear c_B7 f_B7 l_B7
  obtain ⟨c_B7,f_B7,l_B7⟩:=blk3 B7.out
  try clear c_B9 f_B9 l_B9
  obtain ⟨c_B9,f_B9,l_B9⟩:=blk3 B9.out
  obtain ⟨⟨cn,ca,cl,cc,cb,cm,cd⟩,⟨dn,da,dl,dc,db,dm,dd⟩⟩:=x41
  have HC:=Hi G41.out.1
  have HD:=Hi G41.out.2
  clear G41
  simp only at HC HD
  clear RP
  clear RK
  have ZC:=Hi (lo_sz Zx1.out Zx2.out)
  have ZD:=Hi (hi_sz Zx1.out Zx2.out)
  have hcd:=lo_hi x1 x2
  obtain ⟨c1,hc1⟩:∃ c,c=loV x1 x2:=⟨_,rfl⟩
  obtain ⟨d1,hd1'⟩:∃ c,c=hiV x1 x2:=⟨_,rfl⟩
  rw [← hc1,← hd1'] at HCK hcd
  rw [← hc1] at HC ZC
  rw [← hd1'] at HD ZD
  have HCD:=Hi hcd
  clear hc1 hd1' hcd
  go_upto_region 12 with fail
  refine nm_alloc ?_
  intro w42 hE hB0 hz
  have hz_w42:=nle hz
  have hr_w42:=nle hz.symm
  clear hz
  replace HX:=hE.tr HX
  replace HXn:=hE.tr HXn
  replace B6:=hE.bl B6
  replace B7:=hE.bl B7
  replace GE:=Hi (GE.out.ext hE)
  replace HH:=Hi (HH.out.ext hE)
  replace LA:=Hi (LA.out.ext hE)
  replace LX:=Hi (LX.out.ext hE)
  replace B9:=hE.bl B9
  replace HC:=Hi (HC.out.ext hE)
  replace HD:=Hi (HD.out.ext hE)
  have hs_w42:=hE.size
  clear hE
  try clear c_B6 f_B6 l_B6
  obtain ⟨c_B6,f_B6,l_B6⟩:=blk3 B6.out
  try clear c_B7 f_B7 l_B7
  obtain ⟨c_B7,f_B7,l_B7⟩:=blk3 B7.out
  try clear c_B9 f_B9 l_B9
  obtain ⟨c_B9,f_B9,l_B9⟩:=blk3 B9.out
  have B10:=Hi hB0
  clear hB0
  obtain ⟨c_B10,f_B10,l_B10⟩:=blk3 B10.out
  go_wp2_with fail
  refine Calls.mono (rcmp_any ⟨cn,ca,cl,cc,cb,cm,cd⟩ ⟨en,ea,el,ec,eb,em,ed⟩ c1 q _ (HC.out.raw ZC.out (by omega)) (GE.out.raw ZE.out (by omega))) ?_
  rintro e w44 ⟨x44,rfl,hE,-⟩
  replace HX:=hE.tr HX
  replace HXn:=hE.tr HXn
  replace B6:=hE.bl B6
  replace B7:=hE.bl B7
  replace GE:=Hi (GE.out.ext hE)
  replace HH:=Hi (HH.out.ext hE)
  replace LA:=Hi (LA.out.ext hE)
  replace LX:=Hi (LX.out.ext hE)
  replace B9:=hE.bl B9
  replace HC:=Hi (HC.out.ext hE)
  replace HD:=Hi (HD.out.ext hE)
  replace B10:=hE.bl B10
  have hs_w44:=hE.size
  clear hE
  try clear c_B6 f_B6 l_B6
  obtain ⟨c_B6,f_B6,l_B6⟩:=blk3 B6.out
  try clear c_B7 f_B7 l_B7
  obtain ⟨c_B7,f_B7,l_B7⟩:=blk3 B7.out
  try clear c_B9 f_B9 l_B9
  obtain ⟨c_B9,f_B9,l_B9⟩:=blk3 B9.out
  try clear c_B10 f_B10 l_B10
  obtain ⟨c_B10,f_B10,l_B10⟩:=blk3 B10.out
  by_cases h2:c1=q
  case neg =>
   have HV:Hid (r=22):=Hi (by rw [HR.out];exact ck_no (by rw [HCK.out,ck_cons,decide_eq_false h2];rfl))
   have hc:¬ cmpR c1 q=0:=fun h=>h2 (cmpR_eq0.1 h)
   obtain ⟨c,e⟩:∃ c,c=cmpR c1 q:=⟨_,rfl⟩
   rw [← e] at hc ⊢
   have hcb:(c == 0)=false:=by rw [beq_eq_false_iff_ne];exact hc
   clear e h2
   go_wp2
   go_ret
   exact ⟨(),by rw [HV.out];rfl,HX.out,trivial⟩
  have HCK2:Hid (ckV (tz l) u (tps qs) v=(psV (tz l) c1 d1 && ckV (tz l) d1 ((tps qs).drop (j+1)) v)):=Hi (by rw [HCK.out,ck_cons,decide_eq_true h2,Bool.true_and])
  rw [cmpR_eq0.2 h2]
  clear h2 HCK
  go_wp2_with fail
  refine Calls.mono ((by have h:=blocal_all ao n cap l ⟨cn,ca,cl,cc,cb,cm,cd⟩ ⟨dn,da,dl,dc,db,dm,dd⟩ c1 d1 S T _ LA.out (HC.out.raw ZC.out (by omega)) (HD.out.raw ZD.out (by omega)) hn h8 HZ.out ZC.out ZD.out hS hT;rw [lo_of HCD.out,hi_of HCD.out] at h;exact h)) ?_
  rintro e w49 ⟨x49,rfl,hE,g49⟩
  have G49:=Hi g49
  clear g49
  replace HX:=hE.tr HX
  replace HXn:=hE.tr HXn
  replace B6:=hE.bl B6
  replace B7:=hE.bl B7
  replace GE:=Hi (GE.out.ext hE)
  replace HH:=Hi (HH.out.ext hE)
  replace LA:=Hi (LA.out.ext hE)
  replace LX:=Hi (LX.out.ext hE)
  replace B9:=hE.bl B9
  replace HC:=Hi (HC.out.ext hE)
  replace HD:=Hi (HD.out.ext hE)
  replace B10:=hE.bl B10
  have hs_w49:=hE.size
  clear hE
  try clear c_B6 f_B6 l_B6
  obtain ⟨c_B6,f_B6,l_B6⟩:=blk3 B6.out
  try clear c_B7 f_B7 l_B7
  obtain ⟨c_B7,f_B7,l_B7⟩:=blk3 B7.out
  try clear c_B9 f_B9 l_B9
  obtain ⟨c_B9,f_B9,l_B9⟩:=blk3 B9.out
  try clear c_B10 f_B10 l_B10
  obtain ⟨c_B10,f_B10,l_B10⟩:=blk3 B10.out
  obtain ⟨⟨ya,yn,yc⟩,⟨zn,za,zl,zc,zb,zm,zd⟩⟩:=x49
  have LY:=Hi G49.out.1.can
  clear G49
  simp only at LY
  have hyn:yn≤8:=by have:=LY.out.len;rw [lc_len] at this;simp only at this;omega
  have HWZ:Hid (SzL (9 * S+80 * T+76) (lcW (tz l) c1 d1)):=Hi (fun x hx=>(lcW_wz HZ.out h8 ZC.out ZD.out HCD.out x hx).sz (by omega))
  have HPS:=Hi (ps_lc HP0.out c1 d1)
  go_upto_region 15 with fail
  refine nm_alloc ?_
  intro w50 hE hB0 hz
  have hz_w50:=nle hz
  have hr_w50:=nle hz.symm
  clear hz
  replace HX:=hE.tr HX
  replace HXn:=hE.tr HXn
  replace B6:=hE.bl B6
  replace B7:=hE.bl B7
  replace GE:=Hi (GE.out.ext hE)
  replace HH:=Hi (HH.out.ext hE)
  replace LA:=Hi (LA.out.ext hE)
  replace LX:=Hi (LX.out.ext hE)
  replace B9:=hE.bl B9
  replace HC:=Hi (HC.out.ext hE)
  replace HD:=Hi (HD.out.ext hE)
  replace B10:=hE.bl B10
  replace LY:=Hi (LY.out.ext hE)
  have hs_w50:=hE.size
  clear hE
  try clear c_B6 f_B6 l_B6
  obtain ⟨c_B6,f_B6,l_B6⟩:=blk3 B6.out
  try clear c_B7 f_B7 l_B7
  obtain ⟨c_B7,f_B7,l_B7⟩:=blk3 B7.out
  try clear c_B9 f_B9 l_B9
  obtain ⟨c_B9,f_B9,l_B9⟩:=blk3 B9.out
  try clear c_B10 f_B10 l_B10
  obtain ⟨c_B10,f_B10,l_B10⟩:=blk3 B10.out
  have B12:=Hi hB0
  clear hB0
  obtain ⟨c_B12,f_B12,l_B12⟩:=blk3 B12.out
  go_wp2_with fail
  refine Calls.mono (bpos_any ya yn yc _ (9 * S+80 * T+76) _ LY.out (by omega) HWZ.out (by omega)) ?_
  rintro e w53 ⟨x53,rfl,hE,-⟩
  replace HX:=hE.tr HX
  replace HXn:=hE.tr HXn
  replace B6:=hE.bl B6
  replace B7:=hE.bl B7
  replace GE:=Hi (GE.out.ext hE)
  replace HH:=Hi (HH.out.ext hE)
  replace LA:=Hi (LA.out.ext hE)
  replace LX:=Hi (LX.out.ext hE)
  replace B9:=hE.bl B9
  replace HC:=Hi (HC.out.ext hE)
  replace HD:=Hi (HD.out.ext hE)
  replace B10:=hE.bl B10
  replace LY:=Hi (LY.out.ext hE)
  replace B12:=hE.bl B12
  have hs_w53:=hE.size
  clear hE
  try clear c_B6 f_B6 l_B6
  obtain ⟨c_B6,f_B6,l_B6⟩:=blk3 B6.out
  try clear c_B7 f_B7 l_B7
  obtain ⟨c_B7,f_B7,l_B7⟩:=blk3 B7.out
  try clear c_B9 f_B9 l_B9
  obtain ⟨c_B9,f_B9,l_B9⟩:=blk3 B9.out
  try clear c_B10 f_B10 l_B10
  obtain ⟨c_B10,f_B10,l_B10⟩:=blk3 B10.out
  try clear c_B12 f_B12 l_B12
  obtain ⟨c_B12,f_B12,l_B12⟩:=blk3 B12.out
  rw [HPS.out]
  obtain ⟨pv,hpv⟩:∃ pv,pv=psV (tz l) c1 d1:=⟨_,rfl⟩
  rw [← hpv] at HCK2 ⊢
  clear hpv HPS
  cases pv with
  | false =>
   have HV:Hid (r=22):=Hi (by rw [HR.out];exact ck_no (by rw [HCK2.out];rfl))
   go_wp2
   go_ret
   exact ⟨(),by rw [HV.out];rfl,HX.out,trivial⟩
  | true =>
  clear LA
  clear LX
  clear LY
  go_upto_region 18 with fail
  refine nm_set3 B7.out rfl ?_
  intro w60 T
  replace HX:=Hi (T.ext HX.out (by omega))
  replace HXn:=Hi (T.ext HXn.out (by omega))
  replace B6:=Hi (T.rest _ _ (by omega) B6.out)
  replace B7:=Hi (T.bx)
  replace GE:=Hi (GE.out.keep T.keep)
  replace HH:=Hi (HH.out.keep T.keep)
  replace B9:=Hi (T.rest _ _ (by omega) B9.out)
  replace HC:=Hi (HC.out.keep T.keep)
  replace HD:=Hi (HD.out.keep T.keep)
  replace B10:=Hi (T.rest _ _ (by omega) B10.out)
  replace B12:=Hi (T.rest _ _ (by omega) B12.out)
  have hs_w60:=nle T.size
  have hr_w60:=nle T.size.symm
  clear T
  try clear c_B6 f_B6 l_B6
  obtain ⟨c_B6,f_B6,l_B6⟩:=blk3 B6.out
  try clear c_B7 f_B7 l_B7
  obtain ⟨c_B7,f_B7,l_B7⟩:=blk3 B7.out
  try clear c_B9 f_B9 l_B9
  obtain ⟨c_B9,f_B9,l_B9⟩:=blk3 B9.out
  try clear c_B10 f_B10 l_B10
  obtain ⟨c_B10,f_B10,l_B10⟩:=blk3 B10.out
  try clear c_B12 f_B12 l_B12
  obtain ⟨c_B12,f_B12,l_B12⟩:=blk3 B12.out
  go_wp2
  go_roundg (gk - 1)
  case measure=>omega
  case rel=>exact ⟨j+1,⟨dn,da,dl,dc,db,dm,dd⟩,d1,by omega,by go_num,HXn.out,B6.out,B7.out,HD.out,ZD.out,by rw [HCK2.out,Bool.true_and]⟩
end Go.Proofs.YtpieblkklbilgaaGreat
/- Check of the reference 07. -/
set_option linter.unusedVariables false
namespace Go.Proofs.YtpieblkklbilgaaGreat
open Go.RowKit Go.Front Go.Num Stab
attribute [local go_sem] XW.cell XW.frozen run_field_lo run_field_hi
theorem nm_drewD {w:World} {k:Nat} {F:World→Prop} (h:∀ w2,Ext w w2→F w2):F (w.drewN k):=h _ (Ext.drewN _ _)
set_option maxRecDepth 8000 in
set_option maxHeartbeats 16000000 in
theorem rcheck7_any (ao:Option Addr) (n cap:Nat) (l:List Rat) (s t:RH) (xo:Option Addr) (xn xc:Nat) (qs:List Rat) (a b:Rat) (S T:Nat) (w:World) (h:RawL w ⟨ao,n,cap⟩ l) (hs:RawR w s a) (ht:RawR w t b) (hx:RawIL w ⟨xo,xn,xc⟩ qs) (hn:n≤1000) (h8:(tz l).length≤8) (hz:FrB S (tz l)) (za:Sz T a) (zb:Sz T b) (zq:SzL T qs) (hS:S≤100) (hT1:1≤T) (hT:T≤60) (hxm:xn≤1000000) :
  Does 32 [.slice ao n cap,SgV ((s,t),⟨xo,xn,xc⟩)] w (fun _:Unit=>.int .i64 (ckE (tz l) (loV a b) (hiV a b) (tps qs))) (fun _ _=>True):=by
 have HX:=Hi (Ext.refl w)
 have HS:=Hi hs
 have HT:=Hi ht
 have LA:=Hi h
 have LX:=Hi hx
 have ZA:=Hi (lo_sz za zb)
 have ZB:=Hi (hi_sz za zb)
 have HZ:=Hi hz
 have ZQ:=Hi zq
 have HQl:Hid (qs.length=xn * 2):=Hi hx.len
 have HTl:Hid ((tps qs).length=xn):=Hi (by rw [tps_len,hx.len];simp only;omega)
 clear h hs ht hx za zb hz zq
 obtain ⟨sn,sa,sl,sc,sb,sm',sd⟩:=s
 obtain ⟨tn,ta,tl,tc,tb,tm,td⟩:=t
 obtain ⟨N,hN⟩:∃ N,N=(tz l).length:=⟨_,rfl⟩
 obtain ⟨r,hr⟩:∃ r,r=ckE (tz l) (loV a b) (hiV a b) (tps qs):=⟨_,rfl⟩
 have HR:=Hi hr
 rw [← hr]
 clear hr
 unfold Does
 go_enter Tryz.func32,Tryz.ntmps32
 go_upto_region 1 with fail
 refine nm_alloc ?_
 intro w1 hE hB0 hz
 have hz_w1:=nle hz
 have hr_w1:=nle hz.symm
 clear hz
 replace HX:=hE.tr HX
 replace HS:=Hi (HS.out.ext hE)
 replace HT:=Hi (HT.out.ext hE)
 replace LA:=Hi (LA.out.ext hE)
 replace LX:=Hi (LX.out.ext hE)
 have hs_w1:=hE.size
 clear hE
 have B3:=Hi hB0
 clear hB0
 obtain ⟨c_B3,f_B3,l_B3⟩:=blk3 B3.out
 go_wp2_with fail
 refine Calls.mono (degree5_any ao n cap l _ LA.out (by omega)) ?_
 rintro e w9 ⟨x9,rfl,hE,-⟩
 replace HX:=hE.tr HX
 replace HS:=Hi (HS.out.ext hE)
 replace HT:=Hi (HT.out.ext hE)
 replace LA:=Hi (LA.out.ext hE)
 replace LX:=Hi (LX.out.ext hE)
 replace B3:=hE.bl B3
 have hs_w9:=hE.size
 clear hE
 try clear c_B3 f_B3 l_B3
 obtain ⟨c_B3,f_B3,l_B3⟩:=blk3 B3.out
 rw [← hN]
 have hd1:¬ (48:Int) < (N:Int) - 1:=by omega
 clear hN
 go_wp2_with fail
 refine Calls.mono (ivtrim4_any ⟨sn,sa,sl,sc,sb,sm',sd⟩ ⟨tn,ta,tl,tc,tb,tm,td⟩ a b _ HS.out HT.out) ?_
 rintro e w13 ⟨x13,rfl,hE,g13⟩
 have G13:=Hi g13
 clear g13
 replace HX:=hE.tr HX
 replace HS:=Hi (HS.out.ext hE)
 replace HT:=Hi (HT.out.ext hE)
 replace LA:=Hi (LA.out.ext hE)
 replace LX:=Hi (LX.out.ext hE)
 replace B3:=hE.bl B3
 have hs_w13:=hE.size
 clear hE
 try clear c_B3 f_B3 l_B3
 obtain ⟨c_B3,f_B3,l_B3⟩:=blk3 B3.out
 obtain ⟨⟨ln,la,ll,lc,lb,lm,ld⟩,⟨hn',ha,hl,hcc,hb,hm,hd⟩⟩:=x13
 have HL:=Hi G13.out.1
 clear G13
 simp only at HL
 obtain ⟨u,hu⟩:∃ u,u=loV a b:=⟨_,rfl⟩
 obtain ⟨v,hv⟩:∃ v,v=hiV a b:=⟨_,rfl⟩
 have HVE:=Hi hv
 rw [← hu] at HL ZA HR
 rw [← hv] at ZB HR
 clear hu hv
 have LA9:=LA
 have LX9:=LX
 have HS9:=HS
 have HT9:=HT
 have HX9:=HX
 have B39:=B3
 have hXn:Ext w13 w13:=Ext.refl w13
 have HXn:=Hi hXn
 have p3:w.heap.size < w13.heap.size:=l_B3
 clear hXn
 go_upto_region 4 with fail
 refine nm_alloc ?_
 intro w30 hE hB0 hz
 have hz_w30:=nle hz
 have hr_w30:=nle hz.symm
 clear hz
 replace HX:=hE.tr HX
 replace HS:=Hi (HS.out.ext hE)
 replace HT:=Hi (HT.out.ext hE)
 replace LA:=Hi (LA.out.ext hE)
 replace LX:=Hi (LX.out.ext hE)
 replace B3:=hE.bl B3
 replace HL:=Hi (HL.out.ext hE)
 replace HXn:=hE.tr HXn
 have hs_w30:=hE.size
 clear hE
 try clear c_B3 f_B3 l_B3
 obtain ⟨c_B3,f_B3,l_B3⟩:=blk3 B3.out
 have B5:=Hi hB0
 clear hB0
 obtain ⟨c_B5,f_B5,l_B5⟩:=blk3 B5.out
 obtain ⟨b3,hb3⟩:∃ x,x=w.heap.size:=⟨_,rfl⟩
 obtain ⟨b5,hb5⟩:∃ x,x=w13.heap.size:=⟨_,rfl⟩
 have q5:w13.heap.size≤b5:=by omega
 have q5w:w.heap.size≤b5:=by omega
 have n35:b3 ≠ b5:=by omega
 have p3b:b3 < w13.heap.size:=by omega
 rw [← hb5] at B5
 rw [← hb3] at B3 B39
 rw [← hb5,← hb3]
 have hCK:ckV (tz l) u (tps qs) v=ckV (tz l) u ((tps qs).drop 0) v:=rfl
 have HCK0:=Hi hCK
 clear hCK hb3 hb5 c_B3 f_B3 l_B3 c_B5 f_B5 l_B5
 try clear c_B3 f_B3 l_B3
 obtain ⟨c_B3,f_B3,l_B3⟩:=blk3 B3.out
 try clear c_B5 f_B5 l_B5
 obtain ⟨c_B5,f_B5,l_B5⟩:=blk3 B5.out
 go_wp2
 go_loopg [18] xn (fun g i wr=>∃ (j:Nat) (e:RH) (q:Rat),j+g=xn∧i=.int .i64 (j:Nat)∧Ext w13 wr∧wr.heap[b5]?=some (.cells #[.bool e.neg,.slice e.a e.n e.c,.slice e.b e.m e.d] 30 (0,0))∧CanR wr e q∧Sz T q∧ckV (tz l) u (tps qs) v=ckV (tz l) q ((tps qs).drop j) v)
 case atStart=>exact ⟨0,⟨ln,la,ll,lc,lb,lm,ld⟩,u,by omega,rfl,HXn.out,B5.out,HL.out,ZA.out,HCK0.out⟩
 case round =>
  obtain ⟨j,⟨en,ea,el,ec,eb,em,ed⟩,q,hj,rfl,g1,g3,g4,g5,g6⟩:=hrel
  clear HXn B3 B5 HL HCK0 HX LA LX HS HT c_B3 f_B3 l_B3 c_B5 f_B5 l_B5
  have HXn:=Hi g1
  have B3:=Hi (g1.block B39.out)
  have B5:=Hi g3
  have GE:=Hi g4
  have ZE:=Hi g5
  have HCK:=Hi g6
  have HX:=Hi (HX9.out.trans g1)
  have LA:=Hi (LA9.out.ext g1)
  have LX:=Hi (LX9.out.ext g1)
  have HS:=Hi (HS9.out.ext g1)
  have HT:=Hi (HT9.out.ext g1)
  clear g1 g3 g4 g5 g6
  simp only at B5
  try clear c_B3 f_B3 l_B3
  obtain ⟨c_B3,f_B3,l_B3⟩:=blk3 B3.out
  try clear c_B5 f_B5 l_B5
  obtain ⟨c_B5,f_B5,l_B5⟩:=blk3 B5.out
  have p5:b5 < wr.heap.size:=l_B5
  by_cases h1:gk=0
  case pos =>
   subst h1
   obtain rfl:j=xn:=by omega
   have hin:¬ (j:Int) < (j:Int):=by omega
   rw [ck_end (by rw [HTl.out];exact Nat.le_refl _)] at HCK
   by_cases hx0:j=0
   case pos =>
    subst hx0
    have HV:Hid (r=22):=Hi (by rw [HR.out,List.length_eq_zero_iff.1 HTl.out,ckE_nil])
    go_upto_region 12 with fail
    go_quiet (fail)
    refine nm_drewD ?_
    intro w48 hE
    replace HX:=hE.tr HX
    replace HXn:=hE.tr HXn
    replace B3:=hE.bl B3
    replace B5:=hE.bl B5
    replace GE:=Hi (GE.out.ext hE)
    replace HS:=Hi (HS.out.ext hE)
    replace HT:=Hi (HT.out.ext hE)
    replace LA:=Hi (LA.out.ext hE)
    replace LX:=Hi (LX.out.ext hE)
    have hs_w48:=hE.size
    clear hE
    try clear c_B3 f_B3 l_B3
    obtain ⟨c_B3,f_B3,l_B3⟩:=blk3 B3.out
    try clear c_B5 f_B5 l_B5
    obtain ⟨c_B5,f_B5,l_B5⟩:=blk3 B5.out
    go_wp2
    go_ret
    exact ⟨(),by rw [HV.out];rfl,HX.out,trivial⟩
   have hxb:((j:Int) == 0)=false:=by rw [beq_eq_false_iff_ne];omega
   have HNE:Hid (tps qs ≠ []):=Hi (fun e=>by have:=HTl.out;rw [e] at this;exact hx0 this.symm)
   by_cases h2:q=v
   case pos =>
    have HV:Hid (r=0):=Hi (by rw [HR.out];exact ck_yes HNE.out (by rw [HCK.out];exact decide_eq_true h2))
    have HCM:Hid (cmpR q v=0):=Hi (cmpR_eq0.2 h2)
    clear h2
    go_upto_region 12 with fail
    refine wp_region_front 13 (fun opIx=>match opIx with
     | 8=>.spec (RH × RH) (default) (IvV) (fun x w'=>CanR w' x.2 v)
     | 10=>.spec Unit () (fun _=>.int .i64 0) (fun _ _=>True)
     | _=>.quiet) (fun | 10=>[8] | _=>[]) (by kernel_rfl) (by kernel_rfl) (fun w0 he0 hz0 hc0 hf0=>?_)
    replace he0:=Hi he0
    simp only [pT]
    repeat (refine wpq fun K h=>?_;go_big_quiet_op;refine h _ ?_;clear h K;(try simp only [hxb]))
    refine wps he0.out rfl rfl (fun w1 hW hG=>?_) fun x60=>?_
    ·exact spc [IvV (⟨sn,sa,sl,sc,sb,sm',sd⟩,⟨tn,ta,tl,tc,tb,tm,td⟩)] Tryz.func95 ((ivtrim4_any ⟨sn,sa,sl,sc,sb,sm',sd⟩ ⟨tn,ta,tl,tc,tb,tm,td⟩ a b _ (HS.out.ext hW) (HT.out.ext hW)).imp (fun x w' h=>by rw [HVE.out];exact h.2))
    simp only [pS]
    repeat (refine wpq fun K h=>?_;go_big_quiet_op;refine h _ ?_;clear h K;(try simp only [hxb]))
    refine wps he0.out rfl rfl (fun w1 hW hG=>?_) fun x61=>?_
    ·have g60:=(hG 8 (by decide):Since _ _).get fun _ e g=>g.ext e
     exact spc [RH.v ⟨en,ea,el,ec,eb,em,ed⟩,x60.2.v] Tryz.func51 ((by have h:=rcmp3_any ⟨en,ea,el,ec,eb,em,ed⟩ x60.2 q v _ ((GE.out.ext hW).raw ZE.out (by omega)) (g60.raw ZB.out (by omega));rw [HCM.out] at h;exact h))
    simp only [pS]
    repeat (refine wpq fun K h=>?_;go_big_quiet_op;refine h _ ?_;clear h K;(try simp only [hxb]))
    refine wpF_nil ?_
    intro w50 hI
    have hE:=he0.out.trans hI.ext
    have G60:=Hi ((hI.facts 8:Since _ _).get fun _ e g=>g.ext e)
    clear hI he0 hz0 hc0 hf0
    replace HX:=hE.tr HX
    replace HXn:=hE.tr HXn
    replace B3:=hE.bl B3
    replace B5:=hE.bl B5
    replace GE:=Hi (GE.out.ext hE)
    replace HS:=Hi (HS.out.ext hE)
    replace HT:=Hi (HT.out.ext hE)
    replace LA:=Hi (LA.out.ext hE)
    replace LX:=Hi (LX.out.ext hE)
    have hs_w50:=hE.size
    clear hE
    try clear c_B3 f_B3 l_B3
    obtain ⟨c_B3,f_B3,l_B3⟩:=blk3 B3.out
    try clear c_B5 f_B5 l_B5
    obtain ⟨c_B5,f_B5,l_B5⟩:=blk3 B5.out
    simp only [pD]
    go_wp2
    go_ret
    exact ⟨(),by rw [HV.out];rfl,HX.out,trivial⟩
   have HV:Hid (r=22):=Hi (by rw [HR.out];exact ck_no (by rw [HCK.out];exact decide_eq_false h2))
   have hc:¬ cmpR q v=0:=fun h=>h2 (cmpR_eq0.1 h)
   obtain ⟨c,e⟩:∃ c,c=cmpR q v:=⟨_,rfl⟩
   rw [← e] at hc
   have HCM:=Hi e.symm
   have hcb:(c == 0)=false:=by rw [beq_eq_false_iff_ne];exact hc
   clear e h2
   go_upto_region 12 with fail
   refine wp_region_front 13 (fun opIx=>match opIx with
    | 8=>.spec (RH × RH) (default) (IvV) (fun x w'=>CanR w' x.2 v)
    | 10=>.spec Unit () (fun _=>.int .i64 c) (fun _ _=>True)
    | _=>.quiet) (fun | 10=>[8] | _=>[]) (by kernel_rfl) (by kernel_rfl) (fun w0 he0 hz0 hc0 hf0=>?_)
   replace he0:=Hi he0
   simp only [pT]
   repeat (refine wpq fun K h=>?_;go_big_quiet_op;refine h _ ?_;clear h K;(try simp only [hxb]))
   refine wps he0.out rfl rfl (fun w1 hW hG=>?_) fun x60=>?_
   ·exact spc [IvV (⟨sn,sa,sl,sc,sb,sm',sd⟩,⟨tn,ta,tl,tc,tb,tm,td⟩)] Tryz.func95 ((ivtrim4_any ⟨sn,sa,sl,sc,sb,sm',sd⟩ ⟨tn,ta,tl,tc,tb,tm,td⟩ a b _ (HS.out.ext hW) (HT.out.ext hW)).imp (fun x w' h=>by rw [HVE.out];exact h.2))
   simp only [pS]
   repeat (refine wpq fun K h=>?_;go_big_quiet_op;refine h _ ?_;clear h K;(try simp only [hxb]))
   refine wps he0.out rfl rfl (fun w1 hW hG=>?_) fun x61=>?_
   ·have g60:=(hG 8 (by decide):Since _ _).get fun _ e g=>g.ext e
    exact spc [RH.v ⟨en,ea,el,ec,eb,em,ed⟩,x60.2.v] Tryz.func51 ((by have h:=rcmp3_any ⟨en,ea,el,ec,eb,em,ed⟩ x60.2 q v _ ((GE.out.ext hW).raw ZE.out (by omega)) (g60.raw ZB.out (by omega));rw [HCM.out] at h;exact h))
   simp only [pS]
   repeat (refine wpq fun K h=>?_;go_big_quiet_op;refine h _ ?_;clear h K;(try simp only [hxb]))
   refine wpF_nil ?_
   intro w50 hI
   have hE:=he0.out.trans hI.ext
   have G60:=Hi ((hI.facts 8:Since _ _).get fun _ e g=>g.ext e)
   clear hI he0 hz0 hc0 hf0
   replace HX:=hE.tr HX
   replace HXn:=hE.tr HXn
   replace B3:=hE.bl B3
   replace B5:=hE.bl B5
   replace GE:=Hi (GE.out.ext hE)
   replace HS:=Hi (HS.out.ext hE)
   replace HT:=Hi (HT.out.ext hE)
   replace LA:=Hi (LA.out.ext hE)
   replace LX:=Hi (LX.out.ext hE)
   have hs_w50:=hE.size
   clear hE
   try clear c_B3 f_B3 l_B3
   obtain ⟨c_B3,f_B3,l_B3⟩:=blk3 B3.out
   try clear c_B5 f_B5 l_B5
   obtain ⟨c_B5,f_B5,l_B5⟩:=blk3 B5.out
   simp only [pD]
   go_wp2
   go_ret
   exact ⟨(),by rw [HV.out];rfl,HX.out,trivial⟩
  have hin:(j:Int) < xn:=by omega
  obtain ⟨bw,off,r1,t1,hao,hbl,⟨f1,f2,f3,f4,f5,f6⟩,R1,R2⟩:=LX.out.at (k:=j) (by omega)
  have Zx1:=Hi (ZQ.out.at (i:=2 * j) (by rw [HQl.out];omega))
  have Zx2:=Hi (ZQ.out.at (i:=2 * j+1) (by rw [HQl.out];omega))
  rw [tps_drop (by rw [HQl.out];omega)] at HCK
  obtain ⟨x1,hx1⟩:∃ x,x=qs.getD (2 * j) 0:=⟨_,rfl⟩
  obtain ⟨x2,hx2⟩:∃ x,x=qs.getD (2 * j+1) 0:=⟨_,rfl⟩
  rw [← hx1] at R1 Zx1 HCK
  rw [← hx2] at R2 Zx2 HCK
  obtain ⟨rn,ra,rl,rc,rb,rm,rd⟩:=r1
  obtain ⟨kn,ka,kl,kc,kb,km,kd⟩:=t1
  simp only at f1 f2 f3 f4 f5 f6
  have RP:=Hi R1
  have RK:=Hi R2
  subst hao
  clear R1 R2 hx1 hx2
  go_upto_region 7 with fail
  refine nm_alloc ?_
  intro w40 hE hB0 hz
  have hz_w40:=nle hz
  have hr_w40:=nle hz.symm
  clear hz
  replace HX:=hE.tr HX
  replace HXn:=hE.tr HXn
  replace B3:=hE.bl B3
  replace B5:=hE.bl B5
  replace GE:=Hi (GE.out.ext hE)
  replace HS:=Hi (HS.out.ext hE)
  replace HT:=Hi (HT.out.ext hE)
  replace LA:=Hi (LA.out.ext hE)
  replace LX:=Hi (LX.out.ext hE)
  replace RP:=Hi (RP.out.ext hE)
  replace RK:=Hi (RK.out.ext hE)
  have hs_w40:=hE.size
  clear hE
  try clear c_B3 f_B3 l_B3
  obtain ⟨c_B3,f_B3,l_B3⟩:=blk3 B3.out
  try clear c_B5 f_B5 l_B5
  obtain ⟨c_B5,f_B5,l_B5⟩:=blk3 B5.out
  have B7:=Hi hB0
  clear hB0
  obtain ⟨c_B7,f_B7,l_B7⟩:=blk3 B7.out
  clear f1 f2 f3 f4 f5 f6
  have p7:wr.heap.size < w40.heap.size:=l_B7
  go_wp2_with fail
  refine Calls.mono (ivtrim4_any ⟨rn,ra,rl,rc,rb,rm,rd⟩ ⟨kn,ka,kl,kc,kb,km,kd⟩ x1 x2 _ RP.out RK.out) ?_
  rintro e w23 ⟨x23,rfl,hE,g23⟩
  have G23:=Hi g23
  clear g23
  replace HX:=hE.tr HX
  replace HXn:=hE.tr HXn
  replace B3:=hE.bl B3
  replace B5:=hE.bl B5
  replace GE:=Hi (GE.out.ext hE)
  replace HS:=Hi (HS.out.ext hE)
  replace HT:=Hi (HT.out.ext hE)
  replace LA:=Hi (LA.out.ext hE)
  replace LX:=Hi (LX.out.ext hE)
  replace RP:=Hi (RP.out.ext hE)
  replace RK:=Hi (RK.out.ext hE)
  replace B7:=hE.bl B7
  have hs_w23:=hE.size
  clear hE
  try clear c_B3 f_B3 l_B3
  obtain ⟨c_B3,f_B3,l_B3⟩:=blk3 B3.out
  try clear c_B5 f_B5 l_B5
  obtain ⟨c_B5,f_B5,l_B5⟩:=blk3 B5.out
  try clear c_B7 f_B7 l_B7
  obtain ⟨c_B7,f_B7,l_B7⟩:=blk3 B7.out
  obtain ⟨⟨cn,ca,cl,cc,cb,cm,cd⟩,⟨dn,da,dl,dc,db,dm,dd⟩⟩:=x23
  have HC:=Hi G23.out.1
  have HD:=Hi G23.out.2
  clear G23
  simp only at HC HD
  clear RP
  clear RK
  clear LA
  clear LX
  have ZC:=Hi (lo_sz Zx1.out Zx2.out)
  have ZD:=Hi (hi_sz Zx1.out Zx2.out)
  have hcd:=lo_hi x1 x2
  obtain ⟨c1,hc1⟩:∃ c,c=loV x1 x2:=⟨_,rfl⟩
  obtain ⟨d1,hd1'⟩:∃ c,c=hiV x1 x2:=⟨_,rfl⟩
  rw [← hc1,← hd1'] at HCK hcd
  rw [← hc1] at HC ZC
  rw [← hd1'] at HD ZD
  have HCD:=Hi hcd
  clear hc1 hd1' hcd
  obtain ⟨b7,hb7⟩:∃ x,x=wr.heap.size:=⟨_,rfl⟩
  rw [← hb7] at B7
  have n57:b5 < b7:=by omega
  have q7:w13.heap.size≤b7:=by omega
  have q7w:w.heap.size≤b7:=by omega
  have q37:b3 < b7:=by omega
  rw [← hb7]
  clear hb7
  try clear c_B3 f_B3 l_B3
  obtain ⟨c_B3,f_B3,l_B3⟩:=blk3 B3.out
  try clear c_B5 f_B5 l_B5
  obtain ⟨c_B5,f_B5,l_B5⟩:=blk3 B5.out
  try clear c_B7 f_B7 l_B7
  obtain ⟨c_B7,f_B7,l_B7⟩:=blk3 B7.out
  go_upto_region 8 with fail
  refine nm_set6 B7.out rfl ?_
  intro w41 T
  replace HX:=Hi (T.ext HX.out (by omega))
  replace HXn:=Hi (T.ext HXn.out (by omega))
  replace B3:=Hi (T.rest _ _ (by omega) B3.out)
  replace B5:=Hi (T.rest _ _ (by omega) B5.out)
  replace GE:=Hi (GE.out.keep T.keep)
  replace HS:=Hi (HS.out.keep T.keep)
  replace HT:=Hi (HT.out.keep T.keep)
  replace B7:=Hi (T.bx)
  replace HC:=Hi (HC.out.keep T.keep)
  replace HD:=Hi (HD.out.keep T.keep)
  have hs_w41:=nle T.size
  have hr_w41:=nle T.size.symm
  clear T
  try clear c_B3 f_B3 l_B3
  obtain ⟨c_B3,f_B3,l_B3⟩:=blk3 B3.out
  try clear c_B5 f_B5 l_B5
  obtain ⟨c_B5,f_B5,l_B5⟩:=blk3 B5.out
  try clear c_B7 f_B7 l_B7
  obtain ⟨c_B7,f_B7,l_B7⟩:=blk3 B7.out
  have LA:=Hi (LA9.out.ext HXn.out)
  go_wp2_with fail
  refine Calls.mono (rcmp3_any ⟨cn,ca,cl,cc,cb,cm,cd⟩ ⟨en,ea,el,ec,eb,em,ed⟩ c1 q _ (HC.out.raw ZC.out (by omega)) (GE.out.raw ZE.out (by omega))) ?_
  rintro e w27 ⟨x27,rfl,hE,-⟩
  replace HX:=hE.tr HX
  replace HXn:=hE.tr HXn
  replace B3:=hE.bl B3
  replace B5:=hE.bl B5
  replace GE:=Hi (GE.out.ext hE)
  replace HS:=Hi (HS.out.ext hE)
  replace HT:=Hi (HT.out.ext hE)
  replace B7:=hE.bl B7
  replace HC:=Hi (HC.out.ext hE)
  replace HD:=Hi (HD.out.ext hE)
  replace LA:=Hi (LA.out.ext hE)
  have hs_w27:=hE.size
  clear hE
  try clear c_B3 f_B3 l_B3
  obtain ⟨c_B3,f_B3,l_B3⟩:=blk3 B3.out
  try clear c_B5 f_B5 l_B5
  obtain ⟨c_B5,f_B5,l_B5⟩:=blk3 B5.out
  try clear c_B7 f_B7 l_B7
  obtain ⟨c_B7,f_B7,l_B7⟩:=blk3 B7.out
  by_cases h2:c1=q
  case neg =>
   have HV:Hid (r=22):=Hi (by rw [HR.out];exact ck_no (by rw [HCK.out,ck_cons,decide_eq_false h2];rfl))
   have hc:¬ cmpR c1 q=0:=fun h=>h2 (cmpR_eq0.1 h)
   obtain ⟨c,e⟩:∃ c,c=cmpR c1 q:=⟨_,rfl⟩
   rw [← e] at hc ⊢
   have hcb:(c == 0)=false:=by rw [beq_eq_false_iff_ne];exact hc
   clear e h2
   go_wp2
   go_ret
   exact ⟨(),by rw [HV.out];rfl,HX.out,trivial⟩
  have HCK2:Hid (ckV (tz l) u (tps qs) v=(psV (tz l) c1 d1 && ckV (tz l) d1 ((tps qs).drop (j+1)) v)):=Hi (by rw [HCK.out,ck_cons,decide_eq_true h2,Bool.true_and])
  rw [cmpR_eq0.2 h2]
  clear h2 HCK
  go_wp2_with fail
  refine Calls.mono ((by have h:=rpos7_any ao n cap l ⟨cn,ca,cl,cc,cb,cm,cd⟩ ⟨dn,da,dl,dc,db,dm,dd⟩ c1 d1 S T _ LA.out (HC.out.raw ZC.out (by omega)) (HD.out.raw ZD.out (by omega)) hn h8 HZ.out ZC.out ZD.out hS hT1 hT;rw [lo_of HCD.out,hi_of HCD.out] at h;exact h)) ?_
  rintro e w32 ⟨x32,rfl,hE,-⟩
  replace HX:=hE.tr HX
  replace HXn:=hE.tr HXn
  replace B3:=hE.bl B3
  replace B5:=hE.bl B5
  replace GE:=Hi (GE.out.ext hE)
  replace HS:=Hi (HS.out.ext hE)
  replace HT:=Hi (HT.out.ext hE)
  replace B7:=hE.bl B7
  replace HC:=Hi (HC.out.ext hE)
  replace HD:=Hi (HD.out.ext hE)
  replace LA:=Hi (LA.out.ext hE)
  have hs_w32:=hE.size
  clear hE
  try clear c_B3 f_B3 l_B3
  obtain ⟨c_B3,f_B3,l_B3⟩:=blk3 B3.out
  try clear c_B5 f_B5 l_B5
  obtain ⟨c_B5,f_B5,l_B5⟩:=blk3 B5.out
  try clear c_B7 f_B7 l_B7
  obtain ⟨c_B7,f_B7,l_B7⟩:=blk3 B7.out
  obtain ⟨pv,hpv⟩:∃ pv,pv=psV (tz l) c1 d1:=⟨_,rfl⟩
  rw [← hpv] at HCK2 ⊢
  clear hpv
  cases pv with
  | false =>
   have HV:Hid (r=22):=Hi (by rw [HR.out];exact ck_no (by rw [HCK2.out];rfl))
   go_wp2
   go_ret
   exact ⟨(),by rw [HV.out];rfl,HX.out,trivial⟩
  | true =>
  clear LA
  go_upto_region 11 with fail
  refine nm_set3 B5.out rfl ?_
  intro w60 T
  replace HX:=Hi (T.ext HX.out (by omega))
  replace HXn:=Hi (T.ext HXn.out (by omega))
  replace B3:=Hi (T.rest _ _ (by omega) B3.out)
  replace B5:=Hi (T.bx)
  replace GE:=Hi (GE.out.keep T.keep)
  replace HS:=Hi (HS.out.keep T.keep)
  replace HT:=Hi (HT.out.keep T.keep)
  replace B7:=Hi (T.rest _ _ (by omega) B7.out)
  replace HC:=Hi (HC.out.keep T.keep)
  replace HD:=Hi (HD.out.keep T.keep)
  have hs_w60:=nle T.size
  have hr_w60:=nle T.size.symm
  clear T
  try clear c_B3 f_B3 l_B3
  obtain ⟨c_B3,f_B3,l_B3⟩:=blk3 B3.out
  try clear c_B5 f_B5 l_B5
  obtain ⟨c_B5,f_B5,l_B5⟩:=blk3 B5.out
  try clear c_B7 f_B7 l_B7
  obtain ⟨c_B7,f_B7,l_B7⟩:=blk3 B7.out
  go_wp2
  go_roundg (gk - 1)
  case measure=>omega
  case rel=>exact ⟨j+1,⟨dn,da,dl,dc,db,dm,dd⟩,d1,by omega,by go_num,HXn.out,B5.out,HD.out,ZD.out,by rw [HCK2.out,Bool.true_and]⟩
end Go.Proofs.YtpieblkklbilgaaGreat
