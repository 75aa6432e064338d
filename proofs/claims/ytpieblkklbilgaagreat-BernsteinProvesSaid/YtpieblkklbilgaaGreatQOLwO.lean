/- BernsteinProves returns true. -/
import Derived.Test.YtpieblkklbilgaaGreatQOBa
import Derived.Test.YtpieblkklbilgaaGreatQOOS
set_option linter.unusedVariables false
namespace Go.Proofs.YtpieblkklbilgaaGreat
open Go.RowKit Go.Front Go.Num Stab
attribute [local go_sem] XW.cell XW.frozen
theorem tps_app {x y:List Rat} (h:x.length % 2=0):tps (x ++ y)=tps x ++ tps y:=by unfold tps;rw [prs_app h,List.map_append]
theorem rcl_tps (d:Nat) {p:List Rat}:∀ {a b:Rat} {x:List Rat},a≤b→rcl d p a b=some x→tps x=prs x:=by
 have h0:∀ {a b:Rat},a≤b→tps [a,b]=prs [a,b]:=fun h=>by simp [tps,prs,lo_of h,hi_of h]
 induction d with
 | zero =>
  intro a b x hab h
  unfold rcl at h
  split at h
  ·cases h;exact h0 hab
  ·cases h
 | succ d ih =>
  intro a b x hab h
  obtain ⟨g1,g2⟩:=md_le hab
  unfold rcl at h
  split at h
  ·cases h;exact h0 hab
  ·rcases h1:rcl d p a (mdV a b) with _ | u
   ·rw [h1] at h;cases h
   ·rw [h1] at h
    rcases h2:rcl d p (mdV a b) b with _ | v
    ·rw [h2] at h;cases h
    ·rw [h2] at h
     cases h
     have e:=(rcl_ck d h1).1
     rw [tps_app e,prs_app e,ih g1 h1,ih g2 h2]
theorem rcl_all {p:List Rat} {a b:Rat} {x:List Rat} (ha:Dyd 0 a) (hb:Dyd 0 b) (hab:a≤b) (h:rcl 12 p a b=some x):ckE p a b (tps x)=0∧SzL 1 x∧x.length≤8192∧x ≠ []∧x.length % 2=0:=by
 obtain ⟨e1,e2,e3⟩:=rcl_ck 12 h
 have e4:=rcl_tps 12 hab h
 refine ⟨?_,fun y hy=>?_,by have:=rcl_len 12 h;omega,e2,e1⟩
 ·rw [e4]
  refine ck_yes (fun e=>?_) e3
  have hl:=prs_len x
  rw [e] at hl
  have:x.length ≠ 0:=fun h=>e2 (List.length_eq_zero_iff.1 h)
  simp only [List.length_nil] at hl
  omega
 ·obtain ⟨k,hk,hd⟩:=rcl_sz 12 rfl ha hb h y hy
  exact hd.sz hk
theorem PvP.ext {B:Nat} {w w':World} {x:((RH × RH) × SH) × Int} {a b:Rat} {r:Option (List Rat)} (h:PvP B w x a b r) (he:Ext w w'):PvP B w' x a b r:=by
 cases r with
 | none=>exact h
 | some qs=>exact ⟨h.1,h.2.1.ext he,h.2.2.ext he⟩
set_option maxRecDepth 8000 in
set_option maxHeartbeats 16000000 in
theorem proves7_any (ao:Option Addr) (cap:Nat) (xs:List Int) (zn za zb:Int) (w:World) (h:IntsAt w ao xs) (hr:InR xs) (hl:xs.length≤9223372036854775807) (hc:xs.length≤cap) (hcm:cap≤9223372036854775807)
  (c1:-9223372036854775808≤zn) (c2:zn≤9223372036854775807) (a1:-9223372036854775808≤za) (a2:za≤9223372036854775807) (b1:-9223372036854775808≤zb) (b2:zb≤9223372036854775807) :
  Does 4 [.slice ao xs.length cap,.int .i64 zn,.int .i64 za,.int .i64 zb] w (fun _:Unit=>.bool true) (fun _ _=>True):=by
 have HX:=Hi (Ext.refl w)
 have HPo:=Hi (tall_any ao cap xs zn w h hr hl hc hcm c1 c2)
 obtain ⟨f2,f3,f4⟩:=tal_facts xs zn
 obtain ⟨n,hn⟩:∃ n,n=xs.length:=⟨_,rfl⟩
 obtain ⟨p,hp⟩:∃ p,p=talV xs zn:=⟨_,rfl⟩
 rw [← hn,← hp] at HPo
 rw [← hp] at f2 f3 f4
 have hpl:=f2
 have HTZ:=Hi f3
 have FZ:=Hi f4
 have HZ:=Hi f4.sz
 rw [← hn]
 clear hn hp h hr hl hc hcm f2 f3 f4
 unfold Does
 go_enter Tryz.func4,Tryz.ntmps4
 go_wp2_with fail
 refine Calls.mono (HPo.out) ?_
 rintro e w17 ⟨x17,rfl,hE,g17⟩
 have G17:=Hi g17
 clear g17
 replace HX:=hE.tr HX
 have hs_w17:=hE.size
 clear hE
 obtain ⟨pa,pn,pc⟩:=x17
 have LP:=Hi G17.out
 clear G17
 have hpn:pn≤8:=by have e:p.length=pn:=LP.out.len;omega
 have HPL:Hid (p.length=pn):=Hi LP.out.len
 simp only [SH.v]
 go_wp2_with fail
 refine Calls.mono (on_any za zb _ a1 a2 b1 b2) ?_
 rintro e w20 ⟨x20,rfl,hE,g20⟩
 have G20:=Hi g20
 clear g20
 replace HX:=hE.tr HX
 replace LP:=Hi (LP.out.ext hE)
 have hs_w20:=hE.size
 clear hE
 obtain ⟨⟨ln,la,ll,lc,lb,lm,ld⟩,⟨hn,ha,hl,hc,hb,hm,hd⟩⟩:=x20
 have DL:Hid (Dyd 0 (loV (cosQ za) (cosQ zb))):=Hi (dyd_lo (cosQ_dyd za) (cosQ_dyd zb))
 have DH:Hid (Dyd 0 (hiV (cosQ za) (cosQ zb))):=Hi (dyd_hi (cosQ_dyd za) (cosQ_dyd zb))
 have hlh:=lo_hi (cosQ za) (cosQ zb)
 have HL:=Hi G20.out.1
 have HH:=Hi G20.out.2
 clear G20
 obtain ⟨lo,hlo⟩:∃ lo,lo=loV (cosQ za) (cosQ zb):=⟨_,rfl⟩
 obtain ⟨hi,hhi⟩:∃ hi,hi=hiV (cosQ za) (cosQ zb):=⟨_,rfl⟩
 rw [← hlo] at HL DL hlh
 rw [← hhi] at HH DH hlh
 have HLH:=Hi hlh
 have ZL:=Hi (DL.out.sz (by decide))
 have ZH:=Hi (DH.out.sz (by decide))
 clear hlo hhi hlh
 simp only at HL HH
 go_upto_region 2 with fail
 refine nm_alloc ?_
 intro w22 hE hB0 hz
 have hz_w22:=nle hz
 have hr_w22:=nle hz.symm
 clear hz
 replace HX:=hE.tr HX
 replace LP:=Hi (LP.out.ext hE)
 replace HL:=Hi (HL.out.ext hE)
 replace HH:=Hi (HH.out.ext hE)
 have hs_w22:=hE.size
 clear hE
 have B10:=Hi hB0
 clear hB0
 obtain ⟨c_B10,f_B10,l_B10⟩:=blk3 B10.out
 have h8:(tz p).length≤8:=by rw [HTZ.out];exact hpl
 have HZT:Hid (SzL 20 (tz p)):=Hi (by rw [HTZ.out];exact HZ.out)
 go_wp2_with fail
 refine Calls.mono ((by have h:=bprove_any pa pn pc p ⟨ln,la,ll,lc,lb,lm,ld⟩ ⟨hn,ha,hl,hc,hb,hm,hd⟩ lo hi 20 1 _ (LP.out.raw HZ.out (by decide)) (HL.out.raw ZL.out (by decide)) (HH.out.raw ZH.out (by decide)) (by omega) h8 HZT.out ZL.out ZH.out (by decide) (by decide);rw [HTZ.out,lo_of HLH.out,hi_of HLH.out,pr_rcl' p HLH.out] at h;exact h)) ?_
 rintro e w24 ⟨x24,rfl,hE,g24⟩
 have G24:=Hi g24
 clear g24
 replace HX:=hE.tr HX
 replace LP:=Hi (LP.out.ext hE)
 replace HL:=Hi (HL.out.ext hE)
 replace HH:=Hi (HH.out.ext hE)
 replace B10:=hE.bl B10
 have hs_w24:=hE.size
 clear hE
 try clear c_B10 f_B10 l_B10
 obtain ⟨c_B10,f_B10,l_B10⟩:=blk3 B10.out
 obtain ⟨⟨⟨⟨sn,sa,sl,sc,sb,sm,sd⟩,⟨tn,ta,tl,tc,tb,tm,td⟩⟩,⟨ya,yn,yc⟩⟩,e24⟩:=x24
 go_upto_region 3 with fail
 refine nm_alloc ?_
 intro w25 hE hB0 hz
 have hz_w25:=nle hz
 have hr_w25:=nle hz.symm
 clear hz
 replace HX:=hE.tr HX
 replace LP:=Hi (LP.out.ext hE)
 replace HL:=Hi (HL.out.ext hE)
 replace HH:=Hi (HH.out.ext hE)
 replace B10:=hE.bl B10
 replace G24:=Hi (G24.out.ext hE)
 have hs_w25:=hE.size
 clear hE
 try clear c_B10 f_B10 l_B10
 obtain ⟨c_B10,f_B10,l_B10⟩:=blk3 B10.out
 have B11:=Hi hB0
 clear hB0
 obtain ⟨c_B11,f_B11,l_B11⟩:=blk3 B11.out
 have HRP:=Hi (rprove7_any pa pn pc p ⟨ln,la,ll,lc,lb,lm,ld⟩ ⟨hn,ha,hl,hc,hb,hm,hd⟩ lo hi 20 _ LP.out HTZ.out HL.out HH.out hpl FZ.out (by decide) DL.out DH.out HLH.out)
 go_wp2_with fail
 refine Calls.mono (HRP.out) ?_
 rintro e w30 ⟨x30,rfl,hE,g30⟩
 have G30:=Hi g30
 clear g30
 replace HX:=hE.tr HX
 replace LP:=Hi (LP.out.ext hE)
 replace HL:=Hi (HL.out.ext hE)
 replace HH:=Hi (HH.out.ext hE)
 replace B10:=hE.bl B10
 replace G24:=Hi (G24.out.ext hE)
 replace B11:=hE.bl B11
 have hs_w30:=hE.size
 clear hE
 try clear c_B10 f_B10 l_B10
 obtain ⟨c_B10,f_B10,l_B10⟩:=blk3 B10.out
 try clear c_B11 f_B11 l_B11
 obtain ⟨c_B11,f_B11,l_B11⟩:=blk3 B11.out
 clear HRP
 obtain ⟨⟨⟨⟨un,ua,ul,uc,ub,um,ud⟩,⟨vn,va,vl,vc,vb,vm,vd⟩⟩,⟨qa,qn,qc⟩⟩,e30⟩:=x30
 go_upto_region 4 with fail
 refine nm_alloc ?_
 intro w31 hE hB0 hz
 have hz_w31:=nle hz
 have hr_w31:=nle hz.symm
 clear hz
 replace HX:=hE.tr HX
 replace LP:=Hi (LP.out.ext hE)
 replace HL:=Hi (HL.out.ext hE)
 replace HH:=Hi (HH.out.ext hE)
 replace B10:=hE.bl B10
 replace G24:=Hi (G24.out.ext hE)
 replace B11:=hE.bl B11
 replace G30:=Hi (G30.out.ext hE)
 have hs_w31:=hE.size
 clear hE
 try clear c_B10 f_B10 l_B10
 obtain ⟨c_B10,f_B10,l_B10⟩:=blk3 B10.out
 try clear c_B11 f_B11 l_B11
 obtain ⟨c_B11,f_B11,l_B11⟩:=blk3 B11.out
 have B13:=Hi hB0
 clear hB0
 obtain ⟨c_B13,f_B13,l_B13⟩:=blk3 B13.out
 rcases hr1:rcl 12 p lo hi with _ | rs
 case none =>
  rw [hr1] at G24 G30
  have hx1:=G24.out
  have hx2:=G30.out
  unfold PvP at hx1 hx2
  simp only [Prod.mk.injEq,RH.mk.injEq,SH.mk.injEq] at hx1 hx2
  obtain ⟨⟨⟨⟨rfl,rfl,rfl,rfl,rfl,rfl,rfl⟩,rfl,rfl,rfl,rfl,rfl,rfl,rfl⟩,rfl,rfl,rfl⟩,rfl⟩:=hx1
  obtain ⟨⟨⟨⟨rfl,rfl,rfl,rfl,rfl,rfl,rfl⟩,rfl,rfl,rfl,rfl,rfl,rfl,rfl⟩,rfl,rfl,rfl⟩,rfl⟩:=hx2
  clear hr1
  clear G24
  clear G30
  go_wp2_with fail
  refine Calls.mono (awake7_any _) ?_
  rintro e w33 ⟨x33,rfl,hE,-⟩
  replace HX:=hE.tr HX
  replace LP:=Hi (LP.out.ext hE)
  replace HL:=Hi (HL.out.ext hE)
  replace HH:=Hi (HH.out.ext hE)
  replace B10:=hE.bl B10
  replace B11:=hE.bl B11
  replace B13:=hE.bl B13
  have hs_w33:=hE.size
  clear hE
  try clear c_B10 f_B10 l_B10
  obtain ⟨c_B10,f_B10,l_B10⟩:=blk3 B10.out
  try clear c_B11 f_B11 l_B11
  obtain ⟨c_B11,f_B11,l_B11⟩:=blk3 B11.out
  try clear c_B13 f_B13 l_B13
  obtain ⟨c_B13,f_B13,l_B13⟩:=blk3 B13.out
  go_wp2_with fail
  refine Calls.mono (rsames7_any (zR,zR) (zR,zR) ⟨none,0,0⟩ ⟨none,0,0⟩ [] _ (fun w1 _=>ivsame4_zero w1) (CanIL.nil _) (CanIL.nil _) (by decide)) ?_
  rintro e w42 ⟨x42,rfl,hE,-⟩
  replace HX:=hE.tr HX
  replace LP:=Hi (LP.out.ext hE)
  replace HL:=Hi (HL.out.ext hE)
  replace HH:=Hi (HH.out.ext hE)
  replace B10:=hE.bl B10
  replace B11:=hE.bl B11
  replace B13:=hE.bl B13
  have hs_w42:=hE.size
  clear hE
  try clear c_B10 f_B10 l_B10
  obtain ⟨c_B10,f_B10,l_B10⟩:=blk3 B10.out
  try clear c_B11 f_B11 l_B11
  obtain ⟨c_B11,f_B11,l_B11⟩:=blk3 B11.out
  try clear c_B13 f_B13 l_B13
  obtain ⟨c_B13,f_B13,l_B13⟩:=blk3 B13.out
  go_wp2
  go_ret
  exact ⟨(),rfl,HX.out,trivial⟩
 rw [hr1] at G24 G30
 obtain ⟨rfl,hv1,ho1⟩:=G24.out
 obtain ⟨rfl,hv2,ho2⟩:=G30.out
 simp only at hv1 ho1 hv2 ho2
 have HA:=Hi (rcl_all DL.out DH.out HLH.out hr1)
 have C1:=Hi (OwnI.can (s:=⟨ya,yn,yc⟩) ho1).2
 have C2:=Hi (OwnI.can (s:=⟨qa,qn,qc⟩) ho2).2
 have V1:=Hi hv1.1
 have V2:=Hi hv1.2
 have V3:=Hi hv2.1
 have V4:=Hi hv2.2
 have hyn:yn≤4096:=by have e:=C1.out.len;have:=HA.out.2.2.1;simp only at e;omega
 clear hv1 hv2 ho1 ho2 hr1
 simp only at V1 V2 V3 V4
 clear G24
 clear G30
 go_wp2_with fail
 refine Calls.mono (awake7_any _) ?_
 rintro e w33 ⟨x33,rfl,hE,-⟩
 replace HX:=hE.tr HX
 replace LP:=Hi (LP.out.ext hE)
 replace HL:=Hi (HL.out.ext hE)
 replace HH:=Hi (HH.out.ext hE)
 replace B10:=hE.bl B10
 replace B11:=hE.bl B11
 replace B13:=hE.bl B13
 replace C1:=Hi (C1.out.ext hE)
 replace C2:=Hi (C2.out.ext hE)
 replace V1:=Hi (V1.out.ext hE)
 replace V2:=Hi (V2.out.ext hE)
 replace V3:=Hi (V3.out.ext hE)
 replace V4:=Hi (V4.out.ext hE)
 have hs_w33:=hE.size
 clear hE
 try clear c_B10 f_B10 l_B10
 obtain ⟨c_B10,f_B10,l_B10⟩:=blk3 B10.out
 try clear c_B11 f_B11 l_B11
 obtain ⟨c_B11,f_B11,l_B11⟩:=blk3 B11.out
 try clear c_B13 f_B13 l_B13
 obtain ⟨c_B13,f_B13,l_B13⟩:=blk3 B13.out
 go_wp2_with fail
 refine Calls.mono (rsames7_any (⟨sn,sa,sl,sc,sb,sm,sd⟩,⟨tn,ta,tl,tc,tb,tm,td⟩) (⟨un,ua,ul,uc,ub,um,ud⟩,⟨vn,va,vl,vc,vb,vm,vd⟩) ⟨ya,yn,yc⟩ ⟨qa,qn,qc⟩ rs _ (fun w1 hE=>by have h:=ivsame4_any ⟨sn,sa,sl,sc,sb,sm,sd⟩ ⟨tn,ta,tl,tc,tb,tm,td⟩ ⟨un,ua,ul,uc,ub,um,ud⟩ ⟨vn,va,vl,vc,vb,vm,vd⟩ lo hi lo hi w1 (V1.out.ext hE) (V2.out.ext hE) (V3.out.ext hE) (V4.out.ext hE);rw [decide_eq_true ⟨rfl,rfl⟩] at h;exact h) C1.out C2.out (by simp only;omega)) ?_
 rintro e w42 ⟨x42,rfl,hE,-⟩
 replace HX:=hE.tr HX
 replace LP:=Hi (LP.out.ext hE)
 replace HL:=Hi (HL.out.ext hE)
 replace HH:=Hi (HH.out.ext hE)
 replace B10:=hE.bl B10
 replace B11:=hE.bl B11
 replace B13:=hE.bl B13
 replace C1:=Hi (C1.out.ext hE)
 replace C2:=Hi (C2.out.ext hE)
 replace V1:=Hi (V1.out.ext hE)
 replace V2:=Hi (V2.out.ext hE)
 replace V3:=Hi (V3.out.ext hE)
 replace V4:=Hi (V4.out.ext hE)
 have hs_w42:=hE.size
 clear hE
 try clear c_B10 f_B10 l_B10
 obtain ⟨c_B10,f_B10,l_B10⟩:=blk3 B10.out
 try clear c_B11 f_B11 l_B11
 obtain ⟨c_B11,f_B11,l_B11⟩:=blk3 B11.out
 try clear c_B13 f_B13 l_B13
 obtain ⟨c_B13,f_B13,l_B13⟩:=blk3 B13.out
 go_wp2_with fail
 refine Calls.mono ((by have h:=bcheck_any pa pn pc p ⟨sn,sa,sl,sc,sb,sm,sd⟩ ⟨tn,ta,tl,tc,tb,tm,td⟩ ya yn yc rs lo hi 20 1 _ (LP.out.raw HZ.out (by decide)) (V1.out.raw ZL.out (by decide)) (V2.out.raw ZH.out (by decide)) (C1.out.raw HA.out.2.1 (by decide)) (by omega) h8 HZT.out ZL.out ZH.out HA.out.2.1 (by decide) (by decide) (by omega);rw [HTZ.out,lo_of HLH.out,hi_of HLH.out,HA.out.1] at h;exact h)) ?_
 rintro e w50 ⟨x50,rfl,hE,-⟩
 replace HX:=hE.tr HX
 replace LP:=Hi (LP.out.ext hE)
 replace HL:=Hi (HL.out.ext hE)
 replace HH:=Hi (HH.out.ext hE)
 replace B10:=hE.bl B10
 replace B11:=hE.bl B11
 replace B13:=hE.bl B13
 replace C1:=Hi (C1.out.ext hE)
 replace C2:=Hi (C2.out.ext hE)
 replace V1:=Hi (V1.out.ext hE)
 replace V2:=Hi (V2.out.ext hE)
 replace V3:=Hi (V3.out.ext hE)
 replace V4:=Hi (V4.out.ext hE)
 have hs_w50:=hE.size
 clear hE
 try clear c_B10 f_B10 l_B10
 obtain ⟨c_B10,f_B10,l_B10⟩:=blk3 B10.out
 try clear c_B11 f_B11 l_B11
 obtain ⟨c_B11,f_B11,l_B11⟩:=blk3 B11.out
 try clear c_B13 f_B13 l_B13
 obtain ⟨c_B13,f_B13,l_B13⟩:=blk3 B13.out
 go_wp2
 go_ret
 exact ⟨(),rfl,HX.out,trivial⟩
end Go.Proofs.YtpieblkklbilgaaGreat
