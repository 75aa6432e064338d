/- ResponseActs returns true. -/
import Derived.Test.YtdchjfcklppmgaaGreatQXCmp20
import Derived.Test.YtdchjfcklppmgaaGreatQXAwk20
import Derived.Test.YtdchjfcklppmgaaGreatQXFil2
import Derived.Test.YtdchjfcklppmgaaGreatQXJnR
set_option linter.unusedVariables false
namespace Go.Proofs.YtdchjfcklppmgaaGreat
open Go.RowKit Go.Front Go.Num Stab
attribute [local go_sem] XW.cell XW.frozen
theorem sm4_le {n m:Nat} (h:sm4 n m = true):n≤4∧m≤4:=of_decide_eq_true h
set_option maxRecDepth 8000 in
set_option maxHeartbeats 8000000 in
theorem actslaw20_any (f g:FH) (t:RH) (xo lo mo:Option Addr) (xn xc lc mc:Nat) (n:Int) (rb ra rc rd us:List RH) (ls ms:List Int) (w:World)
  (h1:RS w f.b rb) (i1:∀ r ∈ rb,RatIn w r) (h2:RS w f.a ra) (i2:∀ r ∈ ra,RatIn w r) (h3:RS w g.b rc) (i3:∀ r ∈ rc,RatIn w r) (h4:RS w g.a rd) (i4:∀ r ∈ rd,RatIn w r) (ht:RatIn w t) (h5:RS w ⟨xo,xn,xc⟩ us) (i5:∀ r ∈ us,RatIn w r)
  (hn1:-9223372036854775808≤n) (hn2:n≤9223372036854775807)
  (l0:IntsAt w lo ls) (l1:InR ls) (l2:ls.length≤9223372036854775807) (l3:ls.length≤lc) (l4:lc≤9223372036854775807)
  (m0:IntsAt w mo ms) (m1:InR ms) (m2:ms.length≤9223372036854775807) (m3:ms.length≤mc) (m4:mc≤9223372036854775807) :
  Does 13 [f.v,g.v,t.v,.slice xo xn xc,.int .i64 n,.slice lo ls.length lc,.slice mo ms.length mc] w (fun _:Unit=>.bool true) (fun _ _=>True):=by
 obtain ⟨⟨ba,bn,bc⟩,⟨aa,an,ac⟩⟩:=f
 obtain ⟨⟨ca,cn,cc⟩,⟨da,dn,dc⟩⟩:=g
 obtain ⟨tn,ta,tl,tc,tb,tm,td⟩:=t
 have HX:=Hi (Ext.refl w)
 have HC1:Hid (∀ w1,Ext w w1→Does 65 [.slice lo ls.length lc,.slice mo ms.length mc] w1 FH.v (fun f w'=>CanF w' f (filB ls) (filA ms))):=Hi (fun w1 hE=>filter_any lo mo lc mc ls ms w1 (l0.ext hE) l1 l2 l3 l4 (m0.ext hE) m1 m2 m3 m4)
 have HC2:Hid (∀ w1,Ext w w1→Does 65 [.slice mo ms.length mc,.slice lo ls.length lc] w1 FH.v (fun f w'=>CanF w' f (filB ms) (filA ls))):=Hi (fun w1 hE=>filter_any mo lo mc lc ms ls w1 (m0.ext hE) m1 m2 m3 m4 (l0.ext hE) l1 l2 l3 l4)
 have P1:=Hi (fil_p ls ms)
 have P2:=Hi (fil_p ms ls)
 obtain ⟨N0,e0⟩:∃ n,n = ls.length:=⟨_,rfl⟩
 obtain ⟨N1,e1⟩:∃ n,n = ms.length:=⟨_,rfl⟩
 obtain ⟨b2,eb⟩:∃ b,b = filB ls:=⟨_,rfl⟩
 obtain ⟨a2,ea⟩:∃ a,a = filA ms:=⟨_,rfl⟩
 obtain ⟨c2,ec⟩:∃ c,c = filB ms:=⟨_,rfl⟩
 obtain ⟨d2,ed⟩:∃ d,d = filA ls:=⟨_,rfl⟩
 rw [← e0,← e1,← eb,← ea] at HC1
 rw [← e0,← e1,← ec,← ed] at HC2
 rw [← eb,← ea] at P1
 rw [← ec,← ed] at P2
 rw [← e0,← e1]
 obtain ⟨z9,hz9⟩:∃ z,z = n % 9:=⟨_,rfl⟩
 obtain ⟨z12,hz12⟩:∃ z,z = n % 12:=⟨_,rfl⟩
 have hz9a:0≤z9:=by omega
 have hz9b:z9≤8:=by omega
 have hz12a:0≤z12:=by omega
 have hz12b:z12≤11:=by omega
 have HZ9:=Hi hz9
 have HZ12:=Hi hz12
 clear hz9 hz12
 have H1:=Hi h1
 have H2:=Hi h2
 have H3:=Hi h3
 have H4:=Hi h4
 have H5:=Hi h5
 have I1:=Hi i1
 have I2:=Hi i2
 have I3:=Hi i3
 have I4:=Hi i4
 have I5:=Hi i5
 have IT:=Hi ht
 clear e0 e1 eb ea ec ed h1 h2 h3 h4 h5 i1 i2 i3 i4 i5 ht l0 l1 l2 l3 l4 m0 m1 m2 m3 m4
 unfold Does
 simp only [FH.v,SH.v]
 go_enter Tryz.func13,Tryz.ntmps13
 go_upto_region 1 with fail
 refine nm_alloc3 ?_
 intro w1 hE hB0 hB1 hB2 hz
 have hz_w1:=nle hz
 have hr_w1:=nle hz.symm
 clear hz
 replace HX:=hE.tr HX
 have hs_w1:=hE.size
 clear hE
 have B7:=Hi hB0
 clear hB0
 obtain ⟨c_B7,f_B7,l_B7⟩:=blk3 B7.out
 have B8:=Hi hB1
 clear hB1
 obtain ⟨c_B8,f_B8,l_B8⟩:=blk3 B8.out
 have B9:=Hi hB2
 clear hB2
 obtain ⟨c_B9,f_B9,l_B9⟩:=blk3 B9.out
 go_wp2_with fail
 refine Calls.mono (fits_any ⟨⟨ba,bn,bc⟩,⟨aa,an,ac⟩⟩ rb ra _ (H1.out.ext HX.out) (H2.out.ext HX.out)) ?_
 rintro e w2 ⟨x2,rfl,hE,g2⟩
 have G2:=Hi g2
 clear g2
 replace HX:=hE.tr HX
 replace B7:=hE.bl B7
 replace B8:=hE.bl B8
 replace B9:=hE.bl B9
 have hs_w2:=hE.size
 clear hE
 try clear c_B7 f_B7 l_B7
 obtain ⟨c_B7,f_B7,l_B7⟩:=blk3 B7.out
 try clear c_B8 f_B8 l_B8
 obtain ⟨c_B8,f_B8,l_B8⟩:=blk3 B8.out
 try clear c_B9 f_B9 l_B9
 obtain ⟨c_B9,f_B9,l_B9⟩:=blk3 B9.out
 cases x2
 case false =>
  go_wp2_with fail
  refine Calls.mono (awake20_any _) ?_
  rintro e w3 ⟨x3,rfl,hE,-⟩
  replace HX:=hE.tr HX
  replace B7:=hE.bl B7
  replace B8:=hE.bl B8
  replace B9:=hE.bl B9
  have hs_w3:=hE.size
  clear hE
  try clear c_B7 f_B7 l_B7
  obtain ⟨c_B7,f_B7,l_B7⟩:=blk3 B7.out
  try clear c_B8 f_B8 l_B8
  obtain ⟨c_B8,f_B8,l_B8⟩:=blk3 B8.out
  try clear c_B9 f_B9 l_B9
  obtain ⟨c_B9,f_B9,l_B9⟩:=blk3 B9.out
  go_wp2
  go_ret
  exact ⟨(),rfl,HX.out,trivial⟩
 go_wp2_with fail
 refine Calls.mono (fits_any ⟨⟨ca,cn,cc⟩,⟨da,dn,dc⟩⟩ rc rd _ (H3.out.ext HX.out) (H4.out.ext HX.out)) ?_
 rintro e w3 ⟨x3,rfl,hE,g3⟩
 have G3:=Hi g3
 clear g3
 replace HX:=hE.tr HX
 replace B7:=hE.bl B7
 replace B8:=hE.bl B8
 replace B9:=hE.bl B9
 have hs_w3:=hE.size
 clear hE
 try clear c_B7 f_B7 l_B7
 obtain ⟨c_B7,f_B7,l_B7⟩:=blk3 B7.out
 try clear c_B8 f_B8 l_B8
 obtain ⟨c_B8,f_B8,l_B8⟩:=blk3 B8.out
 try clear c_B9 f_B9 l_B9
 obtain ⟨c_B9,f_B9,l_B9⟩:=blk3 B9.out
 cases x3
 case false =>
  go_wp2_with fail
  refine Calls.mono (awake20_any _) ?_
  rintro e w4 ⟨x4,rfl,hE,-⟩
  replace HX:=hE.tr HX
  replace B7:=hE.bl B7
  replace B8:=hE.bl B8
  replace B9:=hE.bl B9
  have hs_w4:=hE.size
  clear hE
  try clear c_B7 f_B7 l_B7
  obtain ⟨c_B7,f_B7,l_B7⟩:=blk3 B7.out
  try clear c_B8 f_B8 l_B8
  obtain ⟨c_B8,f_B8,l_B8⟩:=blk3 B8.out
  try clear c_B9 f_B9 l_B9
  obtain ⟨c_B9,f_B9,l_B9⟩:=blk3 B9.out
  go_wp2
  go_ret
  exact ⟨(),rfl,HX.out,trivial⟩
 go_wp2_with fail
 refine Calls.mono (smallrat_any ⟨tn,ta,tl,tc,tb,tm,td⟩ _) ?_
 rintro e w4 ⟨x4,rfl,hE,-⟩
 replace HX:=hE.tr HX
 replace B7:=hE.bl B7
 replace B8:=hE.bl B8
 replace B9:=hE.bl B9
 have hs_w4:=hE.size
 clear hE
 try clear c_B7 f_B7 l_B7
 obtain ⟨c_B7,f_B7,l_B7⟩:=blk3 B7.out
 try clear c_B8 f_B8 l_B8
 obtain ⟨c_B8,f_B8,l_B8⟩:=blk3 B8.out
 try clear c_B9 f_B9 l_B9
 obtain ⟨c_B9,f_B9,l_B9⟩:=blk3 B9.out
 obtain ⟨s4,hs4⟩:∃ s4,s4 = sm4 tl tm:=⟨_,rfl⟩
 rw [show sm4 (RH.n ⟨tn,ta,tl,tc,tb,tm,td⟩) (RH.m ⟨tn,ta,tl,tc,tb,tm,td⟩) = s4 from hs4.symm]
 have Hs4:=Hi hs4
 clear hs4
 cases s4
 case false =>
  go_wp2_with fail
  refine Calls.mono (awake20_any _) ?_
  rintro e w5 ⟨x5,rfl,hE,-⟩
  replace HX:=hE.tr HX
  replace B7:=hE.bl B7
  replace B8:=hE.bl B8
  replace B9:=hE.bl B9
  have hs_w5:=hE.size
  clear hE
  try clear c_B7 f_B7 l_B7
  obtain ⟨c_B7,f_B7,l_B7⟩:=blk3 B7.out
  try clear c_B8 f_B8 l_B8
  obtain ⟨c_B8,f_B8,l_B8⟩:=blk3 B8.out
  try clear c_B9 f_B9 l_B9
  obtain ⟨c_B9,f_B9,l_B9⟩:=blk3 B9.out
  go_wp2
  go_ret
  exact ⟨(),rfl,HX.out,trivial⟩
 go_wp2_with fail
 refine Calls.mono (smallpoly_any xo xn xc us _ (H5.out.ext HX.out)) ?_
 rintro e w5 ⟨x5,rfl,hE,g5⟩
 have G5:=Hi g5
 clear g5
 replace HX:=hE.tr HX
 replace B7:=hE.bl B7
 replace B8:=hE.bl B8
 replace B9:=hE.bl B9
 have hs_w5:=hE.size
 clear hE
 try clear c_B7 f_B7 l_B7
 obtain ⟨c_B7,f_B7,l_B7⟩:=blk3 B7.out
 try clear c_B8 f_B8 l_B8
 obtain ⟨c_B8,f_B8,l_B8⟩:=blk3 B8.out
 try clear c_B9 f_B9 l_B9
 obtain ⟨c_B9,f_B9,l_B9⟩:=blk3 B9.out
 cases x5
 case false =>
  go_wp2_with fail
  refine Calls.mono (awake20_any _) ?_
  rintro e w6 ⟨x6,rfl,hE,-⟩
  replace HX:=hE.tr HX
  replace B7:=hE.bl B7
  replace B8:=hE.bl B8
  replace B9:=hE.bl B9
  have hs_w6:=hE.size
  clear hE
  try clear c_B7 f_B7 l_B7
  obtain ⟨c_B7,f_B7,l_B7⟩:=blk3 B7.out
  try clear c_B8 f_B8 l_B8
  obtain ⟨c_B8,f_B8,l_B8⟩:=blk3 B8.out
  try clear c_B9 f_B9 l_B9
  obtain ⟨c_B9,f_B9,l_B9⟩:=blk3 B9.out
  go_wp2
  go_ret
  exact ⟨(),rfl,HX.out,trivial⟩
 obtain ⟨hb5,ha5,sb,sa⟩:=G2.out (by first | rfl | trivial)
 obtain ⟨hc5,hd5,sc,sd⟩:=G3.out (by first | rfl | trivial)
 obtain ⟨hx8,sx⟩:=G5.out.1 rfl
 obtain ⟨ht4,ht4'⟩:=sm4_le Hs4.out.symm
 simp only at hb5 ha5 hc5 hd5
 obtain ⟨b,hb,zb⟩:=rats_raw H1.out I1.out sb (by decide) (by decide)
 obtain ⟨a,ha,za⟩:=rats_raw H2.out I2.out sa (by decide) (by decide)
 obtain ⟨c,hc,zc⟩:=rats_raw H3.out I3.out sc (by decide) (by decide)
 obtain ⟨d,hd,zd⟩:=rats_raw H4.out I4.out sd (by decide) (by decide)
 obtain ⟨x,hx,zx⟩:=rats_raw H5.out I5.out sx (by decide) (by decide)
 obtain ⟨r,hr⟩:=RatIn.raw IT.out (by simp only; omega) (by simp only; omega)
 have zr:Sz 4 r:=hr.sz (by decide) (by simp only; omega) (by simp only; omega)
 have lb:=hb.len
 have la:=ha.len
 have lc':=hc.len
 have ld:=hd.len
 simp only at lb la lc' ld
 have FB:Hid (FrB 13 b):=Hi (FrB.of (n:=5) zb (by omega))
 have FA:Hid (FrB 13 a):=Hi (FrB.of (n:=5) za (by omega))
 have FC:Hid (FrB 13 c):=Hi (FrB.of (n:=5) zc (by omega))
 have FD:Hid (FrB 13 d):=Hi (FrB.of (n:=5) zd (by omega))
 have RFf:Hid (RawF w ⟨⟨ba,bn,bc⟩,⟨aa,an,ac⟩⟩ b a):=Hi ⟨hb,ha⟩
 have RFg:Hid (RawF w ⟨⟨ca,cn,cc⟩,⟨da,dn,dc⟩⟩ c d):=Hi ⟨hc,hd⟩
 have RX:=Hi hx
 have RT:=Hi hr
 have ZX:=Hi zx
 have ZR:=Hi zr
 have N5:Hid ((bn≤5∧an≤5)∧(cn≤5∧dn≤5)):=Hi ⟨⟨hb5,ha5⟩,⟨hc5,hd5⟩⟩
 have PF1:Hid (FrB 13 b2∧FrB 13 a2∧FrB 13 c2∧FrB 13 d2):=Hi ⟨P1.out.zb.mono (by decide),P1.out.za.mono (by decide),P2.out.zb.mono (by decide),P2.out.za.mono (by decide)⟩
 have V1:Hid (impV b2 a2 201 = (1,[])):=Hi (by unfold impV; rw [if_pos P1.out.vf,if_pos (Or.inr (by decide))])
 have P1l:Hid (b2.length≤5∧a2.length≤5):=Hi ⟨by have:=P1.out.lb; omega,by have:=P1.out.la; omega⟩
 have P2l:Hid (c2.length≤5∧d2.length≤5):=Hi ⟨by have:=P2.out.lb; omega,by have:=P2.out.la; omega⟩
 clear hb ha hc hd hx hr zb za zc zd zx zr lb la lc' ld sb sa sc sd sx hb5 ha5 hc5 hd5 ht4 ht4' G2 G3 G5 Hs4 H1 H2 H3 H4 H5 I1 I2 I3 I4 I5 IT
 go_wp2_with fail
 refine Calls.mono (HC1.out _ HX.out) ?_
 rintro e w7 ⟨x7,rfl,hE,g7⟩
 have G7:=Hi g7
 clear g7
 replace HX:=hE.tr HX
 replace B7:=hE.bl B7
 replace B8:=hE.bl B8
 replace B9:=hE.bl B9
 have hs_w7:=hE.size
 clear hE
 try clear c_B7 f_B7 l_B7
 obtain ⟨c_B7,f_B7,l_B7⟩:=blk3 B7.out
 try clear c_B8 f_B8 l_B8
 obtain ⟨c_B8,f_B8,l_B8⟩:=blk3 B8.out
 try clear c_B9 f_B9 l_B9
 obtain ⟨c_B9,f_B9,l_B9⟩:=blk3 B9.out
 obtain ⟨⟨ea,en,ec⟩,⟨fa,fn,fc⟩⟩:=x7
 have LE:=Hi G7.out.1
 have LF:=Hi G7.out.2
 have hen:=G7.out.1.len
 have hfn:=G7.out.2.len
 clear G7
 simp only at hen hfn
 have hel:=P1l.out.1
 have hfl:=P1l.out.2
 rw [hen] at hel
 rw [hfn] at hfl
 clear hen hfn
 simp only [FH.v,SH.v]
 go_wp2_with fail
 refine Calls.mono (impulse20_any ⟨⟨ea,en,ec⟩,⟨fa,fn,fc⟩⟩ b2 a2 201 13 13 _ ⟨LE.out.raw PF1.out.1.sz (by decide),LF.out.raw PF1.out.2.1.sz (by decide)⟩ (by simp only; omega) (by simp only; omega) (by decide) (by decide) PF1.out.1.sz PF1.out.2.1.sz (by decide) (by decide) (by decide) (by decide) (fun _ h=>absurd h (by decide))) ?_
 rintro e w8 ⟨x8,rfl,hE,g8⟩
 have G8:=Hi g8
 clear g8
 replace HX:=hE.tr HX
 replace B7:=hE.bl B7
 replace B8:=hE.bl B8
 replace B9:=hE.bl B9
 replace LE:=Hi (LE.out.ext hE)
 replace LF:=Hi (LF.out.ext hE)
 have hs_w8:=hE.size
 clear hE
 try clear c_B7 f_B7 l_B7
 obtain ⟨c_B7,f_B7,l_B7⟩:=blk3 B7.out
 try clear c_B8 f_B8 l_B8
 obtain ⟨c_B8,f_B8,l_B8⟩:=blk3 B8.out
 try clear c_B9 f_B9 l_B9
 obtain ⟨c_B9,f_B9,l_B9⟩:=blk3 B9.out
 obtain ⟨⟨ga,gn,gc⟩,e8⟩:=x8
 obtain ⟨he,-⟩:=G8.out
 rw [V1.out] at he
 simp only at he
 subst he
 clear G8
 clear LE
 clear LF
 simp only [RF,SH.v]
 go_upto_region 4 with fail
 refine wp_region_front 27 (fun opIx=>match opIx with
  | 0=>.spec Unit () (fun _=>.bool true) (fun _ _=>True)
  | 11=>.spec Unit () (fun _=>.int .i64 z9) (fun _ _=>True)
  | 13=>.spec Unit () (fun _=>.bool true) (fun _ _=>True)
  | 18=>.spec (FH) (⟨⟨none,0,0⟩,⟨none,0,0⟩⟩) (FH.v) (fun f w'=>CanF w' f b2 a2)
  | 21=>.spec (FH) (⟨⟨none,0,0⟩,⟨none,0,0⟩⟩) (FH.v) (fun f w'=>CanF w' f c2 d2)
  | 25=>.spec Unit () (fun _=>.int .i64 z12) (fun _ _=>True)
  | 26=>.spec Unit () (fun _=>.bool true) (fun _ _=>True)
  | _=>.quiet) (fun | 26=>[18,21] | _=>[]) (by kernel_rfl) (by kernel_rfl) (fun w0 he0 hz0 hc0 hf0=>?_)
 replace he0:=Hi he0
 simp only [pT]
 repeat (refine wpq fun K h=>?_; go_big_quiet_op; refine h _ ?_; clear h K)
 refine wps he0.out rfl rfl (fun w1 hW hG=>?_) fun x20=>?_
 ·exact spc [] Tryz.func64 (awake20_any _)
 simp only [pS]
 repeat (refine wpq fun K h=>?_; go_big_quiet_op; refine h _ ?_; clear h K)
 refine wps he0.out rfl rfl (fun w1 hW hG=>?_) fun x21=>?_
 ·exact spc [.int .i64 n,.int .i64 9] Tryz.func39 ((by rw [HZ9.out]; exact mod_any n 9 _ hn1 hn2 (by decide) (by decide)))
 simp only [pS]
 repeat (refine wpq fun K h=>?_; go_big_quiet_op; refine h _ ?_; clear h K)
 refine wps he0.out rfl rfl (fun w1 hW hG=>?_) fun x22=>?_
 ·exact spc [.agg #[.slice ba bn bc,.slice aa an ac],.agg #[.slice ca cn cc,.slice da dn dc],RH.v ⟨tn,ta,tl,tc,tb,tm,td⟩,.slice xo xn xc,.int .i64 (z9 - 1)] Tryz.func78 (compare20_any ⟨⟨ba,bn,bc⟩,⟨aa,an,ac⟩⟩ ⟨⟨ca,cn,cc⟩,⟨da,dn,dc⟩⟩ ⟨tn,ta,tl,tc,tb,tm,td⟩ xo xn xc (z9 - 1) b a c d x r _ (RFf.out.ext (HX.out.trans hW)) (RFg.out.ext (HX.out.trans hW)) (RT.out.ext (HX.out.trans hW)) (RX.out.ext (HX.out.trans hW)) N5.out.1 N5.out.2 FB.out FA.out FC.out FD.out ZX.out ZR.out hx8 (by omega) (by omega))
 simp only [pS]
 repeat (refine wpq fun K h=>?_; go_big_quiet_op; refine h _ ?_; clear h K)
 refine wps he0.out rfl rfl (fun w1 hW hG=>?_) fun x23=>?_
 ·exact spc [.slice lo N0 lc,.slice mo N1 mc] Tryz.func65 (HC1.out _ (HX.out.trans hW))
 simp only [pS]
 repeat (refine wpq fun K h=>?_; go_big_quiet_op; refine h _ ?_; clear h K)
 refine wps he0.out rfl rfl (fun w1 hW hG=>?_) fun x24=>?_
 ·exact spc [.slice mo N1 mc,.slice lo N0 lc] Tryz.func65 (HC2.out _ (HX.out.trans hW))
 simp only [pS]
 repeat (refine wpq fun K h=>?_; go_big_quiet_op; refine h _ ?_; clear h K)
 refine wps he0.out rfl rfl (fun w1 hW hG=>?_) fun x25=>?_
 ·exact spc [.int .i64 n,.int .i64 12] Tryz.func39 ((by rw [HZ12.out]; exact mod_any n 12 _ hn1 hn2 (by decide) (by decide)))
 simp only [pS]
 repeat (refine wpq fun K h=>?_; go_big_quiet_op; refine h _ ?_; clear h K)
 refine wps he0.out rfl rfl (fun w1 hW hG=>?_) fun x26=>?_
 ·have g23:=(hG 18 (by decide):Since _ _).get fun _ e g=>g.ext e
  have g24:=(hG 21 (by decide):Since _ _).get fun _ e g=>g.ext e
  exact spc [x23.v,x24.v,RH.v ⟨tn,ta,tl,tc,tb,tm,td⟩,.slice xo xn xc,.int .i64 z12] Tryz.func78 (compare20_any x23 x24 ⟨tn,ta,tl,tc,tb,tm,td⟩ xo xn xc z12 b2 a2 c2 d2 x r _ ⟨g23.1.raw PF1.out.1.sz (by decide),g23.2.raw PF1.out.2.1.sz (by decide)⟩ ⟨g24.1.raw PF1.out.2.2.1.sz (by decide),g24.2.raw PF1.out.2.2.2.sz (by decide)⟩ (RT.out.ext (HX.out.trans hW)) (RX.out.ext (HX.out.trans hW)) ⟨by have:=g23.1.len; have:=P1l.out.1; omega,by have:=g23.2.len; have:=P1l.out.2; omega⟩ ⟨by have:=g24.1.len; have:=P2l.out.1; omega,by have:=g24.2.len; have:=P2l.out.2; omega⟩ PF1.out.1 PF1.out.2.1 PF1.out.2.2.1 PF1.out.2.2.2 ZX.out ZR.out hx8 (by omega) (by omega))
 simp only [pS]
 repeat (refine wpq fun K h=>?_; go_big_quiet_op; refine h _ ?_; clear h K)
 refine wpF_nil ?_
 intro w9 hI
 have hE:=he0.out.trans hI.ext
 have G23:=Hi ((hI.facts 18:Since _ _).get fun _ e g=>g.ext e)
 have G24:=Hi ((hI.facts 21:Since _ _).get fun _ e g=>g.ext e)
 clear hI he0 hz0 hc0 hf0
 replace HX:=hE.tr HX
 replace B7:=hE.bl B7
 replace B8:=hE.bl B8
 replace B9:=hE.bl B9
 have hs_w9:=hE.size
 clear hE
 try clear c_B7 f_B7 l_B7
 obtain ⟨c_B7,f_B7,l_B7⟩:=blk3 B7.out
 try clear c_B8 f_B8 l_B8
 obtain ⟨c_B8,f_B8,l_B8⟩:=blk3 B8.out
 try clear c_B9 f_B9 l_B9
 obtain ⟨c_B9,f_B9,l_B9⟩:=blk3 B9.out
 simp only [pD]
 go_wp2
 go_ret
 exact ⟨(),rfl,HX.out,trivial⟩
end Go.Proofs.YtdchjfcklppmgaaGreat
