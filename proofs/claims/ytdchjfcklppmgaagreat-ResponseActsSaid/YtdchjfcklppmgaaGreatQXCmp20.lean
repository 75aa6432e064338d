/- fits, same, compare of the law of chapter 20. -/
import Derived.Test.YtdchjfcklppmgaaGreatQXR20e
import Derived.Test.YtdchjfcklppmgaaGreatQXSml
import Derived.Test.YtdchjfcklppmgaaGreatQXFil3
set_option linter.unusedVariables false
set_option maxRecDepth 8000
set_option maxHeartbeats 8000000
namespace Go.Proofs.YtdchjfcklppmgaaGreat
open Go.RowKit Go.Front Go.Num Stab
attribute [local go_sem] XW.cell XW.frozen
theorem lsame_any (f g:FH) (p q:List Rat) (w:World) (h:CanF w f p q) (k:CanF w g p q) :
  Does 176 [f.v,g.v] w (fun _:Unit=>.bool true) (fun _ _=>True):=by
 obtain ⟨⟨ba,bn,bc⟩,⟨aa,an,ac⟩⟩:=f
 obtain ⟨⟨ca,cn,cc⟩,⟨da,dn,dc⟩⟩:=g
 have L1:=Hi h.1
 have L2:=Hi h.2
 have L3:=Hi k.1
 have L4:=Hi k.2
 have HX:=Hi (Ext.refl w)
 clear h k
 unfold Does
 simp only [FH.v,SH.v]
 go_enter Tryz.func176,Tryz.ntmps176
 go_upto_region 1 with fail
 refine nm_alloc2 ?_
 intro w1 hE hB0 hB1 hz
 have hz_w1:=nle hz
 have hr_w1:=nle hz.symm
 clear hz
 replace HX:=hE.tr HX
 replace L1:=Hi (L1.out.ext hE)
 replace L2:=Hi (L2.out.ext hE)
 replace L3:=Hi (L3.out.ext hE)
 replace L4:=Hi (L4.out.ext hE)
 have hs_w1:=hE.size
 clear hE
 have B2:=Hi hB0
 clear hB0
 obtain ⟨c_B2,f_B2,l_B2⟩:=blk3 B2.out
 have B3:=Hi hB1
 clear hB1
 obtain ⟨c_B3,f_B3,l_B3⟩:=blk3 B3.out
 go_wp2_with fail
 refine Calls.mono (equal_any ⟨ba,bn,bc⟩ ⟨ca,cn,cc⟩ _ _ _ L1.out L3.out) ?_
 rintro e w2 ⟨x2,rfl,hE,-⟩
 replace HX:=hE.tr HX
 replace L1:=Hi (L1.out.ext hE)
 replace L2:=Hi (L2.out.ext hE)
 replace L3:=Hi (L3.out.ext hE)
 replace L4:=Hi (L4.out.ext hE)
 replace B2:=hE.bl B2
 replace B3:=hE.bl B3
 have hs_w2:=hE.size
 clear hE
 try clear c_B2 f_B2 l_B2
 obtain ⟨c_B2,f_B2,l_B2⟩:=blk3 B2.out
 try clear c_B3 f_B3 l_B3
 obtain ⟨c_B3,f_B3,l_B3⟩:=blk3 B3.out
 rw [decide_eq_true rfl]
 go_wp2_with fail
 refine Calls.mono (equal_any ⟨aa,an,ac⟩ ⟨da,dn,dc⟩ _ _ _ L2.out L4.out) ?_
 rintro e w3 ⟨x3,rfl,hE,-⟩
 replace HX:=hE.tr HX
 replace L1:=Hi (L1.out.ext hE)
 replace L2:=Hi (L2.out.ext hE)
 replace L3:=Hi (L3.out.ext hE)
 replace L4:=Hi (L4.out.ext hE)
 replace B2:=hE.bl B2
 replace B3:=hE.bl B3
 have hs_w3:=hE.size
 clear hE
 try clear c_B2 f_B2 l_B2
 obtain ⟨c_B2,f_B2,l_B2⟩:=blk3 B2.out
 try clear c_B3 f_B3 l_B3
 obtain ⟨c_B3,f_B3,l_B3⟩:=blk3 B3.out
 rw [decide_eq_true rfl]
 go_wp2
 go_ret
 exact ⟨(),rfl,HX.out,trivial⟩
def FitsP (f:FH) (rb ra:List RH):Prop:=f.b.n≤5∧f.a.n≤5∧SmD 2 rb∧SmD 2 ra
theorem fits_any (f:FH) (rb ra:List RH) (w:World) (h:RS w f.b rb) (k:RS w f.a ra) :
  Does 68 [f.v] w (fun b:Bool=>.bool b) (fun b _=>b = true→FitsP f rb ra):=by
 obtain ⟨⟨ba,bn,bc⟩,⟨aa,an,ac⟩⟩:=f
 have H:=Hi h
 have K:=Hi k
 have HX:=Hi (Ext.refl w)
 have h1:=h.le
 have h2:=h.max
 have k1:=k.le
 have k2:=k.max
 simp only at h1 h2 k1 k2
 clear h k
 unfold Does
 simp only [FH.v,SH.v]
 go_enter Tryz.func68,Tryz.ntmps68
 go_upto_region 1 with fail
 refine nm_alloc ?_
 intro w1 hE hB0 hz
 have hz_w1:=nle hz
 have hr_w1:=nle hz.symm
 clear hz
 replace HX:=hE.tr HX
 have hs_w1:=hE.size
 clear hE
 have B1:=Hi hB0
 clear hB0
 obtain ⟨c_B1,f_B1,l_B1⟩:=blk3 B1.out
 go_wp2_with fail
 refine Calls.mono (smallpoly_any ba bn bc rb _ (H.out.ext HX.out)) ?_
 rintro e w2 ⟨x2,rfl,hE,g2⟩
 have G2:=Hi g2
 clear g2
 replace HX:=hE.tr HX
 replace B1:=hE.bl B1
 have hs_w2:=hE.size
 clear hE
 try clear c_B1 f_B1 l_B1
 obtain ⟨c_B1,f_B1,l_B1⟩:=blk3 B1.out
 cases x2
 case false =>
  go_wp2
  go_ret
  exact ⟨false,rfl,HX.out,fun h=>by cases h⟩
 go_wp2_with fail
 refine Calls.mono (smallpoly_any aa an ac ra _ (K.out.ext HX.out)) ?_
 rintro e w3 ⟨x3,rfl,hE,g3⟩
 have G3:=Hi g3
 clear g3
 replace HX:=hE.tr HX
 replace B1:=hE.bl B1
 have hs_w3:=hE.size
 clear hE
 try clear c_B1 f_B1 l_B1
 obtain ⟨c_B1,f_B1,l_B1⟩:=blk3 B1.out
 cases x3
 case false =>
  go_wp2
  go_ret
  exact ⟨false,rfl,HX.out,fun h=>by cases h⟩
 by_cases hb5:bn≤5
 case neg =>
  have hb5i:¬ (bn:Int)≤5:=by omega
  go_wp2
  go_ret
  exact ⟨false,rfl,HX.out,fun h=>by cases h⟩
 have hb5i:(bn:Int)≤5:=by omega
 by_cases ha5:an≤5
 case neg =>
  have ha5i:¬ (an:Int)≤5:=by omega
  go_wp2
  go_ret
  refine ⟨decide ((an:Int)≤5),rfl,HX.out,fun h=>by have:=of_decide_eq_true h; omega⟩
 have ha5i:(an:Int)≤5:=by omega
 go_wp2
 go_ret
 exact ⟨true,rfl,HX.out,fun _=>⟨hb5,ha5,(G2.out.1 rfl).2,(G3.out.1 rfl).2⟩⟩
theorem rk5 {lb la N:Nat} (h1:lb≤5) (h2:la≤5) (h3:N≤11):runK 13 13 2 lb la * 2 ^ N≤60000000:=Nat.le_trans (Nat.mul_le_mul (runK_mono (Nat.le_refl 13) (Nat.le_refl 13) (Nat.le_refl 2) h1 h2) (Nat.pow_le_pow_right (by decide) h3)) (by decide)
theorem compare20_any (f g:FH) (t:RH) (xo:Option Addr) (N xc:Nat) (n:Int) (b a c d x:List Rat) (r:Rat) (w:World) (h:RawF w f b a) (k:RawF w g c d) (ht:RawR w t r) (hx:RawL w ⟨xo,N,xc⟩ x)
  (hf:f.b.n≤5∧f.a.n≤5) (hg:g.b.n≤5∧g.a.n≤5) (zb:FrB 13 b) (za:FrB 13 a) (zc:FrB 13 c) (zd:FrB 13 d) (zx:SzL 2 x) (zr:Sz 4 r) (hN:N≤8) (hn1:-1≤n) (hn2:n≤11) :
  Does 78 [f.v,g.v,t.v,.slice xo N xc,.int .i64 n] w (fun _:Unit=>.bool true) (fun _ _=>True):=by
 obtain ⟨⟨ba,bn,bc⟩,⟨aa,an,ac⟩⟩:=f
 obtain ⟨⟨ca,cn,cc⟩,⟨da,dn,dc⟩⟩:=g
 obtain ⟨tn,ta,tl,tc,tb,tm,td⟩:=t
 have H:=Hi h
 have K:=Hi k
 have HT:=Hi ht
 have HL:=Hi hx
 have HX:=Hi (Ext.refl w)
 have ZB:=Hi zb
 have ZA:=Hi za
 have ZC:=Hi zc
 have ZD:=Hi zd
 have ZX:=Hi zx
 have ZR:=Hi zr
 have lb:=h.1.len
 have la:=h.2.len
 simp only at hf hg lb la
 have ltb:=tz_len_le b
 have lta:=tz_len_le a
 have K1:Hid (∀ M,M≤11→runK 13 13 2 (tz b).length (tz a).length * 2 ^ M≤60000000):=Hi (fun M hM=>rk5 (by omega) (by omega) hM)
 have K2:Hid (∀ M,M≤11→runK 13 13 2 b.length a.length * 2 ^ M≤60000000):=Hi (fun M hM=>rk5 (by omega) (by omega) hM)
 have K3:Hid (∀ M,M≤11→runK 13 13 1 (tz b).length (tz a).length * 2 ^ M≤60000000):=Hi (fun M hM=>Nat.le_trans (Nat.mul_le_mul_right _ (runK_mono (Nat.le_refl _) (Nat.le_refl _) (by decide) (Nat.le_refl _) (Nat.le_refl _))) (rk5 (by omega) (by omega) hM))
 have K4:Hid (∀ M,M≤11→runK 13 13 1 b.length a.length * 2 ^ M≤60000000):=Hi (fun M hM=>Nat.le_trans (Nat.mul_le_mul_right _ (runK_mono (Nat.le_refl _) (Nat.le_refl _) (by decide) (Nat.le_refl _) (Nat.le_refl _))) (rk5 (by omega) (by omega) hM))
 clear h k ht hx zb za zc zd zx zr lb la ltb lta
 have NF:Hid ((⟨⟨ba,bn,bc⟩,⟨aa,an,ac⟩⟩:FH).b.n≤100∧(⟨⟨ba,bn,bc⟩,⟨aa,an,ac⟩⟩:FH).a.n≤100):=Hi ⟨by simp only; omega,by simp only; omega⟩
 have NG:Hid ((⟨⟨ca,cn,cc⟩,⟨da,dn,dc⟩⟩:FH).b.n≤100∧(⟨⟨ca,cn,cc⟩,⟨da,dn,dc⟩⟩:FH).a.n≤100):=Hi ⟨by simp only; omega,by simp only; omega⟩
 unfold Does
 simp only [FH.v,SH.v]
 go_enter Tryz.func78,Tryz.ntmps78
 go_upto_region 1 with fail
 refine nm_alloc3 ?_
 intro w1 hE hB0 hB1 hB2 hz
 have hz_w1:=nle hz
 have hr_w1:=nle hz.symm
 clear hz
 replace HX:=hE.tr HX
 have hs_w1:=hE.size
 clear hE
 have B5:=Hi hB0
 clear hB0
 obtain ⟨c_B5,f_B5,l_B5⟩:=blk3 B5.out
 have B6:=Hi hB1
 clear hB1
 obtain ⟨c_B6,f_B6,l_B6⟩:=blk3 B6.out
 have B7:=Hi hB2
 clear hB2
 obtain ⟨c_B7,f_B7,l_B7⟩:=blk3 B7.out
 obtain ⟨Va,hVa⟩:∃ V,V = serV b a c d:=⟨_,rfl⟩
 have HVa:=Hi hVa
 clear hVa
 obtain ⟨va1,va2,va3⟩:=Va
 obtain ⟨Vb,hVb⟩:∃ V,V = parV b a c d:=⟨_,rfl⟩
 have HVb:=Hi hVb
 clear hVb
 obtain ⟨vb1,vb2,vb3⟩:=Vb
 obtain ⟨Vc,hVc⟩:∃ V,V = sclV b a r:=⟨_,rfl⟩
 have HVc:=Hi hVc
 clear hVc
 obtain ⟨vc1,vc2,vc3⟩:=Vc
 obtain ⟨Vd,hVd⟩:∃ V,V = samV b a c d:=⟨_,rfl⟩
 have HVd:=Hi hVd
 clear hVd
 obtain ⟨vd1,vd2⟩:=Vd
 obtain ⟨Vi,hVi⟩:∃ V,V = impV b a n:=⟨_,rfl⟩
 have HVi:=Hi hVi
 clear hVi
 obtain ⟨vi1,vi2⟩:=Vi
 obtain ⟨Vr,hVr⟩:∃ V,V = runV b a x:=⟨_,rfl⟩
 have HVr:=Hi hVr
 clear hVr
 obtain ⟨vr1,vr2⟩:=Vr
 go_wp2_with fail
 refine Calls.mono (series20_any ⟨⟨ba,bn,bc⟩,⟨aa,an,ac⟩⟩ ⟨⟨ca,cn,cc⟩,⟨da,dn,dc⟩⟩ b a c d 13 _ (H.out.ext HX.out) (K.out.ext HX.out) NF.out NG.out ZB.out ZA.out ZC.out ZD.out (by decide)) ?_
 rintro e w2 ⟨x2,rfl,hE,g2⟩
 have G2:=Hi g2
 clear g2
 replace HX:=hE.tr HX
 replace B5:=hE.bl B5
 replace B6:=hE.bl B6
 replace B7:=hE.bl B7
 have hs_w2:=hE.size
 clear hE
 try clear c_B5 f_B5 l_B5
 obtain ⟨c_B5,f_B5,l_B5⟩:=blk3 B5.out
 try clear c_B6 f_B6 l_B6
 obtain ⟨c_B6,f_B6,l_B6⟩:=blk3 B6.out
 try clear c_B7 f_B7 l_B7
 obtain ⟨c_B7,f_B7,l_B7⟩:=blk3 B7.out
 obtain ⟨⟨⟨p2,m2,q2⟩,⟨r2,k2,s2⟩⟩,e2⟩:=x2
 obtain ⟨he,h1,h2⟩:=G2.out
 rw [← HVa.out] at he h1 h2
 simp only at he h1 h2
 subst he
 have LA2:=Hi h1
 have LB2:=Hi h2
 clear h1 h2 G2
 simp only [FE,FH.v,SH.v]
 go_upto_region 2 with fail
 refine nm_alloc ?_
 intro w3 hE hB0 hz
 have hz_w3:=nle hz
 have hr_w3:=nle hz.symm
 clear hz
 replace HX:=hE.tr HX
 replace B5:=hE.bl B5
 replace B6:=hE.bl B6
 replace B7:=hE.bl B7
 replace LA2:=Hi (LA2.out.ext hE)
 replace LB2:=Hi (LB2.out.ext hE)
 have hs_w3:=hE.size
 clear hE
 try clear c_B5 f_B5 l_B5
 obtain ⟨c_B5,f_B5,l_B5⟩:=blk3 B5.out
 try clear c_B6 f_B6 l_B6
 obtain ⟨c_B6,f_B6,l_B6⟩:=blk3 B6.out
 try clear c_B7 f_B7 l_B7
 obtain ⟨c_B7,f_B7,l_B7⟩:=blk3 B7.out
 have B11:=Hi hB0
 clear hB0
 obtain ⟨c_B11,f_B11,l_B11⟩:=blk3 B11.out
 go_wp2_with fail
 refine Calls.mono (rseries_any ⟨⟨ba,bn,bc⟩,⟨aa,an,ac⟩⟩ ⟨⟨ca,cn,cc⟩,⟨da,dn,dc⟩⟩ b a c d 13 _ (H.out.ext HX.out) (K.out.ext HX.out) NF.out NG.out ZB.out ZA.out ZC.out ZD.out (by decide)) ?_
 rintro e w4 ⟨x4,rfl,hE,g4⟩
 have G4:=Hi g4
 clear g4
 replace HX:=hE.tr HX
 replace B5:=hE.bl B5
 replace B6:=hE.bl B6
 replace B7:=hE.bl B7
 replace LA2:=Hi (LA2.out.ext hE)
 replace LB2:=Hi (LB2.out.ext hE)
 replace B11:=hE.bl B11
 have hs_w4:=hE.size
 clear hE
 try clear c_B5 f_B5 l_B5
 obtain ⟨c_B5,f_B5,l_B5⟩:=blk3 B5.out
 try clear c_B6 f_B6 l_B6
 obtain ⟨c_B6,f_B6,l_B6⟩:=blk3 B6.out
 try clear c_B7 f_B7 l_B7
 obtain ⟨c_B7,f_B7,l_B7⟩:=blk3 B7.out
 try clear c_B11 f_B11 l_B11
 obtain ⟨c_B11,f_B11,l_B11⟩:=blk3 B11.out
 obtain ⟨⟨⟨p4,m4,q4⟩,⟨r4,k4,s4⟩⟩,e4⟩:=x4
 obtain ⟨he,h1,h2⟩:=G4.out
 rw [← HVa.out] at he h1 h2
 simp only at he h1 h2
 subst he
 have LA4:=Hi h1
 have LB4:=Hi h2
 clear h1 h2 G4
 simp only [FE,FH.v,SH.v]
 go_upto_region 3 with fail
 refine nm_alloc ?_
 intro w5 hE hB0 hz
 have hz_w5:=nle hz
 have hr_w5:=nle hz.symm
 clear hz
 replace HX:=hE.tr HX
 replace B5:=hE.bl B5
 replace B6:=hE.bl B6
 replace B7:=hE.bl B7
 replace LA2:=Hi (LA2.out.ext hE)
 replace LB2:=Hi (LB2.out.ext hE)
 replace B11:=hE.bl B11
 replace LA4:=Hi (LA4.out.ext hE)
 replace LB4:=Hi (LB4.out.ext hE)
 have hs_w5:=hE.size
 clear hE
 try clear c_B5 f_B5 l_B5
 obtain ⟨c_B5,f_B5,l_B5⟩:=blk3 B5.out
 try clear c_B6 f_B6 l_B6
 obtain ⟨c_B6,f_B6,l_B6⟩:=blk3 B6.out
 try clear c_B7 f_B7 l_B7
 obtain ⟨c_B7,f_B7,l_B7⟩:=blk3 B7.out
 try clear c_B11 f_B11 l_B11
 obtain ⟨c_B11,f_B11,l_B11⟩:=blk3 B11.out
 have B13:=Hi hB0
 clear hB0
 obtain ⟨c_B13,f_B13,l_B13⟩:=blk3 B13.out
 go_wp2_with fail
 refine Calls.mono (parallel20_any ⟨⟨ba,bn,bc⟩,⟨aa,an,ac⟩⟩ ⟨⟨ca,cn,cc⟩,⟨da,dn,dc⟩⟩ b a c d 13 _ (H.out.ext HX.out) (K.out.ext HX.out) NF.out NG.out ZB.out ZA.out ZC.out ZD.out (by decide)) ?_
 rintro e w6 ⟨x6,rfl,hE,g6⟩
 have G6:=Hi g6
 clear g6
 replace HX:=hE.tr HX
 replace B5:=hE.bl B5
 replace B6:=hE.bl B6
 replace B7:=hE.bl B7
 replace LA2:=Hi (LA2.out.ext hE)
 replace LB2:=Hi (LB2.out.ext hE)
 replace B11:=hE.bl B11
 replace LA4:=Hi (LA4.out.ext hE)
 replace LB4:=Hi (LB4.out.ext hE)
 replace B13:=hE.bl B13
 have hs_w6:=hE.size
 clear hE
 try clear c_B5 f_B5 l_B5
 obtain ⟨c_B5,f_B5,l_B5⟩:=blk3 B5.out
 try clear c_B6 f_B6 l_B6
 obtain ⟨c_B6,f_B6,l_B6⟩:=blk3 B6.out
 try clear c_B7 f_B7 l_B7
 obtain ⟨c_B7,f_B7,l_B7⟩:=blk3 B7.out
 try clear c_B11 f_B11 l_B11
 obtain ⟨c_B11,f_B11,l_B11⟩:=blk3 B11.out
 try clear c_B13 f_B13 l_B13
 obtain ⟨c_B13,f_B13,l_B13⟩:=blk3 B13.out
 obtain ⟨⟨⟨p6,m6,q6⟩,⟨r6,k6,s6⟩⟩,e6⟩:=x6
 obtain ⟨he,h1,h2⟩:=G6.out
 rw [← HVb.out] at he h1 h2
 simp only at he h1 h2
 subst he
 have LA6:=Hi h1
 have LB6:=Hi h2
 clear h1 h2 G6
 simp only [FE,FH.v,SH.v]
 go_upto_region 4 with fail
 refine nm_alloc ?_
 intro w7 hE hB0 hz
 have hz_w7:=nle hz
 have hr_w7:=nle hz.symm
 clear hz
 replace HX:=hE.tr HX
 replace B5:=hE.bl B5
 replace B6:=hE.bl B6
 replace B7:=hE.bl B7
 replace LA2:=Hi (LA2.out.ext hE)
 replace LB2:=Hi (LB2.out.ext hE)
 replace B11:=hE.bl B11
 replace LA4:=Hi (LA4.out.ext hE)
 replace LB4:=Hi (LB4.out.ext hE)
 replace B13:=hE.bl B13
 replace LA6:=Hi (LA6.out.ext hE)
 replace LB6:=Hi (LB6.out.ext hE)
 have hs_w7:=hE.size
 clear hE
 try clear c_B5 f_B5 l_B5
 obtain ⟨c_B5,f_B5,l_B5⟩:=blk3 B5.out
 try clear c_B6 f_B6 l_B6
 obtain ⟨c_B6,f_B6,l_B6⟩:=blk3 B6.out
 try clear c_B7 f_B7 l_B7
 obtain ⟨c_B7,f_B7,l_B7⟩:=blk3 B7.out
 try clear c_B11 f_B11 l_B11
 obtain ⟨c_B11,f_B11,l_B11⟩:=blk3 B11.out
 try clear c_B13 f_B13 l_B13
 obtain ⟨c_B13,f_B13,l_B13⟩:=blk3 B13.out
 have B15:=Hi hB0
 clear hB0
 obtain ⟨c_B15,f_B15,l_B15⟩:=blk3 B15.out
 go_wp2_with fail
 refine Calls.mono (rparallel_any ⟨⟨ba,bn,bc⟩,⟨aa,an,ac⟩⟩ ⟨⟨ca,cn,cc⟩,⟨da,dn,dc⟩⟩ b a c d 13 _ (H.out.ext HX.out) (K.out.ext HX.out) NF.out NG.out ZB.out ZA.out ZC.out ZD.out (by decide)) ?_
 rintro e w8 ⟨x8,rfl,hE,g8⟩
 have G8:=Hi g8
 clear g8
 replace HX:=hE.tr HX
 replace B5:=hE.bl B5
 replace B6:=hE.bl B6
 replace B7:=hE.bl B7
 replace LA2:=Hi (LA2.out.ext hE)
 replace LB2:=Hi (LB2.out.ext hE)
 replace B11:=hE.bl B11
 replace LA4:=Hi (LA4.out.ext hE)
 replace LB4:=Hi (LB4.out.ext hE)
 replace B13:=hE.bl B13
 replace LA6:=Hi (LA6.out.ext hE)
 replace LB6:=Hi (LB6.out.ext hE)
 replace B15:=hE.bl B15
 have hs_w8:=hE.size
 clear hE
 try clear c_B5 f_B5 l_B5
 obtain ⟨c_B5,f_B5,l_B5⟩:=blk3 B5.out
 try clear c_B6 f_B6 l_B6
 obtain ⟨c_B6,f_B6,l_B6⟩:=blk3 B6.out
 try clear c_B7 f_B7 l_B7
 obtain ⟨c_B7,f_B7,l_B7⟩:=blk3 B7.out
 try clear c_B11 f_B11 l_B11
 obtain ⟨c_B11,f_B11,l_B11⟩:=blk3 B11.out
 try clear c_B13 f_B13 l_B13
 obtain ⟨c_B13,f_B13,l_B13⟩:=blk3 B13.out
 try clear c_B15 f_B15 l_B15
 obtain ⟨c_B15,f_B15,l_B15⟩:=blk3 B15.out
 obtain ⟨⟨⟨p8,m8,q8⟩,⟨r8,k8,s8⟩⟩,e8⟩:=x8
 obtain ⟨he,h1,h2⟩:=G8.out
 rw [← HVb.out] at he h1 h2
 simp only at he h1 h2
 subst he
 have LA8:=Hi h1
 have LB8:=Hi h2
 clear h1 h2 G8
 simp only [FE,FH.v,SH.v]
 go_upto_region 5 with fail
 refine nm_alloc ?_
 intro w9 hE hB0 hz
 have hz_w9:=nle hz
 have hr_w9:=nle hz.symm
 clear hz
 replace HX:=hE.tr HX
 replace B5:=hE.bl B5
 replace B6:=hE.bl B6
 replace B7:=hE.bl B7
 replace LA2:=Hi (LA2.out.ext hE)
 replace LB2:=Hi (LB2.out.ext hE)
 replace B11:=hE.bl B11
 replace LA4:=Hi (LA4.out.ext hE)
 replace LB4:=Hi (LB4.out.ext hE)
 replace B13:=hE.bl B13
 replace LA6:=Hi (LA6.out.ext hE)
 replace LB6:=Hi (LB6.out.ext hE)
 replace B15:=hE.bl B15
 replace LA8:=Hi (LA8.out.ext hE)
 replace LB8:=Hi (LB8.out.ext hE)
 have hs_w9:=hE.size
 clear hE
 try clear c_B5 f_B5 l_B5
 obtain ⟨c_B5,f_B5,l_B5⟩:=blk3 B5.out
 try clear c_B6 f_B6 l_B6
 obtain ⟨c_B6,f_B6,l_B6⟩:=blk3 B6.out
 try clear c_B7 f_B7 l_B7
 obtain ⟨c_B7,f_B7,l_B7⟩:=blk3 B7.out
 try clear c_B11 f_B11 l_B11
 obtain ⟨c_B11,f_B11,l_B11⟩:=blk3 B11.out
 try clear c_B13 f_B13 l_B13
 obtain ⟨c_B13,f_B13,l_B13⟩:=blk3 B13.out
 try clear c_B15 f_B15 l_B15
 obtain ⟨c_B15,f_B15,l_B15⟩:=blk3 B15.out
 have B17:=Hi hB0
 clear hB0
 obtain ⟨c_B17,f_B17,l_B17⟩:=blk3 B17.out
 obtain ⟨vf,hvf⟩:∃ vf,vf = decide (VF b a):=⟨_,rfl⟩
 have HVF:=Hi hvf
 clear hvf
 refine wp_region_front 25 (fun opIx=>match opIx with
  | 11=>.spec Unit () (fun _=>.bool true) (fun _ _=>True)
  | 17=>.spec Unit () (fun _=>.bool true) (fun _ _=>True)
  | 22=>.spec Unit () (fun _=>.bool vf) (fun _ _=>True)
  | 24=>.spec Unit () (fun _=>.bool vf) (fun _ _=>True)
  | _=>.quiet) (fun _=>[]) (by kernel_rfl) (by kernel_rfl) (fun w0 he0 hz0 hc0 hf0=>?_)
 replace he0:=Hi he0
 simp only [pT]
 repeat (refine wpq fun K h=>?_; go_big_quiet_op; refine h _ ?_; clear h K)
 refine wps he0.out rfl rfl (fun w1 hW hG=>?_) fun x20=>?_
 ·exact spc [FH.v ⟨⟨p2,m2,q2⟩,⟨r2,k2,s2⟩⟩,FH.v ⟨⟨p4,m4,q4⟩,⟨r4,k4,s4⟩⟩] Tryz.func176 (lsame_any ⟨⟨p2,m2,q2⟩,⟨r2,k2,s2⟩⟩ ⟨⟨p4,m4,q4⟩,⟨r4,k4,s4⟩⟩ _ _ _ ⟨LA2.out.ext hW,LB2.out.ext hW⟩ ⟨LA4.out.ext hW,LB4.out.ext hW⟩)
 simp only [pS]
 repeat (refine wpq fun K h=>?_; go_big_quiet_op; refine h _ ?_; clear h K)
 refine wps he0.out rfl rfl (fun w1 hW hG=>?_) fun x21=>?_
 ·exact spc [FH.v ⟨⟨p6,m6,q6⟩,⟨r6,k6,s6⟩⟩,FH.v ⟨⟨p8,m8,q8⟩,⟨r8,k8,s8⟩⟩] Tryz.func176 (lsame_any ⟨⟨p6,m6,q6⟩,⟨r6,k6,s6⟩⟩ ⟨⟨p8,m8,q8⟩,⟨r8,k8,s8⟩⟩ _ _ _ ⟨LA6.out.ext hW,LB6.out.ext hW⟩ ⟨LA8.out.ext hW,LB8.out.ext hW⟩)
 simp only [pS]
 repeat (refine wpq fun K h=>?_; go_big_quiet_op; refine h _ ?_; clear h K)
 refine wps he0.out rfl rfl (fun w1 hW hG=>?_) fun x22=>?_
 ·exact spc [FH.v ⟨⟨ba,bn,bc⟩,⟨aa,an,ac⟩⟩] Tryz.func148 ((by rw [HVF.out]; exact valid20_any ⟨⟨ba,bn,bc⟩,⟨aa,an,ac⟩⟩ b a _ ((H.out.ext HX.out).ext hW)))
 simp only [pS]
 repeat (refine wpq fun K h=>?_; go_big_quiet_op; refine h _ ?_; clear h K)
 refine wps he0.out rfl rfl (fun w1 hW hG=>?_) fun x23=>?_
 ·exact spc [FH.v ⟨⟨ba,bn,bc⟩,⟨aa,an,ac⟩⟩] Tryz.func156 ((by rw [HVF.out]; exact rvalid_any ⟨⟨ba,bn,bc⟩,⟨aa,an,ac⟩⟩ b a _ ((H.out.ext HX.out).ext hW) (by simp only; omega) (by simp only; omega) ZB.out.sz ZA.out.sz (by decide)))
 simp only [pS]
 repeat (refine wpq fun K h=>?_; go_big_quiet_op; refine h _ ?_; clear h K)
 refine wpF_nil ?_
 intro w10 hI
 have hE:=he0.out.trans hI.ext
 clear hI he0 hz0 hc0 hf0
 replace HX:=hE.tr HX
 replace B5:=hE.bl B5
 replace B6:=hE.bl B6
 replace B7:=hE.bl B7
 replace LA2:=Hi (LA2.out.ext hE)
 replace LB2:=Hi (LB2.out.ext hE)
 replace B11:=hE.bl B11
 replace LA4:=Hi (LA4.out.ext hE)
 replace LB4:=Hi (LB4.out.ext hE)
 replace B13:=hE.bl B13
 replace LA6:=Hi (LA6.out.ext hE)
 replace LB6:=Hi (LB6.out.ext hE)
 replace B15:=hE.bl B15
 replace LA8:=Hi (LA8.out.ext hE)
 replace LB8:=Hi (LB8.out.ext hE)
 replace B17:=hE.bl B17
 have hs_w10:=hE.size
 clear hE
 try clear c_B5 f_B5 l_B5
 obtain ⟨c_B5,f_B5,l_B5⟩:=blk3 B5.out
 try clear c_B6 f_B6 l_B6
 obtain ⟨c_B6,f_B6,l_B6⟩:=blk3 B6.out
 try clear c_B7 f_B7 l_B7
 obtain ⟨c_B7,f_B7,l_B7⟩:=blk3 B7.out
 try clear c_B11 f_B11 l_B11
 obtain ⟨c_B11,f_B11,l_B11⟩:=blk3 B11.out
 try clear c_B13 f_B13 l_B13
 obtain ⟨c_B13,f_B13,l_B13⟩:=blk3 B13.out
 try clear c_B15 f_B15 l_B15
 obtain ⟨c_B15,f_B15,l_B15⟩:=blk3 B15.out
 try clear c_B17 f_B17 l_B17
 obtain ⟨c_B17,f_B17,l_B17⟩:=blk3 B17.out
 simp only [pD]
 clear LA2
 clear LB2
 clear LA4
 clear LB4
 clear LA6
 clear LB6
 clear LA8
 clear LB8
 (try clear c_B15 f_B15 l_B15); clear B15
 (try clear c_B17 f_B17 l_B17); clear B17
 go_wp2_with fail
 refine Calls.mono (scale20_any ⟨⟨ba,bn,bc⟩,⟨aa,an,ac⟩⟩ ⟨tn,ta,tl,tc,tb,tm,td⟩ b a r 13 4 _ (H.out.ext HX.out) (HT.out.ext HX.out) NF.out ZB.out.sz ZA.out.sz ZR.out (by decide) (by decide)) ?_
 rintro e w12 ⟨x12,rfl,hE,g12⟩
 have G12:=Hi g12
 clear g12
 replace HX:=hE.tr HX
 replace B5:=hE.bl B5
 replace B6:=hE.bl B6
 replace B7:=hE.bl B7
 replace B11:=hE.bl B11
 replace B13:=hE.bl B13
 have hs_w12:=hE.size
 clear hE
 try clear c_B5 f_B5 l_B5
 obtain ⟨c_B5,f_B5,l_B5⟩:=blk3 B5.out
 try clear c_B6 f_B6 l_B6
 obtain ⟨c_B6,f_B6,l_B6⟩:=blk3 B6.out
 try clear c_B7 f_B7 l_B7
 obtain ⟨c_B7,f_B7,l_B7⟩:=blk3 B7.out
 try clear c_B11 f_B11 l_B11
 obtain ⟨c_B11,f_B11,l_B11⟩:=blk3 B11.out
 try clear c_B13 f_B13 l_B13
 obtain ⟨c_B13,f_B13,l_B13⟩:=blk3 B13.out
 obtain ⟨⟨⟨p12,m12,q12⟩,⟨r12,k12,s12⟩⟩,e12⟩:=x12
 obtain ⟨he,h1,h2⟩:=G12.out
 rw [← HVc.out] at he h1 h2
 simp only at he h1 h2
 subst he
 have LA12:=Hi h1
 have LB12:=Hi h2
 clear h1 h2 G12
 simp only [FE,FH.v,SH.v]
 go_upto_region 8 with fail
 refine nm_setF B11.out rfl ?_
 intro w13 T
 replace LA12:=Hi (CanL.put2 LA12.out B11.out T)
 replace LB12:=Hi (CanL.put2 LB12.out B11.out T)
 replace HX:=Hi (T.ext HX.out (by omega))
 replace B5:=Hi (T.rest _ _ (by omega) B5.out)
 replace B6:=Hi (T.rest _ _ (by omega) B6.out)
 replace B7:=Hi (T.rest _ _ (by omega) B7.out)
 replace B11:=Hi (T.bx)
 replace B13:=Hi (T.rest _ _ (by omega) B13.out)
 have hs_w13:=nle T.size
 have hr_w13:=nle T.size.symm
 clear T
 try clear c_B5 f_B5 l_B5
 obtain ⟨c_B5,f_B5,l_B5⟩:=blk3 B5.out
 try clear c_B6 f_B6 l_B6
 obtain ⟨c_B6,f_B6,l_B6⟩:=blk3 B6.out
 try clear c_B7 f_B7 l_B7
 obtain ⟨c_B7,f_B7,l_B7⟩:=blk3 B7.out
 try clear c_B11 f_B11 l_B11
 obtain ⟨c_B11,f_B11,l_B11⟩:=blk3 B11.out
 try clear c_B13 f_B13 l_B13
 obtain ⟨c_B13,f_B13,l_B13⟩:=blk3 B13.out
 go_wp2_with fail
 refine Calls.mono (rscale_any ⟨⟨ba,bn,bc⟩,⟨aa,an,ac⟩⟩ ⟨tn,ta,tl,tc,tb,tm,td⟩ b a r 13 4 _ (H.out.ext HX.out) (HT.out.ext HX.out) NF.out ZB.out.sz ZA.out.sz ZR.out (by decide) (by decide)) ?_
 rintro e w14 ⟨x14,rfl,hE,g14⟩
 have G14:=Hi g14
 clear g14
 replace HX:=hE.tr HX
 replace B5:=hE.bl B5
 replace B6:=hE.bl B6
 replace B7:=hE.bl B7
 replace B11:=hE.bl B11
 replace B13:=hE.bl B13
 replace LA12:=Hi (LA12.out.ext hE)
 replace LB12:=Hi (LB12.out.ext hE)
 have hs_w14:=hE.size
 clear hE
 try clear c_B5 f_B5 l_B5
 obtain ⟨c_B5,f_B5,l_B5⟩:=blk3 B5.out
 try clear c_B6 f_B6 l_B6
 obtain ⟨c_B6,f_B6,l_B6⟩:=blk3 B6.out
 try clear c_B7 f_B7 l_B7
 obtain ⟨c_B7,f_B7,l_B7⟩:=blk3 B7.out
 try clear c_B11 f_B11 l_B11
 obtain ⟨c_B11,f_B11,l_B11⟩:=blk3 B11.out
 try clear c_B13 f_B13 l_B13
 obtain ⟨c_B13,f_B13,l_B13⟩:=blk3 B13.out
 obtain ⟨⟨⟨p14,m14,q14⟩,⟨r14,k14,s14⟩⟩,e14⟩:=x14
 obtain ⟨he,h1,h2⟩:=G14.out
 rw [← HVc.out] at he h1 h2
 simp only at he h1 h2
 subst he
 have LA14:=Hi h1
 have LB14:=Hi h2
 clear h1 h2 G14
 simp only [FE,FH.v,SH.v]
 go_upto_region 9 with fail
 refine nm_setF B13.out rfl ?_
 intro w15 T
 replace LA12:=Hi (CanL.put2 LA12.out B13.out T)
 replace LB12:=Hi (CanL.put2 LB12.out B13.out T)
 replace LA14:=Hi (CanL.put2 LA14.out B13.out T)
 replace LB14:=Hi (CanL.put2 LB14.out B13.out T)
 replace HX:=Hi (T.ext HX.out (by omega))
 replace B5:=Hi (T.rest _ _ (by omega) B5.out)
 replace B6:=Hi (T.rest _ _ (by omega) B6.out)
 replace B7:=Hi (T.rest _ _ (by omega) B7.out)
 replace B11:=Hi (T.rest _ _ (by omega) B11.out)
 replace B13:=Hi (T.bx)
 have hs_w15:=nle T.size
 have hr_w15:=nle T.size.symm
 clear T
 try clear c_B5 f_B5 l_B5
 obtain ⟨c_B5,f_B5,l_B5⟩:=blk3 B5.out
 try clear c_B6 f_B6 l_B6
 obtain ⟨c_B6,f_B6,l_B6⟩:=blk3 B6.out
 try clear c_B7 f_B7 l_B7
 obtain ⟨c_B7,f_B7,l_B7⟩:=blk3 B7.out
 try clear c_B11 f_B11 l_B11
 obtain ⟨c_B11,f_B11,l_B11⟩:=blk3 B11.out
 try clear c_B13 f_B13 l_B13
 obtain ⟨c_B13,f_B13,l_B13⟩:=blk3 B13.out
 go_wp2_with fail
 refine Calls.mono (same20_any ⟨⟨ba,bn,bc⟩,⟨aa,an,ac⟩⟩ ⟨⟨ca,cn,cc⟩,⟨da,dn,dc⟩⟩ b a c d 13 _ (H.out.ext HX.out) (K.out.ext HX.out) NF.out NG.out ZB.out ZA.out ZC.out ZD.out (by decide)) ?_
 rintro e w16 ⟨x16,rfl,hE,-⟩
 replace HX:=hE.tr HX
 replace B5:=hE.bl B5
 replace B6:=hE.bl B6
 replace B7:=hE.bl B7
 replace B11:=hE.bl B11
 replace B13:=hE.bl B13
 replace LA12:=Hi (LA12.out.ext hE)
 replace LB12:=Hi (LB12.out.ext hE)
 replace LA14:=Hi (LA14.out.ext hE)
 replace LB14:=Hi (LB14.out.ext hE)
 have hs_w16:=hE.size
 clear hE
 try clear c_B5 f_B5 l_B5
 obtain ⟨c_B5,f_B5,l_B5⟩:=blk3 B5.out
 try clear c_B6 f_B6 l_B6
 obtain ⟨c_B6,f_B6,l_B6⟩:=blk3 B6.out
 try clear c_B7 f_B7 l_B7
 obtain ⟨c_B7,f_B7,l_B7⟩:=blk3 B7.out
 try clear c_B11 f_B11 l_B11
 obtain ⟨c_B11,f_B11,l_B11⟩:=blk3 B11.out
 try clear c_B13 f_B13 l_B13
 obtain ⟨c_B13,f_B13,l_B13⟩:=blk3 B13.out
 rw [← HVd.out]
 simp only [BE]
 go_wp2_with fail
 refine Calls.mono (rsame_any ⟨⟨ba,bn,bc⟩,⟨aa,an,ac⟩⟩ ⟨⟨ca,cn,cc⟩,⟨da,dn,dc⟩⟩ b a c d 13 _ (H.out.ext HX.out) (K.out.ext HX.out) NF.out NG.out ZB.out ZA.out ZC.out ZD.out (by decide)) ?_
 rintro e w17 ⟨x17,rfl,hE,-⟩
 replace HX:=hE.tr HX
 replace B5:=hE.bl B5
 replace B6:=hE.bl B6
 replace B7:=hE.bl B7
 replace B11:=hE.bl B11
 replace B13:=hE.bl B13
 replace LA12:=Hi (LA12.out.ext hE)
 replace LB12:=Hi (LB12.out.ext hE)
 replace LA14:=Hi (LA14.out.ext hE)
 replace LB14:=Hi (LB14.out.ext hE)
 have hs_w17:=hE.size
 clear hE
 try clear c_B5 f_B5 l_B5
 obtain ⟨c_B5,f_B5,l_B5⟩:=blk3 B5.out
 try clear c_B6 f_B6 l_B6
 obtain ⟨c_B6,f_B6,l_B6⟩:=blk3 B6.out
 try clear c_B7 f_B7 l_B7
 obtain ⟨c_B7,f_B7,l_B7⟩:=blk3 B7.out
 try clear c_B11 f_B11 l_B11
 obtain ⟨c_B11,f_B11,l_B11⟩:=blk3 B11.out
 try clear c_B13 f_B13 l_B13
 obtain ⟨c_B13,f_B13,l_B13⟩:=blk3 B13.out
 rw [← HVd.out]
 simp only [BE]
 go_wp2_with fail
 refine Calls.mono (lsame_any ⟨⟨p12,m12,q12⟩,⟨r12,k12,s12⟩⟩ ⟨⟨p14,m14,q14⟩,⟨r14,k14,s14⟩⟩ _ _ _ ⟨LA12.out,LB12.out⟩ ⟨LA14.out,LB14.out⟩) ?_
 rintro e w18 ⟨x18,rfl,hE,-⟩
 replace HX:=hE.tr HX
 replace B5:=hE.bl B5
 replace B6:=hE.bl B6
 replace B7:=hE.bl B7
 replace B11:=hE.bl B11
 replace B13:=hE.bl B13
 replace LA12:=Hi (LA12.out.ext hE)
 replace LB12:=Hi (LB12.out.ext hE)
 replace LA14:=Hi (LA14.out.ext hE)
 replace LB14:=Hi (LB14.out.ext hE)
 have hs_w18:=hE.size
 clear hE
 try clear c_B5 f_B5 l_B5
 obtain ⟨c_B5,f_B5,l_B5⟩:=blk3 B5.out
 try clear c_B6 f_B6 l_B6
 obtain ⟨c_B6,f_B6,l_B6⟩:=blk3 B6.out
 try clear c_B7 f_B7 l_B7
 obtain ⟨c_B7,f_B7,l_B7⟩:=blk3 B7.out
 try clear c_B11 f_B11 l_B11
 obtain ⟨c_B11,f_B11,l_B11⟩:=blk3 B11.out
 try clear c_B13 f_B13 l_B13
 obtain ⟨c_B13,f_B13,l_B13⟩:=blk3 B13.out
 clear LA12
 clear LB12
 clear LA14
 clear LB14
 (try clear c_B11 f_B11 l_B11); clear B11
 (try clear c_B13 f_B13 l_B13); clear B13
 go_wp2_with fail
 refine Calls.mono (impulse20_any ⟨⟨ba,bn,bc⟩,⟨aa,an,ac⟩⟩ b a n 13 13 _ (H.out.ext HX.out) (by simp only; omega) (by simp only; omega) (by omega) (by omega) ZB.out.sz ZA.out.sz (by decide) (by decide) (by decide) (by decide) (fun h0 _=>K3.out n.toNat (by omega))) ?_
 rintro e w30 ⟨x30,rfl,hE,g30⟩
 have G30:=Hi g30
 clear g30
 replace HX:=hE.tr HX
 replace B5:=hE.bl B5
 replace B6:=hE.bl B6
 replace B7:=hE.bl B7
 have hs_w30:=hE.size
 clear hE
 try clear c_B5 f_B5 l_B5
 obtain ⟨c_B5,f_B5,l_B5⟩:=blk3 B5.out
 try clear c_B6 f_B6 l_B6
 obtain ⟨c_B6,f_B6,l_B6⟩:=blk3 B6.out
 try clear c_B7 f_B7 l_B7
 obtain ⟨c_B7,f_B7,l_B7⟩:=blk3 B7.out
 obtain ⟨⟨p30,m30,q30⟩,e30⟩:=x30
 obtain ⟨he,h1⟩:=G30.out
 rw [← HVi.out] at he h1
 simp only at he h1
 subst he
 have LC30:=Hi h1
 clear h1 G30
 simp only [RF,SH.v]
 go_wp2_with fail
 refine Calls.mono (rImpulse_any ⟨⟨ba,bn,bc⟩,⟨aa,an,ac⟩⟩ b a n 13 13 _ (H.out.ext HX.out) (by simp only; omega) (by simp only; omega) (by omega) (by omega) ZB.out.sz ZA.out.sz (by decide) (by decide) (by decide) (by decide) (fun h0 _=>K4.out n.toNat (by omega))) ?_
 rintro e w31 ⟨x31,rfl,hE,g31⟩
 have G31:=Hi g31
 clear g31
 replace HX:=hE.tr HX
 replace B5:=hE.bl B5
 replace B6:=hE.bl B6
 replace B7:=hE.bl B7
 replace LC30:=Hi (LC30.out.ext hE)
 have hs_w31:=hE.size
 clear hE
 try clear c_B5 f_B5 l_B5
 obtain ⟨c_B5,f_B5,l_B5⟩:=blk3 B5.out
 try clear c_B6 f_B6 l_B6
 obtain ⟨c_B6,f_B6,l_B6⟩:=blk3 B6.out
 try clear c_B7 f_B7 l_B7
 obtain ⟨c_B7,f_B7,l_B7⟩:=blk3 B7.out
 obtain ⟨⟨p31,m31,q31⟩,e31⟩:=x31
 obtain ⟨he,h1⟩:=G31.out
 rw [← HVi.out] at he h1
 simp only at he h1
 subst he
 have LC31:=Hi h1
 clear h1 G31
 simp only [RF,SH.v]
 go_wp2_with fail
 refine Calls.mono (run20_any ⟨⟨ba,bn,bc⟩,⟨aa,an,ac⟩⟩ xo N xc b a x 13 13 2 _ (H.out.ext HX.out) (HL.out.ext HX.out) (by simp only; omega) (by simp only; omega) (by omega) ZB.out.sz ZA.out.sz ZX.out (by decide) (by decide) (by decide) (by decide) (by decide) (by decide) (K1.out N (by omega))) ?_
 rintro e w32 ⟨x32,rfl,hE,g32⟩
 have G32:=Hi g32
 clear g32
 replace HX:=hE.tr HX
 replace B5:=hE.bl B5
 replace B6:=hE.bl B6
 replace B7:=hE.bl B7
 replace LC30:=Hi (LC30.out.ext hE)
 replace LC31:=Hi (LC31.out.ext hE)
 have hs_w32:=hE.size
 clear hE
 try clear c_B5 f_B5 l_B5
 obtain ⟨c_B5,f_B5,l_B5⟩:=blk3 B5.out
 try clear c_B6 f_B6 l_B6
 obtain ⟨c_B6,f_B6,l_B6⟩:=blk3 B6.out
 try clear c_B7 f_B7 l_B7
 obtain ⟨c_B7,f_B7,l_B7⟩:=blk3 B7.out
 obtain ⟨⟨p32,m32,q32⟩,e32⟩:=x32
 obtain ⟨he,h1⟩:=G32.out
 rw [← HVr.out] at he h1
 simp only at he h1
 subst he
 have LC32:=Hi h1
 clear h1 G32
 simp only [RF,SH.v]
 go_wp2_with fail
 refine Calls.mono (rRun_any ⟨⟨ba,bn,bc⟩,⟨aa,an,ac⟩⟩ xo N xc b a x 13 13 2 _ (H.out.ext HX.out) (HL.out.ext HX.out) (by simp only; omega) (by simp only; omega) (by omega) ZB.out.sz ZA.out.sz ZX.out (by decide) (by decide) (by decide) (by decide) (by decide) (by decide) (K2.out N (by omega))) ?_
 rintro e w33 ⟨x33,rfl,hE,g33⟩
 have G33:=Hi g33
 clear g33
 replace HX:=hE.tr HX
 replace B5:=hE.bl B5
 replace B6:=hE.bl B6
 replace B7:=hE.bl B7
 replace LC30:=Hi (LC30.out.ext hE)
 replace LC31:=Hi (LC31.out.ext hE)
 replace LC32:=Hi (LC32.out.ext hE)
 have hs_w33:=hE.size
 clear hE
 try clear c_B5 f_B5 l_B5
 obtain ⟨c_B5,f_B5,l_B5⟩:=blk3 B5.out
 try clear c_B6 f_B6 l_B6
 obtain ⟨c_B6,f_B6,l_B6⟩:=blk3 B6.out
 try clear c_B7 f_B7 l_B7
 obtain ⟨c_B7,f_B7,l_B7⟩:=blk3 B7.out
 obtain ⟨⟨p33,m33,q33⟩,e33⟩:=x33
 obtain ⟨he,h1⟩:=G33.out
 rw [← HVr.out] at he h1
 simp only at he h1
 subst he
 have LC33:=Hi h1
 clear h1 G33
 simp only [RF,SH.v]
 go_wp2_with fail
 refine Calls.mono (samelist_any ⟨p30,m30,q30⟩ ⟨p31,m31,q31⟩ _ _ _ LC30.out LC31.out) ?_
 rintro e w34 ⟨x34,rfl,hE,-⟩
 replace HX:=hE.tr HX
 replace B5:=hE.bl B5
 replace B6:=hE.bl B6
 replace B7:=hE.bl B7
 replace LC30:=Hi (LC30.out.ext hE)
 replace LC31:=Hi (LC31.out.ext hE)
 replace LC32:=Hi (LC32.out.ext hE)
 replace LC33:=Hi (LC33.out.ext hE)
 have hs_w34:=hE.size
 clear hE
 try clear c_B5 f_B5 l_B5
 obtain ⟨c_B5,f_B5,l_B5⟩:=blk3 B5.out
 try clear c_B6 f_B6 l_B6
 obtain ⟨c_B6,f_B6,l_B6⟩:=blk3 B6.out
 try clear c_B7 f_B7 l_B7
 obtain ⟨c_B7,f_B7,l_B7⟩:=blk3 B7.out
 rw [decide_eq_true rfl]
 go_wp2_with fail
 refine Calls.mono (samelist_any ⟨p32,m32,q32⟩ ⟨p33,m33,q33⟩ _ _ _ LC32.out LC33.out) ?_
 rintro e w35 ⟨x35,rfl,hE,-⟩
 replace HX:=hE.tr HX
 replace B5:=hE.bl B5
 replace B6:=hE.bl B6
 replace B7:=hE.bl B7
 replace LC30:=Hi (LC30.out.ext hE)
 replace LC31:=Hi (LC31.out.ext hE)
 replace LC32:=Hi (LC32.out.ext hE)
 replace LC33:=Hi (LC33.out.ext hE)
 have hs_w35:=hE.size
 clear hE
 try clear c_B5 f_B5 l_B5
 obtain ⟨c_B5,f_B5,l_B5⟩:=blk3 B5.out
 try clear c_B6 f_B6 l_B6
 obtain ⟨c_B6,f_B6,l_B6⟩:=blk3 B6.out
 try clear c_B7 f_B7 l_B7
 obtain ⟨c_B7,f_B7,l_B7⟩:=blk3 B7.out
 rw [decide_eq_true rfl]
 go_wp2
 go_ret
 exact ⟨(),rfl,HX.out,trivial⟩
end Go.Proofs.YtdchjfcklppmgaaGreat
