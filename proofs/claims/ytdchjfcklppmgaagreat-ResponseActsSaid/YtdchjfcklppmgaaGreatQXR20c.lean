/- Same and Scale of package response and of the reference 20. -/
import Derived.Test.YtdchjfcklppmgaaGreatQXR20b
import Derived.Test.YtdchjfcklppmgaaGreatQXM13
set_option linter.unusedVariables false
set_option maxRecDepth 8000
set_option maxHeartbeats 4000000
namespace Go.Proofs.YtdchjfcklppmgaaGreat
open Go.RowKit Go.Front Go.Num Stab
attribute [local go_sem] XW.cell XW.frozen
theorem take_ext {p q:List Rat} {j:Nat} (h:p.take j = q.take j) (hp:j < p.length) (hq:j < q.length) (he:p.getD j 0 = q.getD j 0):p.take (j + 1) = q.take (j + 1):=by
 rw [← take_snoc hp,← take_snoc hq,h,he]
theorem psame_any (ao bo:Option Addr) (n c m d:Nat) (p q:List Rat) (w:World) (h:RawL w ⟨ao,n,c⟩ p) (k:RawL w ⟨bo,m,d⟩ q) (hn:n≤1073741824) (hm:m≤1073741824) :
  Does 267 [.slice ao n c,.slice bo m d] w (fun _:Unit=>.bool (decide (tz p = tz q))) (fun _ _=>True):=by
 have HX:=Hi (Ext.refl w)
 have H:=Hi h
 have K:=Hi k
 have h1:=h.le
 have h2:=h.max
 have k1:=k.le
 have k2:=k.max
 simp only at h1 h2 k1 k2
 clear h k
 unfold Does
 go_enter Tryz.func267,Tryz.ntmps267
 go_wp2_with fail
 refine Calls.mono (pcut_any ao n c p _ (H.out.ext HX.out)) ?_
 rintro e w1 ⟨x1,rfl,hE,g1,g2⟩
 have TP:=Hi g1
 have hPn:=g2
 clear g1 g2
 replace HX:=hE.tr HX
 have hs_w1:=hE.size
 clear hE
 go_wp2_with fail
 refine Calls.mono (pcut_any bo m d q _ (K.out.ext HX.out)) ?_
 rintro e w2 ⟨x2,rfl,hE,g1,g2⟩
 have TQ:=Hi g1
 have hQm:=g2
 clear g1 g2
 replace HX:=hE.tr HX
 have hs_w2:=hE.size
 clear hE
 obtain ⟨P,hP⟩:∃ P,P = (tz p).length:=⟨_,rfl⟩
 obtain ⟨Q,hQ⟩:∃ Q,Q = (tz q).length:=⟨_,rfl⟩
 have HP:=Hi hP
 have HQ:=Hi hQ
 rw [← hP] at TP hPn ⊢
 rw [← hQ] at TQ hQm ⊢
 clear hP hQ
 have LP:Hid (RawL w2 ⟨ao,P,c⟩ (tz p)):=Hi (by rw [TP.out]; exact (H.out.ext HX.out).take hPn)
 have LQ:Hid (RawL w2 ⟨bo,Q,d⟩ (tz q)):=Hi (by rw [TQ.out]; exact (K.out.ext HX.out).take hQm)
 by_cases hPQ:P = Q
 case neg =>
  have hb:((P:Int) == Q) = false:=by rw [beq_eq_false_iff_ne]; omega
  have HD:Hid (decide (tz p = tz q) = false):=Hi (decide_eq_false (fun h=>hPQ (by rw [HP.out,HQ.out,h])))
  go_wp2
  go_ret
  exact ⟨(),by rw [HD.out]; rfl,HX.out,trivial⟩
 subst hPQ
 obtain ⟨u,hu⟩:∃ u,u = tz p:=⟨_,rfl⟩
 obtain ⟨v,hv⟩:∃ v,v = tz q:=⟨_,rfl⟩
 rw [← hu] at LP HP
 rw [← hv] at LQ HQ
 have Hu:=Hi hu
 have Hv:=Hi hv
 clear TP TQ hu hv
 have HX0:=HX
 have HX2:=Hi (Ext.refl w2)
 clear HX
 go_wp2
 go_loopg [19] P (fun g i wr=>∃ j:Nat,j + g = P∧i = .int .i64 (j:Nat)∧Ext w2 wr∧u.take j = v.take j)
 case atStart=>exact ⟨0,by omega,rfl,Ext.refl _,rfl⟩
 case round =>
  obtain ⟨j,hj,rfl,g1,g2⟩:=hrel
  clear HX2
  have HX2:=Hi g1
  have HT:=Hi g2
  clear g1 g2
  by_cases h0:gk = 0
  case pos =>
   subst h0
   obtain rfl:j = P:=by omega
   have hjn:¬ (j:Int) < j:=by omega
   have HD:Hid (decide (tz p = tz q) = true):=Hi (by rw [← Hu.out,← Hv.out]; exact decide_eq_true (take_all_eq (by rw [← HP.out,← HQ.out]) (by rw [← HP.out]; exact HT.out)))
   have HXw:=Hi (HX0.out.trans HX2.out)
   go_wp2
   go_ret
   exact ⟨(),by rw [HD.out]; rfl,HXw.out,trivial⟩
  have hjn:(j:Int) < P:=by omega
  obtain ⟨y1,f1,r1,q1,hl1,⟨a1,a2,a3⟩,hP1⟩:=(LP.out.ext HX2.out).cells' (k:=j) (by omega)
  obtain ⟨y2,f2,r2,q2,hl2,⟨a4,a5,a6⟩,hP2⟩:=(LQ.out.ext HX2.out).cells' (k:=j) (by omega)
  obtain ⟨r1neg,r1a,r1n,r1c,r1b,r1m,r1d⟩:=r1
  obtain ⟨r2neg,r2a,r2n,r2c,r2b,r2m,r2d⟩:=r2
  simp only at q1 q2 a1 a2 a3 a4 a5 a6
  have Q1:=Hi hP1
  have Q2:=Hi hP2
  clear hP1 hP2
  subst q1 q2
  obtain ⟨cc,hcc⟩:∃ cc,cc = cmpR (u.getD j 0) (v.getD j 0):=⟨_,rfl⟩
  have HCC:=Hi hcc
  clear hcc
  go_upto_region 7 with fail
  refine wp_region_front 9 (fun opIx=>match opIx with
   | 8=>.spec Unit () (fun _=>.int .i64 cc) (fun _ _=>True)
   | _=>.quiet) (fun _=>[]) (by kernel_rfl) (by kernel_rfl) (fun w0 he0 hz0 hc0 hf0=>?_)
  replace he0:=Hi he0
  simp only [pT]
  repeat (refine wpq fun K h=>?_; go_big_quiet_op; refine h _ ?_; clear h K)
  refine wps he0.out rfl rfl (fun w1 hW hG=>?_) fun x21=>?_
  ·exact spc [RH.v ⟨r1neg,r1a,r1n,r1c,r1b,r1m,r1d⟩,RH.v ⟨r2neg,r2a,r2n,r2c,r2b,r2m,r2d⟩] Tryz.func117 ((by rw [HCC.out]; exact rcmp_any _ _ _ _ _ (Q1.out.ext hW) (Q2.out.ext hW)))
  simp only [pS]
  repeat (refine wpq fun K h=>?_; go_big_quiet_op; refine h _ ?_; clear h K)
  refine wpF_nil ?_
  intro y20 hI
  have hE:=he0.out.trans hI.ext
  clear hI he0 hz0 hc0 hf0
  replace HX2:=hE.tr HX2
  have hs_y20:=hE.size
  clear hE
  simp only [pD]
  clear a1 a2 a3 a4 a5 a6
  by_cases hc0:cc = 0
  case neg =>
   have hcb:(cc == 0) = false:=by simpa using hc0
   have HD:Hid (decide (tz p = tz q) = false):=Hi (by rw [← Hu.out,← Hv.out]; exact decide_eq_false (fun h=>hc0 (by rw [HCC.out,pcmp_eq,h])))
   have HXw:=Hi (HX0.out.trans HX2.out)
   go_wp2
   go_ret
   exact ⟨(),by rw [HD.out]; rfl,HXw.out,trivial⟩
  subst hc0
  have HT2:Hid (u.take (j + 1) = v.take (j + 1)):=Hi (take_ext HT.out (by rw [← HP.out]; omega) (by rw [← HQ.out]; omega) (pcmp_eq.1 HCC.out.symm))
  go_wp2
  go_roundg (gk - 1)
  case measure=>omega
  case rel=>exact ⟨j + 1,by omega,by go_num,HX2.out,HT2.out⟩
theorem same5_any (ao bo:Option Addr) (n c m d:Nat) (p q:List Rat) (w:World) (h:RawL w ⟨ao,n,c⟩ p) (k:RawL w ⟨bo,m,d⟩ q) (hn:n≤1073741824) (hm:m≤1073741824) :
  Does 268 [.slice ao n c,.slice bo m d] w (fun _:Unit=>.bool (decide (tz p = tz q))) (fun _ _=>True):=by
 have HX:=Hi (Ext.refl w)
 have H:=Hi h
 have K:=Hi k
 clear h k
 unfold Does
 go_enter Tryz.func268,Tryz.ntmps268
 go_wp2_with fail
 refine Calls.mono (trim5_any ao n c p _ (H.out.ext HX.out) hn) ?_
 rintro e w1 ⟨x1,rfl,hE,g1⟩
 have G1:=Hi g1
 clear g1
 replace HX:=hE.tr HX
 have hs_w1:=hE.size
 clear hE
 go_wp2_with fail
 refine Calls.mono (trim5_any bo m d q _ (K.out.ext HX.out) hm) ?_
 rintro e w2 ⟨x2,rfl,hE,g2⟩
 have G2:=Hi g2
 clear g2
 replace HX:=hE.tr HX
 replace G1:=Hi (G1.out.ext hE)
 have hs_w2:=hE.size
 clear hE
 obtain ⟨a1,n1,c1⟩:=x1
 obtain ⟨a2,n2,c2⟩:=x2
 simp only [SH.v]
 go_wp2_with fail
 refine Calls.mono (equal_any ⟨a1,n1,c1⟩ ⟨a2,n2,c2⟩ _ _ _ G1.out.can G2.out.can) ?_
 rintro e w3 ⟨x3,rfl,hE,-⟩
 replace HX:=hE.tr HX
 replace G1:=Hi (G1.out.ext hE)
 replace G2:=Hi (G2.out.ext hE)
 have hs_w3:=hE.size
 clear hE
 go_wp2
 go_ret
 exact ⟨(),rfl,HX.out,trivial⟩
abbrev BE (x:Bool × Int):Value:=.tuple #[.bool x.1,.int .i64 x.2]
def samV (b a c d:List Rat):Bool × Int:=if VF b a∧VF c d then (decide (mul5V b d = mul5V c a),0) else (false,2)
theorem mul5_eqtz (p q r s:List Rat):decide (tz (mul5V p q) = tz (mul5V r s)) = decide (mul5V p q = mul5V r s):=by rw [mul5_tz,mul5_tz]
theorem samesh_psame_any (s t:SH) (p q:List Rat) (S:Nat) (w:World) (h:CanL w s p) (k:CanL w t q) (hn:p.length≤200) (hm:q.length≤200) (zp:SzL S p) (zq:SzL S q) (hS:S≤8000000) :
  Does 267 [s.v,t.v] w (fun _:Unit=>.bool (decide (tz p = tz q))) (fun _ _=>True):=by
 obtain ⟨ao,n,c⟩:=s
 obtain ⟨bo,m,d⟩:=t
 have e1:=h.len
 have e2:=k.len
 simp only at e1 e2
 exact psame_any ao bo n c m d p q w (h.raw zp (by omega)) (k.raw zq (by omega)) (by omega) (by omega)
theorem samesh_same5_any (s t:SH) (p q:List Rat) (S:Nat) (w:World) (h:CanL w s p) (k:CanL w t q) (hn:p.length≤200) (hm:q.length≤200) (zp:SzL S p) (zq:SzL S q) (hS:S≤8000000) :
  Does 268 [s.v,t.v] w (fun _:Unit=>.bool (decide (tz p = tz q))) (fun _ _=>True):=by
 obtain ⟨ao,n,c⟩:=s
 obtain ⟨bo,m,d⟩:=t
 have e1:=h.len
 have e2:=k.len
 simp only at e1 e2
 exact same5_any ao bo n c m d p q w (h.raw zp (by omega)) (k.raw zq (by omega)) (by omega) (by omega)
theorem same20_any (f g:FH) (b a c d:List Rat) (S:Nat) (w:World) (h:RawF w f b a) (k:RawF w g c d) (hf:f.b.n≤100∧f.a.n≤100) (hg:g.b.n≤100∧g.a.n≤100) (zb:FrB S b) (za:FrB S a) (zc:FrB S c) (zd:FrB S d) (hS:S≤400) :
  Does 179 [f.v,g.v] w (fun _:Unit=>BE (samV b a c d)) (fun _ _=>True):=by
 obtain ⟨⟨ba,bn,bc⟩,⟨aa,an,ac⟩⟩:=f
 obtain ⟨⟨ca,cn,cc⟩,⟨da,dn,dc⟩⟩:=g
 have H:=Hi h
 have K:=Hi k
 have HX:=Hi (Ext.refl w)
 have ZB:=Hi zb
 have ZA:=Hi za
 have ZC:=Hi zc
 have ZD:=Hi zd
 have LB:=Hi h.1.len
 have LA:=Hi h.2.len
 have LC:=Hi k.1.len
 have LD:=Hi k.2.len
 simp only at hf hg LB LA LC LD
 have HBr:=Hi h.1
 have HAr:=Hi h.2
 have HCr:=Hi k.1
 have HDr:=Hi k.2
 clear h k zb za zc zd
 unfold Does
 simp only [FH.v,SH.v]
 go_enter Tryz.func179,Tryz.ntmps179
 go_upto_region 1 with fail
 refine nm_alloc2 ?_
 intro w1 hE hB0 hB1 hz
 have hz_w1:=nle hz
 have hr_w1:=nle hz.symm
 clear hz
 replace HX:=hE.tr HX
 have hs_w1:=hE.size
 clear hE
 have B2:=Hi hB0
 clear hB0
 obtain ⟨c_B2,f_B2,l_B2⟩:=blk3 B2.out
 have B3:=Hi hB1
 clear hB1
 obtain ⟨c_B3,f_B3,l_B3⟩:=blk3 B3.out
 go_wp2_with fail
 refine Calls.mono (valid20_any ⟨⟨ba,bn,bc⟩,⟨aa,an,ac⟩⟩ b a _ (H.out.ext HX.out)) ?_
 rintro e w2 ⟨x2,rfl,hE,-⟩
 replace HX:=hE.tr HX
 replace B2:=hE.bl B2
 replace B3:=hE.bl B3
 have hs_w2:=hE.size
 clear hE
 try clear c_B2 f_B2 l_B2
 obtain ⟨c_B2,f_B2,l_B2⟩:=blk3 B2.out
 try clear c_B3 f_B3 l_B3
 obtain ⟨c_B3,f_B3,l_B3⟩:=blk3 B3.out
 by_cases hv:VF b a
 case neg =>
  have hv1:decide (VF b a) = false:=decide_eq_false hv
  have HV:Hid (samV b a c d = (false,2)):=Hi (by unfold samV; rw [if_neg (fun h=>hv h.1)])
  rw [hv1]
  go_wp2
  exact bodyPost_ret (v:=BE (false,2)) (by simp [results,Tryz.results179,go_sem,BE]) rfl ⟨(),by rw [HV.out],HX.out,trivial⟩
 have hv1:decide (VF b a) = true:=decide_eq_true hv
 rw [hv1]
 go_wp2_with fail
 refine Calls.mono (valid20_any ⟨⟨ca,cn,cc⟩,⟨da,dn,dc⟩⟩ c d _ (K.out.ext HX.out)) ?_
 rintro e w3 ⟨x3,rfl,hE,-⟩
 replace HX:=hE.tr HX
 replace B2:=hE.bl B2
 replace B3:=hE.bl B3
 have hs_w3:=hE.size
 clear hE
 try clear c_B2 f_B2 l_B2
 obtain ⟨c_B2,f_B2,l_B2⟩:=blk3 B2.out
 try clear c_B3 f_B3 l_B3
 obtain ⟨c_B3,f_B3,l_B3⟩:=blk3 B3.out
 by_cases hu:VF c d
 case neg =>
  have hu1:decide (VF c d) = false:=decide_eq_false hu
  have HV:Hid (samV b a c d = (false,2)):=Hi (by unfold samV; rw [if_neg (fun h=>hu h.2)])
  rw [hu1]
  go_wp2
  exact bodyPost_ret (v:=BE (false,2)) (by simp [results,Tryz.results179,go_sem,BE]) rfl ⟨(),by rw [HV.out],HX.out,trivial⟩
 have hu1:decide (VF c d) = true:=decide_eq_true hu
 rw [hu1]
 have HV:Hid (samV b a c d = (decide (mul5V b d = mul5V c a),0)):=Hi (by unfold samV; rw [if_pos ⟨hv,hu⟩])
 have M3:Hid (FrB 801 (mul5V b d)):=Hi ((ZB.out.mul ZD.out (by rw [LB.out]; omega)).mono (by omega))
 have M4:Hid (FrB 801 (mul5V c a)):=Hi ((ZC.out.mul ZA.out (by rw [LC.out]; omega)).mono (by omega))
 have LL1:Hid ((mul5V b d).length≤200):=Hi (by have:=mul5_len b d; rw [LB.out,LD.out] at this; omega)
 have LL2:Hid ((mul5V c a).length≤200):=Hi (by have:=mul5_len c a; rw [LC.out,LA.out] at this; omega)
 obtain ⟨dd,hdd⟩:∃ dd,dd = decide (mul5V b d = mul5V c a):=⟨_,rfl⟩
 rw [← hdd] at HV
 have HDD:=Hi hdd
 clear hdd
 go_upto_region 3 with fail
 refine wp_region_front 11 (fun opIx=>match opIx with
  | 4=>.spec (SH) (default) (SH.v) (fun x w'=>CanL w' x (mul5V b d))
  | 9=>.spec (SH) (default) (SH.v) (fun x w'=>CanL w' x (mul5V c a))
  | 10=>.spec Unit () (fun _=>.bool dd) (fun _ _=>True)
  | _=>.quiet) (fun | 10=>[4,9] | _=>[]) (by kernel_rfl) (by kernel_rfl) (fun w0 he0 hz0 hc0 hf0=>?_)
 replace he0:=Hi he0
 simp only [pT]
 repeat (refine wpq fun K h=>?_; go_big_quiet_op; refine h _ ?_; clear h K)
 refine wps he0.out rfl rfl (fun w1 hW hG=>?_) fun x20=>?_
 ·exact spc [.slice ba bn bc,.slice da dn dc] Tryz.func160 ((pmulB_any ba da bn bc dn dc b d S S _ ((HBr.out.ext HX.out).ext hW) ((HDr.out.ext HX.out).ext hW) (by omega) (by omega) ZB.out ZD.out (by omega)).weak (fun _ _ _ h=>h.can))
 simp only [pS]
 repeat (refine wpq fun K h=>?_; go_big_quiet_op; refine h _ ?_; clear h K)
 refine wps he0.out rfl rfl (fun w1 hW hG=>?_) fun x21=>?_
 ·exact spc [.slice ca cn cc,.slice aa an ac] Tryz.func160 ((pmulB_any ca aa cn cc an ac c a S S _ ((HCr.out.ext HX.out).ext hW) ((HAr.out.ext HX.out).ext hW) (by omega) (by omega) ZC.out ZA.out (by omega)).weak (fun _ _ _ h=>h.can))
 simp only [pS]
 repeat (refine wpq fun K h=>?_; go_big_quiet_op; refine h _ ?_; clear h K)
 refine wps he0.out rfl rfl (fun w1 hW hG=>?_) fun x22=>?_
 ·have g20:=(hG 4 (by decide):Since _ _).get fun _ e g=>g.ext e
  have g21:=(hG 9 (by decide):Since _ _).get fun _ e g=>g.ext e
  exact spc [x20.v,x21.v] Tryz.func267 ((by have h:=samesh_psame_any x20 x21 (mul5V b d) (mul5V c a) 801 _ g20 g21 LL1.out LL2.out M3.out.sz M4.out.sz (by decide); rw [mul5_eqtz,← HDD.out] at h; exact h))
 simp only [pS]
 repeat (refine wpq fun K h=>?_; go_big_quiet_op; refine h _ ?_; clear h K)
 refine wpF_nil ?_
 intro w5 hI
 have hE:=he0.out.trans hI.ext
 have G20:=Hi ((hI.facts 4:Since _ _).get fun _ e g=>g.ext e)
 have G21:=Hi ((hI.facts 9:Since _ _).get fun _ e g=>g.ext e)
 clear hI he0 hz0 hc0 hf0
 replace HX:=hE.tr HX
 replace B2:=hE.bl B2
 replace B3:=hE.bl B3
 have hs_w5:=hE.size
 clear hE
 try clear c_B2 f_B2 l_B2
 obtain ⟨c_B2,f_B2,l_B2⟩:=blk3 B2.out
 try clear c_B3 f_B3 l_B3
 obtain ⟨c_B3,f_B3,l_B3⟩:=blk3 B3.out
 simp only [pD]
 go_wp2
 exact bodyPost_ret (v:=BE (dd,0)) (by simp [results,Tryz.results179,go_sem,BE]) rfl ⟨(),by rw [HV.out],HX.out,trivial⟩
theorem rsame_any (f g:FH) (b a c d:List Rat) (S:Nat) (w:World) (h:RawF w f b a) (k:RawF w g c d) (hf:f.b.n≤100∧f.a.n≤100) (hg:g.b.n≤100∧g.a.n≤100) (zb:FrB S b) (za:FrB S a) (zc:FrB S c) (zd:FrB S d) (hS:S≤400) :
  Does 180 [f.v,g.v] w (fun _:Unit=>BE (samV b a c d)) (fun _ _=>True):=by
 obtain ⟨⟨ba,bn,bc⟩,⟨aa,an,ac⟩⟩:=f
 obtain ⟨⟨ca,cn,cc⟩,⟨da,dn,dc⟩⟩:=g
 have H:=Hi h
 have K:=Hi k
 have HX:=Hi (Ext.refl w)
 have ZB:=Hi zb
 have ZA:=Hi za
 have ZC:=Hi zc
 have ZD:=Hi zd
 have LB:=Hi h.1.len
 have LA:=Hi h.2.len
 have LC:=Hi k.1.len
 have LD:=Hi k.2.len
 simp only at hf hg LB LA LC LD
 have HBr:=Hi h.1
 have HAr:=Hi h.2
 have HCr:=Hi k.1
 have HDr:=Hi k.2
 clear h k zb za zc zd
 unfold Does
 simp only [FH.v,SH.v]
 go_enter Tryz.func180,Tryz.ntmps180
 go_upto_region 1 with fail
 refine nm_alloc2 ?_
 intro w1 hE hB0 hB1 hz
 have hz_w1:=nle hz
 have hr_w1:=nle hz.symm
 clear hz
 replace HX:=hE.tr HX
 have hs_w1:=hE.size
 clear hE
 have B2:=Hi hB0
 clear hB0
 obtain ⟨c_B2,f_B2,l_B2⟩:=blk3 B2.out
 have B3:=Hi hB1
 clear hB1
 obtain ⟨c_B3,f_B3,l_B3⟩:=blk3 B3.out
 go_wp2_with fail
 refine Calls.mono (rvalid_any ⟨⟨ba,bn,bc⟩,⟨aa,an,ac⟩⟩ b a _ (H.out.ext HX.out) (by simp only; omega) (by simp only; omega) ZB.out.sz ZA.out.sz hS) ?_
 rintro e w2 ⟨x2,rfl,hE,-⟩
 replace HX:=hE.tr HX
 replace B2:=hE.bl B2
 replace B3:=hE.bl B3
 have hs_w2:=hE.size
 clear hE
 try clear c_B2 f_B2 l_B2
 obtain ⟨c_B2,f_B2,l_B2⟩:=blk3 B2.out
 try clear c_B3 f_B3 l_B3
 obtain ⟨c_B3,f_B3,l_B3⟩:=blk3 B3.out
 by_cases hv:VF b a
 case neg =>
  have hv1:decide (VF b a) = false:=decide_eq_false hv
  have HV:Hid (samV b a c d = (false,2)):=Hi (by unfold samV; rw [if_neg (fun h=>hv h.1)])
  rw [hv1]
  go_wp2
  exact bodyPost_ret (v:=BE (false,2)) (by simp [results,Tryz.results180,go_sem,BE]) rfl ⟨(),by rw [HV.out],HX.out,trivial⟩
 have hv1:decide (VF b a) = true:=decide_eq_true hv
 rw [hv1]
 go_wp2_with fail
 refine Calls.mono (rvalid_any ⟨⟨ca,cn,cc⟩,⟨da,dn,dc⟩⟩ c d _ (K.out.ext HX.out) (by simp only; omega) (by simp only; omega) ZC.out.sz ZD.out.sz hS) ?_
 rintro e w3 ⟨x3,rfl,hE,-⟩
 replace HX:=hE.tr HX
 replace B2:=hE.bl B2
 replace B3:=hE.bl B3
 have hs_w3:=hE.size
 clear hE
 try clear c_B2 f_B2 l_B2
 obtain ⟨c_B2,f_B2,l_B2⟩:=blk3 B2.out
 try clear c_B3 f_B3 l_B3
 obtain ⟨c_B3,f_B3,l_B3⟩:=blk3 B3.out
 by_cases hu:VF c d
 case neg =>
  have hu1:decide (VF c d) = false:=decide_eq_false hu
  have HV:Hid (samV b a c d = (false,2)):=Hi (by unfold samV; rw [if_neg (fun h=>hu h.2)])
  rw [hu1]
  go_wp2
  exact bodyPost_ret (v:=BE (false,2)) (by simp [results,Tryz.results180,go_sem,BE]) rfl ⟨(),by rw [HV.out],HX.out,trivial⟩
 have hu1:decide (VF c d) = true:=decide_eq_true hu
 rw [hu1]
 have HV:Hid (samV b a c d = (decide (mul5V b d = mul5V c a),0)):=Hi (by unfold samV; rw [if_pos ⟨hv,hu⟩])
 have M3:Hid (FrB 801 (mul5V b d)):=Hi ((ZB.out.mul ZD.out (by rw [LB.out]; omega)).mono (by omega))
 have M4:Hid (FrB 801 (mul5V c a)):=Hi ((ZC.out.mul ZA.out (by rw [LC.out]; omega)).mono (by omega))
 have LL1:Hid ((mul5V b d).length≤200):=Hi (by have:=mul5_len b d; rw [LB.out,LD.out] at this; omega)
 have LL2:Hid ((mul5V c a).length≤200):=Hi (by have:=mul5_len c a; rw [LC.out,LA.out] at this; omega)
 obtain ⟨dd,hdd⟩:∃ dd,dd = decide (mul5V b d = mul5V c a):=⟨_,rfl⟩
 rw [← hdd] at HV
 have HDD:=Hi hdd
 clear hdd
 go_upto_region 3 with fail
 refine wp_region_front 11 (fun opIx=>match opIx with
  | 4=>.spec (SH) (default) (SH.v) (fun x w'=>CanL w' x (mul5V b d))
  | 9=>.spec (SH) (default) (SH.v) (fun x w'=>CanL w' x (mul5V c a))
  | 10=>.spec Unit () (fun _=>.bool dd) (fun _ _=>True)
  | _=>.quiet) (fun | 10=>[4,9] | _=>[]) (by kernel_rfl) (by kernel_rfl) (fun w0 he0 hz0 hc0 hf0=>?_)
 replace he0:=Hi he0
 simp only [pT]
 repeat (refine wpq fun K h=>?_; go_big_quiet_op; refine h _ ?_; clear h K)
 refine wps he0.out rfl rfl (fun w1 hW hG=>?_) fun x20=>?_
 ·exact spc [.slice ba bn bc,.slice da dn dc] Tryz.func25 ((mul5_any ba da bn bc dn dc b d S _ ((HBr.out.ext HX.out).ext hW) ((HDr.out.ext HX.out).ext hW) (by omega) (by omega) ZB.out.sz ZD.out.sz hS).weak (fun _ _ _ h=>h.can))
 simp only [pS]
 repeat (refine wpq fun K h=>?_; go_big_quiet_op; refine h _ ?_; clear h K)
 refine wps he0.out rfl rfl (fun w1 hW hG=>?_) fun x21=>?_
 ·exact spc [.slice ca cn cc,.slice aa an ac] Tryz.func25 ((mul5_any ca aa cn cc an ac c a S _ ((HCr.out.ext HX.out).ext hW) ((HAr.out.ext HX.out).ext hW) (by omega) (by omega) ZC.out.sz ZA.out.sz hS).weak (fun _ _ _ h=>h.can))
 simp only [pS]
 repeat (refine wpq fun K h=>?_; go_big_quiet_op; refine h _ ?_; clear h K)
 refine wps he0.out rfl rfl (fun w1 hW hG=>?_) fun x22=>?_
 ·have g20:=(hG 4 (by decide):Since _ _).get fun _ e g=>g.ext e
  have g21:=(hG 9 (by decide):Since _ _).get fun _ e g=>g.ext e
  exact spc [x20.v,x21.v] Tryz.func268 ((by have h:=samesh_same5_any x20 x21 (mul5V b d) (mul5V c a) 801 _ g20 g21 LL1.out LL2.out M3.out.sz M4.out.sz (by decide); rw [mul5_eqtz,← HDD.out] at h; exact h))
 simp only [pS]
 repeat (refine wpq fun K h=>?_; go_big_quiet_op; refine h _ ?_; clear h K)
 refine wpF_nil ?_
 intro w5 hI
 have hE:=he0.out.trans hI.ext
 have G20:=Hi ((hI.facts 4:Since _ _).get fun _ e g=>g.ext e)
 have G21:=Hi ((hI.facts 9:Since _ _).get fun _ e g=>g.ext e)
 clear hI he0 hz0 hc0 hf0
 replace HX:=hE.tr HX
 replace B2:=hE.bl B2
 replace B3:=hE.bl B3
 have hs_w5:=hE.size
 clear hE
 try clear c_B2 f_B2 l_B2
 obtain ⟨c_B2,f_B2,l_B2⟩:=blk3 B2.out
 try clear c_B3 f_B3 l_B3
 obtain ⟨c_B3,f_B3,l_B3⟩:=blk3 B3.out
 simp only [pD]
 go_wp2
 exact bodyPost_ret (v:=BE (dd,0)) (by simp [results,Tryz.results180,go_sem,BE]) rfl ⟨(),by rw [HV.out],HX.out,trivial⟩
def sclV (b a:List Rat) (c:Rat):Int × List Rat × List Rat:=if VF b a then (0,scale5V b c,tz a) else (2,[],[])
theorem scale5_tzlen (l:List Rat) (c:Rat):(tz (scale5V l c)).length≤(tz l).length:=by
 unfold scale5V
 rw [tz_idem]
 by_cases h:c = 0
 ·subst h
  have e:tz (l.map (· * 0)) = []:=by
   have:=pd_ext (a:=l.map (· * 0)) (b:=[]) (fun i=>by rw [seq_map]; show _ = (0:Rat); grind)
   exact this
  rw [e]; exact Nat.zero_le _
 ·rw [pd_map_ne h,List.length_map]; exact Nat.le_refl _
theorem scale20_any (f:FH) (t:RH) (b a:List Rat) (r:Rat) (S U:Nat) (w:World) (h:RawF w f b a) (ht:RawR w t r) (hf:f.b.n≤100∧f.a.n≤100) (zb:SzL S b) (za:SzL S a) (zr:Sz U r) (hS:S≤400) (hU:U≤400) :
  Does 177 [f.v,t.v] w FE (FEP (sclV b a r)):=by
 obtain ⟨⟨ba,bn,bc⟩,⟨aa,an,ac⟩⟩:=f
 obtain ⟨tn,ta,tl,tc,tb,tm,td⟩:=t
 have H:=Hi h
 have HT:=Hi ht
 have HX:=Hi (Ext.refl w)
 have ZB:=Hi zb
 have ZA:=Hi za
 have ZR:=Hi zr
 simp only at hf
 have HBr:=Hi h.1
 have HAr:=Hi h.2
 clear h zb za zr ht
 unfold Does
 simp only [FH.v,SH.v]
 go_enter Tryz.func177,Tryz.ntmps177
 go_upto_region 1 with fail
 refine nm_alloc3 ?_
 intro w1 hE hB0 hB1 hB2 hz
 have hz_w1:=nle hz
 have hr_w1:=nle hz.symm
 clear hz
 replace HX:=hE.tr HX
 have hs_w1:=hE.size
 clear hE
 have B2:=Hi hB0
 clear hB0
 obtain ⟨c_B2,f_B2,l_B2⟩:=blk3 B2.out
 have B3:=Hi hB1
 clear hB1
 obtain ⟨c_B3,f_B3,l_B3⟩:=blk3 B3.out
 have B4:=Hi hB2
 clear hB2
 obtain ⟨c_B4,f_B4,l_B4⟩:=blk3 B4.out
 go_wp2_with fail
 refine Calls.mono (valid20_any ⟨⟨ba,bn,bc⟩,⟨aa,an,ac⟩⟩ b a _ (H.out.ext HX.out)) ?_
 rintro e w2 ⟨x2,rfl,hE,-⟩
 replace HX:=hE.tr HX
 replace B2:=hE.bl B2
 replace B3:=hE.bl B3
 replace B4:=hE.bl B4
 have hs_w2:=hE.size
 clear hE
 try clear c_B2 f_B2 l_B2
 obtain ⟨c_B2,f_B2,l_B2⟩:=blk3 B2.out
 try clear c_B3 f_B3 l_B3
 obtain ⟨c_B3,f_B3,l_B3⟩:=blk3 B3.out
 try clear c_B4 f_B4 l_B4
 obtain ⟨c_B4,f_B4,l_B4⟩:=blk3 B4.out
 by_cases hv:VF b a
 case neg =>
  have hv1:decide (VF b a) = false:=decide_eq_false hv
  have HV:Hid (sclV b a r = (2,[],[])):=Hi (by unfold sclV; rw [if_neg hv])
  rw [hv1]
  go_wp2
  refine nm_setF (F:=fun W=>bodyPost _ _ _ _ _ W) B4.out rfl ?_
  intro w3 T
  replace HX:=Hi (T.ext HX.out (by omega))
  replace B2:=Hi (T.rest _ _ (by omega) B2.out)
  replace B3:=Hi (T.rest _ _ (by omega) B3.out)
  replace B4:=Hi (T.bx)
  have hs_w3:=nle T.size
  have hr_w3:=nle T.size.symm
  clear T
  try clear c_B2 f_B2 l_B2
  obtain ⟨c_B2,f_B2,l_B2⟩:=blk3 B2.out
  try clear c_B3 f_B3 l_B3
  obtain ⟨c_B3,f_B3,l_B3⟩:=blk3 B3.out
  try clear c_B4 f_B4 l_B4
  obtain ⟨c_B4,f_B4,l_B4⟩:=blk3 B4.out
  exact bodyPost_ret (v:=FE (⟨⟨none,0,0⟩,⟨none,0,0⟩⟩,2)) (by simp [results,Tryz.results177,go_sem,c_B4,FE]) rfl ⟨(⟨⟨none,0,0⟩,⟨none,0,0⟩⟩,2),rfl,HX.out,by rw [HV.out]; exact ⟨rfl,canF_nil _⟩⟩
 have hv1:decide (VF b a) = true:=decide_eq_true hv
 rw [hv1]
 have HV:Hid (sclV b a r = (0,scale5V b r,tz a)):=Hi (by unfold sclV; rw [if_pos hv])
 obtain ⟨N,hN⟩:∃ N,N = w2.heap.size:=⟨_,rfl⟩
 have hN1:w2.heap.size≤N:=by omega
 have hN2:w.heap.size + 2 < N:=by omega
 have HN:=Hi hN
 clear hN
 have HLm:Hid (limV (scale5V b r) (tz a) = (0,scale5V b r,tz a)):=Hi (by
  unfold limV
  rw [if_pos]
  have h1:=scale5_tzlen b r
  exact ⟨Nat.le_trans h1 hv.1,by rw [tz_idem]; exact hv.2.1⟩)
 rw [← HLm.out] at HV
 go_upto_region 3 with fail
 refine wp_region_edges [(9,8),(10,9)] _ (by simp only [addEs,addE,List.push_toArray,List.cons_append,List.nil_append]; exact rfl) (by intro c a d v w h; cases d <;> exact h) 8 (fun opIx=>match opIx with
  | 3=>.spec (SH) (default) (SH.v) (fun x w'=>NewL N w' x (scale5V b r))
  | 6=>.spec (SH) (default) (SH.v) (fun x w'=>NewL N w' x (tz a))
  | 7=>.spec (FH × Int) ((⟨⟨none,0,0⟩,⟨none,0,0⟩⟩,0)) (FE) (FEN N (limV (scale5V b r) (tz a)))
  | _=>.quiet) (fun | 7=>[3,6] | _=>[]) (by kernel_rfl) (by kernel_rfl) (by kernel_rfl) (fun w0 he0 hz0 hc0 hf0=>?_)
 replace he0:=Hi he0
 simp only [pT]
 repeat (refine wpq fun K h=>?_; go_big_quiet_op; refine h _ ?_; clear h K)
 refine wps he0.out rfl rfl (fun w1 hW hG=>?_) fun x20=>?_
 ·exact spc [.slice ba bn bc,RH.v ⟨tn,ta,tl,tc,tb,tm,td⟩] Tryz.func166 ((pscale_any ba bn bc b ⟨tn,ta,tl,tc,tb,tm,td⟩ r _ ((HBr.out.ext HX.out).ext hW) ((HT.out.ext HX.out).ext hW) (by omega) (ZB.out.mono (by omega)) (ZR.out.mono (by omega))).weak (fun _ _ _ h=>h.mono (by rw [HN.out]; exact hW.size)))
 simp only [pS]
 repeat (refine wpq fun K h=>?_; go_big_quiet_op; refine h _ ?_; clear h K)
 refine wps he0.out rfl rfl (fun w1 hW hG=>?_) fun x21=>?_
 ·exact spc [.slice aa an ac] Tryz.func189 ((ptrim_any aa an ac a _ ((HAr.out.ext HX.out).ext hW) (by omega)).weak (fun _ _ _ h=>h.mono (by rw [HN.out]; exact hW.size)))
 simp only [pS]
 repeat (refine wpq fun K h=>?_; go_big_quiet_op; refine h _ ?_; clear h K)
 refine wps he0.out rfl rfl (fun w1 hW hG=>?_) fun x22=>?_
 ·have g20:=(hG 3 (by decide):Since _ _).get fun _ e g=>g.ext e
  have g21:=(hG 6 (by decide):Since _ _).get fun _ e g=>g.ext e
  exact spc [x20.v,x21.v] Tryz.func172 (limited_any x20 x21 _ _ 801 N _ g20 g21 ((scale5_sz ZB.out ZR.out).mono (by omega)) ((SzL.tz ZA.out).mono (by omega)) (by decide))
 simp only [pS]
 repeat (refine wpq fun K h=>?_; go_big_quiet_op; refine h _ ?_; clear h K)
 refine wpF_nil ?_
 intro w5 hI
 have hE:=he0.out.trans hI.ext
 have G20:=Hi ((hI.facts 3:Since _ _).get fun _ e g=>g.ext e)
 have G21:=Hi ((hI.facts 6:Since _ _).get fun _ e g=>g.ext e)
 have G22:=Hi ((hI.facts 7:Since _ _).get fun _ e g=>g.ext e)
 clear hI he0 hz0 hc0 hf0
 replace HX:=hE.tr HX
 replace B2:=hE.bl B2
 replace B3:=hE.bl B3
 replace B4:=hE.bl B4
 have hs_w5:=hE.size
 clear hE
 try clear c_B2 f_B2 l_B2
 obtain ⟨c_B2,f_B2,l_B2⟩:=blk3 B2.out
 try clear c_B3 f_B3 l_B3
 obtain ⟨c_B3,f_B3,l_B3⟩:=blk3 B3.out
 try clear c_B4 f_B4 l_B4
 obtain ⟨c_B4,f_B4,l_B4⟩:=blk3 B4.out
 simp only [pD]
 obtain ⟨⟨⟨ea,en,ec⟩,⟨fa,fn,fc⟩⟩,er⟩:=x22
 obtain ⟨he,h1,h2⟩:=G22.out
 simp only at he h1 h2
 have L1:=Hi h1
 have L2:=Hi h2
 have HE:=Hi he
 clear h1 h2 he G22
 simp only [FE,FH.v]
 go_wp2
 refine nm_setF (F:=fun W=>bodyPost _ _ _ _ _ W) B4.out rfl ?_
 intro w6 T
 replace HX:=Hi (T.ext HX.out (by omega))
 replace B2:=Hi (T.rest _ _ (by omega) B2.out)
 replace B3:=Hi (T.rest _ _ (by omega) B3.out)
 replace B4:=Hi (T.bx)
 replace L1:=Hi (L1.out.put T (by omega))
 replace L2:=Hi (L2.out.put T (by omega))
 have hs_w6:=nle T.size
 have hr_w6:=nle T.size.symm
 clear T
 try clear c_B2 f_B2 l_B2
 obtain ⟨c_B2,f_B2,l_B2⟩:=blk3 B2.out
 try clear c_B3 f_B3 l_B3
 obtain ⟨c_B3,f_B3,l_B3⟩:=blk3 B3.out
 try clear c_B4 f_B4 l_B4
 obtain ⟨c_B4,f_B4,l_B4⟩:=blk3 B4.out
 exact bodyPost_ret (v:=FE (⟨⟨ea,en,ec⟩,⟨fa,fn,fc⟩⟩,er)) (by simp [results,Tryz.results177,go_sem,c_B4,FE]) rfl ⟨(⟨⟨ea,en,ec⟩,⟨fa,fn,fc⟩⟩,er),rfl,HX.out,by rw [HV.out]; exact ⟨HE.out,L1.out.can,L2.out.can⟩⟩
theorem rscale_any (f:FH) (t:RH) (b a:List Rat) (r:Rat) (S U:Nat) (w:World) (h:RawF w f b a) (ht:RawR w t r) (hf:f.b.n≤100∧f.a.n≤100) (zb:SzL S b) (za:SzL S a) (zr:Sz U r) (hS:S≤400) (hU:U≤400) :
  Does 178 [f.v,t.v] w FE (FEP (sclV b a r)):=by
 obtain ⟨⟨ba,bn,bc⟩,⟨aa,an,ac⟩⟩:=f
 obtain ⟨tn,ta,tl,tc,tb,tm,td⟩:=t
 have H:=Hi h
 have HT:=Hi ht
 have HX:=Hi (Ext.refl w)
 have ZB:=Hi zb
 have ZA:=Hi za
 have ZR:=Hi zr
 simp only at hf
 have HBr:=Hi h.1
 have HAr:=Hi h.2
 clear h zb za zr ht
 unfold Does
 simp only [FH.v,SH.v]
 go_enter Tryz.func178,Tryz.ntmps178
 go_upto_region 1 with fail
 refine nm_alloc3 ?_
 intro w1 hE hB0 hB1 hB2 hz
 have hz_w1:=nle hz
 have hr_w1:=nle hz.symm
 clear hz
 replace HX:=hE.tr HX
 have hs_w1:=hE.size
 clear hE
 have B2:=Hi hB0
 clear hB0
 obtain ⟨c_B2,f_B2,l_B2⟩:=blk3 B2.out
 have B3:=Hi hB1
 clear hB1
 obtain ⟨c_B3,f_B3,l_B3⟩:=blk3 B3.out
 have B4:=Hi hB2
 clear hB2
 obtain ⟨c_B4,f_B4,l_B4⟩:=blk3 B4.out
 go_wp2_with fail
 refine Calls.mono (rvalid_any ⟨⟨ba,bn,bc⟩,⟨aa,an,ac⟩⟩ b a _ (H.out.ext HX.out) (by simp only; omega) (by simp only; omega) ZB.out ZA.out hS) ?_
 rintro e w2 ⟨x2,rfl,hE,-⟩
 replace HX:=hE.tr HX
 replace B2:=hE.bl B2
 replace B3:=hE.bl B3
 replace B4:=hE.bl B4
 have hs_w2:=hE.size
 clear hE
 try clear c_B2 f_B2 l_B2
 obtain ⟨c_B2,f_B2,l_B2⟩:=blk3 B2.out
 try clear c_B3 f_B3 l_B3
 obtain ⟨c_B3,f_B3,l_B3⟩:=blk3 B3.out
 try clear c_B4 f_B4 l_B4
 obtain ⟨c_B4,f_B4,l_B4⟩:=blk3 B4.out
 by_cases hv:VF b a
 case neg =>
  have hv1:decide (VF b a) = false:=decide_eq_false hv
  have HV:Hid (sclV b a r = (2,[],[])):=Hi (by unfold sclV; rw [if_neg hv])
  rw [hv1]
  go_wp2
  refine nm_setF (F:=fun W=>bodyPost _ _ _ _ _ W) B4.out rfl ?_
  intro w3 T
  replace HX:=Hi (T.ext HX.out (by omega))
  replace B2:=Hi (T.rest _ _ (by omega) B2.out)
  replace B3:=Hi (T.rest _ _ (by omega) B3.out)
  replace B4:=Hi (T.bx)
  have hs_w3:=nle T.size
  have hr_w3:=nle T.size.symm
  clear T
  try clear c_B2 f_B2 l_B2
  obtain ⟨c_B2,f_B2,l_B2⟩:=blk3 B2.out
  try clear c_B3 f_B3 l_B3
  obtain ⟨c_B3,f_B3,l_B3⟩:=blk3 B3.out
  try clear c_B4 f_B4 l_B4
  obtain ⟨c_B4,f_B4,l_B4⟩:=blk3 B4.out
  exact bodyPost_ret (v:=FE (⟨⟨none,0,0⟩,⟨none,0,0⟩⟩,2)) (by simp [results,Tryz.results178,go_sem,c_B4,FE]) rfl ⟨(⟨⟨none,0,0⟩,⟨none,0,0⟩⟩,2),rfl,HX.out,by rw [HV.out]; exact ⟨rfl,canF_nil _⟩⟩
 have hv1:decide (VF b a) = true:=decide_eq_true hv
 rw [hv1]
 have HV:Hid (sclV b a r = (0,scale5V b r,tz a)):=Hi (by unfold sclV; rw [if_pos hv])
 obtain ⟨N,hN⟩:∃ N,N = w2.heap.size:=⟨_,rfl⟩
 have hN1:w2.heap.size≤N:=by omega
 have hN2:w.heap.size + 2 < N:=by omega
 have HN:=Hi hN
 clear hN
 go_upto_region 3 with fail
 refine wp_region_front 8 (fun opIx=>match opIx with
  | 3=>.spec (SH) (default) (SH.v) (fun x w'=>NewL N w' x (scale5V b r))
  | 6=>.spec (SH) (default) (SH.v) (fun x w'=>NewL N w' x (tz a))
  | _=>.quiet) (fun _=>[]) (by kernel_rfl) (by kernel_rfl) (fun w0 he0 hz0 hc0 hf0=>?_)
 replace he0:=Hi he0
 simp only [pT]
 repeat (refine wpq fun K h=>?_; go_big_quiet_op; refine h _ ?_; clear h K)
 refine wps he0.out rfl rfl (fun w1 hW hG=>?_) fun x20=>?_
 ·exact spc [.slice ba bn bc,RH.v ⟨tn,ta,tl,tc,tb,tm,td⟩] Tryz.func138 ((scale5_any ba bn bc b ⟨tn,ta,tl,tc,tb,tm,td⟩ r _ ((HBr.out.ext HX.out).ext hW) ((HT.out.ext HX.out).ext hW) (by omega) (ZB.out.mono (by omega)) (ZR.out.mono (by omega))).weak (fun _ _ _ h=>h.mono (by rw [HN.out]; exact hW.size)))
 simp only [pS]
 repeat (refine wpq fun K h=>?_; go_big_quiet_op; refine h _ ?_; clear h K)
 refine wps he0.out rfl rfl (fun w1 hW hG=>?_) fun x21=>?_
 ·exact spc [.slice aa an ac] Tryz.func97 ((trim5_any aa an ac a _ ((HAr.out.ext HX.out).ext hW) (by omega)).weak (fun _ _ _ h=>h.mono (by rw [HN.out]; exact hW.size)))
 simp only [pS]
 repeat (refine wpq fun K h=>?_; go_big_quiet_op; refine h _ ?_; clear h K)
 refine wpF_nil ?_
 intro w5 hI
 have hE:=he0.out.trans hI.ext
 have G20:=Hi ((hI.facts 3:Since _ _).get fun _ e g=>g.ext e)
 have G21:=Hi ((hI.facts 6:Since _ _).get fun _ e g=>g.ext e)
 clear hI he0 hz0 hc0 hf0
 replace HX:=hE.tr HX
 replace B2:=hE.bl B2
 replace B3:=hE.bl B3
 replace B4:=hE.bl B4
 have hs_w5:=hE.size
 clear hE
 try clear c_B2 f_B2 l_B2
 obtain ⟨c_B2,f_B2,l_B2⟩:=blk3 B2.out
 try clear c_B3 f_B3 l_B3
 obtain ⟨c_B3,f_B3,l_B3⟩:=blk3 B3.out
 try clear c_B4 f_B4 l_B4
 obtain ⟨c_B4,f_B4,l_B4⟩:=blk3 B4.out
 simp only [pD]
 go_wp2
 refine nm_setF (F:=fun W=>bodyPost _ _ _ _ _ W) B4.out rfl ?_
 intro w6 T
 replace HX:=Hi (T.ext HX.out (by omega))
 replace B2:=Hi (T.rest _ _ (by omega) B2.out)
 replace B3:=Hi (T.rest _ _ (by omega) B3.out)
 replace B4:=Hi (T.bx)
 replace G20:=Hi (G20.out.put T (by omega))
 replace G21:=Hi (G21.out.put T (by omega))
 have hs_w6:=nle T.size
 have hr_w6:=nle T.size.symm
 clear T
 try clear c_B2 f_B2 l_B2
 obtain ⟨c_B2,f_B2,l_B2⟩:=blk3 B2.out
 try clear c_B3 f_B3 l_B3
 obtain ⟨c_B3,f_B3,l_B3⟩:=blk3 B3.out
 try clear c_B4 f_B4 l_B4
 obtain ⟨c_B4,f_B4,l_B4⟩:=blk3 B4.out
 exact bodyPost_ret (v:=FE (⟨x20,x21⟩,0)) (by simp [results,Tryz.results178,go_sem,c_B4,FE]) rfl ⟨(⟨x20,x21⟩,0),rfl,HX.out,by rw [HV.out]; exact ⟨rfl,G20.out.can,G21.out.can⟩⟩

end Go.Proofs.YtdchjfcklppmgaaGreat
