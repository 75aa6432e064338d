/- Series, Parallel of package response (written by gen/resp.py). -/
import Derived.Test.YtdchjfcklppmgaaGreatQXRp1
import Derived.Test.YtdchjfcklppmgaaGreatQXPx2
set_option linter.unusedVariables false
set_option maxRecDepth 8000
set_option maxHeartbeats 8000000
namespace Go.Proofs.YtdchjfcklppmgaaGreat
open Go.RowKit Go.Front Go.Num Stab
attribute [local go_sem] XW.cell XW.frozen
def serV (b a c d:List Rat):Int × List Rat × List Rat:=if VF b a∧VF c d then limV (mul5V b c) (mul5V a d) else (2,[],[])
def parV (b a c d:List Rat):Int × List Rat × List Rat:=if VF b a∧VF c d then limV (add5V (mul5V b d) (mul5V c a)) (mul5V a d) else (2,[],[])
theorem padd_sh (s t:SH) (p q:List Rat) (S:Nat) (w:World) (h:CanL w s p) (k:CanL w t q) (hn:p.length≤200) (hm:q.length≤200) (zp:SzL S p) (zq:SzL S q) (hS:S≤8000000) :
  Does 173 [s.v,t.v] w SH.v (fun s w'=>NewL w.heap.size w' s (add5V p q)):=by
 obtain ⟨ao,n,c⟩:=s
 obtain ⟨bo,m,d⟩:=t
 have e1:=h.len
 have e2:=k.len
 simp only at e1 e2
 exact padd_any ao bo n c m d p q w (h.raw zp (by omega)) (k.raw zq (by omega)) (by omega) (by omega) (zp.mono (by omega)) (zq.mono (by omega))
theorem series20_any (f g:FH) (b a c d:List Rat) (S:Nat) (w:World) (h:RawF w f b a) (k:RawF w g c d) (hf:f.b.n≤100∧f.a.n≤100) (hg:g.b.n≤100∧g.a.n≤100) (zb:FrB S b) (za:FrB S a) (zc:FrB S c) (zd:FrB S d) (hS:S≤400) :
  Does 74 [f.v,g.v] w FE (FEP (serV b a c d)):=by
 obtain ⟨⟨ba,bn,bc⟩,⟨aa,an,ac⟩⟩:=f
 obtain ⟨⟨ca,cn,cc⟩,⟨da,dn,dc⟩⟩:=g
 have H:=Hi h
 have K:=Hi k
 have HX:=Hi (Ext.refl w)
 have ZB:=Hi zb
 have ZA:=Hi za
 have ZC:=Hi zc
 have ZD:=Hi zd
 have LB:=Hi h.1.len
 have LA:=Hi h.2.len
 have LC:=Hi k.1.len
 have LD:=Hi k.2.len
 simp only at hf hg LB LA LC LD
 have HBr:=Hi h.1
 have HAr:=Hi h.2
 have HCr:=Hi k.1
 have HDr:=Hi k.2
 clear h k zb za zc zd
 unfold Does
 simp only [FH.v,SH.v]
 go_enter Tryz.func74,Tryz.ntmps74
 go_upto_region 1 with fail
 refine nm_alloc3 ?_
 intro w1 hE hB0 hB1 hB2 hz
 have hz_w1:=nle hz
 have hr_w1:=nle hz.symm
 clear hz
 replace HX:=hE.tr HX
 have hs_w1:=hE.size
 clear hE
 have B2:=Hi hB0
 clear hB0
 obtain ⟨c_B2,f_B2,l_B2⟩:=blk3 B2.out
 have B3:=Hi hB1
 clear hB1
 obtain ⟨c_B3,f_B3,l_B3⟩:=blk3 B3.out
 have B4:=Hi hB2
 clear hB2
 obtain ⟨c_B4,f_B4,l_B4⟩:=blk3 B4.out
 go_wp2_with fail
 refine Calls.mono (valid20_any ⟨⟨ba,bn,bc⟩,⟨aa,an,ac⟩⟩ b a _ (H.out.ext HX.out)) ?_
 rintro e w2 ⟨x2,rfl,hE,-⟩
 replace HX:=hE.tr HX
 replace B2:=hE.bl B2
 replace B3:=hE.bl B3
 replace B4:=hE.bl B4
 have hs_w2:=hE.size
 clear hE
 try clear c_B2 f_B2 l_B2
 obtain ⟨c_B2,f_B2,l_B2⟩:=blk3 B2.out
 try clear c_B3 f_B3 l_B3
 obtain ⟨c_B3,f_B3,l_B3⟩:=blk3 B3.out
 try clear c_B4 f_B4 l_B4
 obtain ⟨c_B4,f_B4,l_B4⟩:=blk3 B4.out
 by_cases hv:VF b a
 case neg =>
  have hv1:decide (VF b a) = false:=decide_eq_false hv
  have HV:Hid (serV b a c d = (2,[],[])):=Hi (by unfold serV; rw [if_neg (fun h=>hv h.1)])
  rw [hv1]
  go_wp2
  refine nm_setF (F:=fun W=>bodyPost _ _ _ _ _ W) B4.out rfl ?_
  intro w3 T
  replace HX:=Hi (T.ext HX.out (by omega))
  replace B2:=Hi (T.rest _ _ (by omega) B2.out)
  replace B3:=Hi (T.rest _ _ (by omega) B3.out)
  replace B4:=Hi (T.bx)
  have hs_w3:=nle T.size
  have hr_w3:=nle T.size.symm
  clear T
  try clear c_B2 f_B2 l_B2
  obtain ⟨c_B2,f_B2,l_B2⟩:=blk3 B2.out
  try clear c_B3 f_B3 l_B3
  obtain ⟨c_B3,f_B3,l_B3⟩:=blk3 B3.out
  try clear c_B4 f_B4 l_B4
  obtain ⟨c_B4,f_B4,l_B4⟩:=blk3 B4.out
  exact bodyPost_ret (v:=FE (⟨⟨none,0,0⟩,⟨none,0,0⟩⟩,2)) (by simp [results,Tryz.results74,go_sem,c_B4,FE]) rfl ⟨(⟨⟨none,0,0⟩,⟨none,0,0⟩⟩,2),rfl,HX.out,by rw [HV.out]; exact ⟨rfl,canF_nil _⟩⟩
 have hv1:decide (VF b a) = true:=decide_eq_true hv
 rw [hv1]
 go_wp2_with fail
 refine Calls.mono (valid20_any ⟨⟨ca,cn,cc⟩,⟨da,dn,dc⟩⟩ c d _ (K.out.ext HX.out)) ?_
 rintro e w3 ⟨x3,rfl,hE,-⟩
 replace HX:=hE.tr HX
 replace B2:=hE.bl B2
 replace B3:=hE.bl B3
 replace B4:=hE.bl B4
 have hs_w3:=hE.size
 clear hE
 try clear c_B2 f_B2 l_B2
 obtain ⟨c_B2,f_B2,l_B2⟩:=blk3 B2.out
 try clear c_B3 f_B3 l_B3
 obtain ⟨c_B3,f_B3,l_B3⟩:=blk3 B3.out
 try clear c_B4 f_B4 l_B4
 obtain ⟨c_B4,f_B4,l_B4⟩:=blk3 B4.out
 by_cases hu:VF c d
 case neg =>
  have hu1:decide (VF c d) = false:=decide_eq_false hu
  have HV:Hid (serV b a c d = (2,[],[])):=Hi (by unfold serV; rw [if_neg (fun h=>hu h.2)])
  rw [hu1]
  go_wp2
  refine nm_setF (F:=fun W=>bodyPost _ _ _ _ _ W) B4.out rfl ?_
  intro w4 T
  replace HX:=Hi (T.ext HX.out (by omega))
  replace B2:=Hi (T.rest _ _ (by omega) B2.out)
  replace B3:=Hi (T.rest _ _ (by omega) B3.out)
  replace B4:=Hi (T.bx)
  have hs_w4:=nle T.size
  have hr_w4:=nle T.size.symm
  clear T
  try clear c_B2 f_B2 l_B2
  obtain ⟨c_B2,f_B2,l_B2⟩:=blk3 B2.out
  try clear c_B3 f_B3 l_B3
  obtain ⟨c_B3,f_B3,l_B3⟩:=blk3 B3.out
  try clear c_B4 f_B4 l_B4
  obtain ⟨c_B4,f_B4,l_B4⟩:=blk3 B4.out
  exact bodyPost_ret (v:=FE (⟨⟨none,0,0⟩,⟨none,0,0⟩⟩,2)) (by simp [results,Tryz.results74,go_sem,c_B4,FE]) rfl ⟨(⟨⟨none,0,0⟩,⟨none,0,0⟩⟩,2),rfl,HX.out,by rw [HV.out]; exact ⟨rfl,canF_nil _⟩⟩
 have hu1:decide (VF c d) = true:=decide_eq_true hu
 rw [hu1]
 have HV:Hid (serV b a c d = limV (mul5V b c) (mul5V a d)):=Hi (by unfold serV; rw [if_pos ⟨hv,hu⟩])
 obtain ⟨N,hN⟩:∃ N,N = w3.heap.size:=⟨_,rfl⟩
 have hN1:w3.heap.size≤N:=by omega
 have hN2:w.heap.size + 2 < N:=by omega
 have HN:=Hi hN
 clear hN
 have M1:Hid (FrB 801 (mul5V b c)):=Hi ((ZB.out.mul ZC.out (by rw [LB.out]; omega)).mono (by omega))
 have M2:Hid (FrB 801 (mul5V a d)):=Hi ((ZA.out.mul ZD.out (by rw [LA.out]; omega)).mono (by omega))
 have M3:Hid (FrB 801 (mul5V b d)):=Hi ((ZB.out.mul ZD.out (by rw [LB.out]; omega)).mono (by omega))
 have M4:Hid (FrB 801 (mul5V c a)):=Hi ((ZC.out.mul ZA.out (by rw [LC.out]; omega)).mono (by omega))
 go_upto_region 3 with fail
 refine wp_region_edges [(12,11),(13,12)] _ (by simp only [addEs,addE,List.push_toArray,List.cons_append,List.nil_append]; exact rfl) (by intro c a d v w h; cases d <;> exact h) 11 (fun opIx=>match opIx with
  | 4=>.spec (SH) (default) (SH.v) (fun x w'=>NewL N w' x (mul5V b c))
  | 9=>.spec (SH) (default) (SH.v) (fun x w'=>NewL N w' x (mul5V a d))
  | 10=>.spec (FH × Int) ((⟨⟨none,0,0⟩,⟨none,0,0⟩⟩,0)) (FE) (FEN N (limV (mul5V b c) (mul5V a d)))
  | _=>.quiet) (fun | 10=>[4,9] | _=>[]) (by kernel_rfl) (by kernel_rfl) (by kernel_rfl) (fun w0 he0 hz0 hc0 hf0=>?_)
 replace he0:=Hi he0
 simp only [pT]
 repeat (refine wpq fun K h=>?_; go_big_quiet_op; refine h _ ?_; clear h K)
 refine wps he0.out rfl rfl (fun w1 hW hG=>?_) fun x20=>?_
 ·exact spc [.slice ba bn bc,.slice ca cn cc] Tryz.func160 ((pmulB_any ba ca bn bc cn cc b c S S _ ((HBr.out.ext HX.out).ext hW) ((HCr.out.ext HX.out).ext hW) (by omega) (by omega) ZB.out ZC.out (by omega)).weak (fun _ _ _ h=>h.mono (by rw [HN.out]; exact hW.size)))
 simp only [pS]
 repeat (refine wpq fun K h=>?_; go_big_quiet_op; refine h _ ?_; clear h K)
 refine wps he0.out rfl rfl (fun w1 hW hG=>?_) fun x21=>?_
 ·exact spc [.slice aa an ac,.slice da dn dc] Tryz.func160 ((pmulB_any aa da an ac dn dc a d S S _ ((HAr.out.ext HX.out).ext hW) ((HDr.out.ext HX.out).ext hW) (by omega) (by omega) ZA.out ZD.out (by omega)).weak (fun _ _ _ h=>h.mono (by rw [HN.out]; exact hW.size)))
 simp only [pS]
 repeat (refine wpq fun K h=>?_; go_big_quiet_op; refine h _ ?_; clear h K)
 refine wps he0.out rfl rfl (fun w1 hW hG=>?_) fun x22=>?_
 ·have g20:=(hG 4 (by decide):Since _ _).get fun _ e g=>g.ext e
  have g21:=(hG 9 (by decide):Since _ _).get fun _ e g=>g.ext e
  exact spc [x20.v,x21.v] Tryz.func172 (limited_any x20 x21 _ _ 801 N _ g20 g21 M1.out.sz M2.out.sz (by decide))
 simp only [pS]
 repeat (refine wpq fun K h=>?_; go_big_quiet_op; refine h _ ?_; clear h K)
 refine wpF_nil ?_
 intro w5 hI
 have hE:=he0.out.trans hI.ext
 have G20:=Hi ((hI.facts 4:Since _ _).get fun _ e g=>g.ext e)
 have G21:=Hi ((hI.facts 9:Since _ _).get fun _ e g=>g.ext e)
 have G22:=Hi ((hI.facts 10:Since _ _).get fun _ e g=>g.ext e)
 clear hI he0 hz0 hc0 hf0
 replace HX:=hE.tr HX
 replace B2:=hE.bl B2
 replace B3:=hE.bl B3
 replace B4:=hE.bl B4
 have hs_w5:=hE.size
 clear hE
 try clear c_B2 f_B2 l_B2
 obtain ⟨c_B2,f_B2,l_B2⟩:=blk3 B2.out
 try clear c_B3 f_B3 l_B3
 obtain ⟨c_B3,f_B3,l_B3⟩:=blk3 B3.out
 try clear c_B4 f_B4 l_B4
 obtain ⟨c_B4,f_B4,l_B4⟩:=blk3 B4.out
 simp only [pD]
 obtain ⟨⟨⟨ea,en,ec⟩,⟨fa,fn,fc⟩⟩,er⟩:=x22
 obtain ⟨he,h1,h2⟩:=G22.out
 simp only at he h1 h2
 have L1:=Hi h1
 have L2:=Hi h2
 have HE:=Hi he
 clear h1 h2 he G22
 simp only [FE,FH.v]
 go_wp2
 refine nm_setF (F:=fun W=>bodyPost _ _ _ _ _ W) B4.out rfl ?_
 intro w6 T
 replace HX:=Hi (T.ext HX.out (by omega))
 replace B2:=Hi (T.rest _ _ (by omega) B2.out)
 replace B3:=Hi (T.rest _ _ (by omega) B3.out)
 replace B4:=Hi (T.bx)
 replace L1:=Hi (L1.out.put T (by omega))
 replace L2:=Hi (L2.out.put T (by omega))
 have hs_w6:=nle T.size
 have hr_w6:=nle T.size.symm
 clear T
 try clear c_B2 f_B2 l_B2
 obtain ⟨c_B2,f_B2,l_B2⟩:=blk3 B2.out
 try clear c_B3 f_B3 l_B3
 obtain ⟨c_B3,f_B3,l_B3⟩:=blk3 B3.out
 try clear c_B4 f_B4 l_B4
 obtain ⟨c_B4,f_B4,l_B4⟩:=blk3 B4.out
 exact bodyPost_ret (v:=FE (⟨⟨ea,en,ec⟩,⟨fa,fn,fc⟩⟩,er)) (by simp [results,Tryz.results74,go_sem,c_B4,FE]) rfl ⟨(⟨⟨ea,en,ec⟩,⟨fa,fn,fc⟩⟩,er),rfl,HX.out,by rw [HV.out]; exact ⟨HE.out,L1.out.can,L2.out.can⟩⟩
theorem parallel20_any (f g:FH) (b a c d:List Rat) (S:Nat) (w:World) (h:RawF w f b a) (k:RawF w g c d) (hf:f.b.n≤100∧f.a.n≤100) (hg:g.b.n≤100∧g.a.n≤100) (zb:FrB S b) (za:FrB S a) (zc:FrB S c) (zd:FrB S d) (hS:S≤400) :
  Does 75 [f.v,g.v] w FE (FEP (parV b a c d)):=by
 obtain ⟨⟨ba,bn,bc⟩,⟨aa,an,ac⟩⟩:=f
 obtain ⟨⟨ca,cn,cc⟩,⟨da,dn,dc⟩⟩:=g
 have H:=Hi h
 have K:=Hi k
 have HX:=Hi (Ext.refl w)
 have ZB:=Hi zb
 have ZA:=Hi za
 have ZC:=Hi zc
 have ZD:=Hi zd
 have LB:=Hi h.1.len
 have LA:=Hi h.2.len
 have LC:=Hi k.1.len
 have LD:=Hi k.2.len
 simp only at hf hg LB LA LC LD
 have HBr:=Hi h.1
 have HAr:=Hi h.2
 have HCr:=Hi k.1
 have HDr:=Hi k.2
 clear h k zb za zc zd
 unfold Does
 simp only [FH.v,SH.v]
 go_enter Tryz.func75,Tryz.ntmps75
 go_upto_region 1 with fail
 refine nm_alloc3 ?_
 intro w1 hE hB0 hB1 hB2 hz
 have hz_w1:=nle hz
 have hr_w1:=nle hz.symm
 clear hz
 replace HX:=hE.tr HX
 have hs_w1:=hE.size
 clear hE
 have B2:=Hi hB0
 clear hB0
 obtain ⟨c_B2,f_B2,l_B2⟩:=blk3 B2.out
 have B3:=Hi hB1
 clear hB1
 obtain ⟨c_B3,f_B3,l_B3⟩:=blk3 B3.out
 have B4:=Hi hB2
 clear hB2
 obtain ⟨c_B4,f_B4,l_B4⟩:=blk3 B4.out
 go_wp2_with fail
 refine Calls.mono (valid20_any ⟨⟨ba,bn,bc⟩,⟨aa,an,ac⟩⟩ b a _ (H.out.ext HX.out)) ?_
 rintro e w2 ⟨x2,rfl,hE,-⟩
 replace HX:=hE.tr HX
 replace B2:=hE.bl B2
 replace B3:=hE.bl B3
 replace B4:=hE.bl B4
 have hs_w2:=hE.size
 clear hE
 try clear c_B2 f_B2 l_B2
 obtain ⟨c_B2,f_B2,l_B2⟩:=blk3 B2.out
 try clear c_B3 f_B3 l_B3
 obtain ⟨c_B3,f_B3,l_B3⟩:=blk3 B3.out
 try clear c_B4 f_B4 l_B4
 obtain ⟨c_B4,f_B4,l_B4⟩:=blk3 B4.out
 by_cases hv:VF b a
 case neg =>
  have hv1:decide (VF b a) = false:=decide_eq_false hv
  have HV:Hid (parV b a c d = (2,[],[])):=Hi (by unfold parV; rw [if_neg (fun h=>hv h.1)])
  rw [hv1]
  go_wp2
  refine nm_setF (F:=fun W=>bodyPost _ _ _ _ _ W) B4.out rfl ?_
  intro w3 T
  replace HX:=Hi (T.ext HX.out (by omega))
  replace B2:=Hi (T.rest _ _ (by omega) B2.out)
  replace B3:=Hi (T.rest _ _ (by omega) B3.out)
  replace B4:=Hi (T.bx)
  have hs_w3:=nle T.size
  have hr_w3:=nle T.size.symm
  clear T
  try clear c_B2 f_B2 l_B2
  obtain ⟨c_B2,f_B2,l_B2⟩:=blk3 B2.out
  try clear c_B3 f_B3 l_B3
  obtain ⟨c_B3,f_B3,l_B3⟩:=blk3 B3.out
  try clear c_B4 f_B4 l_B4
  obtain ⟨c_B4,f_B4,l_B4⟩:=blk3 B4.out
  exact bodyPost_ret (v:=FE (⟨⟨none,0,0⟩,⟨none,0,0⟩⟩,2)) (by simp [results,Tryz.results75,go_sem,c_B4,FE]) rfl ⟨(⟨⟨none,0,0⟩,⟨none,0,0⟩⟩,2),rfl,HX.out,by rw [HV.out]; exact ⟨rfl,canF_nil _⟩⟩
 have hv1:decide (VF b a) = true:=decide_eq_true hv
 rw [hv1]
 go_wp2_with fail
 refine Calls.mono (valid20_any ⟨⟨ca,cn,cc⟩,⟨da,dn,dc⟩⟩ c d _ (K.out.ext HX.out)) ?_
 rintro e w3 ⟨x3,rfl,hE,-⟩
 replace HX:=hE.tr HX
 replace B2:=hE.bl B2
 replace B3:=hE.bl B3
 replace B4:=hE.bl B4
 have hs_w3:=hE.size
 clear hE
 try clear c_B2 f_B2 l_B2
 obtain ⟨c_B2,f_B2,l_B2⟩:=blk3 B2.out
 try clear c_B3 f_B3 l_B3
 obtain ⟨c_B3,f_B3,l_B3⟩:=blk3 B3.out
 try clear c_B4 f_B4 l_B4
 obtain ⟨c_B4,f_B4,l_B4⟩:=blk3 B4.out
 by_cases hu:VF c d
 case neg =>
  have hu1:decide (VF c d) = false:=decide_eq_false hu
  have HV:Hid (parV b a c d = (2,[],[])):=Hi (by unfold parV; rw [if_neg (fun h=>hu h.2)])
  rw [hu1]
  go_wp2
  refine nm_setF (F:=fun W=>bodyPost _ _ _ _ _ W) B4.out rfl ?_
  intro w4 T
  replace HX:=Hi (T.ext HX.out (by omega))
  replace B2:=Hi (T.rest _ _ (by omega) B2.out)
  replace B3:=Hi (T.rest _ _ (by omega) B3.out)
  replace B4:=Hi (T.bx)
  have hs_w4:=nle T.size
  have hr_w4:=nle T.size.symm
  clear T
  try clear c_B2 f_B2 l_B2
  obtain ⟨c_B2,f_B2,l_B2⟩:=blk3 B2.out
  try clear c_B3 f_B3 l_B3
  obtain ⟨c_B3,f_B3,l_B3⟩:=blk3 B3.out
  try clear c_B4 f_B4 l_B4
  obtain ⟨c_B4,f_B4,l_B4⟩:=blk3 B4.out
  exact bodyPost_ret (v:=FE (⟨⟨none,0,0⟩,⟨none,0,0⟩⟩,2)) (by simp [results,Tryz.results75,go_sem,c_B4,FE]) rfl ⟨(⟨⟨none,0,0⟩,⟨none,0,0⟩⟩,2),rfl,HX.out,by rw [HV.out]; exact ⟨rfl,canF_nil _⟩⟩
 have hu1:decide (VF c d) = true:=decide_eq_true hu
 rw [hu1]
 have HV:Hid (parV b a c d = limV (add5V (mul5V b d) (mul5V c a)) (mul5V a d)):=Hi (by unfold parV; rw [if_pos ⟨hv,hu⟩])
 obtain ⟨N,hN⟩:∃ N,N = w3.heap.size:=⟨_,rfl⟩
 have hN1:w3.heap.size≤N:=by omega
 have hN2:w.heap.size + 2 < N:=by omega
 have HN:=Hi hN
 clear hN
 have M1:Hid (FrB 801 (mul5V b c)):=Hi ((ZB.out.mul ZC.out (by rw [LB.out]; omega)).mono (by omega))
 have M2:Hid (FrB 801 (mul5V a d)):=Hi ((ZA.out.mul ZD.out (by rw [LA.out]; omega)).mono (by omega))
 have M3:Hid (FrB 801 (mul5V b d)):=Hi ((ZB.out.mul ZD.out (by rw [LB.out]; omega)).mono (by omega))
 have M4:Hid (FrB 801 (mul5V c a)):=Hi ((ZC.out.mul ZA.out (by rw [LC.out]; omega)).mono (by omega))
 have LL1:Hid ((mul5V b d).length≤200):=Hi (by have:=mul5_len b d; rw [LB.out,LD.out] at this; omega)
 have LL2:Hid ((mul5V c a).length≤200):=Hi (by have:=mul5_len c a; rw [LC.out,LA.out] at this; omega)
 have MA:Hid (FrB 1603 (add5V (mul5V b d) (mul5V c a))):=Hi (M3.out.add M4.out)
 go_upto_region 3 with fail
 refine wp_region_edges [(18,17),(19,18)] _ (by simp only [addEs,addE,List.push_toArray,List.cons_append,List.nil_append]; exact rfl) (by intro c a d v w h; cases d <;> exact h) 17 (fun opIx=>match opIx with
  | 4=>.spec (SH) (default) (SH.v) (fun x w'=>NewL N w' x (mul5V b d))
  | 9=>.spec (SH) (default) (SH.v) (fun x w'=>NewL N w' x (mul5V c a))
  | 10=>.spec (SH) (default) (SH.v) (fun x w'=>NewL N w' x (add5V (mul5V b d) (mul5V c a)))
  | 15=>.spec (SH) (default) (SH.v) (fun x w'=>NewL N w' x (mul5V a d))
  | 16=>.spec (FH × Int) ((⟨⟨none,0,0⟩,⟨none,0,0⟩⟩,0)) (FE) (FEN N (limV (add5V (mul5V b d) (mul5V c a)) (mul5V a d)))
  | _=>.quiet) (fun | 10=>[4,9] | 16=>[10,15] | _=>[]) (by kernel_rfl) (by kernel_rfl) (by kernel_rfl) (fun w0 he0 hz0 hc0 hf0=>?_)
 replace he0:=Hi he0
 simp only [pT]
 repeat (refine wpq fun K h=>?_; go_big_quiet_op; refine h _ ?_; clear h K)
 refine wps he0.out rfl rfl (fun w1 hW hG=>?_) fun x20=>?_
 ·exact spc [.slice ba bn bc,.slice da dn dc] Tryz.func160 ((pmulB_any ba da bn bc dn dc b d S S _ ((HBr.out.ext HX.out).ext hW) ((HDr.out.ext HX.out).ext hW) (by omega) (by omega) ZB.out ZD.out (by omega)).weak (fun _ _ _ h=>h.mono (by rw [HN.out]; exact hW.size)))
 simp only [pS]
 repeat (refine wpq fun K h=>?_; go_big_quiet_op; refine h _ ?_; clear h K)
 refine wps he0.out rfl rfl (fun w1 hW hG=>?_) fun x21=>?_
 ·exact spc [.slice ca cn cc,.slice aa an ac] Tryz.func160 ((pmulB_any ca aa cn cc an ac c a S S _ ((HCr.out.ext HX.out).ext hW) ((HAr.out.ext HX.out).ext hW) (by omega) (by omega) ZC.out ZA.out (by omega)).weak (fun _ _ _ h=>h.mono (by rw [HN.out]; exact hW.size)))
 simp only [pS]
 repeat (refine wpq fun K h=>?_; go_big_quiet_op; refine h _ ?_; clear h K)
 refine wps he0.out rfl rfl (fun w1 hW hG=>?_) fun x23=>?_
 ·have g20:=(hG 4 (by decide):Since _ _).get fun _ e g=>g.ext e
  have g21:=(hG 9 (by decide):Since _ _).get fun _ e g=>g.ext e
  exact spc [x20.v,x21.v] Tryz.func173 ((padd_sh x20 x21 (mul5V b d) (mul5V c a) 801 _ g20.can g21.can LL1.out LL2.out M3.out.sz M4.out.sz (by decide)).weak (fun _ _ _ h=>h.mono (by rw [HN.out]; exact hW.size)))
 simp only [pS]
 repeat (refine wpq fun K h=>?_; go_big_quiet_op; refine h _ ?_; clear h K)
 refine wps he0.out rfl rfl (fun w1 hW hG=>?_) fun x24=>?_
 ·exact spc [.slice aa an ac,.slice da dn dc] Tryz.func160 ((pmulB_any aa da an ac dn dc a d S S _ ((HAr.out.ext HX.out).ext hW) ((HDr.out.ext HX.out).ext hW) (by omega) (by omega) ZA.out ZD.out (by omega)).weak (fun _ _ _ h=>h.mono (by rw [HN.out]; exact hW.size)))
 simp only [pS]
 repeat (refine wpq fun K h=>?_; go_big_quiet_op; refine h _ ?_; clear h K)
 refine wps he0.out rfl rfl (fun w1 hW hG=>?_) fun x22=>?_
 ·have g23:=(hG 10 (by decide):Since _ _).get fun _ e g=>g.ext e
  have g24:=(hG 15 (by decide):Since _ _).get fun _ e g=>g.ext e
  exact spc [x23.v,x24.v] Tryz.func172 (limited_any x23 x24 _ _ 1603 N _ g23 g24 MA.out.sz (M2.out.sz.mono (by decide)) (by decide))
 simp only [pS]
 repeat (refine wpq fun K h=>?_; go_big_quiet_op; refine h _ ?_; clear h K)
 refine wpF_nil ?_
 intro w5 hI
 have hE:=he0.out.trans hI.ext
 have G20:=Hi ((hI.facts 4:Since _ _).get fun _ e g=>g.ext e)
 have G21:=Hi ((hI.facts 9:Since _ _).get fun _ e g=>g.ext e)
 have G23:=Hi ((hI.facts 10:Since _ _).get fun _ e g=>g.ext e)
 have G24:=Hi ((hI.facts 15:Since _ _).get fun _ e g=>g.ext e)
 have G22:=Hi ((hI.facts 16:Since _ _).get fun _ e g=>g.ext e)
 clear hI he0 hz0 hc0 hf0
 replace HX:=hE.tr HX
 replace B2:=hE.bl B2
 replace B3:=hE.bl B3
 replace B4:=hE.bl B4
 have hs_w5:=hE.size
 clear hE
 try clear c_B2 f_B2 l_B2
 obtain ⟨c_B2,f_B2,l_B2⟩:=blk3 B2.out
 try clear c_B3 f_B3 l_B3
 obtain ⟨c_B3,f_B3,l_B3⟩:=blk3 B3.out
 try clear c_B4 f_B4 l_B4
 obtain ⟨c_B4,f_B4,l_B4⟩:=blk3 B4.out
 simp only [pD]
 obtain ⟨⟨⟨ea,en,ec⟩,⟨fa,fn,fc⟩⟩,er⟩:=x22
 obtain ⟨he,h1,h2⟩:=G22.out
 simp only at he h1 h2
 have L1:=Hi h1
 have L2:=Hi h2
 have HE:=Hi he
 clear h1 h2 he G22
 simp only [FE,FH.v]
 go_wp2
 refine nm_setF (F:=fun W=>bodyPost _ _ _ _ _ W) B4.out rfl ?_
 intro w6 T
 replace HX:=Hi (T.ext HX.out (by omega))
 replace B2:=Hi (T.rest _ _ (by omega) B2.out)
 replace B3:=Hi (T.rest _ _ (by omega) B3.out)
 replace B4:=Hi (T.bx)
 replace L1:=Hi (L1.out.put T (by omega))
 replace L2:=Hi (L2.out.put T (by omega))
 have hs_w6:=nle T.size
 have hr_w6:=nle T.size.symm
 clear T
 try clear c_B2 f_B2 l_B2
 obtain ⟨c_B2,f_B2,l_B2⟩:=blk3 B2.out
 try clear c_B3 f_B3 l_B3
 obtain ⟨c_B3,f_B3,l_B3⟩:=blk3 B3.out
 try clear c_B4 f_B4 l_B4
 obtain ⟨c_B4,f_B4,l_B4⟩:=blk3 B4.out
 exact bodyPost_ret (v:=FE (⟨⟨ea,en,ec⟩,⟨fa,fn,fc⟩⟩,er)) (by simp [results,Tryz.results75,go_sem,c_B4,FE]) rfl ⟨(⟨⟨ea,en,ec⟩,⟨fa,fn,fc⟩⟩,er),rfl,HX.out,by rw [HV.out]; exact ⟨HE.out,L1.out.can,L2.out.can⟩⟩
end Go.Proofs.YtdchjfcklppmgaaGreat
