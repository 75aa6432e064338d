/- Delay of package response. -/
import Derived.Test.YtpieblkklbilgaaGreatQPPx3
import Derived.Test.YtpieblkklbilgaaGreatQPDl
set_option linter.unusedVariables false
namespace Go.Proofs.YtpieblkklbilgaaGreat
open Go.RowKit Go.Front Go.Num Stab
attribute [local go_sem] XW.cell XW.frozen
theorem cmpR_lt0 (q:Rat):cmpR q 0 < 0↔q < 0:=by
 unfold cmpR
 by_cases h:q < 0
 ·rw [if_pos h];exact ⟨fun _=>h,fun _=>by decide⟩
 ·rw [if_neg h]
  split
  ·exact ⟨fun h1=>absurd h1 (by decide),fun h1=>absurd h1 h⟩
  ·exact ⟨fun h1=>absurd h1 (by decide),fun h1=>absurd h1 h⟩
def GNe (n d:List Rat):Prop:=∀ u,u=gcdV n d→tz u ≠ []
set_option maxRecDepth 8000 in
set_option maxHeartbeats 16000000 in
theorem delay20_any (f:FH) (b a:List Rat) (S:Nat) (w:World) (h:RawF w f b a) (hf:f.b.n≤5∧f.a.n≤5) (zb:FrB S b) (za:FrB S a) (hS:S≤13) :
  Does 61 [f.v] w FE (FEP (delV b a)):=by
 obtain ⟨⟨ba,bn,bc⟩,⟨aa,an,ac⟩⟩:=f
 have H:=Hi h
 have HX:=Hi (Ext.refl w)
 have ZB:=Hi zb.tz
 have ZA:=Hi za.tz
 have hbl:(tz b).length≤5:=by have:=h.1.len;have h4:=tz_len_le b;have:=hf.1;simp only at *;omega
 have hal:(tz a).length≤5:=by have:=h.2.len;have h4:=tz_len_le a;have:=hf.2;simp only at *;omega
 have hs0:=zb.1
 simp only at hf
 clear h zb za
 unfold Does
 simp only [FH.v,SH.v]
 go_enter Tryz.func61,Tryz.ntmps61
 go_upto_region 1 with fail
 refine nm_alloc2 ?_
 intro w1 hE hB0 hB1 hz
 have hz_w1:=nle hz
 have hr_w1:=nle hz.symm
 clear hz
 replace HX:=hE.tr HX
 have hs_w1:=hE.size
 clear hE
 have B1:=Hi hB0
 clear hB0
 obtain ⟨c_B1,f_B1,l_B1⟩:=blk3 B1.out
 have B2:=Hi hB1
 clear hB1
 obtain ⟨c_B2,f_B2,l_B2⟩:=blk3 B2.out
 go_wp2_with fail
 refine Calls.mono (valid20_any ⟨⟨ba,bn,bc⟩,⟨aa,an,ac⟩⟩ b a _ (H.out.ext HX.out)) ?_
 rintro e w2 ⟨x2,rfl,hE,-⟩
 replace HX:=hE.tr HX
 replace B1:=hE.bl B1
 replace B2:=hE.bl B2
 have hs_w2:=hE.size
 clear hE
 try clear c_B1 f_B1 l_B1
 obtain ⟨c_B1,f_B1,l_B1⟩:=blk3 B1.out
 try clear c_B2 f_B2 l_B2
 obtain ⟨c_B2,f_B2,l_B2⟩:=blk3 B2.out
 by_cases hv:VF b a
 case neg =>
  have hv1:decide (VF b a)=false:=decide_eq_false hv
  have HV:Hid (delV b a=(2,[],[])):=Hi (by unfold delV;rw [if_neg hv])
  rw [hv1]
  go_wp2
  refine nm_setF (F:=fun W=>bodyPost _ _ _ _ _ W) B2.out rfl ?_
  intro w3 T
  replace HX:=Hi (T.ext HX.out (by omega))
  replace B1:=Hi (T.rest _ _ (by omega) B1.out)
  replace B2:=Hi (T.bx)
  have hs_w3:=nle T.size
  have hr_w3:=nle T.size.symm
  clear T
  try clear c_B1 f_B1 l_B1
  obtain ⟨c_B1,f_B1,l_B1⟩:=blk3 B1.out
  try clear c_B2 f_B2 l_B2
  obtain ⟨c_B2,f_B2,l_B2⟩:=blk3 B2.out
  exact bodyPost_ret (v:=FE (⟨⟨none,0,0⟩,⟨none,0,0⟩⟩,2)) (by simp [results,Tryz.results61,go_sem,c_B2,FE]) rfl ⟨(⟨⟨none,0,0⟩,⟨none,0,0⟩⟩,2),rfl,HX.out,by rw [HV.out];exact ⟨rfl,canF_nil _⟩⟩
 have hv1:decide (VF b a)=true:=decide_eq_true hv
 have HA0:Hid (tz a ≠ []):=Hi (fun h=>by
  have h1:=hv.2.2
  rw [← tz_getD' a,h] at h1
  exact absurd h1 (by decide))
 rw [hv1]
 go_wp2_with fail
 refine Calls.mono (of20_any ⟨⟨ba,bn,bc⟩,⟨aa,an,ac⟩⟩ b a _ (H.out.ext HX.out) (by simp only;omega) (by simp only;omega)) ?_
 rintro e w3 ⟨x3,rfl,hE,g3⟩
 have G3:=Hi g3
 clear g3
 replace HX:=hE.tr HX
 replace B1:=hE.bl B1
 replace B2:=hE.bl B2
 have hs_w3:=hE.size
 clear hE
 try clear c_B1 f_B1 l_B1
 obtain ⟨c_B1,f_B1,l_B1⟩:=blk3 B1.out
 try clear c_B2 f_B2 l_B2
 obtain ⟨c_B2,f_B2,l_B2⟩:=blk3 B2.out
 obtain ⟨⟨pa,P,pc⟩,⟨qa,Q,qc⟩⟩:=x3
 have LP:=Hi G3.out.1
 have LQ:=Hi G3.out.2
 clear G3
 simp only at LP LQ
 have HPl:=Hi LP.out.len
 have HQl:=Hi LQ.out.len
 simp only at HPl HQl
 rw [HPl.out] at hbl
 rw [HQl.out] at hal
 have HV0:Hid (delV b a=if tz b=[] then (3,[],[]) else if 50 < (tz b).length+(tz a).length then (12,[],[]) else if evV (quoV (dlD (tz b) (tz a)) (gcdV (dlN (tz b) (tz a)) (dlD (tz b) (tz a)))) ((1:Int):Rat) < 0 then (0,ngV (quoV (dlN (tz b) (tz a)) (gcdV (dlN (tz b) (tz a)) (dlD (tz b) (tz a)))),ngV (quoV (dlD (tz b) (tz a)) (gcdV (dlN (tz b) (tz a)) (dlD (tz b) (tz a))))) else (0,quoV (dlN (tz b) (tz a)) (gcdV (dlN (tz b) (tz a)) (dlD (tz b) (tz a))),quoV (dlD (tz b) (tz a)) (gcdV (dlN (tz b) (tz a)) (dlD (tz b) (tz a))))):=Hi (by unfold delV;rw [if_pos hv])
 simp only [qdV,SH.v]
 go_upto_region 4 with fail
 refine nm_alloc ?_
 intro w4 hE hB0 hz
 have hz_w4:=nle hz
 have hr_w4:=nle hz.symm
 clear hz
 replace HX:=hE.tr HX
 replace B1:=hE.bl B1
 replace B2:=hE.bl B2
 replace LP:=Hi (LP.out.ext hE)
 replace LQ:=Hi (LQ.out.ext hE)
 have hs_w4:=hE.size
 clear hE
 try clear c_B1 f_B1 l_B1
 obtain ⟨c_B1,f_B1,l_B1⟩:=blk3 B1.out
 try clear c_B2 f_B2 l_B2
 obtain ⟨c_B2,f_B2,l_B2⟩:=blk3 B2.out
 have B4:=Hi hB0
 clear hB0
 obtain ⟨c_B4,f_B4,l_B4⟩:=blk3 B4.out
 by_cases hP0:P=0
 case pos =>
  subst hP0
  have HV:Hid (delV b a=(3,[],[])):=Hi (by rw [HV0.out,if_pos (List.length_eq_zero_iff.1 HPl.out)])
  go_wp2
  clear LP
  clear LQ
  refine nm_setF (F:=fun W=>bodyPost _ _ _ _ _ W) B2.out rfl ?_
  intro w5 T
  replace HX:=Hi (T.ext HX.out (by omega))
  replace B1:=Hi (T.rest _ _ (by omega) B1.out)
  replace B2:=Hi (T.bx)
  replace B4:=Hi (T.rest _ _ (by omega) B4.out)
  have hs_w5:=nle T.size
  have hr_w5:=nle T.size.symm
  clear T
  try clear c_B1 f_B1 l_B1
  obtain ⟨c_B1,f_B1,l_B1⟩:=blk3 B1.out
  try clear c_B2 f_B2 l_B2
  obtain ⟨c_B2,f_B2,l_B2⟩:=blk3 B2.out
  try clear c_B4 f_B4 l_B4
  obtain ⟨c_B4,f_B4,l_B4⟩:=blk3 B4.out
  exact bodyPost_ret (v:=FE (⟨⟨none,0,0⟩,⟨none,0,0⟩⟩,3)) (by simp [results,Tryz.results61,go_sem,c_B2,FE]) rfl ⟨(⟨⟨none,0,0⟩,⟨none,0,0⟩⟩,3),rfl,HX.out,by rw [HV.out];exact ⟨rfl,canF_nil _⟩⟩
 have hPb:((P:Int) == 0)=false:=by rw [beq_eq_false_iff_ne];omega
 have HB0:Hid (tz b ≠ []):=Hi (fun h=>by have:=HPl.out;rw [h] at this;simp at this;omega)
 go_wp2_with fail
 refine Calls.mono (together_any ⟨⟨ba,bn,bc⟩,⟨aa,an,ac⟩⟩ b a _ (H.out.ext HX.out) (by simp only;omega) (by simp only;omega)) ?_
 rintro e w5 ⟨x5,rfl,hE,-⟩
 replace HX:=hE.tr HX
 replace B1:=hE.bl B1
 replace B2:=hE.bl B2
 replace LP:=Hi (LP.out.ext hE)
 replace LQ:=Hi (LQ.out.ext hE)
 replace B4:=hE.bl B4
 have hs_w5:=hE.size
 clear hE
 try clear c_B1 f_B1 l_B1
 obtain ⟨c_B1,f_B1,l_B1⟩:=blk3 B1.out
 try clear c_B2 f_B2 l_B2
 obtain ⟨c_B2,f_B2,l_B2⟩:=blk3 B2.out
 try clear c_B4 f_B4 l_B4
 obtain ⟨c_B4,f_B4,l_B4⟩:=blk3 B4.out
 rw [HPl.out,HQl.out]
 obtain ⟨dg,hdg⟩:∃ dg,dg=(P:Int) - 1+((Q:Int) - 1):=⟨_,rfl⟩
 have hdeg:¬ (48:Int) < dg:=by omega
 rw [← hdg]
 clear hdg
 obtain ⟨p,hp⟩:∃ p,p=tz b:=⟨_,rfl⟩
 obtain ⟨q,hq⟩:∃ q,q=tz a:=⟨_,rfl⟩
 have HTp:Hid (tz p ≠ []):=Hi (by rw [hp,tz_idem];exact HB0.out)
 have HTq:Hid (tz q ≠ []):=Hi (by rw [hq,tz_idem];exact HA0.out)
 have HV1:Hid (delV b a=if evV (quoV (dlD p q) (gcdV (dlN p q) (dlD p q))) ((1:Int):Rat) < 0 then (0,ngV (quoV (dlN p q) (gcdV (dlN p q) (dlD p q))),ngV (quoV (dlD p q) (gcdV (dlN p q) (dlD p q)))) else (0,quoV (dlN p q) (gcdV (dlN p q) (dlD p q)),quoV (dlD p q) (gcdV (dlN p q) (dlD p q)))):=Hi (by rw [HV0.out,if_neg HB0.out,if_neg (by rw [HPl.out,HQl.out];omega),hp,hq])
 rw [← hp] at LP ZB HPl
 rw [← hq] at LQ ZA HQl
 clear hp hq HV0 HB0 HA0
 have HGN:Hid (GNe (dlN p q) (dlD p q)):=Hi (fun u hu=>by rw [hu];exact dl_gcd HTp.out HTq.out)
 have HFR:=Hi (dl_frb ZB.out ZA.out (by rw [HPl.out];omega) (by rw [HQl.out];omega) hS)
 have HLN:=Hi (dl_len (p:=p) (q:=q) (by rw [HPl.out];omega) (by rw [HQl.out];omega))
 have ZTB:Hid (SzL 13 p):=Hi (ZB.out.sz.mono hS)
 have ZTA:Hid (SzL 13 q):=Hi (ZA.out.sz.mono hS)
 go_upto_region 8 with fail
 refine wp_region_front 6 (fun opIx=>match opIx with
  | 2=>.spec (SH) (default) (SH.v) (fun x w'=>CanL w' x (crossV p p))
  | 5=>.spec (SH) (default) (SH.v) (fun x w'=>CanL w' x (crossV q q))
  | _=>.quiet) (fun _=>[]) (by kernel_rfl) (by kernel_rfl) (fun w0 he0 hz0 hc0 hf0=>?_)
 replace he0:=Hi he0
 simp only [pT]
 repeat (refine wpq fun K h=>?_;go_big_quiet_op;refine h _ ?_;clear h K)
 refine wps he0.out rfl rfl (fun w1 hW hG=>?_) fun x20=>?_
 ·exact spc [sdV ⟨pa,P,pc⟩] Tryz.func131 (square_any ⟨pa,P,pc⟩ p 13 _ ((LP.out.ext hW).raw ZTB.out (by decide)) (by simp only;omega) ZTB.out (by decide) (by decide))
 simp only [pS]
 repeat (refine wpq fun K h=>?_;go_big_quiet_op;refine h _ ?_;clear h K)
 refine wps he0.out rfl rfl (fun w1 hW hG=>?_) fun x21=>?_
 ·exact spc [sdV ⟨qa,Q,qc⟩] Tryz.func131 (square_any ⟨qa,Q,qc⟩ q 13 _ ((LQ.out.ext hW).raw ZTA.out (by decide)) (by simp only;omega) ZTA.out (by decide) (by decide))
 simp only [pS]
 repeat (refine wpq fun K h=>?_;go_big_quiet_op;refine h _ ?_;clear h K)
 refine wpF_nil ?_
 intro w6 hI
 have hE:=he0.out.trans hI.ext
 have G20:=Hi ((hI.facts 2:Since _ _).get fun _ e g=>g.ext e)
 have G21:=Hi ((hI.facts 5:Since _ _).get fun _ e g=>g.ext e)
 clear hI he0 hz0 hc0 hf0
 replace HX:=hE.tr HX
 replace B1:=hE.bl B1
 replace B2:=hE.bl B2
 replace LP:=Hi (LP.out.ext hE)
 replace LQ:=Hi (LQ.out.ext hE)
 replace B4:=hE.bl B4
 have hs_w6:=hE.size
 clear hE
 try clear c_B1 f_B1 l_B1
 obtain ⟨c_B1,f_B1,l_B1⟩:=blk3 B1.out
 try clear c_B2 f_B2 l_B2
 obtain ⟨c_B2,f_B2,l_B2⟩:=blk3 B2.out
 try clear c_B4 f_B4 l_B4
 obtain ⟨c_B4,f_B4,l_B4⟩:=blk3 B4.out
 simp only [pD]
 go_upto_region 9 with fail
 refine wp_region_front 11 (fun opIx=>match opIx with
  | 2=>.spec (SH) (default) (SH.v) (fun x w'=>CanL w' x (crossV (trnV p) p))
  | 4=>.spec (SH) (default) (SH.v) (fun x w'=>CanL w' x (mul5V (crossV (trnV p) p) (crossV q q)))
  | 7=>.spec (SH) (default) (SH.v) (fun x w'=>CanL w' x (crossV (trnV q) q))
  | 9=>.spec (SH) (default) (SH.v) (fun x w'=>CanL w' x (mul5V (crossV (trnV q) q) (crossV p p)))
  | 10=>.spec (SH) (default) (SH.v) (fun x w'=>CanL w' x (dlN p q))
  | _=>.quiet) (fun | 4=>[2] | 9=>[7] | 10=>[4,9] | _=>[]) (by kernel_rfl) (by kernel_rfl) (fun w0 he0 hz0 hc0 hf0=>?_)
 replace he0:=Hi he0
 simp only [pT]
 repeat (refine wpq fun K h=>?_;go_big_quiet_op;refine h _ ?_;clear h K)
 refine wps he0.out rfl rfl (fun w1 hW hG=>?_) fun x22=>?_
 ·exact spc [sdV ⟨pa,P,pc⟩] Tryz.func137 (turn_any pa P pc p 13 _ (LP.out.ext hW) (by omega) ZTB.out (by decide) (by decide))
 simp only [pS]
 repeat (refine wpq fun K h=>?_;go_big_quiet_op;refine h _ ?_;clear h K)
 refine wps he0.out rfl rfl (fun w1 hW hG=>?_) fun x23=>?_
 ·have g22:=(hG 2 (by decide):Since _ _).get fun _ e g=>g.ext e
  exact spc [x22.v,x21.v] Tryz.func136 ((pmul_sh x22 x21 _ _ 31 30 _ g22 (G21.out.ext hW) HFR.out.2.2.1 HFR.out.2.1 (cross_len (by rw [trn_len,HPl.out];omega) (by rw [HPl.out];omega)) (cross_len (by rw [HQl.out];omega) (by rw [HQl.out];omega)) (by decide)).weak (fun _ _ _ h=>h.can))
 simp only [pS]
 repeat (refine wpq fun K h=>?_;go_big_quiet_op;refine h _ ?_;clear h K)
 refine wps he0.out rfl rfl (fun w1 hW hG=>?_) fun x24=>?_
 ·exact spc [sdV ⟨qa,Q,qc⟩] Tryz.func137 (turn_any qa Q qc q 13 _ (LQ.out.ext hW) (by omega) ZTA.out (by decide) (by decide))
 simp only [pS]
 repeat (refine wpq fun K h=>?_;go_big_quiet_op;refine h _ ?_;clear h K)
 refine wps he0.out rfl rfl (fun w1 hW hG=>?_) fun x25=>?_
 ·have g24:=(hG 7 (by decide):Since _ _).get fun _ e g=>g.ext e
  exact spc [x24.v,x20.v] Tryz.func136 ((pmul_sh x24 x20 _ _ 31 30 _ g24 (G20.out.ext hW) HFR.out.2.2.2.1 HFR.out.1 (cross_len (by rw [trn_len,HQl.out];omega) (by rw [HQl.out];omega)) (cross_len (by rw [HPl.out];omega) (by rw [HPl.out];omega)) (by decide)).weak (fun _ _ _ h=>h.can))
 simp only [pS]
 repeat (refine wpq fun K h=>?_;go_big_quiet_op;refine h _ ?_;clear h K)
 refine wps he0.out rfl rfl (fun w1 hW hG=>?_) fun x26=>?_
 ·have g23:=(hG 4 (by decide):Since _ _).get fun _ e g=>g.ext e
  have g25:=(hG 9 (by decide):Since _ _).get fun _ e g=>g.ext e
  exact spc [x23.v,x25.v] Tryz.func135 ((psub_sh x23 x25 _ _ 62 _ g23 g25 HFR.out.2.2.2.2.1.sz HFR.out.2.2.2.2.2.1.sz (Nat.le_trans (mul5_len1 (n:=5) (m:=5) (cross_len (by rw [trn_len,HPl.out];omega) (by rw [HPl.out];omega)) (cross_len (by rw [HQl.out];omega) (by rw [HQl.out];omega))) (by decide)) (Nat.le_trans (mul5_len1 (n:=5) (m:=5) (cross_len (by rw [trn_len,HQl.out];omega) (by rw [HQl.out];omega)) (cross_len (by rw [HPl.out];omega) (by rw [HPl.out];omega))) (by decide)) (by decide)).weak (fun _ _ _ h=>h.can))
 simp only [pS]
 repeat (refine wpq fun K h=>?_;go_big_quiet_op;refine h _ ?_;clear h K)
 refine wpF_nil ?_
 intro w7 hI
 have hE:=he0.out.trans hI.ext
 have G22:=Hi ((hI.facts 2:Since _ _).get fun _ e g=>g.ext e)
 have G23:=Hi ((hI.facts 4:Since _ _).get fun _ e g=>g.ext e)
 have G24:=Hi ((hI.facts 7:Since _ _).get fun _ e g=>g.ext e)
 have G25:=Hi ((hI.facts 9:Since _ _).get fun _ e g=>g.ext e)
 have G26:=Hi ((hI.facts 10:Since _ _).get fun _ e g=>g.ext e)
 clear hI he0 hz0 hc0 hf0
 replace HX:=hE.tr HX
 replace B1:=hE.bl B1
 replace B2:=hE.bl B2
 replace LP:=Hi (LP.out.ext hE)
 replace LQ:=Hi (LQ.out.ext hE)
 replace B4:=hE.bl B4
 replace G20:=Hi (G20.out.ext hE)
 replace G21:=Hi (G21.out.ext hE)
 have hs_w7:=hE.size
 clear hE
 try clear c_B1 f_B1 l_B1
 obtain ⟨c_B1,f_B1,l_B1⟩:=blk3 B1.out
 try clear c_B2 f_B2 l_B2
 obtain ⟨c_B2,f_B2,l_B2⟩:=blk3 B2.out
 try clear c_B4 f_B4 l_B4
 obtain ⟨c_B4,f_B4,l_B4⟩:=blk3 B4.out
 simp only [pD]
 clear G22 G23 G24 G25
 clear LP
 clear LQ
 go_wp2_with fail
 refine Calls.mono ((pmul_sh x20 x21 _ _ 30 30 _ G20.out G21.out HFR.out.1 HFR.out.2.1 (cross_len (by rw [HPl.out];omega) (by rw [HPl.out];omega)) (cross_len (by rw [HQl.out];omega) (by rw [HQl.out];omega)) (by decide)).weak (ψ:=fun x w'=>CanL w' x (dlD p q)) (fun _ _ _ h=>h.can)) ?_
 rintro e w8 ⟨x8,rfl,hE,g8⟩
 have G8:=Hi g8
 clear g8
 replace HX:=hE.tr HX
 replace B1:=hE.bl B1
 replace B2:=hE.bl B2
 replace B4:=hE.bl B4
 replace G20:=Hi (G20.out.ext hE)
 replace G21:=Hi (G21.out.ext hE)
 replace G26:=Hi (G26.out.ext hE)
 have hs_w8:=hE.size
 clear hE
 try clear c_B1 f_B1 l_B1
 obtain ⟨c_B1,f_B1,l_B1⟩:=blk3 B1.out
 try clear c_B2 f_B2 l_B2
 obtain ⟨c_B2,f_B2,l_B2⟩:=blk3 B2.out
 try clear c_B4 f_B4 l_B4
 obtain ⟨c_B4,f_B4,l_B4⟩:=blk3 B4.out
 clear G20
 clear G21
 obtain ⟨nn,hnn⟩:∃ nn,nn=dlN p q:=⟨_,rfl⟩
 obtain ⟨dd,hdd⟩:∃ dd,dd=dlD p q:=⟨_,rfl⟩
 have FN:Hid (FrB 125 nn):=Hi (by rw [hnn];exact HFR.out.2.2.2.2.2.2.1)
 have FD:Hid (FrB 61 dd):=Hi (by rw [hdd];exact HFR.out.2.2.2.2.2.2.2)
 have LNn:Hid (nn.length≤9∧dd.length≤9):=Hi (by rw [hnn,hdd];exact HLN.out)
 rw [← hnn,← hdd] at HV1 HGN
 rw [← hnn] at G26
 rw [← hdd] at G8
 clear hnn hdd HFR HLN
 obtain ⟨na,nl,nc⟩:=x26
 obtain ⟨da,dl,dc⟩:=x8
 have hnl:=G26.out.len
 have hdl:=G8.out.len
 simp only at hnl hdl
 have hnl9:nl≤9:=by rw [← hnl];exact LNn.out.1
 have hdl9:dl≤9:=by rw [← hdl];exact LNn.out.2
 obtain ⟨hN1,DN,hN2,hN3,hN4⟩:=FN.out
 obtain ⟨hD1,DD,hD2,hD3,hD4⟩:=(FD.out.mono (show 61≤125 by decide))
 have HK:Hid ((125+1) * 3 ^ max nl (dl+1)≤7440174):=Hi (Nat.le_trans (Nat.mul_le_mul_left _ (Nat.pow_le_pow_right (by decide) (show max nl (dl+1)≤10 by omega))) (by decide))
 simp only [SH.v]
 go_wp2_with fail
 refine Calls.mono (pgcd_any na da nl nc dl dc nn dd 125 DN DD _ G26.out G8.out (by omega) (by omega) (by decide) hN2 hN3 hD2 hD3 hN4 hD4 7440174 HK.out (by decide)) ?_
 rintro e w9 ⟨x9,rfl,hE,g9⟩
 have G9:=Hi g9
 clear g9
 replace HX:=hE.tr HX
 replace B1:=hE.bl B1
 replace B2:=hE.bl B2
 replace B4:=hE.bl B4
 replace G26:=Hi (G26.out.ext hE)
 replace G8:=Hi (G8.out.ext hE)
 have hs_w9:=hE.size
 clear hE
 try clear c_B1 f_B1 l_B1
 obtain ⟨c_B1,f_B1,l_B1⟩:=blk3 B1.out
 try clear c_B2 f_B2 l_B2
 obtain ⟨c_B2,f_B2,l_B2⟩:=blk3 B2.out
 try clear c_B4 f_B4 l_B4
 obtain ⟨c_B4,f_B4,l_B4⟩:=blk3 B4.out
 obtain ⟨ga,gl,gc⟩:=x9
 have LG:=Hi G9.out.1
 obtain ⟨hg14,X,DG,hX1,hX2,hX3,hX4,hX5⟩:=gcr_bound G9.out.2
 clear G9
 simp only [SH.v] at *
 obtain ⟨g,hg⟩:∃ g,g=gcdV nn dd:=⟨_,rfl⟩
 have HGN2:Hid (tz g ≠ []):=Hi (HGN.out g hg)
 clear HGN
 have HGN:=HGN2
 clear HGN2
 rw [← hg] at LG HV1 hX1 hg14
 have hgl:=LG.out.len
 simp only at hgl
 have hgl14:gl≤14:=by rw [← hgl];exact hg14
 have Hgl:=Hi hgl
 have Hnl:=Hi hnl
 have Hdl:=Hi hdl
 clear hg hgl hnl hdl hg14
 have hb9:∀ m,m≤9→m * (X+1)≤9 * 2480058:=fun m hm=>Nat.mul_le_mul hm (by omega)
 have hbn:=hb9 nl hnl9
 have hbd:=hb9 dl hdl9
 clear hb9
 have FQN:Hid (FrB 22320647 (quoV nn g)):=Hi ((quoV_frb hN4 hX1 HGN.out (by decide) hN2 hN3 hX3 hX4 (nle Hnl.out)).mono (by omega))
 have FQD:Hid (FrB 22320647 (quoV dd g)):=Hi ((quoV_frb hD4 hX1 HGN.out (by decide) hD2 hD3 hX3 hX4 (nle Hdl.out)).mono (by omega))
 go_wp2_with fail
 refine Calls.mono (pdivmod_any na ga nl nc gl gc nn g 125 X DN DG _ G26.out LG.out (by omega) (by omega) (by decide) hX2 hN2 hN3 hX3 hX4 hN4 hX1 HGN.out (by omega) (by omega)) ?_
 rintro e w10 ⟨x10,rfl,hE,g10⟩
 have G10:=Hi g10
 clear g10
 replace HX:=hE.tr HX
 replace B1:=hE.bl B1
 replace B2:=hE.bl B2
 replace B4:=hE.bl B4
 replace G26:=Hi (G26.out.ext hE)
 replace G8:=Hi (G8.out.ext hE)
 replace LG:=Hi (LG.out.ext hE)
 have hs_w10:=hE.size
 clear hE
 try clear c_B1 f_B1 l_B1
 obtain ⟨c_B1,f_B1,l_B1⟩:=blk3 B1.out
 try clear c_B2 f_B2 l_B2
 obtain ⟨c_B2,f_B2,l_B2⟩:=blk3 B2.out
 try clear c_B4 f_B4 l_B4
 obtain ⟨c_B4,f_B4,l_B4⟩:=blk3 B4.out
 obtain ⟨⟨ea,el,ec⟩,⟨fa',fl,fc⟩⟩:=x10
 have LE:=Hi G10.out.1
 clear G10
 simp only [QT] at *
 go_wp2_with fail
 refine Calls.mono (pdivmod_any da ga dl dc gl gc dd g 125 X DD DG _ G8.out LG.out (by omega) (by omega) (by decide) hX2 hD2 hD3 hX3 hX4 hD4 hX1 HGN.out (by omega) (by omega)) ?_
 rintro e w11 ⟨x11,rfl,hE,g11⟩
 have G11:=Hi g11
 clear g11
 replace HX:=hE.tr HX
 replace B1:=hE.bl B1
 replace B2:=hE.bl B2
 replace B4:=hE.bl B4
 replace G26:=Hi (G26.out.ext hE)
 replace G8:=Hi (G8.out.ext hE)
 replace LG:=Hi (LG.out.ext hE)
 replace LE:=Hi (LE.out.ext hE)
 have hs_w11:=hE.size
 clear hE
 try clear c_B1 f_B1 l_B1
 obtain ⟨c_B1,f_B1,l_B1⟩:=blk3 B1.out
 try clear c_B2 f_B2 l_B2
 obtain ⟨c_B2,f_B2,l_B2⟩:=blk3 B2.out
 try clear c_B4 f_B4 l_B4
 obtain ⟨c_B4,f_B4,l_B4⟩:=blk3 B4.out
 obtain ⟨⟨ia,il,ic⟩,⟨ja,jl,jc⟩⟩:=x11
 have LI:=Hi G11.out.1
 clear G11
 simp only [QT] at *
 clear G26
 clear G8
 clear LG
 obtain ⟨qn,hqn⟩:∃ qn,qn=quoV nn g:=⟨_,rfl⟩
 obtain ⟨qd,hqd⟩:∃ qd,qd=quoV dd g:=⟨_,rfl⟩
 rw [← hqn] at LE FQN HV1
 rw [← hqd] at LI FQD HV1
 have hel:el≤1000:=by have h1:=LE.out.len;have h2:=quoV_len nn g;rw [← hqn] at h2;have h3:=LNn.out.1;simp only at h1;omega
 have hil:il≤1000:=by have h1:=LI.out.len;have h2:=quoV_len dd g;rw [← hqd] at h2;have h3:=LNn.out.2;simp only at h1;omega
 have hqdl:qd.length≤1000:=by have h1:=LI.out.len;simp only at h1;omega
 clear hqn hqd hN4 hD4 hX1 HGN
 go_wp2_with fail
 refine Calls.mono (rof_any 1 _ (by decide) (by decide)) ?_
 rintro e w12 ⟨x12,rfl,hE,g12⟩
 have G12:=Hi g12
 clear g12
 replace HX:=hE.tr HX
 replace B1:=hE.bl B1
 replace B2:=hE.bl B2
 replace B4:=hE.bl B4
 replace LE:=Hi (LE.out.ext hE)
 replace LI:=Hi (LI.out.ext hE)
 have hs_w12:=hE.size
 clear hE
 try clear c_B1 f_B1 l_B1
 obtain ⟨c_B1,f_B1,l_B1⟩:=blk3 B1.out
 try clear c_B2 f_B2 l_B2
 obtain ⟨c_B2,f_B2,l_B2⟩:=blk3 B2.out
 try clear c_B4 f_B4 l_B4
 obtain ⟨c_B4,f_B4,l_B4⟩:=blk3 B4.out
 have Z1:Hid (Sz 1 ((1:Int):Rat)):=Hi (Sz.int (by decide))
 have ZE:Hid (Sz 60000000 (evV qd ((1:Int):Rat))):=Hi ((ev_frb_sz FQD.out Z1.out (by decide) hqdl (by decide) (by decide)).mono (by decide))
 go_wp2_with fail
 refine Calls.mono (peval_any ia il ic qd x12 ((1:Int):Rat) 22320647 1 _ (LI.out.raw FQD.out.sz (by decide)) (G12.out.raw Z1.out (by decide)) hil FQD.out Z1.out (by decide) (by decide) (by decide)) ?_
 rintro e w13 ⟨x13,rfl,hE,g13⟩
 have G13:=Hi g13
 clear g13
 replace HX:=hE.tr HX
 replace B1:=hE.bl B1
 replace B2:=hE.bl B2
 replace B4:=hE.bl B4
 replace LE:=Hi (LE.out.ext hE)
 replace LI:=Hi (LI.out.ext hE)
 replace G12:=Hi (G12.out.ext hE)
 have hs_w13:=hE.size
 clear hE
 try clear c_B1 f_B1 l_B1
 obtain ⟨c_B1,f_B1,l_B1⟩:=blk3 B1.out
 try clear c_B2 f_B2 l_B2
 obtain ⟨c_B2,f_B2,l_B2⟩:=blk3 B2.out
 try clear c_B4 f_B4 l_B4
 obtain ⟨c_B4,f_B4,l_B4⟩:=blk3 B4.out
 go_wp2_with fail
 refine Calls.mono (rsign_any x13 (evV qd ((1:Int):Rat)) _ (G13.out.raw ZE.out (by decide))) ?_
 rintro e w14 ⟨x14,rfl,hE,-⟩
 replace HX:=hE.tr HX
 replace B1:=hE.bl B1
 replace B2:=hE.bl B2
 replace B4:=hE.bl B4
 replace LE:=Hi (LE.out.ext hE)
 replace LI:=Hi (LI.out.ext hE)
 replace G12:=Hi (G12.out.ext hE)
 replace G13:=Hi (G13.out.ext hE)
 have hs_w14:=hE.size
 clear hE
 try clear c_B1 f_B1 l_B1
 obtain ⟨c_B1,f_B1,l_B1⟩:=blk3 B1.out
 try clear c_B2 f_B2 l_B2
 obtain ⟨c_B2,f_B2,l_B2⟩:=blk3 B2.out
 try clear c_B4 f_B4 l_B4
 obtain ⟨c_B4,f_B4,l_B4⟩:=blk3 B4.out
 clear G12
 clear G13
 have HC:=Hi (cmpR_lt0 (evV qd ((1:Int):Rat)))
 obtain ⟨cc,hcc⟩:∃ cc,cc=cmpR (evV qd ((1:Int):Rat)) 0:=⟨_,rfl⟩
 rw [← hcc] at HC ⊢
 clear hcc
 have hb2w:w.heap.size≤w.heap.size+1:=by omega
 by_cases hlt:cc < 0
 case pos =>
  have HV:Hid (delV b a=(0,ngV qn,ngV qd)):=Hi (by rw [HV1.out,if_pos (HC.out.1 hlt)])
  have Zm:Hid (Sz 1 ((-1:Int):Rat)):=Hi (Sz.int (by decide))
  go_wp2_with fail
  refine Calls.mono (rof_any (-1) _ (by decide) (by decide)) ?_
  rintro e w15 ⟨x15,rfl,hE,g15⟩
  have G15:=Hi g15
  clear g15
  replace HX:=hE.tr HX
  replace B1:=hE.bl B1
  replace B2:=hE.bl B2
  replace B4:=hE.bl B4
  replace LE:=Hi (LE.out.ext hE)
  replace LI:=Hi (LI.out.ext hE)
  have hs_w15:=hE.size
  clear hE
  try clear c_B1 f_B1 l_B1
  obtain ⟨c_B1,f_B1,l_B1⟩:=blk3 B1.out
  try clear c_B2 f_B2 l_B2
  obtain ⟨c_B2,f_B2,l_B2⟩:=blk3 B2.out
  try clear c_B4 f_B4 l_B4
  obtain ⟨c_B4,f_B4,l_B4⟩:=blk3 B4.out
  go_wp2_with fail
  refine Calls.mono ((pscale_any ea el ec qn x15 ((-1:Int):Rat) _ (LE.out.raw FQN.out.sz (by decide)) (G15.out.raw Zm.out (by decide)) (by omega) (FQN.out.sz.mono (by decide)) (Zm.out.mono (by decide))).weak (ψ:=fun x w'=>CanL w' x (ngV qn)) (fun _ _ _ h=>h.can)) ?_
  rintro e w16 ⟨x16,rfl,hE,g16⟩
  have G16:=Hi g16
  clear g16
  replace HX:=hE.tr HX
  replace B1:=hE.bl B1
  replace B2:=hE.bl B2
  replace B4:=hE.bl B4
  replace LE:=Hi (LE.out.ext hE)
  replace LI:=Hi (LI.out.ext hE)
  replace G15:=Hi (G15.out.ext hE)
  have hs_w16:=hE.size
  clear hE
  try clear c_B1 f_B1 l_B1
  obtain ⟨c_B1,f_B1,l_B1⟩:=blk3 B1.out
  try clear c_B2 f_B2 l_B2
  obtain ⟨c_B2,f_B2,l_B2⟩:=blk3 B2.out
  try clear c_B4 f_B4 l_B4
  obtain ⟨c_B4,f_B4,l_B4⟩:=blk3 B4.out
  go_wp2_with fail
  refine Calls.mono (rof_any (-1) _ (by decide) (by decide)) ?_
  rintro e w17 ⟨x17,rfl,hE,g17⟩
  have G17:=Hi g17
  clear g17
  replace HX:=hE.tr HX
  replace B1:=hE.bl B1
  replace B2:=hE.bl B2
  replace B4:=hE.bl B4
  replace LE:=Hi (LE.out.ext hE)
  replace LI:=Hi (LI.out.ext hE)
  replace G15:=Hi (G15.out.ext hE)
  replace G16:=Hi (G16.out.ext hE)
  have hs_w17:=hE.size
  clear hE
  try clear c_B1 f_B1 l_B1
  obtain ⟨c_B1,f_B1,l_B1⟩:=blk3 B1.out
  try clear c_B2 f_B2 l_B2
  obtain ⟨c_B2,f_B2,l_B2⟩:=blk3 B2.out
  try clear c_B4 f_B4 l_B4
  obtain ⟨c_B4,f_B4,l_B4⟩:=blk3 B4.out
  go_wp2_with fail
  refine Calls.mono ((pscale_any ia il ic qd x17 ((-1:Int):Rat) _ (LI.out.raw FQD.out.sz (by decide)) (G17.out.raw Zm.out (by decide)) (by omega) (FQD.out.sz.mono (by decide)) (Zm.out.mono (by decide))).weak (ψ:=fun x w'=>CanL w' x (ngV qd)) (fun _ _ _ h=>h.can)) ?_
  rintro e w18 ⟨x18,rfl,hE,g18⟩
  have G18:=Hi g18
  clear g18
  replace HX:=hE.tr HX
  replace B1:=hE.bl B1
  replace B2:=hE.bl B2
  replace B4:=hE.bl B4
  replace LE:=Hi (LE.out.ext hE)
  replace LI:=Hi (LI.out.ext hE)
  replace G15:=Hi (G15.out.ext hE)
  replace G16:=Hi (G16.out.ext hE)
  replace G17:=Hi (G17.out.ext hE)
  have hs_w18:=hE.size
  clear hE
  try clear c_B1 f_B1 l_B1
  obtain ⟨c_B1,f_B1,l_B1⟩:=blk3 B1.out
  try clear c_B2 f_B2 l_B2
  obtain ⟨c_B2,f_B2,l_B2⟩:=blk3 B2.out
  try clear c_B4 f_B4 l_B4
  obtain ⟨c_B4,f_B4,l_B4⟩:=blk3 B4.out
  go_wp2
  clear LE
  clear LI
  clear G15
  clear G17
  refine nm_setF (F:=fun W=>bodyPost _ _ _ _ _ W) B2.out rfl ?_
  intro w19 T
  have L1:=Hi (G16.out.put2 B2.out T)
  have L2:=Hi (G18.out.put2 B2.out T)
  clear G16
  clear G18
  replace HX:=Hi (T.ext HX.out (by omega))
  replace B1:=Hi (T.rest _ _ (by omega) B1.out)
  replace B2:=Hi (T.bx)
  replace B4:=Hi (T.rest _ _ (by omega) B4.out)
  have hs_w19:=nle T.size
  have hr_w19:=nle T.size.symm
  clear T
  try clear c_B1 f_B1 l_B1
  obtain ⟨c_B1,f_B1,l_B1⟩:=blk3 B1.out
  try clear c_B2 f_B2 l_B2
  obtain ⟨c_B2,f_B2,l_B2⟩:=blk3 B2.out
  try clear c_B4 f_B4 l_B4
  obtain ⟨c_B4,f_B4,l_B4⟩:=blk3 B4.out
  exact bodyPost_ret (v:=FE (⟨x16,x18⟩,0)) (by simp [results,Tryz.results61,go_sem,c_B2,FE]) rfl ⟨(⟨x16,x18⟩,0),rfl,HX.out,by rw [HV.out];exact ⟨rfl,L1.out,L2.out⟩⟩
 have HV:Hid (delV b a=(0,qn,qd)):=Hi (by rw [HV1.out,if_neg (fun h=>hlt (HC.out.2 h))])
 go_wp2
 refine nm_setF (F:=fun W=>bodyPost _ _ _ _ _ W) B2.out rfl ?_
 intro w19 T
 have L1:=Hi (LE.out.put2 B2.out T)
 have L2:=Hi (LI.out.put2 B2.out T)
 clear LE
 clear LI
 replace HX:=Hi (T.ext HX.out (by omega))
 replace B1:=Hi (T.rest _ _ (by omega) B1.out)
 replace B2:=Hi (T.bx)
 replace B4:=Hi (T.rest _ _ (by omega) B4.out)
 have hs_w19:=nle T.size
 have hr_w19:=nle T.size.symm
 clear T
 try clear c_B1 f_B1 l_B1
 obtain ⟨c_B1,f_B1,l_B1⟩:=blk3 B1.out
 try clear c_B2 f_B2 l_B2
 obtain ⟨c_B2,f_B2,l_B2⟩:=blk3 B2.out
 try clear c_B4 f_B4 l_B4
 obtain ⟨c_B4,f_B4,l_B4⟩:=blk3 B4.out
 exact bodyPost_ret (v:=FE (⟨⟨ea,el,ec⟩,⟨ia,il,ic⟩⟩,0)) (by simp [results,Tryz.results61,go_sem,c_B2,FE]) rfl ⟨(⟨⟨ea,el,ec⟩,⟨ia,il,ic⟩⟩,0),rfl,HX.out,by rw [HV.out];exact ⟨rfl,L1.out,L2.out⟩⟩
end Go.Proofs.YtpieblkklbilgaaGreat
