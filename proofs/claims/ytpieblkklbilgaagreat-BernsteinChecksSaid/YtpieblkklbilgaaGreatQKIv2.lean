/- Intervals of the reference; Cos, On of make; Eval of the reference. -/
import Derived.Test.YtpieblkklbilgaaGreatQKSI
import Derived.Test.YtpieblkklbilgaaGreatQKM17
import Derived.Test.YtpieblkklbilgaaGreatQKM11
import Derived.Test.YtpieblkklbilgaaGreatQKM10
import Derived.Test.YtpieblkklbilgaaGreatQKM28
set_option linter.unusedVariables false
set_option maxRecDepth 8000
set_option maxHeartbeats 4000000
namespace Go.Proofs.YtpieblkklbilgaaGreat
open Go.RowKit Go.Front Go.Num Stab
attribute [local go_sem] XW.cell XW.frozen
theorem mx_hi (a b:Rat):(if a < b then b else a)=hiV a b:=by
 unfold hiV
 by_cases h:a < b
 ·rw [if_pos h,if_neg (by grind)]
 ·rw [if_neg h]
  by_cases h2:b < a
  ·rw [if_pos h2]
  ·rw [if_neg h2];grind
theorem rmin3_any (s t:RH) (a b:Rat) (w:World) (hs:RawR w s a) (ht:RawR w t b):Does 35 [s.v,t.v] w RH.v (fun x w'=>CanR w' x (loV a b)):=by
 have HX:=Hi (Ext.refl w)
 have HS:=Hi hs
 have HT:=Hi ht
 clear hs ht
 unfold Does
 go_enter Tryz.func35,Tryz.ntmps35
 obtain ⟨sn,sa,sl,sc,sb,sm,sd⟩:=s
 obtain ⟨tn,ta,tl,tc,tb,tm,td⟩:=t
 go_upto_region 1 with fail
 refine nm_alloc3 ?_
 intro w1 hE hB0 hB1 hB2 hz
 have hz_w1:=nle hz
 have hr_w1:=nle hz.symm
 clear hz
 replace HX:=hE.tr HX
 replace HS:=Hi (HS.out.ext hE)
 replace HT:=Hi (HT.out.ext hE)
 have hs_w1:=hE.size
 clear hE
 have B2:=Hi hB0
 clear hB0
 obtain ⟨c_B2,f_B2,l_B2⟩:=blk3 B2.out
 have B3:=Hi hB1
 clear hB1
 obtain ⟨c_B3,f_B3,l_B3⟩:=blk3 B3.out
 have B4:=Hi hB2
 clear hB2
 obtain ⟨c_B4,f_B4,l_B4⟩:=blk3 B4.out
 go_wp2_with fail
 refine Calls.mono (rless3_any ⟨tn,ta,tl,tc,tb,tm,td⟩ ⟨sn,sa,sl,sc,sb,sm,sd⟩ b a _ HT.out HS.out) ?_
 rintro e w7 ⟨x7,rfl,hE,-⟩
 replace HX:=hE.tr HX
 replace HS:=Hi (HS.out.ext hE)
 replace HT:=Hi (HT.out.ext hE)
 replace B2:=hE.bl B2
 replace B3:=hE.bl B3
 replace B4:=hE.bl B4
 have hs_w7:=hE.size
 clear hE
 try clear c_B2 f_B2 l_B2
 obtain ⟨c_B2,f_B2,l_B2⟩:=blk3 B2.out
 try clear c_B3 f_B3 l_B3
 obtain ⟨c_B3,f_B3,l_B3⟩:=blk3 B3.out
 try clear c_B4 f_B4 l_B4
 obtain ⟨c_B4,f_B4,l_B4⟩:=blk3 B4.out
 by_cases h:b < a
 case pos =>
  have HV:Hid (loV a b=b):=Hi (if_pos h)
  rw [decide_eq_true h]
  clear h
  go_wp2_with fail
  refine Calls.mono (rtrim3_any ⟨tn,ta,tl,tc,tb,tm,td⟩ b _ HT.out) ?_
  rintro e w9 ⟨x9,rfl,hE,g9⟩
  have G9:=Hi g9
  clear g9
  replace HX:=hE.tr HX
  replace HS:=Hi (HS.out.ext hE)
  replace HT:=Hi (HT.out.ext hE)
  replace B2:=hE.bl B2
  replace B3:=hE.bl B3
  replace B4:=hE.bl B4
  have hs_w9:=hE.size
  clear hE
  try clear c_B2 f_B2 l_B2
  obtain ⟨c_B2,f_B2,l_B2⟩:=blk3 B2.out
  try clear c_B3 f_B3 l_B3
  obtain ⟨c_B3,f_B3,l_B3⟩:=blk3 B3.out
  try clear c_B4 f_B4 l_B4
  obtain ⟨c_B4,f_B4,l_B4⟩:=blk3 B4.out
  go_wp2
  refine nm_set3 (F:=fun W=>bodyPost _ _ _ _ _ W) B4.out rfl ?_
  intro w10 T
  replace HX:=Hi (T.ext HX.out (by omega))
  replace HS:=Hi (HS.out.keep T.keep)
  replace HT:=Hi (HT.out.keep T.keep)
  replace B2:=Hi (T.rest _ _ (by omega) B2.out)
  replace B3:=Hi (T.rest _ _ (by omega) B3.out)
  replace B4:=Hi (T.bx)
  replace G9:=Hi (G9.out.keep T.keep)
  have hs_w10:=nle T.size
  have hr_w10:=nle T.size.symm
  clear T
  try clear c_B2 f_B2 l_B2
  obtain ⟨c_B2,f_B2,l_B2⟩:=blk3 B2.out
  try clear c_B3 f_B3 l_B3
  obtain ⟨c_B3,f_B3,l_B3⟩:=blk3 B3.out
  try clear c_B4 f_B4 l_B4
  obtain ⟨c_B4,f_B4,l_B4⟩:=blk3 B4.out
  exact bodyPost_ret (v:=RH.v x9) (by simp [results,Tryz.results35,go_sem,c_B4]) rfl ⟨x9,rfl,HX.out,by rw [HV.out];exact G9.out⟩
 have HV:Hid (loV a b=a):=Hi (if_neg h)
 rw [decide_eq_false h]
 clear h
 go_wp2_with fail
 refine Calls.mono (rtrim3_any ⟨sn,sa,sl,sc,sb,sm,sd⟩ a _ HS.out) ?_
 rintro e w11 ⟨x11,rfl,hE,g11⟩
 have G11:=Hi g11
 clear g11
 replace HX:=hE.tr HX
 replace HS:=Hi (HS.out.ext hE)
 replace HT:=Hi (HT.out.ext hE)
 replace B2:=hE.bl B2
 replace B3:=hE.bl B3
 replace B4:=hE.bl B4
 have hs_w11:=hE.size
 clear hE
 try clear c_B2 f_B2 l_B2
 obtain ⟨c_B2,f_B2,l_B2⟩:=blk3 B2.out
 try clear c_B3 f_B3 l_B3
 obtain ⟨c_B3,f_B3,l_B3⟩:=blk3 B3.out
 try clear c_B4 f_B4 l_B4
 obtain ⟨c_B4,f_B4,l_B4⟩:=blk3 B4.out
 go_wp2
 refine nm_set3 (F:=fun W=>bodyPost _ _ _ _ _ W) B4.out rfl ?_
 intro w12 T
 replace HX:=Hi (T.ext HX.out (by omega))
 replace HS:=Hi (HS.out.keep T.keep)
 replace HT:=Hi (HT.out.keep T.keep)
 replace B2:=Hi (T.rest _ _ (by omega) B2.out)
 replace B3:=Hi (T.rest _ _ (by omega) B3.out)
 replace B4:=Hi (T.bx)
 replace G11:=Hi (G11.out.keep T.keep)
 have hs_w12:=nle T.size
 have hr_w12:=nle T.size.symm
 clear T
 try clear c_B2 f_B2 l_B2
 obtain ⟨c_B2,f_B2,l_B2⟩:=blk3 B2.out
 try clear c_B3 f_B3 l_B3
 obtain ⟨c_B3,f_B3,l_B3⟩:=blk3 B3.out
 try clear c_B4 f_B4 l_B4
 obtain ⟨c_B4,f_B4,l_B4⟩:=blk3 B4.out
 exact bodyPost_ret (v:=RH.v x11) (by simp [results,Tryz.results35,go_sem,c_B4]) rfl ⟨x11,rfl,HX.out,by rw [HV.out];exact G11.out⟩
theorem rmax3_any (s t:RH) (a b:Rat) (w:World) (hs:RawR w s a) (ht:RawR w t b):Does 167 [s.v,t.v] w RH.v (fun x w'=>CanR w' x (hiV a b)):=by
 have HX:=Hi (Ext.refl w)
 have HS:=Hi hs
 have HT:=Hi ht
 clear hs ht
 unfold Does
 go_enter Tryz.func167,Tryz.ntmps167
 obtain ⟨sn,sa,sl,sc,sb,sm,sd⟩:=s
 obtain ⟨tn,ta,tl,tc,tb,tm,td⟩:=t
 go_upto_region 1 with fail
 refine nm_alloc3 ?_
 intro w1 hE hB0 hB1 hB2 hz
 have hz_w1:=nle hz
 have hr_w1:=nle hz.symm
 clear hz
 replace HX:=hE.tr HX
 replace HS:=Hi (HS.out.ext hE)
 replace HT:=Hi (HT.out.ext hE)
 have hs_w1:=hE.size
 clear hE
 have B2:=Hi hB0
 clear hB0
 obtain ⟨c_B2,f_B2,l_B2⟩:=blk3 B2.out
 have B3:=Hi hB1
 clear hB1
 obtain ⟨c_B3,f_B3,l_B3⟩:=blk3 B3.out
 have B4:=Hi hB2
 clear hB2
 obtain ⟨c_B4,f_B4,l_B4⟩:=blk3 B4.out
 go_wp2_with fail
 refine Calls.mono (rless3_any ⟨sn,sa,sl,sc,sb,sm,sd⟩ ⟨tn,ta,tl,tc,tb,tm,td⟩ a b _ HS.out HT.out) ?_
 rintro e w7 ⟨x7,rfl,hE,-⟩
 replace HX:=hE.tr HX
 replace HS:=Hi (HS.out.ext hE)
 replace HT:=Hi (HT.out.ext hE)
 replace B2:=hE.bl B2
 replace B3:=hE.bl B3
 replace B4:=hE.bl B4
 have hs_w7:=hE.size
 clear hE
 try clear c_B2 f_B2 l_B2
 obtain ⟨c_B2,f_B2,l_B2⟩:=blk3 B2.out
 try clear c_B3 f_B3 l_B3
 obtain ⟨c_B3,f_B3,l_B3⟩:=blk3 B3.out
 try clear c_B4 f_B4 l_B4
 obtain ⟨c_B4,f_B4,l_B4⟩:=blk3 B4.out
 by_cases h:a < b
 case pos =>
  have HV:Hid (hiV a b=b):=Hi (by rw [← mx_hi,if_pos h])
  rw [decide_eq_true h]
  clear h
  go_wp2_with fail
  refine Calls.mono (rtrim3_any ⟨tn,ta,tl,tc,tb,tm,td⟩ b _ HT.out) ?_
  rintro e w9 ⟨x9,rfl,hE,g9⟩
  have G9:=Hi g9
  clear g9
  replace HX:=hE.tr HX
  replace HS:=Hi (HS.out.ext hE)
  replace HT:=Hi (HT.out.ext hE)
  replace B2:=hE.bl B2
  replace B3:=hE.bl B3
  replace B4:=hE.bl B4
  have hs_w9:=hE.size
  clear hE
  try clear c_B2 f_B2 l_B2
  obtain ⟨c_B2,f_B2,l_B2⟩:=blk3 B2.out
  try clear c_B3 f_B3 l_B3
  obtain ⟨c_B3,f_B3,l_B3⟩:=blk3 B3.out
  try clear c_B4 f_B4 l_B4
  obtain ⟨c_B4,f_B4,l_B4⟩:=blk3 B4.out
  go_wp2
  refine nm_set3 (F:=fun W=>bodyPost _ _ _ _ _ W) B4.out rfl ?_
  intro w10 T
  replace HX:=Hi (T.ext HX.out (by omega))
  replace HS:=Hi (HS.out.keep T.keep)
  replace HT:=Hi (HT.out.keep T.keep)
  replace B2:=Hi (T.rest _ _ (by omega) B2.out)
  replace B3:=Hi (T.rest _ _ (by omega) B3.out)
  replace B4:=Hi (T.bx)
  replace G9:=Hi (G9.out.keep T.keep)
  have hs_w10:=nle T.size
  have hr_w10:=nle T.size.symm
  clear T
  try clear c_B2 f_B2 l_B2
  obtain ⟨c_B2,f_B2,l_B2⟩:=blk3 B2.out
  try clear c_B3 f_B3 l_B3
  obtain ⟨c_B3,f_B3,l_B3⟩:=blk3 B3.out
  try clear c_B4 f_B4 l_B4
  obtain ⟨c_B4,f_B4,l_B4⟩:=blk3 B4.out
  exact bodyPost_ret (v:=RH.v x9) (by simp [results,Tryz.results167,go_sem,c_B4]) rfl ⟨x9,rfl,HX.out,by rw [HV.out];exact G9.out⟩
 have HV:Hid (hiV a b=a):=Hi (by rw [← mx_hi,if_neg h])
 rw [decide_eq_false h]
 clear h
 go_wp2_with fail
 refine Calls.mono (rtrim3_any ⟨sn,sa,sl,sc,sb,sm,sd⟩ a _ HS.out) ?_
 rintro e w11 ⟨x11,rfl,hE,g11⟩
 have G11:=Hi g11
 clear g11
 replace HX:=hE.tr HX
 replace HS:=Hi (HS.out.ext hE)
 replace HT:=Hi (HT.out.ext hE)
 replace B2:=hE.bl B2
 replace B3:=hE.bl B3
 replace B4:=hE.bl B4
 have hs_w11:=hE.size
 clear hE
 try clear c_B2 f_B2 l_B2
 obtain ⟨c_B2,f_B2,l_B2⟩:=blk3 B2.out
 try clear c_B3 f_B3 l_B3
 obtain ⟨c_B3,f_B3,l_B3⟩:=blk3 B3.out
 try clear c_B4 f_B4 l_B4
 obtain ⟨c_B4,f_B4,l_B4⟩:=blk3 B4.out
 go_wp2
 refine nm_set3 (F:=fun W=>bodyPost _ _ _ _ _ W) B4.out rfl ?_
 intro w12 T
 replace HX:=Hi (T.ext HX.out (by omega))
 replace HS:=Hi (HS.out.keep T.keep)
 replace HT:=Hi (HT.out.keep T.keep)
 replace B2:=Hi (T.rest _ _ (by omega) B2.out)
 replace B3:=Hi (T.rest _ _ (by omega) B3.out)
 replace B4:=Hi (T.bx)
 replace G11:=Hi (G11.out.keep T.keep)
 have hs_w12:=nle T.size
 have hr_w12:=nle T.size.symm
 clear T
 try clear c_B2 f_B2 l_B2
 obtain ⟨c_B2,f_B2,l_B2⟩:=blk3 B2.out
 try clear c_B3 f_B3 l_B3
 obtain ⟨c_B3,f_B3,l_B3⟩:=blk3 B3.out
 try clear c_B4 f_B4 l_B4
 obtain ⟨c_B4,f_B4,l_B4⟩:=blk3 B4.out
 exact bodyPost_ret (v:=RH.v x11) (by simp [results,Tryz.results167,go_sem,c_B4]) rfl ⟨x11,rfl,HX.out,by rw [HV.out];exact G11.out⟩
theorem ivtrim4_any (s t:RH) (a b:Rat) (w:World) (hs:RawR w s a) (ht:RawR w t b):Does 95 [IvV (s,t)] w IvV (fun x w'=>CanR w' x.1 (loV a b)∧CanR w' x.2 (hiV a b)):=by
 have HX:=Hi (Ext.refl w)
 have HS:=Hi hs
 have HT:=Hi ht
 clear hs ht
 unfold Does
 go_enter Tryz.func95,Tryz.ntmps95
 obtain ⟨sn,sa,sl,sc,sb,sm,sd⟩:=s
 obtain ⟨tn,ta,tl,tc,tb,tm,td⟩:=t
 go_upto_region 1 with fail
 refine nm_alloc2 ?_
 intro w1 hE hB0 hB1 hz
 have hz_w1:=nle hz
 have hr_w1:=nle hz.symm
 clear hz
 replace HX:=hE.tr HX
 replace HS:=Hi (HS.out.ext hE)
 replace HT:=Hi (HT.out.ext hE)
 have hs_w1:=hE.size
 clear hE
 have B1:=Hi hB0
 clear hB0
 obtain ⟨c_B1,f_B1,l_B1⟩:=blk3 B1.out
 have B2:=Hi hB1
 clear hB1
 obtain ⟨c_B2,f_B2,l_B2⟩:=blk3 B2.out
 refine wp_region_front 11 (fun opIx=>match opIx with
  | 4=>.spec RH default RH.v (fun s w'=>CanR w' s (loV a b))
  | 9=>.spec RH default RH.v (fun s w'=>CanR w' s (hiV a b))
  | _=>.quiet) (fun _=>[]) (by kernel_rfl) (by kernel_rfl) (fun w0 he0 hz0 hc0 hf0=>?_)
 replace he0:=Hi he0
 simp only [pT]
 repeat (refine wpq fun K h=>?_;go_big_quiet_op;refine h _ ?_;clear h K)
 refine wps he0.out rfl rfl (fun w1 hW hG=>?_) fun x20=>?_
 ·exact spc [RH.v ⟨sn,sa,sl,sc,sb,sm,sd⟩,RH.v ⟨tn,ta,tl,tc,tb,tm,td⟩] Tryz.func35 (rmin3_any _ _ _ _ _ (HS.out.ext hW) (HT.out.ext hW))
 simp only [pS]
 repeat (refine wpq fun K h=>?_;go_big_quiet_op;refine h _ ?_;clear h K)
 refine wps he0.out rfl rfl (fun w1 hW hG=>?_) fun x21=>?_
 ·exact spc [RH.v ⟨sn,sa,sl,sc,sb,sm,sd⟩,RH.v ⟨tn,ta,tl,tc,tb,tm,td⟩] Tryz.func167 (rmax3_any _ _ _ _ _ (HS.out.ext hW) (HT.out.ext hW))
 simp only [pS]
 repeat (refine wpq fun K h=>?_;go_big_quiet_op;refine h _ ?_;clear h K)
 refine wpF_nil ?_
 intro w2 hI
 have hE:=he0.out.trans hI.ext
 have G20:=Hi ((hI.facts 4:Since _ _).get fun _ e g=>g.ext e)
 have G21:=Hi ((hI.facts 9:Since _ _).get fun _ e g=>g.ext e)
 clear hI he0 hz0 hc0 hf0
 replace HX:=hE.tr HX
 replace HS:=Hi (HS.out.ext hE)
 replace HT:=Hi (HT.out.ext hE)
 replace B1:=hE.bl B1
 replace B2:=hE.bl B2
 have hs_w2:=hE.size
 clear hE
 try clear c_B1 f_B1 l_B1
 obtain ⟨c_B1,f_B1,l_B1⟩:=blk3 B1.out
 try clear c_B2 f_B2 l_B2
 obtain ⟨c_B2,f_B2,l_B2⟩:=blk3 B2.out
 simp only [pD]
 go_wp2
 refine nm_set6 (F:=fun W=>bodyPost _ _ _ _ _ W) B2.out rfl ?_
 intro w10 T
 replace HX:=Hi (T.ext HX.out (by omega))
 replace HS:=Hi (HS.out.keep T.keep)
 replace HT:=Hi (HT.out.keep T.keep)
 replace B1:=Hi (T.rest _ _ (by omega) B1.out)
 replace B2:=Hi (T.bx)
 replace G20:=Hi (G20.out.keep T.keep)
 replace G21:=Hi (G21.out.keep T.keep)
 have hs_w10:=nle T.size
 have hr_w10:=nle T.size.symm
 clear T
 try clear c_B1 f_B1 l_B1
 obtain ⟨c_B1,f_B1,l_B1⟩:=blk3 B1.out
 try clear c_B2 f_B2 l_B2
 obtain ⟨c_B2,f_B2,l_B2⟩:=blk3 B2.out
 exact bodyPost_ret (v:=IvV (x20,x21)) (by simp [results,Tryz.results95,go_sem,c_B2]) rfl ⟨(x20,x21),rfl,HX.out,G20.out,G21.out⟩
theorem ivmake4_any (s t:RH) (a b:Rat) (w:World) (hs:RawR w s a) (ht:RawR w t b):Does 68 [s.v,t.v] w IvV (fun x w'=>CanR w' x.1 (loV a b)∧CanR w' x.2 (hiV a b)):=by
 have HX:=Hi (Ext.refl w)
 have HS:=Hi hs
 have HT:=Hi ht
 clear hs ht
 unfold Does
 go_enter Tryz.func68,Tryz.ntmps68
 obtain ⟨sn,sa,sl,sc,sb,sm,sd⟩:=s
 obtain ⟨tn,ta,tl,tc,tb,tm,td⟩:=t
 go_upto_region 1 with fail
 refine nm_alloc3 ?_
 intro w1 hE hB0 hB1 hB2 hz
 have hz_w1:=nle hz
 have hr_w1:=nle hz.symm
 clear hz
 replace HX:=hE.tr HX
 replace HS:=Hi (HS.out.ext hE)
 replace HT:=Hi (HT.out.ext hE)
 have hs_w1:=hE.size
 clear hE
 have B2:=Hi hB0
 clear hB0
 obtain ⟨c_B2,f_B2,l_B2⟩:=blk3 B2.out
 have B3:=Hi hB1
 clear hB1
 obtain ⟨c_B3,f_B3,l_B3⟩:=blk3 B3.out
 have B4:=Hi hB2
 clear hB2
 obtain ⟨c_B4,f_B4,l_B4⟩:=blk3 B4.out
 go_wp2_with fail
 refine Calls.mono (ivtrim4_any ⟨sn,sa,sl,sc,sb,sm,sd⟩ ⟨tn,ta,tl,tc,tb,tm,td⟩ a b _ HS.out HT.out) ?_
 rintro e w8 ⟨x8,rfl,hE,g8⟩
 have G8:=Hi g8
 clear g8
 replace HX:=hE.tr HX
 replace HS:=Hi (HS.out.ext hE)
 replace HT:=Hi (HT.out.ext hE)
 replace B2:=hE.bl B2
 replace B3:=hE.bl B3
 replace B4:=hE.bl B4
 have hs_w8:=hE.size
 clear hE
 try clear c_B2 f_B2 l_B2
 obtain ⟨c_B2,f_B2,l_B2⟩:=blk3 B2.out
 try clear c_B3 f_B3 l_B3
 obtain ⟨c_B3,f_B3,l_B3⟩:=blk3 B3.out
 try clear c_B4 f_B4 l_B4
 obtain ⟨c_B4,f_B4,l_B4⟩:=blk3 B4.out
 have HL:=Hi G8.out.1
 have HH:=Hi G8.out.2
 clear G8
 go_wp2
 refine nm_set6 (F:=fun W=>bodyPost _ _ _ _ _ W) B4.out rfl ?_
 intro w10 T
 replace HX:=Hi (T.ext HX.out (by omega))
 replace HS:=Hi (HS.out.keep T.keep)
 replace HT:=Hi (HT.out.keep T.keep)
 replace B2:=Hi (T.rest _ _ (by omega) B2.out)
 replace B3:=Hi (T.rest _ _ (by omega) B3.out)
 replace B4:=Hi (T.bx)
 replace HL:=Hi (HL.out.keep T.keep)
 replace HH:=Hi (HH.out.keep T.keep)
 have hs_w10:=nle T.size
 have hr_w10:=nle T.size.symm
 clear T
 try clear c_B2 f_B2 l_B2
 obtain ⟨c_B2,f_B2,l_B2⟩:=blk3 B2.out
 try clear c_B3 f_B3 l_B3
 obtain ⟨c_B3,f_B3,l_B3⟩:=blk3 B3.out
 try clear c_B4 f_B4 l_B4
 obtain ⟨c_B4,f_B4,l_B4⟩:=blk3 B4.out
 exact bodyPost_ret (v:=IvV x8) (by simp [results,Tryz.results68,go_sem,c_B4]) rfl ⟨x8,rfl,HX.out,HL.out,HH.out⟩
theorem ivmid4_any (s t:RH) (a b:Rat) (T:Nat) (w:World) (hs:RawR w s a) (ht:RawR w t b) (za:Sz T a) (zb:Sz T b) (hT:T≤10000000):Does 168 [IvV (s,t)] w RH.v (fun x w'=>CanR w' x ((a+b) * (((1:Int):Rat) / ((2:Int):Rat)))):=by
 have HX:=Hi (Ext.refl w)
 have HS:=Hi hs
 have HT:=Hi ht
 have ZA:=Hi (za.add zb)
 have ZH:Hid (Sz 2 (((1:Int):Rat) / ((2:Int):Rat))):=Hi ((Sz.int (by decide)).div (Sz.int (by decide)))
 clear hs ht za zb
 unfold Does
 go_enter Tryz.func168,Tryz.ntmps168
 obtain ⟨sn,sa,sl,sc,sb,sm,sd⟩:=s
 obtain ⟨tn,ta,tl,tc,tb,tm,td⟩:=t
 go_upto_region 1 with fail
 refine nm_alloc2 ?_
 intro w1 hE hB0 hB1 hz
 have hz_w1:=nle hz
 have hr_w1:=nle hz.symm
 clear hz
 replace HX:=hE.tr HX
 replace HS:=Hi (HS.out.ext hE)
 replace HT:=Hi (HT.out.ext hE)
 have hs_w1:=hE.size
 clear hE
 have B1:=Hi hB0
 clear hB0
 obtain ⟨c_B1,f_B1,l_B1⟩:=blk3 B1.out
 have B2:=Hi hB1
 clear hB1
 obtain ⟨c_B2,f_B2,l_B2⟩:=blk3 B2.out
 go_wp2_with fail
 refine Calls.mono (radd3_any ⟨sn,sa,sl,sc,sb,sm,sd⟩ ⟨tn,ta,tl,tc,tb,tm,td⟩ a b _ HS.out HT.out) ?_
 rintro e w7 ⟨x7,rfl,hE,g7⟩
 have G7:=Hi g7
 clear g7
 replace HX:=hE.tr HX
 replace HS:=Hi (HS.out.ext hE)
 replace HT:=Hi (HT.out.ext hE)
 replace B1:=hE.bl B1
 replace B2:=hE.bl B2
 have hs_w7:=hE.size
 clear hE
 try clear c_B1 f_B1 l_B1
 obtain ⟨c_B1,f_B1,l_B1⟩:=blk3 B1.out
 try clear c_B2 f_B2 l_B2
 obtain ⟨c_B2,f_B2,l_B2⟩:=blk3 B2.out
 go_wp2_with fail
 refine Calls.mono (rfrac3_any 1 2 _ (by decide) (by decide) (by decide) (by decide)) ?_
 rintro e w8 ⟨x8,rfl,hE,g8⟩
 have G8:=Hi g8
 clear g8
 replace HX:=hE.tr HX
 replace HS:=Hi (HS.out.ext hE)
 replace HT:=Hi (HT.out.ext hE)
 replace B1:=hE.bl B1
 replace B2:=hE.bl B2
 replace G7:=Hi (G7.out.ext hE)
 have hs_w8:=hE.size
 clear hE
 try clear c_B1 f_B1 l_B1
 obtain ⟨c_B1,f_B1,l_B1⟩:=blk3 B1.out
 try clear c_B2 f_B2 l_B2
 obtain ⟨c_B2,f_B2,l_B2⟩:=blk3 B2.out
 go_wp2_with fail
 refine Calls.mono (rmul3_any x7 x8 _ _ _ (G7.out.raw ZA.out (by omega)) (G8.out.raw ZH.out (by decide))) ?_
 rintro e w9 ⟨x9,rfl,hE,g9⟩
 have G9:=Hi g9
 clear g9
 replace HX:=hE.tr HX
 replace HS:=Hi (HS.out.ext hE)
 replace HT:=Hi (HT.out.ext hE)
 replace B1:=hE.bl B1
 replace B2:=hE.bl B2
 replace G7:=Hi (G7.out.ext hE)
 replace G8:=Hi (G8.out.ext hE)
 have hs_w9:=hE.size
 clear hE
 try clear c_B1 f_B1 l_B1
 obtain ⟨c_B1,f_B1,l_B1⟩:=blk3 B1.out
 try clear c_B2 f_B2 l_B2
 obtain ⟨c_B2,f_B2,l_B2⟩:=blk3 B2.out
 go_wp2
 refine nm_set3 (F:=fun W=>bodyPost _ _ _ _ _ W) B2.out rfl ?_
 intro w10 T
 replace HX:=Hi (T.ext HX.out (by omega))
 replace HS:=Hi (HS.out.keep T.keep)
 replace HT:=Hi (HT.out.keep T.keep)
 replace B1:=Hi (T.rest _ _ (by omega) B1.out)
 replace B2:=Hi (T.bx)
 replace G7:=Hi (G7.out.keep T.keep)
 replace G8:=Hi (G8.out.keep T.keep)
 replace G9:=Hi (G9.out.keep T.keep)
 have hs_w10:=nle T.size
 have hr_w10:=nle T.size.symm
 clear T
 try clear c_B1 f_B1 l_B1
 obtain ⟨c_B1,f_B1,l_B1⟩:=blk3 B1.out
 try clear c_B2 f_B2 l_B2
 obtain ⟨c_B2,f_B2,l_B2⟩:=blk3 B2.out
 exact bodyPost_ret (v:=RH.v x9) (by simp [results,Tryz.results168,go_sem,c_B2]) rfl ⟨x9,rfl,HX.out,G9.out⟩
def cosQ (n:Int):Rat:=((n % 25 - 12:Int):Rat) / ((12:Int):Rat)
theorem cos_any (n:Int) (w:World) (h1:-9223372036854775808≤n) (h2:n≤9223372036854775807):Does 85 [.int .i64 n] w RH.v (fun x w'=>CanR w' x (cosQ n)):=by
 have HX:=Hi (Ext.refl w)
 unfold Does
 go_enter Tryz.func85,Tryz.ntmps85
 go_upto_region 1 with fail
 refine nm_alloc ?_
 intro w1 hE hB0 hz
 have hz_w1:=nle hz
 have hr_w1:=nle hz.symm
 clear hz
 replace HX:=hE.tr HX
 have hs_w1:=hE.size
 clear hE
 have B2:=Hi hB0
 clear hB0
 obtain ⟨c_B2,f_B2,l_B2⟩:=blk3 B2.out
 go_wp2_with fail
 refine Calls.mono (mod_any n 25 _ h1 h2 (by decide) (by decide)) ?_
 rintro e w4 ⟨x4,rfl,hE,-⟩
 replace HX:=hE.tr HX
 replace B2:=hE.bl B2
 have hs_w4:=hE.size
 clear hE
 try clear c_B2 f_B2 l_B2
 obtain ⟨c_B2,f_B2,l_B2⟩:=blk3 B2.out
 have e1:=Int.emod_nonneg n (show (25:Int) ≠ 0 by decide)
 have e2:=Int.emod_lt_of_pos n (show (0:Int) < 25 by decide)
 obtain ⟨m,hm⟩:∃ m,m=n % 25:=⟨_,rfl⟩
 have HC:Hid (cosQ n=((m - 12:Int):Rat) / ((12:Int):Rat)):=Hi (by rw [hm];rfl)
 rw [← hm] at e1 e2 ⊢
 clear hm
 go_wp2_with fail
 refine Calls.mono (rfrac3_any (m - 12) 12 _ (by omega) (by omega) (by decide) (by decide)) ?_
 rintro e w6 ⟨x6,rfl,hE,g6⟩
 have G6:=Hi g6
 clear g6
 replace HX:=hE.tr HX
 replace B2:=hE.bl B2
 have hs_w6:=hE.size
 clear hE
 try clear c_B2 f_B2 l_B2
 obtain ⟨c_B2,f_B2,l_B2⟩:=blk3 B2.out
 go_wp2
 refine nm_set3 (F:=fun W=>bodyPost _ _ _ _ _ W) B2.out rfl ?_
 intro w10 T
 replace HX:=Hi (T.ext HX.out (by omega))
 replace B2:=Hi (T.bx)
 replace G6:=Hi (G6.out.keep T.keep)
 have hs_w10:=nle T.size
 have hr_w10:=nle T.size.symm
 clear T
 try clear c_B2 f_B2 l_B2
 obtain ⟨c_B2,f_B2,l_B2⟩:=blk3 B2.out
 exact bodyPost_ret (v:=RH.v x6) (by simp [results,Tryz.results85,go_sem,c_B2]) rfl ⟨x6,rfl,HX.out,by rw [HC.out];exact G6.out⟩
theorem cos_facts:∀ m:Nat,m < 25→((((m:Int) - 12:Int):Rat) / ((12:Int):Rat)).num.natAbs < W32∧((((m:Int) - 12:Int):Rat) / ((12:Int):Rat)).den < W32∧-1≤(((m:Int) - 12:Int):Rat) / ((12:Int):Rat)∧(((m:Int) - 12:Int):Rat) / ((12:Int):Rat)≤1∧(((m:Int) - 12:Int):Rat) / ((12:Int):Rat) * 12=(((m:Int) - 12:Int):Rat):=by decide +kernel
theorem cosQ_nat (n:Int):∃ m:Nat,m < 25∧cosQ n=(((m:Int) - 12:Int):Rat) / ((12:Int):Rat):=by
 have e1:=Int.emod_nonneg n (show (25:Int) ≠ 0 by decide)
 have e2:=Int.emod_lt_of_pos n (show (0:Int) < 25 by decide)
 refine ⟨(n % 25).toNat,by omega,?_⟩
 unfold cosQ
 rw [show (((n % 25).toNat:Nat):Int)=n % 25 by omega]
theorem cosQ_sz (n:Int):Sz 1 (cosQ n):=by
 obtain ⟨m,hm,e⟩:=cosQ_nat n
 rw [e]
 have h:=cos_facts m hm
 exact ⟨by rw [Nat.pow_one];exact h.1,by rw [Nat.pow_one];exact h.2.1⟩
theorem on_any (m n:Int) (w:World) (h1:-9223372036854775808≤m) (h2:m≤9223372036854775807) (k1:-9223372036854775808≤n) (k2:n≤9223372036854775807):Does 21 [.int .i64 m,.int .i64 n] w IvV (fun x w'=>CanR w' x.1 (loV (cosQ m) (cosQ n))∧CanR w' x.2 (hiV (cosQ m) (cosQ n))):=by
 have HX:=Hi (Ext.refl w)
 have Z1:=Hi (cosQ_sz m)
 have Z2:=Hi (cosQ_sz n)
 unfold Does
 go_enter Tryz.func21,Tryz.ntmps21
 go_upto_region 1 with fail
 refine nm_alloc ?_
 intro w1 hE hB0 hz
 have hz_w1:=nle hz
 have hr_w1:=nle hz.symm
 clear hz
 replace HX:=hE.tr HX
 have hs_w1:=hE.size
 clear hE
 have B4:=Hi hB0
 clear hB0
 obtain ⟨c_B4,f_B4,l_B4⟩:=blk3 B4.out
 go_wp2_with fail
 refine Calls.mono (cos_any m _ h1 h2) ?_
 rintro e w6 ⟨x6,rfl,hE,g6⟩
 have G6:=Hi g6
 clear g6
 replace HX:=hE.tr HX
 replace B4:=hE.bl B4
 have hs_w6:=hE.size
 clear hE
 try clear c_B4 f_B4 l_B4
 obtain ⟨c_B4,f_B4,l_B4⟩:=blk3 B4.out
 go_wp2_with fail
 refine Calls.mono (cos_any n _ k1 k2) ?_
 rintro e w8 ⟨x8,rfl,hE,g8⟩
 have G8:=Hi g8
 clear g8
 replace HX:=hE.tr HX
 replace B4:=hE.bl B4
 replace G6:=Hi (G6.out.ext hE)
 have hs_w8:=hE.size
 clear hE
 try clear c_B4 f_B4 l_B4
 obtain ⟨c_B4,f_B4,l_B4⟩:=blk3 B4.out
 go_wp2_with fail
 refine Calls.mono (ivmake4_any x6 x8 _ _ _ (G6.out.raw Z1.out (by decide)) (G8.out.raw Z2.out (by decide))) ?_
 rintro e w9 ⟨x9,rfl,hE,g9⟩
 have G9:=Hi g9
 clear g9
 replace HX:=hE.tr HX
 replace B4:=hE.bl B4
 replace G6:=Hi (G6.out.ext hE)
 replace G8:=Hi (G8.out.ext hE)
 have hs_w9:=hE.size
 clear hE
 try clear c_B4 f_B4 l_B4
 obtain ⟨c_B4,f_B4,l_B4⟩:=blk3 B4.out
 have HL:=Hi G9.out.1
 have HH:=Hi G9.out.2
 clear G9
 go_wp2
 refine nm_set6 (F:=fun W=>bodyPost _ _ _ _ _ W) B4.out rfl ?_
 intro w10 T
 replace HX:=Hi (T.ext HX.out (by omega))
 replace B4:=Hi (T.bx)
 replace G6:=Hi (G6.out.keep T.keep)
 replace G8:=Hi (G8.out.keep T.keep)
 replace HL:=Hi (HL.out.keep T.keep)
 replace HH:=Hi (HH.out.keep T.keep)
 have hs_w10:=nle T.size
 have hr_w10:=nle T.size.symm
 clear T
 try clear c_B4 f_B4 l_B4
 obtain ⟨c_B4,f_B4,l_B4⟩:=blk3 B4.out
 exact bodyPost_ret (v:=IvV x9) (by simp [results,Tryz.results21,go_sem,c_B4]) rfl ⟨x9,rfl,HX.out,HL.out,HH.out⟩
theorem ev_dropk (l:List Rat) (x:Rat) {k:Nat} (hk:k < l.length):evV (l.drop k) x=evV (l.drop (k+1)) x * x+l.getD k 0:=by
 rw [List.drop_eq_getElem_cons hk,List.getD_eq_getElem?_getD,List.getElem?_eq_getElem hk]
 rfl
theorem ev_dsz {S T:Nat} {l:List Rat} {x:Rat} (hl:SzL S l) (hx:Sz T x) (hS:1≤S):∀ j k,k+j=l.length→Sz (j * (S+T+1)+1) (evV (l.drop k) x):=by
 intro j
 induction j with
 | zero =>
  intro k hk
  rw [List.drop_eq_nil_of_le (by omega)]
  exact (Sz.int (z:=0) (by decide)).mono (by omega)
 | succ j ih =>
  intro k hk
  rw [ev_dropk l x (by omega)]
  refine (((ih (k+1) (by omega)).mul hx).add (hl.at (i:=k) (by omega))).mono ?_
  rw [Nat.succ_mul]
  omega
theorem eval5_any (ao:Option Addr) (n c:Nat) (l:List Rat) (t:RH) (x:Rat) (S T:Nat) (w:World) (h:CanL w ⟨ao,n,c⟩ l) (ht:CanR w t x) (hn:n≤100) (hl:SzL S l) (hx:Sz T x) (hS:1≤S) (hS2:S≤10000) (hT2:T≤10000) :
  Does 41 [.slice ao n c,t.v] w RH.v (fun y w'=>CanR w' y (evV l x)):=by
 obtain ⟨tn,ta,tl,tc,tb,tm,td⟩:=t
 have HX:=Hi (Ext.refl w)
 have LA:=Hi h.lin
 have HT:=Hi ht
 have HZ:=Hi hl
 have ZX:=Hi hx
 have HLn:=Hi h.len
 simp only at HLn
 clear h ht hl hx
 unfold Does
 go_enter Tryz.func41,Tryz.ntmps41
 go_upto_region 1 with fail
 refine nm_alloc2 ?_
 intro w1 hE hB0 hB1 hz
 have hz_w1:=nle hz
 have hr_w1:=nle hz.symm
 clear hz
 replace HX:=hE.tr HX
 replace LA:=Hi (LA.out.ext hE)
 replace HT:=Hi (HT.out.ext hE)
 have hs_w1:=hE.size
 clear hE
 have B3:=Hi hB0
 clear hB0
 obtain ⟨c_B3,f_B3,l_B3⟩:=blk3 B3.out
 have B4:=Hi hB1
 clear hB1
 obtain ⟨c_B4,f_B4,l_B4⟩:=blk3 B4.out
 go_wp2_with fail
 refine Calls.mono (rof3_any 0 _ (by decide) (by decide)) ?_
 rintro e w7 ⟨x7,rfl,hE,g7⟩
 have G7:=Hi g7
 clear g7
 replace HX:=hE.tr HX
 replace LA:=Hi (LA.out.ext hE)
 replace HT:=Hi (HT.out.ext hE)
 replace B3:=hE.bl B3
 replace B4:=hE.bl B4
 have hs_w7:=hE.size
 clear hE
 try clear c_B3 f_B3 l_B3
 obtain ⟨c_B3,f_B3,l_B3⟩:=blk3 B3.out
 try clear c_B4 f_B4 l_B4
 obtain ⟨c_B4,f_B4,l_B4⟩:=blk3 B4.out
 go_upto_region 2 with fail
 refine nm_alloc ?_
 intro w8 hE hB0 hz
 have hz_w8:=nle hz
 have hr_w8:=nle hz.symm
 clear hz
 replace HX:=hE.tr HX
 replace LA:=Hi (LA.out.ext hE)
 replace HT:=Hi (HT.out.ext hE)
 replace B3:=hE.bl B3
 replace B4:=hE.bl B4
 replace G7:=Hi (G7.out.ext hE)
 have hs_w8:=hE.size
 clear hE
 try clear c_B3 f_B3 l_B3
 obtain ⟨c_B3,f_B3,l_B3⟩:=blk3 B3.out
 try clear c_B4 f_B4 l_B4
 obtain ⟨c_B4,f_B4,l_B4⟩:=blk3 B4.out
 have B5:=Hi hB0
 clear hB0
 obtain ⟨c_B5,f_B5,l_B5⟩:=blk3 B5.out
 obtain ⟨b3,hb3⟩:∃ b,b=w.heap.size:=⟨_,rfl⟩
 obtain ⟨b4,hb4⟩:∃ b,b=w.heap.size+1:=⟨_,rfl⟩
 obtain ⟨b5,hb5⟩:∃ b,b=w7.heap.size:=⟨_,rfl⟩
 have hw3:w.heap.size≤b3:=by omega
 have hw4:w.heap.size≤b4:=by omega
 have hw5:w.heap.size≤b5:=by omega
 have h34:b3 ≠ b4:=by omega
 have h35:b3 ≠ b5:=by omega
 have h45:b4 ≠ b5:=by omega
 rw [← hb4] at B4 ⊢
 rw [← hb3] at B3 ⊢
 rw [← hb5] at B5 ⊢
 clear hb3 hb4 hb5 c_B3 f_B3 l_B3 c_B4 f_B4 l_B4 c_B5 f_B5 l_B5
 have HY:Hid (CanR w8 x7 (evV (l.drop n) x)):=Hi (by rw [List.drop_eq_nil_of_le (by rw [HLn.out];exact Nat.le_refl _)];exact G7.out)
 have LA0:Hid (LIn w8 ⟨ao,n,c⟩ l 0 w.heap.size):=Hi LA.out
 go_wp2
 go_loopg [6] n (fun g v wr=>∃ (y:RH),v=.int .i64 ((g:Int) - 1)∧g≤n∧Ext w wr∧LIn wr ⟨ao,n,c⟩ l 0 w.heap.size∧CanR wr ⟨tn,ta,tl,tc,tb,tm,td⟩ x∧wr.heap[b3]?=some (.cells #[.bool tn,.slice ta tl tc,.slice tb tm td] 30 (0,0))∧wr.heap[b4]?=some (.cells #[.bool false,.slice none 0 0,.slice none 0 0] 30 (0,0))∧wr.heap[b5]?=some (.cells #[.bool y.neg,.slice y.a y.n y.c,.slice y.b y.m y.d] 30 (0,0))∧CanR wr y (evV (l.drop g) x))
 case atStart=>exact ⟨x7,rfl,Nat.le_refl _,HX.out,LA0.out,HT.out,B3.out,B4.out,B5.out,HY.out⟩
 case round =>
  obtain ⟨⟨yn,ya,yl,yc,yb,ym,yd⟩,rfl,hg,g1,g2,g3,g4,g5,g6,g7⟩:=hrel
  clear HX LA LA0 HT B3 B4 B5 HY G7
  have HX:=Hi g1
  have LA:=Hi g2
  have HT:=Hi g3
  have B3:=Hi g4
  have B4:=Hi g5
  have B5:=Hi g6
  have HY:=Hi g7
  clear g1 g2 g3 g4 g5 g6 g7
  try clear c_B3 f_B3 l_B3
  obtain ⟨c_B3,f_B3,l_B3⟩:=blk3 B3.out
  try clear c_B4 f_B4 l_B4
  obtain ⟨c_B4,f_B4,l_B4⟩:=blk3 B4.out
  try clear c_B5 f_B5 l_B5
  obtain ⟨c_B5,f_B5,l_B5⟩:=blk3 B5.out
  by_cases h0:gk=0
  case pos =>
   subst h0
   have hneg:¬ (0:Int)≤((0:Nat):Int) - 1:=by omega
   go_wp2
   refine nm_set3 (F:=fun W=>bodyPost _ _ _ _ _ W) B4.out rfl ?_
   intro w9 T
   replace HX:=Hi (T.ext HX.out (by omega))
   replace LA:=Hi (LA.out.put T (by omega))
   replace HT:=Hi (HT.out.keep T.keep)
   replace HY:=Hi (HY.out.keep T.keep)
   replace B3:=Hi (T.rest _ _ (by omega) B3.out)
   replace B4:=Hi (T.bx)
   replace B5:=Hi (T.rest _ _ (by omega) B5.out)
   have hs_w9:=nle T.size
   have hr_w9:=nle T.size.symm
   clear T
   try clear c_B3 f_B3 l_B3
   obtain ⟨c_B3,f_B3,l_B3⟩:=blk3 B3.out
   try clear c_B4 f_B4 l_B4
   obtain ⟨c_B4,f_B4,l_B4⟩:=blk3 B4.out
   try clear c_B5 f_B5 l_B5
   obtain ⟨c_B5,f_B5,l_B5⟩:=blk3 B5.out
   exact bodyPost_ret (v:=RH.v ⟨yn,ya,yl,yc,yb,ym,yd⟩) (by simp [results,Tryz.results41,go_sem,c_B4]) rfl ⟨⟨yn,ya,yl,yc,yb,ym,yd⟩,rfl,HX.out,HY.out⟩
  obtain ⟨k,rfl⟩:∃ k,gk=k+1:=⟨gk - 1,by omega⟩
  have hk1:((k+1:Nat):Int) - 1=(k:Nat):=by omega
  rw [hk1]
  have hkn:k < n:=by omega
  have hk0:(0:Int)≤(k:Nat):=by omega
  have hin:(k:Int) < n:=by omega
  have hm1:(n - (k+1)) * (S+T+1)≤100 * 20001:=Nat.mul_le_mul (by omega) (by omega)
  have ZY:Hid (Sz 2100000 (evV (l.drop (k+1)) x)):=Hi ((ev_dsz HZ.out ZX.out hS (n - (k+1)) (k+1) (by rw [HLn.out];omega)).mono (by omega))
  have HE:=Hi (ev_dropk l x (k:=k) (by rw [HLn.out];exact hkn))
  have ZK:Hid (Sz S (l.getD k 0)):=Hi (HZ.out.at (by rw [HLn.out];exact hkn))
  obtain ⟨ba,oa,r,hao,hbl,⟨hc1,hc2,hc3⟩,hPc⟩:=LA.out.celx (k:=k) hkn
  obtain ⟨rneg,ra,rn,rc,rb,rm,rd⟩:=r
  simp only at hc1 hc2 hc3
  have HC:=Hi hPc
  clear hPc
  subst hao
  go_upto_region 5 with fail
  refine wp_region_front 8 (fun opIx=>match opIx with
   | 2=>.spec RH default RH.v (fun s w'=>CanR w' s (evV (l.drop (k+1)) x * x))
   | 7=>.spec RH default RH.v (fun s w'=>CanR w' s (evV (l.drop (k+1)) x * x+l.getD k 0))
   | _=>.quiet) (fun | 7=>[2] | _=>[]) (by kernel_rfl) (by kernel_rfl) (fun w0 he0 hz0 hc0 hf0=>?_)
  replace he0:=Hi he0
  simp only [pT]
  repeat (refine wpq fun K h=>?_;go_big_quiet_op;refine h _ ?_;clear h K)
  refine wps he0.out rfl rfl (fun w1 hW hG=>?_) fun x30=>?_
  ·exact spc [RH.v ⟨yn,ya,yl,yc,yb,ym,yd⟩,RH.v ⟨tn,ta,tl,tc,tb,tm,td⟩] Tryz.func38 (rmul3_any _ _ _ _ _ ((HY.out.ext hW).raw ZY.out (by omega)) ((HT.out.ext hW).raw ZX.out (by omega)))
  simp only [pS]
  repeat (refine wpq fun K h=>?_;go_big_quiet_op;refine h _ ?_;clear h K)
  refine wps he0.out rfl rfl (fun w1 hW hG=>?_) fun x31=>?_
  ·have g30:=(hG 2 (by decide):Since _ _).get fun _ e g=>g.ext e
   exact spc [x30.v,RH.v ⟨rneg,ra,rn,rc,rb,rm,rd⟩] Tryz.func30 (radd3_any x30 _ _ _ _ (g30.raw (ZY.out.mul ZX.out) (by omega)) ((HC.out.ext hW).raw ZK.out (by omega)))
  simp only [pS]
  repeat (refine wpq fun K h=>?_;go_big_quiet_op;refine h _ ?_;clear h K)
  refine wpF_nil ?_
  intro w14 hI
  have hE:=he0.out.trans hI.ext
  have G30:=Hi ((hI.facts 2:Since _ _).get fun _ e g=>g.ext e)
  have G31:=Hi ((hI.facts 7:Since _ _).get fun _ e g=>g.ext e)
  clear hI he0 hz0 hc0 hf0
  replace HX:=hE.tr HX
  replace LA:=Hi (LA.out.ext hE)
  replace HT:=Hi (HT.out.ext hE)
  replace HY:=Hi (HY.out.ext hE)
  replace B3:=hE.bl B3
  replace B4:=hE.bl B4
  replace B5:=hE.bl B5
  replace HC:=Hi (HC.out.ext hE)
  have hs_w14:=hE.size
  clear hE
  try clear c_B3 f_B3 l_B3
  obtain ⟨c_B3,f_B3,l_B3⟩:=blk3 B3.out
  try clear c_B4 f_B4 l_B4
  obtain ⟨c_B4,f_B4,l_B4⟩:=blk3 B4.out
  try clear c_B5 f_B5 l_B5
  obtain ⟨c_B5,f_B5,l_B5⟩:=blk3 B5.out
  simp only [pD]
  clear hc1 hc2 hc3
  rw [← HE.out] at G31
  go_upto_region 4 with fail
  refine nm_set3 B5.out rfl ?_
  intro w15 T
  replace HX:=Hi (T.ext HX.out (by omega))
  replace LA:=Hi (LA.out.put T (by omega))
  replace HT:=Hi (HT.out.keep T.keep)
  replace HY:=Hi (HY.out.keep T.keep)
  replace B3:=Hi (T.rest _ _ (by omega) B3.out)
  replace B4:=Hi (T.rest _ _ (by omega) B4.out)
  replace B5:=Hi (T.bx)
  replace HC:=Hi (HC.out.keep T.keep)
  replace G30:=Hi (G30.out.keep T.keep)
  replace G31:=Hi (G31.out.keep T.keep)
  have hs_w15:=nle T.size
  have hr_w15:=nle T.size.symm
  clear T
  try clear c_B3 f_B3 l_B3
  obtain ⟨c_B3,f_B3,l_B3⟩:=blk3 B3.out
  try clear c_B4 f_B4 l_B4
  obtain ⟨c_B4,f_B4,l_B4⟩:=blk3 B4.out
  try clear c_B5 f_B5 l_B5
  obtain ⟨c_B5,f_B5,l_B5⟩:=blk3 B5.out
  go_wp2
  go_roundg k
  case measure=>omega
  case rel=>exact ⟨x31,by go_num,by omega,HX.out,LA.out,HT.out,B3.out,B4.out,B5.out,G31.out⟩
end Go.Proofs.YtpieblkklbilgaaGreat
