/- Intervals of the reference; Cos, On of make; Eval of the reference. -/
import Derived.Test.YtcbgamclcgcodaaGreatQYIv1
import Derived.Test.YtcbgamclcgcodaaGreatQYM17
import Derived.Test.YtcbgamclcgcodaaGreatQYM11
import Derived.Test.YtcbgamclcgcodaaGreatQYM10
import Derived.Test.YtcbgamclcgcodaaGreatQYM28
set_option linter.unusedVariables false
set_option maxRecDepth 8000
set_option maxHeartbeats 2000000
namespace Go.Proofs.YtcbgamclcgcodaaGreat
open Go.RowKit Go.Front Go.Num Stab
attribute [local go_sem] XW.cell XW.frozen
theorem mx_hi (a b:Rat):(if a < b then b else a) = hiV a b:=by
 unfold hiV
 by_cases h:a < b
 ·rw [if_pos h,if_neg (by grind)]
 ·rw [if_neg h]
  by_cases h2:b < a
  ·rw [if_pos h2]
  ·rw [if_neg h2]; grind
theorem rmin3_any (s t:RH) (a b:Rat) (w:World) (hs:RawR w s a) (ht:RawR w t b):Does 158 [s.v,t.v] w RH.v (fun x w'=>CanR w' x (loV a b)):=by
 have HX:=Hi (Ext.refl w)
 have HS:=Hi hs
 have HT:=Hi ht
 clear hs ht
 unfold Does
 go_enter Tryz.func158,Tryz.ntmps158
 obtain ⟨sn,sa,sl,sc,sb,sm,sd⟩:=s
 obtain ⟨tn,ta,tl,tc,tb,tm,td⟩:=t
 go_upto_region 1 with fail
 refine nm_alloc3 ?_
 intro w1 hE hB0 hB1 hB2 hz
 have hz_w1:=nle hz
 have hr_w1:=nle hz.symm
 clear hz
 replace HX:=hE.tr HX
 replace HS:=Hi (HS.out.ext hE)
 replace HT:=Hi (HT.out.ext hE)
 have hs_w1:=hE.size
 clear hE
 have B2:=Hi hB0
 clear hB0
 obtain ⟨c_B2,f_B2,l_B2⟩:=blk3 B2.out
 have B3:=Hi hB1
 clear hB1
 obtain ⟨c_B3,f_B3,l_B3⟩:=blk3 B3.out
 have B4:=Hi hB2
 clear hB2
 obtain ⟨c_B4,f_B4,l_B4⟩:=blk3 B4.out
 go_wp2_with fail
 refine Calls.mono (rless3_any ⟨tn,ta,tl,tc,tb,tm,td⟩ ⟨sn,sa,sl,sc,sb,sm,sd⟩ b a _ HT.out HS.out) ?_
 rintro e w7 ⟨x7,rfl,hE,-⟩
 replace HX:=hE.tr HX
 replace HS:=Hi (HS.out.ext hE)
 replace HT:=Hi (HT.out.ext hE)
 replace B2:=hE.bl B2
 replace B3:=hE.bl B3
 replace B4:=hE.bl B4
 have hs_w7:=hE.size
 clear hE
 try clear c_B2 f_B2 l_B2
 obtain ⟨c_B2,f_B2,l_B2⟩:=blk3 B2.out
 try clear c_B3 f_B3 l_B3
 obtain ⟨c_B3,f_B3,l_B3⟩:=blk3 B3.out
 try clear c_B4 f_B4 l_B4
 obtain ⟨c_B4,f_B4,l_B4⟩:=blk3 B4.out
 by_cases h:b < a
 case pos =>
  have HV:Hid (loV a b = b):=Hi (if_pos h)
  rw [decide_eq_true h]
  clear h
  go_wp2_with fail
  refine Calls.mono (rtrim3_any ⟨tn,ta,tl,tc,tb,tm,td⟩ b _ HT.out) ?_
  rintro e w9 ⟨x9,rfl,hE,g9⟩
  have G9:=Hi g9
  clear g9
  replace HX:=hE.tr HX
  replace HS:=Hi (HS.out.ext hE)
  replace HT:=Hi (HT.out.ext hE)
  replace B2:=hE.bl B2
  replace B3:=hE.bl B3
  replace B4:=hE.bl B4
  have hs_w9:=hE.size
  clear hE
  try clear c_B2 f_B2 l_B2
  obtain ⟨c_B2,f_B2,l_B2⟩:=blk3 B2.out
  try clear c_B3 f_B3 l_B3
  obtain ⟨c_B3,f_B3,l_B3⟩:=blk3 B3.out
  try clear c_B4 f_B4 l_B4
  obtain ⟨c_B4,f_B4,l_B4⟩:=blk3 B4.out
  go_wp2
  refine nm_set3 (F:=fun W=>bodyPost _ _ _ _ _ W) B4.out rfl ?_
  intro w10 T
  replace HX:=Hi (T.ext HX.out (by omega))
  replace HS:=Hi (HS.out.keep T.keep)
  replace HT:=Hi (HT.out.keep T.keep)
  replace B2:=Hi (T.rest _ _ (by omega) B2.out)
  replace B3:=Hi (T.rest _ _ (by omega) B3.out)
  replace B4:=Hi (T.bx)
  replace G9:=Hi (G9.out.keep T.keep)
  have hs_w10:=nle T.size
  have hr_w10:=nle T.size.symm
  clear T
  try clear c_B2 f_B2 l_B2
  obtain ⟨c_B2,f_B2,l_B2⟩:=blk3 B2.out
  try clear c_B3 f_B3 l_B3
  obtain ⟨c_B3,f_B3,l_B3⟩:=blk3 B3.out
  try clear c_B4 f_B4 l_B4
  obtain ⟨c_B4,f_B4,l_B4⟩:=blk3 B4.out
  exact bodyPost_ret (v:=RH.v x9) (by simp [results,Tryz.results158,go_sem,c_B4]) rfl ⟨x9,rfl,HX.out,by rw [HV.out]; exact G9.out⟩
 have HV:Hid (loV a b = a):=Hi (if_neg h)
 rw [decide_eq_false h]
 clear h
 go_wp2_with fail
 refine Calls.mono (rtrim3_any ⟨sn,sa,sl,sc,sb,sm,sd⟩ a _ HS.out) ?_
 rintro e w11 ⟨x11,rfl,hE,g11⟩
 have G11:=Hi g11
 clear g11
 replace HX:=hE.tr HX
 replace HS:=Hi (HS.out.ext hE)
 replace HT:=Hi (HT.out.ext hE)
 replace B2:=hE.bl B2
 replace B3:=hE.bl B3
 replace B4:=hE.bl B4
 have hs_w11:=hE.size
 clear hE
 try clear c_B2 f_B2 l_B2
 obtain ⟨c_B2,f_B2,l_B2⟩:=blk3 B2.out
 try clear c_B3 f_B3 l_B3
 obtain ⟨c_B3,f_B3,l_B3⟩:=blk3 B3.out
 try clear c_B4 f_B4 l_B4
 obtain ⟨c_B4,f_B4,l_B4⟩:=blk3 B4.out
 go_wp2
 refine nm_set3 (F:=fun W=>bodyPost _ _ _ _ _ W) B4.out rfl ?_
 intro w12 T
 replace HX:=Hi (T.ext HX.out (by omega))
 replace HS:=Hi (HS.out.keep T.keep)
 replace HT:=Hi (HT.out.keep T.keep)
 replace B2:=Hi (T.rest _ _ (by omega) B2.out)
 replace B3:=Hi (T.rest _ _ (by omega) B3.out)
 replace B4:=Hi (T.bx)
 replace G11:=Hi (G11.out.keep T.keep)
 have hs_w12:=nle T.size
 have hr_w12:=nle T.size.symm
 clear T
 try clear c_B2 f_B2 l_B2
 obtain ⟨c_B2,f_B2,l_B2⟩:=blk3 B2.out
 try clear c_B3 f_B3 l_B3
 obtain ⟨c_B3,f_B3,l_B3⟩:=blk3 B3.out
 try clear c_B4 f_B4 l_B4
 obtain ⟨c_B4,f_B4,l_B4⟩:=blk3 B4.out
 exact bodyPost_ret (v:=RH.v x11) (by simp [results,Tryz.results158,go_sem,c_B4]) rfl ⟨x11,rfl,HX.out,by rw [HV.out]; exact G11.out⟩
theorem rmax3_any (s t:RH) (a b:Rat) (w:World) (hs:RawR w s a) (ht:RawR w t b):Does 159 [s.v,t.v] w RH.v (fun x w'=>CanR w' x (hiV a b)):=by
 have HX:=Hi (Ext.refl w)
 have HS:=Hi hs
 have HT:=Hi ht
 clear hs ht
 unfold Does
 go_enter Tryz.func159,Tryz.ntmps159
 obtain ⟨sn,sa,sl,sc,sb,sm,sd⟩:=s
 obtain ⟨tn,ta,tl,tc,tb,tm,td⟩:=t
 go_upto_region 1 with fail
 refine nm_alloc3 ?_
 intro w1 hE hB0 hB1 hB2 hz
 have hz_w1:=nle hz
 have hr_w1:=nle hz.symm
 clear hz
 replace HX:=hE.tr HX
 replace HS:=Hi (HS.out.ext hE)
 replace HT:=Hi (HT.out.ext hE)
 have hs_w1:=hE.size
 clear hE
 have B2:=Hi hB0
 clear hB0
 obtain ⟨c_B2,f_B2,l_B2⟩:=blk3 B2.out
 have B3:=Hi hB1
 clear hB1
 obtain ⟨c_B3,f_B3,l_B3⟩:=blk3 B3.out
 have B4:=Hi hB2
 clear hB2
 obtain ⟨c_B4,f_B4,l_B4⟩:=blk3 B4.out
 go_wp2_with fail
 refine Calls.mono (rless3_any ⟨sn,sa,sl,sc,sb,sm,sd⟩ ⟨tn,ta,tl,tc,tb,tm,td⟩ a b _ HS.out HT.out) ?_
 rintro e w7 ⟨x7,rfl,hE,-⟩
 replace HX:=hE.tr HX
 replace HS:=Hi (HS.out.ext hE)
 replace HT:=Hi (HT.out.ext hE)
 replace B2:=hE.bl B2
 replace B3:=hE.bl B3
 replace B4:=hE.bl B4
 have hs_w7:=hE.size
 clear hE
 try clear c_B2 f_B2 l_B2
 obtain ⟨c_B2,f_B2,l_B2⟩:=blk3 B2.out
 try clear c_B3 f_B3 l_B3
 obtain ⟨c_B3,f_B3,l_B3⟩:=blk3 B3.out
 try clear c_B4 f_B4 l_B4
 obtain ⟨c_B4,f_B4,l_B4⟩:=blk3 B4.out
 by_cases h:a < b
 case pos =>
  have HV:Hid (hiV a b = b):=Hi (by rw [← mx_hi,if_pos h])
  rw [decide_eq_true h]
  clear h
  go_wp2_with fail
  refine Calls.mono (rtrim3_any ⟨tn,ta,tl,tc,tb,tm,td⟩ b _ HT.out) ?_
  rintro e w9 ⟨x9,rfl,hE,g9⟩
  have G9:=Hi g9
  clear g9
  replace HX:=hE.tr HX
  replace HS:=Hi (HS.out.ext hE)
  replace HT:=Hi (HT.out.ext hE)
  replace B2:=hE.bl B2
  replace B3:=hE.bl B3
  replace B4:=hE.bl B4
  have hs_w9:=hE.size
  clear hE
  try clear c_B2 f_B2 l_B2
  obtain ⟨c_B2,f_B2,l_B2⟩:=blk3 B2.out
  try clear c_B3 f_B3 l_B3
  obtain ⟨c_B3,f_B3,l_B3⟩:=blk3 B3.out
  try clear c_B4 f_B4 l_B4
  obtain ⟨c_B4,f_B4,l_B4⟩:=blk3 B4.out
  go_wp2
  refine nm_set3 (F:=fun W=>bodyPost _ _ _ _ _ W) B4.out rfl ?_
  intro w10 T
  replace HX:=Hi (T.ext HX.out (by omega))
  replace HS:=Hi (HS.out.keep T.keep)
  replace HT:=Hi (HT.out.keep T.keep)
  replace B2:=Hi (T.rest _ _ (by omega) B2.out)
  replace B3:=Hi (T.rest _ _ (by omega) B3.out)
  replace B4:=Hi (T.bx)
  replace G9:=Hi (G9.out.keep T.keep)
  have hs_w10:=nle T.size
  have hr_w10:=nle T.size.symm
  clear T
  try clear c_B2 f_B2 l_B2
  obtain ⟨c_B2,f_B2,l_B2⟩:=blk3 B2.out
  try clear c_B3 f_B3 l_B3
  obtain ⟨c_B3,f_B3,l_B3⟩:=blk3 B3.out
  try clear c_B4 f_B4 l_B4
  obtain ⟨c_B4,f_B4,l_B4⟩:=blk3 B4.out
  exact bodyPost_ret (v:=RH.v x9) (by simp [results,Tryz.results159,go_sem,c_B4]) rfl ⟨x9,rfl,HX.out,by rw [HV.out]; exact G9.out⟩
 have HV:Hid (hiV a b = a):=Hi (by rw [← mx_hi,if_neg h])
 rw [decide_eq_false h]
 clear h
 go_wp2_with fail
 refine Calls.mono (rtrim3_any ⟨sn,sa,sl,sc,sb,sm,sd⟩ a _ HS.out) ?_
 rintro e w11 ⟨x11,rfl,hE,g11⟩
 have G11:=Hi g11
 clear g11
 replace HX:=hE.tr HX
 replace HS:=Hi (HS.out.ext hE)
 replace HT:=Hi (HT.out.ext hE)
 replace B2:=hE.bl B2
 replace B3:=hE.bl B3
 replace B4:=hE.bl B4
 have hs_w11:=hE.size
 clear hE
 try clear c_B2 f_B2 l_B2
 obtain ⟨c_B2,f_B2,l_B2⟩:=blk3 B2.out
 try clear c_B3 f_B3 l_B3
 obtain ⟨c_B3,f_B3,l_B3⟩:=blk3 B3.out
 try clear c_B4 f_B4 l_B4
 obtain ⟨c_B4,f_B4,l_B4⟩:=blk3 B4.out
 go_wp2
 refine nm_set3 (F:=fun W=>bodyPost _ _ _ _ _ W) B4.out rfl ?_
 intro w12 T
 replace HX:=Hi (T.ext HX.out (by omega))
 replace HS:=Hi (HS.out.keep T.keep)
 replace HT:=Hi (HT.out.keep T.keep)
 replace B2:=Hi (T.rest _ _ (by omega) B2.out)
 replace B3:=Hi (T.rest _ _ (by omega) B3.out)
 replace B4:=Hi (T.bx)
 replace G11:=Hi (G11.out.keep T.keep)
 have hs_w12:=nle T.size
 have hr_w12:=nle T.size.symm
 clear T
 try clear c_B2 f_B2 l_B2
 obtain ⟨c_B2,f_B2,l_B2⟩:=blk3 B2.out
 try clear c_B3 f_B3 l_B3
 obtain ⟨c_B3,f_B3,l_B3⟩:=blk3 B3.out
 try clear c_B4 f_B4 l_B4
 obtain ⟨c_B4,f_B4,l_B4⟩:=blk3 B4.out
 exact bodyPost_ret (v:=RH.v x11) (by simp [results,Tryz.results159,go_sem,c_B4]) rfl ⟨x11,rfl,HX.out,by rw [HV.out]; exact G11.out⟩
theorem ivtrim4_any (s t:RH) (a b:Rat) (w:World) (hs:RawR w s a) (ht:RawR w t b):Does 78 [IvV (s,t)] w IvV (fun x w'=>CanR w' x.1 (loV a b)∧CanR w' x.2 (hiV a b)):=by
 have HX:=Hi (Ext.refl w)
 have HS:=Hi hs
 have HT:=Hi ht
 clear hs ht
 unfold Does
 go_enter Tryz.func78,Tryz.ntmps78
 obtain ⟨sn,sa,sl,sc,sb,sm,sd⟩:=s
 obtain ⟨tn,ta,tl,tc,tb,tm,td⟩:=t
 go_upto_region 1 with fail
 refine nm_alloc2 ?_
 intro w1 hE hB0 hB1 hz
 have hz_w1:=nle hz
 have hr_w1:=nle hz.symm
 clear hz
 replace HX:=hE.tr HX
 replace HS:=Hi (HS.out.ext hE)
 replace HT:=Hi (HT.out.ext hE)
 have hs_w1:=hE.size
 clear hE
 have B1:=Hi hB0
 clear hB0
 obtain ⟨c_B1,f_B1,l_B1⟩:=blk3 B1.out
 have B2:=Hi hB1
 clear hB1
 obtain ⟨c_B2,f_B2,l_B2⟩:=blk3 B2.out
 refine wp_region_front 11 (fun opIx=>match opIx with
  | 4=>.spec RH default RH.v (fun s w'=>CanR w' s (loV a b))
  | 9=>.spec RH default RH.v (fun s w'=>CanR w' s (hiV a b))
  | _=>.quiet) (fun _=>[]) (by kernel_rfl) (by kernel_rfl) (fun w0 he0 hz0 hc0 hf0=>?_)
 replace he0:=Hi he0
 simp only [pT]
 repeat (refine wpq fun K h=>?_; go_big_quiet_op; refine h _ ?_; clear h K)
 refine wps he0.out rfl rfl (fun w1 hW hG=>?_) fun x20=>?_
 ·exact spc [RH.v ⟨sn,sa,sl,sc,sb,sm,sd⟩,RH.v ⟨tn,ta,tl,tc,tb,tm,td⟩] Tryz.func158 (rmin3_any _ _ _ _ _ (HS.out.ext hW) (HT.out.ext hW))
 simp only [pS]
 repeat (refine wpq fun K h=>?_; go_big_quiet_op; refine h _ ?_; clear h K)
 refine wps he0.out rfl rfl (fun w1 hW hG=>?_) fun x21=>?_
 ·exact spc [RH.v ⟨sn,sa,sl,sc,sb,sm,sd⟩,RH.v ⟨tn,ta,tl,tc,tb,tm,td⟩] Tryz.func159 (rmax3_any _ _ _ _ _ (HS.out.ext hW) (HT.out.ext hW))
 simp only [pS]
 repeat (refine wpq fun K h=>?_; go_big_quiet_op; refine h _ ?_; clear h K)
 refine wpF_nil ?_
 intro w2 hI
 have hE:=he0.out.trans hI.ext
 have G20:=Hi ((hI.facts 4:Since _ _).get fun _ e g=>g.ext e)
 have G21:=Hi ((hI.facts 9:Since _ _).get fun _ e g=>g.ext e)
 clear hI he0 hz0 hc0 hf0
 replace HX:=hE.tr HX
 replace HS:=Hi (HS.out.ext hE)
 replace HT:=Hi (HT.out.ext hE)
 replace B1:=hE.bl B1
 replace B2:=hE.bl B2
 have hs_w2:=hE.size
 clear hE
 try clear c_B1 f_B1 l_B1
 obtain ⟨c_B1,f_B1,l_B1⟩:=blk3 B1.out
 try clear c_B2 f_B2 l_B2
 obtain ⟨c_B2,f_B2,l_B2⟩:=blk3 B2.out
 simp only [pD]
 go_wp2
 refine nm_set6 (F:=fun W=>bodyPost _ _ _ _ _ W) B2.out rfl ?_
 intro w10 T
 replace HX:=Hi (T.ext HX.out (by omega))
 replace HS:=Hi (HS.out.keep T.keep)
 replace HT:=Hi (HT.out.keep T.keep)
 replace B1:=Hi (T.rest _ _ (by omega) B1.out)
 replace B2:=Hi (T.bx)
 replace G20:=Hi (G20.out.keep T.keep)
 replace G21:=Hi (G21.out.keep T.keep)
 have hs_w10:=nle T.size
 have hr_w10:=nle T.size.symm
 clear T
 try clear c_B1 f_B1 l_B1
 obtain ⟨c_B1,f_B1,l_B1⟩:=blk3 B1.out
 try clear c_B2 f_B2 l_B2
 obtain ⟨c_B2,f_B2,l_B2⟩:=blk3 B2.out
 exact bodyPost_ret (v:=IvV (x20,x21)) (by simp [results,Tryz.results78,go_sem,c_B2]) rfl ⟨(x20,x21),rfl,HX.out,G20.out,G21.out⟩
theorem ivmake4_any (s t:RH) (a b:Rat) (w:World) (hs:RawR w s a) (ht:RawR w t b):Does 41 [s.v,t.v] w IvV (fun x w'=>CanR w' x.1 (loV a b)∧CanR w' x.2 (hiV a b)):=by
 have HX:=Hi (Ext.refl w)
 have HS:=Hi hs
 have HT:=Hi ht
 clear hs ht
 unfold Does
 go_enter Tryz.func41,Tryz.ntmps41
 obtain ⟨sn,sa,sl,sc,sb,sm,sd⟩:=s
 obtain ⟨tn,ta,tl,tc,tb,tm,td⟩:=t
 go_upto_region 1 with fail
 refine nm_alloc3 ?_
 intro w1 hE hB0 hB1 hB2 hz
 have hz_w1:=nle hz
 have hr_w1:=nle hz.symm
 clear hz
 replace HX:=hE.tr HX
 replace HS:=Hi (HS.out.ext hE)
 replace HT:=Hi (HT.out.ext hE)
 have hs_w1:=hE.size
 clear hE
 have B2:=Hi hB0
 clear hB0
 obtain ⟨c_B2,f_B2,l_B2⟩:=blk3 B2.out
 have B3:=Hi hB1
 clear hB1
 obtain ⟨c_B3,f_B3,l_B3⟩:=blk3 B3.out
 have B4:=Hi hB2
 clear hB2
 obtain ⟨c_B4,f_B4,l_B4⟩:=blk3 B4.out
 go_wp2_with fail
 refine Calls.mono (ivtrim4_any ⟨sn,sa,sl,sc,sb,sm,sd⟩ ⟨tn,ta,tl,tc,tb,tm,td⟩ a b _ HS.out HT.out) ?_
 rintro e w8 ⟨x8,rfl,hE,g8⟩
 have G8:=Hi g8
 clear g8
 replace HX:=hE.tr HX
 replace HS:=Hi (HS.out.ext hE)
 replace HT:=Hi (HT.out.ext hE)
 replace B2:=hE.bl B2
 replace B3:=hE.bl B3
 replace B4:=hE.bl B4
 have hs_w8:=hE.size
 clear hE
 try clear c_B2 f_B2 l_B2
 obtain ⟨c_B2,f_B2,l_B2⟩:=blk3 B2.out
 try clear c_B3 f_B3 l_B3
 obtain ⟨c_B3,f_B3,l_B3⟩:=blk3 B3.out
 try clear c_B4 f_B4 l_B4
 obtain ⟨c_B4,f_B4,l_B4⟩:=blk3 B4.out
 have HL:=Hi G8.out.1
 have HH:=Hi G8.out.2
 clear G8
 go_wp2
 refine nm_set6 (F:=fun W=>bodyPost _ _ _ _ _ W) B4.out rfl ?_
 intro w10 T
 replace HX:=Hi (T.ext HX.out (by omega))
 replace HS:=Hi (HS.out.keep T.keep)
 replace HT:=Hi (HT.out.keep T.keep)
 replace B2:=Hi (T.rest _ _ (by omega) B2.out)
 replace B3:=Hi (T.rest _ _ (by omega) B3.out)
 replace B4:=Hi (T.bx)
 replace HL:=Hi (HL.out.keep T.keep)
 replace HH:=Hi (HH.out.keep T.keep)
 have hs_w10:=nle T.size
 have hr_w10:=nle T.size.symm
 clear T
 try clear c_B2 f_B2 l_B2
 obtain ⟨c_B2,f_B2,l_B2⟩:=blk3 B2.out
 try clear c_B3 f_B3 l_B3
 obtain ⟨c_B3,f_B3,l_B3⟩:=blk3 B3.out
 try clear c_B4 f_B4 l_B4
 obtain ⟨c_B4,f_B4,l_B4⟩:=blk3 B4.out
 exact bodyPost_ret (v:=IvV x8) (by simp [results,Tryz.results41,go_sem,c_B4]) rfl ⟨x8,rfl,HX.out,HL.out,HH.out⟩
def cosQ (n:Int):Rat:=((n % 25 - 12:Int):Rat) / ((12:Int):Rat)
theorem cos_any (n:Int) (w:World) (h1:-9223372036854775808≤n) (h2:n≤9223372036854775807):Does 39 [.int .i64 n] w RH.v (fun x w'=>CanR w' x (cosQ n)):=by
 have HX:=Hi (Ext.refl w)
 unfold Does
 go_enter Tryz.func39,Tryz.ntmps39
 go_upto_region 1 with fail
 refine nm_alloc ?_
 intro w1 hE hB0 hz
 have hz_w1:=nle hz
 have hr_w1:=nle hz.symm
 clear hz
 replace HX:=hE.tr HX
 have hs_w1:=hE.size
 clear hE
 have B2:=Hi hB0
 clear hB0
 obtain ⟨c_B2,f_B2,l_B2⟩:=blk3 B2.out
 go_wp2_with fail
 refine Calls.mono (mod_any n 25 _ h1 h2 (by decide) (by decide)) ?_
 rintro e w4 ⟨x4,rfl,hE,-⟩
 replace HX:=hE.tr HX
 replace B2:=hE.bl B2
 have hs_w4:=hE.size
 clear hE
 try clear c_B2 f_B2 l_B2
 obtain ⟨c_B2,f_B2,l_B2⟩:=blk3 B2.out
 have e1:=Int.emod_nonneg n (show (25:Int) ≠ 0 by decide)
 have e2:=Int.emod_lt_of_pos n (show (0:Int) < 25 by decide)
 obtain ⟨m,hm⟩:∃ m,m = n % 25:=⟨_,rfl⟩
 have HC:Hid (cosQ n = ((m - 12:Int):Rat) / ((12:Int):Rat)):=Hi (by rw [hm]; rfl)
 rw [← hm] at e1 e2 ⊢
 clear hm
 go_wp2_with fail
 refine Calls.mono (rfrac3_any (m - 12) 12 _ (by omega) (by omega) (by decide) (by decide)) ?_
 rintro e w6 ⟨x6,rfl,hE,g6⟩
 have G6:=Hi g6
 clear g6
 replace HX:=hE.tr HX
 replace B2:=hE.bl B2
 have hs_w6:=hE.size
 clear hE
 try clear c_B2 f_B2 l_B2
 obtain ⟨c_B2,f_B2,l_B2⟩:=blk3 B2.out
 go_wp2
 refine nm_set3 (F:=fun W=>bodyPost _ _ _ _ _ W) B2.out rfl ?_
 intro w10 T
 replace HX:=Hi (T.ext HX.out (by omega))
 replace B2:=Hi (T.bx)
 replace G6:=Hi (G6.out.keep T.keep)
 have hs_w10:=nle T.size
 have hr_w10:=nle T.size.symm
 clear T
 try clear c_B2 f_B2 l_B2
 obtain ⟨c_B2,f_B2,l_B2⟩:=blk3 B2.out
 exact bodyPost_ret (v:=RH.v x6) (by simp [results,Tryz.results39,go_sem,c_B2]) rfl ⟨x6,rfl,HX.out,by rw [HC.out]; exact G6.out⟩
theorem cos_facts:∀ m:Nat,m < 25→((((m:Int) - 12:Int):Rat) / ((12:Int):Rat)).num.natAbs < W32∧((((m:Int) - 12:Int):Rat) / ((12:Int):Rat)).den < W32∧-1≤(((m:Int) - 12:Int):Rat) / ((12:Int):Rat)∧(((m:Int) - 12:Int):Rat) / ((12:Int):Rat)≤1∧(((m:Int) - 12:Int):Rat) / ((12:Int):Rat) * 12 = (((m:Int) - 12:Int):Rat):=by decide +kernel
theorem cosQ_nat (n:Int):∃ m:Nat,m < 25∧cosQ n = (((m:Int) - 12:Int):Rat) / ((12:Int):Rat):=by
 have e1:=Int.emod_nonneg n (show (25:Int) ≠ 0 by decide)
 have e2:=Int.emod_lt_of_pos n (show (0:Int) < 25 by decide)
 refine ⟨(n % 25).toNat,by omega,?_⟩
 unfold cosQ
 rw [show (((n % 25).toNat:Nat):Int) = n % 25 by omega]
theorem cosQ_sz (n:Int):Sz 1 (cosQ n):=by
 obtain ⟨m,hm,e⟩:=cosQ_nat n
 rw [e]
 have h:=cos_facts m hm
 exact ⟨by rw [Nat.pow_one]; exact h.1,by rw [Nat.pow_one]; exact h.2.1⟩
theorem cosQ_tw (n:Int):∃ z:Int,cosQ n * 12 = (z:Rat)∧z.natAbs≤12:=by
 obtain ⟨m,hm,e⟩:=cosQ_nat n
 rw [e]
 exact ⟨(m:Int) - 12,(cos_facts m hm).2.2.2.2,by omega⟩
theorem on_any (m n:Int) (w:World) (h1:-9223372036854775808≤m) (h2:m≤9223372036854775807) (k1:-9223372036854775808≤n) (k2:n≤9223372036854775807):Does 23 [.int .i64 m,.int .i64 n] w IvV (fun x w'=>CanR w' x.1 (loV (cosQ m) (cosQ n))∧CanR w' x.2 (hiV (cosQ m) (cosQ n))):=by
 have HX:=Hi (Ext.refl w)
 have Z1:=Hi (cosQ_sz m)
 have Z2:=Hi (cosQ_sz n)
 unfold Does
 go_enter Tryz.func23,Tryz.ntmps23
 go_upto_region 1 with fail
 refine nm_alloc ?_
 intro w1 hE hB0 hz
 have hz_w1:=nle hz
 have hr_w1:=nle hz.symm
 clear hz
 replace HX:=hE.tr HX
 have hs_w1:=hE.size
 clear hE
 have B4:=Hi hB0
 clear hB0
 obtain ⟨c_B4,f_B4,l_B4⟩:=blk3 B4.out
 go_wp2_with fail
 refine Calls.mono (cos_any m _ h1 h2) ?_
 rintro e w6 ⟨x6,rfl,hE,g6⟩
 have G6:=Hi g6
 clear g6
 replace HX:=hE.tr HX
 replace B4:=hE.bl B4
 have hs_w6:=hE.size
 clear hE
 try clear c_B4 f_B4 l_B4
 obtain ⟨c_B4,f_B4,l_B4⟩:=blk3 B4.out
 go_wp2_with fail
 refine Calls.mono (cos_any n _ k1 k2) ?_
 rintro e w8 ⟨x8,rfl,hE,g8⟩
 have G8:=Hi g8
 clear g8
 replace HX:=hE.tr HX
 replace B4:=hE.bl B4
 replace G6:=Hi (G6.out.ext hE)
 have hs_w8:=hE.size
 clear hE
 try clear c_B4 f_B4 l_B4
 obtain ⟨c_B4,f_B4,l_B4⟩:=blk3 B4.out
 go_wp2_with fail
 refine Calls.mono (ivmake4_any x6 x8 _ _ _ (G6.out.raw Z1.out (by decide)) (G8.out.raw Z2.out (by decide))) ?_
 rintro e w9 ⟨x9,rfl,hE,g9⟩
 have G9:=Hi g9
 clear g9
 replace HX:=hE.tr HX
 replace B4:=hE.bl B4
 replace G6:=Hi (G6.out.ext hE)
 replace G8:=Hi (G8.out.ext hE)
 have hs_w9:=hE.size
 clear hE
 try clear c_B4 f_B4 l_B4
 obtain ⟨c_B4,f_B4,l_B4⟩:=blk3 B4.out
 have HL:=Hi G9.out.1
 have HH:=Hi G9.out.2
 clear G9
 go_wp2
 refine nm_set6 (F:=fun W=>bodyPost _ _ _ _ _ W) B4.out rfl ?_
 intro w10 T
 replace HX:=Hi (T.ext HX.out (by omega))
 replace B4:=Hi (T.bx)
 replace G6:=Hi (G6.out.keep T.keep)
 replace G8:=Hi (G8.out.keep T.keep)
 replace HL:=Hi (HL.out.keep T.keep)
 replace HH:=Hi (HH.out.keep T.keep)
 have hs_w10:=nle T.size
 have hr_w10:=nle T.size.symm
 clear T
 try clear c_B4 f_B4 l_B4
 obtain ⟨c_B4,f_B4,l_B4⟩:=blk3 B4.out
 exact bodyPost_ret (v:=IvV x9) (by simp [results,Tryz.results23,go_sem,c_B4]) rfl ⟨x9,rfl,HX.out,HL.out,HH.out⟩
end Go.Proofs.YtcbgamclcgcodaaGreat
