/- cut, parts of package sturm. Printed by gen/sturm.py. -/
import Derived.Test.YtpieblkklbilgaaGreatQKM24
set_option linter.unusedVariables false
namespace Go.Proofs.YtpieblkklbilgaaGreat
open Go.RowKit Go.Front Go.Num Stab
attribute [local go_sem] XW.cell XW.frozen
end Go.Proofs.YtpieblkklbilgaaGreat
/- Intervals: ends, Make, Trim of package interval. -/
set_option linter.unusedVariables false
set_option maxRecDepth 8000
set_option maxHeartbeats 2000000
namespace Go.Proofs.YtpieblkklbilgaaGreat
open Go.RowKit Go.Front Go.Num Stab
attribute [local go_sem] XW.cell XW.frozen
abbrev IvV (x:RH × RH):Value:=.agg #[.bool x.1.neg,.slice x.1.a x.1.n x.1.c,.slice x.1.b x.1.m x.1.d,.bool x.2.neg,.slice x.2.a x.2.n x.2.c,.slice x.2.b x.2.m x.2.d]
def loV (a b:Rat):Rat:=if b < a then b else a
def hiV (a b:Rat):Rat:=if b < a then a else b
theorem lo_hi (a b:Rat):loV a b≤hiV a b:=by
 unfold loV hiV
 by_cases h:b < a
 ·rw [if_pos h,if_pos h];grind
 ·rw [if_neg h,if_neg h];grind
theorem lo_of {a b:Rat} (h:a≤b):loV a b=a:=if_neg (by grind)
theorem hi_of {a b:Rat} (h:a≤b):hiV a b=b:=if_neg (by grind)
theorem lo_or (a b:Rat):loV a b=a ∨ loV a b=b:=by unfold loV;split <;> simp
theorem hi_or (a b:Rat):hiV a b=a ∨ hiV a b=b:=by unfold hiV;split <;> simp
theorem cmpR_gt {a b:Rat} (h:b < a):cmpR a b=1:=by unfold cmpR;rw [if_neg (by grind),if_neg (by grind)]
theorem cmpR_le {a b:Rat} (h:¬ b < a):cmpR a b≤0:=by
 unfold cmpR
 split
 ·omega
 ·split
  ·omega
  ·exfalso;grind
theorem nm_set6 {w1:World} {b:Nat} {T:TypeId} {c0 c1 c2 c3 c4 c5 v0 v1 v2 v3 v4 v5:Value} {F:World→Prop} (hb:w1.heap[b]?=some (.cells #[c0,c1,c2,c3,c4,c5] T (0,0))) (hn:#[c0,c1,c2,c3,c4,c5].toList.all nonU=true) (h:∀ w2,PutB w1 b T #[v0,v1,v2,v3,v4,v5] w2→F w2) :
  F ((((((w1.setCell ⟨b,0,none⟩ v0).setCell ⟨b,1,none⟩ v1).setCell ⟨b,2,none⟩ v2).setCell ⟨b,3,none⟩ v3).setCell ⟨b,4,none⟩ v4).setCell ⟨b,5,none⟩ v5) :=
 h _ (PutB.of (Array.getElem?_eq_some_iff.1 hb).1 (noU_block hb hn) ((((((Mods.setCell w1 ⟨b,0,none⟩ v0).trans (Mods.setCell _ ⟨b,1,none⟩ v1)).trans (Mods.setCell _ ⟨b,2,none⟩ v2)).trans (Mods.setCell _ ⟨b,3,none⟩ v3)).trans (Mods.setCell _ ⟨b,4,none⟩ v4)).trans (Mods.setCell _ ⟨b,5,none⟩ v5)) (by simp [World.setCell])
  (blk_set (blk_set (blk_set (blk_set (blk_set (blk_set hb 0 v0) 1 v1) 2 v2) 3 v3) 4 v4) 5 v5))
theorem ivends_any (s t:RH) (a b:Rat) (w:World) (hs:RawR w s a) (ht:RawR w t b):Does 159 [IvV (s,t)] w PT (fun x w'=>RawR w' x.1 (loV a b)∧RawR w' x.2 (hiV a b)):=by
 have HX:=Hi (Ext.refl w)
 have HS:=Hi hs
 have HT:=Hi ht
 clear hs ht
 unfold Does
 go_enter Tryz.func159,Tryz.ntmps159
 obtain ⟨sn,sa,sl,sc,sb,sm,sd⟩:=s
 obtain ⟨tn,ta,tl,tc,tb,tm,td⟩:=t
 go_upto_region 1 with fail
 refine nm_alloc3 ?_
 intro w1 hE hB0 hB1 hB2 hz
 have hz_w1:=nle hz
 have hr_w1:=nle hz.symm
 clear hz
 replace HX:=hE.tr HX
 replace HS:=Hi (HS.out.ext hE)
 replace HT:=Hi (HT.out.ext hE)
 have hs_w1:=hE.size
 clear hE
 have B1:=Hi hB0
 clear hB0
 obtain ⟨c_B1,f_B1,l_B1⟩:=blk3 B1.out
 have B2:=Hi hB1
 clear hB1
 obtain ⟨c_B2,f_B2,l_B2⟩:=blk3 B2.out
 have B3:=Hi hB2
 clear hB2
 obtain ⟨c_B3,f_B3,l_B3⟩:=blk3 B3.out
 go_wp2_with fail
 refine Calls.mono (rcmp_any ⟨sn,sa,sl,sc,sb,sm,sd⟩ ⟨tn,ta,tl,tc,tb,tm,td⟩ a b _ HS.out HT.out) ?_
 rintro e w8 ⟨x8,rfl,hE,-⟩
 replace HX:=hE.tr HX
 replace HS:=Hi (HS.out.ext hE)
 replace HT:=Hi (HT.out.ext hE)
 replace B1:=hE.bl B1
 replace B2:=hE.bl B2
 replace B3:=hE.bl B3
 have hs_w8:=hE.size
 clear hE
 try clear c_B1 f_B1 l_B1
 obtain ⟨c_B1,f_B1,l_B1⟩:=blk3 B1.out
 try clear c_B2 f_B2 l_B2
 obtain ⟨c_B2,f_B2,l_B2⟩:=blk3 B2.out
 try clear c_B3 f_B3 l_B3
 obtain ⟨c_B3,f_B3,l_B3⟩:=blk3 B3.out
 by_cases h:b < a
 ·have hlo:Hid (loV a b=b∧hiV a b=a):=Hi ⟨if_pos h,if_pos h⟩
  rw [cmpR_gt h]
  clear h
  go_upto_region 2 with fail
  go_region
  refine nm_twod B2.out rfl B3.out rfl (by omega) ?_
  intro y3 y4 y5 T3 T4 E5
  have HY:Hid (Ext w y5):=Hi ((T4.ext (T3.ext HX.out (by omega)) (by omega)).trans E5)
  have HS5:=Hi (((HS.out.keep T3.keep).keep T4.keep).ext E5)
  have HT5:=Hi (((HT.out.keep T3.keep).keep T4.keep).ext E5)
  have C2:=Hi (E5.block (T4.rest _ _ (by omega) T3.bx))
  have C3:=Hi (E5.block T4.bx)
  have c_C2:=blk_cell C2.out
  have c_C3:=blk_cell C3.out
  clear T3 T4 E5 c_B1 c_B2 c_B3 f_B1 f_B2 f_B3
  go_wp2
  exact bodyPost_ret (v:=PT (⟨tn,ta,tl,tc,tb,tm,td⟩,⟨sn,sa,sl,sc,sb,sm,sd⟩)) (by simp [results,Tryz.results159,go_sem,PT,c_C2,c_C3]) rfl
   ⟨(⟨tn,ta,tl,tc,tb,tm,td⟩,⟨sn,sa,sl,sc,sb,sm,sd⟩),rfl,HY.out,by rw [hlo.out.1];exact HT5.out,by rw [hlo.out.2];exact HS5.out⟩
 ·have hlo:Hid (loV a b=a∧hiV a b=b):=Hi ⟨if_neg h,if_neg h⟩
  have hc:=cmpR_le h
  obtain ⟨c,e⟩:∃ c,c=cmpR a b:=⟨_,rfl⟩
  rw [← e] at hc ⊢
  have hc2:¬ 0 < c:=by omega
  clear h e
  go_upto_region 3 with fail
  go_region
  refine nm_twod B2.out rfl B3.out rfl (by omega) ?_
  intro y3 y4 y5 T3 T4 E5
  have HY:Hid (Ext w y5):=Hi ((T4.ext (T3.ext HX.out (by omega)) (by omega)).trans E5)
  have HS5:=Hi (((HS.out.keep T3.keep).keep T4.keep).ext E5)
  have HT5:=Hi (((HT.out.keep T3.keep).keep T4.keep).ext E5)
  have C2:=Hi (E5.block (T4.rest _ _ (by omega) T3.bx))
  have C3:=Hi (E5.block T4.bx)
  have c_C2:=blk_cell C2.out
  have c_C3:=blk_cell C3.out
  clear T3 T4 E5 c_B1 c_B2 c_B3 f_B1 f_B2 f_B3
  go_wp2
  exact bodyPost_ret (v:=PT (⟨sn,sa,sl,sc,sb,sm,sd⟩,⟨tn,ta,tl,tc,tb,tm,td⟩)) (by simp [results,Tryz.results159,go_sem,PT,c_C2,c_C3]) rfl
   ⟨(⟨sn,sa,sl,sc,sb,sm,sd⟩,⟨tn,ta,tl,tc,tb,tm,td⟩),rfl,HY.out,by rw [hlo.out.1];exact HS5.out,by rw [hlo.out.2];exact HT5.out⟩
theorem ivmake_any (s t:RH) (a b:Rat) (w:World) (hs:RawR w s a) (ht:RawR w t b):Does 89 [s.v,t.v] w IvV (fun x w'=>CanR w' x.1 (loV a b)∧CanR w' x.2 (hiV a b)):=by
 have HX:=Hi (Ext.refl w)
 have HS:=Hi hs
 have HT:=Hi ht
 clear hs ht
 unfold Does
 go_enter Tryz.func89,Tryz.ntmps89
 obtain ⟨sn,sa,sl,sc,sb,sm,sd⟩:=s
 obtain ⟨tn,ta,tl,tc,tb,tm,td⟩:=t
 go_upto_region 1 with fail
 refine nm_alloc3 ?_
 intro w1 hE hB0 hB1 hB2 hz
 have hz_w1:=nle hz
 have hr_w1:=nle hz.symm
 clear hz
 replace HX:=hE.tr HX
 replace HS:=Hi (HS.out.ext hE)
 replace HT:=Hi (HT.out.ext hE)
 have hs_w1:=hE.size
 clear hE
 have B2:=Hi hB0
 clear hB0
 obtain ⟨c_B2,f_B2,l_B2⟩:=blk3 B2.out
 have B3:=Hi hB1
 clear hB1
 obtain ⟨c_B3,f_B3,l_B3⟩:=blk3 B3.out
 have B4:=Hi hB2
 clear hB2
 obtain ⟨c_B4,f_B4,l_B4⟩:=blk3 B4.out
 go_wp2_with fail
 refine Calls.mono (ivends_any ⟨sn,sa,sl,sc,sb,sm,sd⟩ ⟨tn,ta,tl,tc,tb,tm,td⟩ a b _ HS.out HT.out) ?_
 rintro e w7 ⟨x7,rfl,hE,g7⟩
 have G7:=Hi g7
 clear g7
 replace HX:=hE.tr HX
 replace HS:=Hi (HS.out.ext hE)
 replace HT:=Hi (HT.out.ext hE)
 replace B2:=hE.bl B2
 replace B3:=hE.bl B3
 replace B4:=hE.bl B4
 have hs_w7:=hE.size
 clear hE
 try clear c_B2 f_B2 l_B2
 obtain ⟨c_B2,f_B2,l_B2⟩:=blk3 B2.out
 try clear c_B3 f_B3 l_B3
 obtain ⟨c_B3,f_B3,l_B3⟩:=blk3 B3.out
 try clear c_B4 f_B4 l_B4
 obtain ⟨c_B4,f_B4,l_B4⟩:=blk3 B4.out
 obtain ⟨⟨ln,la,ll,lc,lb,lm,ld⟩,⟨hn,ha,hl,hc,hb,hm,hd⟩⟩:=x7
 have HL:=Hi G7.out.1
 have HH:=Hi G7.out.2
 clear G7
 (try clear c_B2 f_B2 l_B2);clear B2
 (try clear c_B3 f_B3 l_B3);clear B3
 clear HS
 clear HT
 go_upto_region 2 with fail
 refine nm_alloc2 ?_
 intro w8 hE hB0 hB1 hz
 have hz_w8:=nle hz
 have hr_w8:=nle hz.symm
 clear hz
 replace HX:=hE.tr HX
 replace B4:=hE.bl B4
 replace HL:=Hi (HL.out.ext hE)
 replace HH:=Hi (HH.out.ext hE)
 have hs_w8:=hE.size
 clear hE
 try clear c_B4 f_B4 l_B4
 obtain ⟨c_B4,f_B4,l_B4⟩:=blk3 B4.out
 have B5:=Hi hB0
 clear hB0
 obtain ⟨c_B5,f_B5,l_B5⟩:=blk3 B5.out
 have B6:=Hi hB1
 clear hB1
 obtain ⟨c_B6,f_B6,l_B6⟩:=blk3 B6.out
 refine wp_region_front 5 (fun opIx=>match opIx with
  | 1=>.spec RH default RH.v (fun s w'=>CanR w' s (loV a b))
  | 3=>.spec RH default RH.v (fun s w'=>CanR w' s (hiV a b))
  | _=>.quiet) (fun _=>[]) (by kernel_rfl) (by kernel_rfl) (fun w0 he0 hz0 hc0 hf0=>?_)
 replace he0:=Hi he0
 simp only [pT]
 repeat (refine wpq fun K h=>?_;go_big_quiet_op;refine h _ ?_;clear h K)
 refine wps he0.out rfl rfl (fun w1 hW hG=>?_) fun x20=>?_
 ·exact spc [RH.v ⟨ln,la,ll,lc,lb,lm,ld⟩] Tryz.func160 (rtrim_any _ _ _ (HL.out.ext hW))
 simp only [pS]
 repeat (refine wpq fun K h=>?_;go_big_quiet_op;refine h _ ?_;clear h K)
 refine wps he0.out rfl rfl (fun w1 hW hG=>?_) fun x21=>?_
 ·exact spc [RH.v ⟨hn,ha,hl,hc,hb,hm,hd⟩] Tryz.func160 (rtrim_any _ _ _ (HH.out.ext hW))
 simp only [pS]
 repeat (refine wpq fun K h=>?_;go_big_quiet_op;refine h _ ?_;clear h K)
 refine wpF_nil ?_
 intro w9 hI
 have hE:=he0.out.trans hI.ext
 have G20:=Hi ((hI.facts 1:Since _ _).get fun _ e g=>g.ext e)
 have G21:=Hi ((hI.facts 3:Since _ _).get fun _ e g=>g.ext e)
 clear hI he0 hz0 hc0 hf0
 replace HX:=hE.tr HX
 replace B4:=hE.bl B4
 replace HL:=Hi (HL.out.ext hE)
 replace HH:=Hi (HH.out.ext hE)
 replace B5:=hE.bl B5
 replace B6:=hE.bl B6
 have hs_w9:=hE.size
 clear hE
 try clear c_B4 f_B4 l_B4
 obtain ⟨c_B4,f_B4,l_B4⟩:=blk3 B4.out
 try clear c_B5 f_B5 l_B5
 obtain ⟨c_B5,f_B5,l_B5⟩:=blk3 B5.out
 try clear c_B6 f_B6 l_B6
 obtain ⟨c_B6,f_B6,l_B6⟩:=blk3 B6.out
 simp only [pD]
 go_wp2
 refine nm_set6 (F:=fun W=>bodyPost _ _ _ _ _ W) B4.out rfl ?_
 intro w10 T
 replace HX:=Hi (T.ext HX.out (by omega))
 replace B4:=Hi (T.bx)
 replace HL:=Hi (HL.out.keep T.keep)
 replace HH:=Hi (HH.out.keep T.keep)
 replace B5:=Hi (T.rest _ _ (by omega) B5.out)
 replace B6:=Hi (T.rest _ _ (by omega) B6.out)
 replace G20:=Hi (G20.out.keep T.keep)
 replace G21:=Hi (G21.out.keep T.keep)
 have hs_w10:=nle T.size
 have hr_w10:=nle T.size.symm
 clear T
 try clear c_B4 f_B4 l_B4
 obtain ⟨c_B4,f_B4,l_B4⟩:=blk3 B4.out
 try clear c_B5 f_B5 l_B5
 obtain ⟨c_B5,f_B5,l_B5⟩:=blk3 B5.out
 try clear c_B6 f_B6 l_B6
 obtain ⟨c_B6,f_B6,l_B6⟩:=blk3 B6.out
 exact bodyPost_ret (v:=IvV (x20,x21)) (by simp [results,Tryz.results89,go_sem,c_B4]) rfl ⟨(x20,x21),rfl,HX.out,G20.out,G21.out⟩
theorem ivtrim_any (s t:RH) (a b:Rat) (w:World) (hs:RawR w s a) (ht:RawR w t b):Does 92 [IvV (s,t)] w IvV (fun x w'=>CanR w' x.1 (loV a b)∧CanR w' x.2 (hiV a b)):=by
 have HX:=Hi (Ext.refl w)
 have HS:=Hi hs
 have HT:=Hi ht
 clear hs ht
 unfold Does
 go_enter Tryz.func92,Tryz.ntmps92
 obtain ⟨sn,sa,sl,sc,sb,sm,sd⟩:=s
 obtain ⟨tn,ta,tl,tc,tb,tm,td⟩:=t
 go_upto_region 1 with fail
 refine nm_alloc2 ?_
 intro w1 hE hB0 hB1 hz
 have hz_w1:=nle hz
 have hr_w1:=nle hz.symm
 clear hz
 replace HX:=hE.tr HX
 replace HS:=Hi (HS.out.ext hE)
 replace HT:=Hi (HT.out.ext hE)
 have hs_w1:=hE.size
 clear hE
 have B1:=Hi hB0
 clear hB0
 obtain ⟨c_B1,f_B1,l_B1⟩:=blk3 B1.out
 have B2:=Hi hB1
 clear hB1
 obtain ⟨c_B2,f_B2,l_B2⟩:=blk3 B2.out
 go_wp2_with fail
 refine Calls.mono (ivmake_any ⟨sn,sa,sl,sc,sb,sm,sd⟩ ⟨tn,ta,tl,tc,tb,tm,td⟩ a b _ HS.out HT.out) ?_
 rintro e w7 ⟨x7,rfl,hE,g7⟩
 have G7:=Hi g7
 clear g7
 replace HX:=hE.tr HX
 replace HS:=Hi (HS.out.ext hE)
 replace HT:=Hi (HT.out.ext hE)
 replace B1:=hE.bl B1
 replace B2:=hE.bl B2
 have hs_w7:=hE.size
 clear hE
 try clear c_B1 f_B1 l_B1
 obtain ⟨c_B1,f_B1,l_B1⟩:=blk3 B1.out
 try clear c_B2 f_B2 l_B2
 obtain ⟨c_B2,f_B2,l_B2⟩:=blk3 B2.out
 have HL:=Hi G7.out.1
 have HH:=Hi G7.out.2
 clear G7
 go_wp2
 refine nm_set6 (F:=fun W=>bodyPost _ _ _ _ _ W) B2.out rfl ?_
 intro w10 T
 replace HX:=Hi (T.ext HX.out (by omega))
 replace HS:=Hi (HS.out.keep T.keep)
 replace HT:=Hi (HT.out.keep T.keep)
 replace B1:=Hi (T.rest _ _ (by omega) B1.out)
 replace B2:=Hi (T.bx)
 replace HL:=Hi (HL.out.keep T.keep)
 replace HH:=Hi (HH.out.keep T.keep)
 have hs_w10:=nle T.size
 have hr_w10:=nle T.size.symm
 clear T
 try clear c_B1 f_B1 l_B1
 obtain ⟨c_B1,f_B1,l_B1⟩:=blk3 B1.out
 try clear c_B2 f_B2 l_B2
 obtain ⟨c_B2,f_B2,l_B2⟩:=blk3 B2.out
 exact bodyPost_ret (v:=IvV x7) (by simp [results,Tryz.results92,go_sem,c_B2]) rfl ⟨x7,rfl,HX.out,HL.out,HH.out⟩
end Go.Proofs.YtpieblkklbilgaaGreat
