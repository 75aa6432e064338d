/- Rfc, Rfd -/
import Derived.Test.YtpieblkklbilgaaGreatQKM1
import Derived.Test.YtpieblkklbilgaaGreatQKM7
import Derived.Test.YtpieblkklbilgaaGreatQKM8
set_option linter.unusedVariables false
set_option maxRecDepth 8000
set_option maxHeartbeats 4000000
namespace Go.Proofs.YtpieblkklbilgaaGreat
open Go.RowKit Go.Front Go.Num
attribute [local go_sem] XW.cell XW.frozen
theorem nm_set2 {w1:World} {b:Nat} {T:TypeId} {c0 c1 c2 v0 v1:Value} {F:World→Prop} (hb:w1.heap[b]?=some (.cells #[c0,c1,c2] T (0,0))) (hn:#[c0,c1,c2].toList.all nonU=true) (h:∀ w2,PutB w1 b T #[v0,v1,c2] w2→F w2) :
  F ((w1.setCell ⟨b,0,none⟩ v0).setCell ⟨b,1,none⟩ v1) :=
 h _ (PutB.of (Array.getElem?_eq_some_iff.1 hb).1 (noU_block hb hn) ((Mods.setCell w1 ⟨b,0,none⟩ v0).trans (Mods.setCell _ ⟨b,1,none⟩ v1)) (by simp [World.setCell]) (blk_set (blk_set hb 0 v0) 1 v1))
theorem CanI.rawn {w:World} {s:IH} {z:Int} (h:CanI w s z) {w':World} {t:IH} {y:Int} (k:RawI w' t y) (hz:z.natAbs≤y.natAbs):RawI w s z:=by
 obtain ⟨ds,h1,h2,h3⟩:=k
 have h4:=sg_lt h1 t.neg
 rw [← h2] at h4
 exact h.rawk (k:=t.n) (Nat.lt_of_le_of_lt hz h4) h3
theorem isub2_any (s t:IH) (z y:Int) (w:World) (h:RawI w s z) (k:RawI w t y):Does 194 [s.v,t.v] w IH.v (fun s w'=>CanI w' s (z - y)):=by
 obtain ⟨neg,ao,n,c⟩:=s
 obtain ⟨neg',bo,m,d⟩:=t
 have HR:=Hi h
 have KR:=Hi k
 have HX:=Hi (Ext.refl w)
 have HV:Hid (z - y=z+-y):=Hi (by omega)
 clear h k
 unfold Does
 go_enter Tryz.func194,Tryz.ntmps194
 go_upto_region 1 with fail
 refine nm_alloc3 ?_
 intro w1 hE hB0 hB1 hB2 hz
 have hz_w1:=nle hz
 have hr_w1:=nle hz.symm
 clear hz
 replace HX:=hE.tr HX
 replace HR:=Hi (HR.out.ext hE)
 replace KR:=Hi (KR.out.ext hE)
 have hs_w1:=hE.size
 clear hE
 have B2:=Hi hB0
 clear hB0
 obtain ⟨c_B2,f_B2,l_B2⟩:=blk3 B2.out
 have B3:=Hi hB1
 clear hB1
 obtain ⟨c_B3,f_B3,l_B3⟩:=blk3 B3.out
 have B4:=Hi hB2
 clear hB2
 obtain ⟨c_B4,f_B4,l_B4⟩:=blk3 B4.out
 refine wp_region_front 4 (fun opIx=>match opIx with
  | 2=>.spec IH default IH.v (fun s w'=>CanI w' s (-y))
  | 3=>.spec IH default IH.v (fun s w'=>CanI w' s (z+-y))
  | _=>.quiet) (fun | 3=>[2] | _=>[]) (by kernel_rfl) (by kernel_rfl) (fun w0 he0 hz0 hc0 hf0=>?_)
 replace he0:=Hi he0
 simp only [pT]
 repeat (refine wpq fun K h=>?_;go_big_quiet_op;refine h _ ?_;clear h K)
 refine wps he0.out rfl rfl (fun w1 hW hG=>?_) fun x2=>?_
 ·exact spc [IH.v ⟨neg',bo,m,d⟩] Tryz.func176 (ineg2_any ⟨neg',bo,m,d⟩ y _ (KR.out.ext hW))
 simp only [pS]
 repeat (refine wpq fun K h=>?_;go_big_quiet_op;refine h _ ?_;clear h K)
 refine wps he0.out rfl rfl (fun w1 hW hG=>?_) fun x3=>?_
 ·have g2:=(hG 2 (by decide):Since _ _).get fun _ e g=>g.ext e
  exact spc [IH.v ⟨neg,ao,n,c⟩,x2.v] Tryz.func102 (iadd2_any ⟨neg,ao,n,c⟩ x2 z (-y) _ (HR.out.ext hW) (g2.rawn KR.out (by omega)))
 simp only [pS]
 repeat (refine wpq fun K h=>?_;go_big_quiet_op;refine h _ ?_;clear h K)
 refine wpF_nil ?_
 intro w2 hI
 have hE:=he0.out.trans hI.ext
 have G2:=Hi ((hI.facts 2:Since _ _).get fun _ e g=>g.ext e)
 have G3:=Hi ((hI.facts 3:Since _ _).get fun _ e g=>g.ext e)
 clear hI he0 hz0 hc0 hf0
 replace HX:=hE.tr HX
 replace HR:=Hi (HR.out.ext hE)
 replace KR:=Hi (KR.out.ext hE)
 replace B2:=hE.bl B2
 replace B3:=hE.bl B3
 replace B4:=hE.bl B4
 have hs_w2:=hE.size
 clear hE
 try clear c_B2 f_B2 l_B2
 obtain ⟨c_B2,f_B2,l_B2⟩:=blk3 B2.out
 try clear c_B3 f_B3 l_B3
 obtain ⟨c_B3,f_B3,l_B3⟩:=blk3 B3.out
 try clear c_B4 f_B4 l_B4
 obtain ⟨c_B4,f_B4,l_B4⟩:=blk3 B4.out
 simp only [pD]
 rw [← HV.out] at G3
 go_wp2
 have hF:=((Fin.start (L:=w.heap.size+2) HX.out (noU_block B4.out rfl)).set (by omega) (i:=0) (v:=.bool x3.neg) rfl).set (by omega) (i:=1) (v:=.slice x3.a x3.n x3.c) rfl
 exact bodyPost_ret (v:=x3.v) (by simp [results,Tryz.results194,go_sem,blk_cell B4.out]) rfl ⟨x3,rfl,hF.ext,G3.out.keep hF.keep⟩
theorem cmpI_sub (z y:Int):cmpI (z - y) 0=cmpI z y:=by
 unfold cmpI
 split
 ·rw [if_pos (by omega)]
 ·split
  ·rw [if_neg (by omega),if_pos (by omega)]
  ·rw [if_neg (by omega),if_neg (by omega)]
theorem icmp2_any (s t:IH) (z y:Int) (k:Nat) (w:World) (h:RawI w s z) (g:RawI w t y) (hz:z.natAbs < W32 ^ k) (hy:y.natAbs < W32 ^ k) (hk:k≤1073741823) (hk1:1≤k):Does 122 [s.v,t.v] w (fun _:Unit=>.int .i64 (cmpI z y)) (fun _ _=>True):=by
 obtain ⟨neg,ao,n,c⟩:=s
 obtain ⟨neg',bo,m,d⟩:=t
 have HR:=Hi h
 have KR:=Hi g
 have HX:=Hi (Ext.refl w)
 have HV:=Hi (cmpI_sub z y)
 have HL:Hid ((z - y).natAbs < W32 ^ (k+1)):=Hi (by
  have h5:W32 ^ k * 2≤W32 ^ (k+1):=by rw [Nat.pow_succ];exact Nat.mul_le_mul_left _ (by decide)
  omega)
 clear h g hz hy
 unfold Does
 go_enter Tryz.func122,Tryz.ntmps122
 go_wp2_with fail
 refine nm_alloc2 (F:=fun W=>Calls _ _ _ W _) ?_
 intro w1 hE hB0 hB1 hz
 have hz_w1:=nle hz
 have hr_w1:=nle hz.symm
 clear hz
 replace HX:=hE.tr HX
 replace HR:=Hi (HR.out.ext hE)
 replace KR:=Hi (KR.out.ext hE)
 have hs_w1:=hE.size
 clear hE
 have B2:=Hi hB0
 clear hB0
 obtain ⟨c_B2,f_B2,l_B2⟩:=blk3 B2.out
 have B3:=Hi hB1
 clear hB1
 obtain ⟨c_B3,f_B3,l_B3⟩:=blk3 B3.out
 change Calls _ _ _ _ _
 refine Calls.mono (isub2_any ⟨neg,ao,n,c⟩ ⟨neg',bo,m,d⟩ z y _ HR.out KR.out) ?_
 rintro e w2 ⟨x2,rfl,hE,g2⟩
 have G2:=Hi g2
 clear g2
 replace HX:=hE.tr HX
 replace HR:=Hi (HR.out.ext hE)
 replace KR:=Hi (KR.out.ext hE)
 replace B2:=hE.bl B2
 replace B3:=hE.bl B3
 have hs_w2:=hE.size
 clear hE
 try clear c_B2 f_B2 l_B2
 obtain ⟨c_B2,f_B2,l_B2⟩:=blk3 B2.out
 try clear c_B3 f_B3 l_B3
 obtain ⟨c_B3,f_B3,l_B3⟩:=blk3 B3.out
 go_wp2_with fail
 refine Calls.mono (isign2_any x2 (z - y) _ (G2.out.rawk HL.out (by omega))) ?_
 rintro e w3 ⟨x3,rfl,hE,-⟩
 replace HX:=hE.tr HX
 replace HR:=Hi (HR.out.ext hE)
 replace KR:=Hi (KR.out.ext hE)
 replace B2:=hE.bl B2
 replace B3:=hE.bl B3
 replace G2:=Hi (G2.out.ext hE)
 have hs_w3:=hE.size
 clear hE
 try clear c_B2 f_B2 l_B2
 obtain ⟨c_B2,f_B2,l_B2⟩:=blk3 B2.out
 try clear c_B3 f_B3 l_B3
 obtain ⟨c_B3,f_B3,l_B3⟩:=blk3 B3.out
 rw [HV.out]
 go_wp2
 go_ret
 exact ⟨(),rfl,HX.out,trivial⟩
theorem cmp_parts {z e z' e':Int} {q r:Rat} (h0:0 < e) (k0:0 < e') (h:(z:Rat) / (e:Rat)=q) (k:(z':Rat) / (e':Rat)=r):cmpI (z * e') (z' * e)=cmpR q r:=by
 have f:∀ (a b:Int),0 < b→(a:Rat) / (b:Rat)=mkRat a b.natAbs:=fun a b hb=>by
  rw [Rat.mkRat_eq_div]
  congr 1
  rw [← Rat.intCast_natCast,Int.natAbs_of_nonneg (by omega)]
 rw [← h,← k,f z e h0,f z' e' k0,cmpR_mk (by omega) (by omega)]
 rw [Int.natAbs_of_nonneg (by omega),Int.natAbs_of_nonneg (by omega)]
theorem big_mul {a b:Int} (h:Big a) (k:Big b):(a * b).natAbs < W32 ^ (BigK+BigK):=by
 rw [Int.natAbs_mul]
 exact mul_lt h k
theorem big2_le:BigK+BigK≤1073741823∧BigK+BigK≤1073741824∧1≤BigK+BigK:=by unfold BigK;omega
theorem rcmp3_any (s t:RH) (q r:Rat) (w:World) (h:RawR w s q) (k:RawR w t r):Does 51 [s.v,t.v] w (fun _:Unit=>.int .i64 (cmpR q r)) (fun _ _=>True):=by
 obtain ⟨neg,ao,n,c,bo,m,d⟩:=s
 obtain ⟨neg',ao',n',c',bo',m',d'⟩:=t
 have HR:=Hi h
 have KR:=Hi k
 have HX:=Hi (Ext.refl w)
 clear h k
 unfold Does
 go_enter Tryz.func51,Tryz.ntmps51
 go_wp2_with fail
 refine nm_alloc2 (F:=fun W=>Calls _ _ _ W _) ?_
 intro w1 hE hB0 hB1 hz
 have hz_w1:=nle hz
 have hr_w1:=nle hz.symm
 clear hz
 replace HX:=hE.tr HX
 replace HR:=Hi (HR.out.ext hE)
 replace KR:=Hi (KR.out.ext hE)
 have hs_w1:=hE.size
 clear hE
 have B2:=Hi hB0
 clear hB0
 obtain ⟨c_B2,f_B2,l_B2⟩:=blk3 B2.out
 have B3:=Hi hB1
 clear hB1
 obtain ⟨c_B3,f_B3,l_B3⟩:=blk3 B3.out
 change Calls _ _ _ _ _
 refine Calls.mono (parts_any ⟨neg,ao,n,c,bo,m,d⟩ q _ HR.out) ?_
 rintro e w2 ⟨x2,rfl,hE,g2⟩
 have G2:=Hi g2
 clear g2
 replace HX:=hE.tr HX
 replace HR:=Hi (HR.out.ext hE)
 replace KR:=Hi (KR.out.ext hE)
 replace B2:=hE.bl B2
 replace B3:=hE.bl B3
 have hs_w2:=hE.size
 clear hE
 try clear c_B2 f_B2 l_B2
 obtain ⟨c_B2,f_B2,l_B2⟩:=blk3 B2.out
 try clear c_B3 f_B3 l_B3
 obtain ⟨c_B3,f_B3,l_B3⟩:=blk3 B3.out
 obtain ⟨⟨an,aa,al,ac⟩,⟨bn,ba,bl,bc⟩⟩:=x2
 obtain ⟨z,e,g1,g2,p3,g4,p5,p6⟩:=G2.out.div
 have J1:=Hi g1
 have J2:=Hi g2
 have J4:=Hi g4
 have P3:=Hi p3
 have P5:=Hi p5
 have P6:=Hi p6
 clear g1 g2 g4 p3 p5 p6 G2
 simp only [PP]
 go_upto_region 2 with fail
 refine nm_alloc2 ?_
 intro y3 hE hB0 hB1 hz
 have hz_y3:=nle hz
 have hr_y3:=nle hz.symm
 clear hz
 replace HX:=hE.tr HX
 replace HR:=Hi (HR.out.ext hE)
 replace KR:=Hi (KR.out.ext hE)
 replace B2:=hE.bl B2
 replace B3:=hE.bl B3
 replace J1:=Hi (J1.out.ext hE)
 replace J2:=Hi (J2.out.ext hE)
 have hs_y3:=hE.size
 clear hE
 try clear c_B2 f_B2 l_B2
 obtain ⟨c_B2,f_B2,l_B2⟩:=blk3 B2.out
 try clear c_B3 f_B3 l_B3
 obtain ⟨c_B3,f_B3,l_B3⟩:=blk3 B3.out
 have B5:=Hi hB0
 clear hB0
 obtain ⟨c_B5,f_B5,l_B5⟩:=blk3 B5.out
 have B6:=Hi hB1
 clear hB1
 obtain ⟨c_B6,f_B6,l_B6⟩:=blk3 B6.out
 go_wp2_with fail
 refine Calls.mono (parts_any ⟨neg',ao',n',c',bo',m',d'⟩ r _ KR.out) ?_
 rintro e w4 ⟨x4,rfl,hE,g4⟩
 have G4:=Hi g4
 clear g4
 replace HX:=hE.tr HX
 replace HR:=Hi (HR.out.ext hE)
 replace KR:=Hi (KR.out.ext hE)
 replace B2:=hE.bl B2
 replace B3:=hE.bl B3
 replace J1:=Hi (J1.out.ext hE)
 replace J2:=Hi (J2.out.ext hE)
 replace B5:=hE.bl B5
 replace B6:=hE.bl B6
 have hs_w4:=hE.size
 clear hE
 try clear c_B2 f_B2 l_B2
 obtain ⟨c_B2,f_B2,l_B2⟩:=blk3 B2.out
 try clear c_B3 f_B3 l_B3
 obtain ⟨c_B3,f_B3,l_B3⟩:=blk3 B3.out
 try clear c_B5 f_B5 l_B5
 obtain ⟨c_B5,f_B5,l_B5⟩:=blk3 B5.out
 try clear c_B6 f_B6 l_B6
 obtain ⟨c_B6,f_B6,l_B6⟩:=blk3 B6.out
 obtain ⟨⟨an',aa',al',ac'⟩,⟨bn',ba',bl',bc'⟩⟩:=x4
 obtain ⟨z',e',g1,g2,p3,g4,p5,p6⟩:=G4.out.div
 have K1:=Hi g1
 have K2:=Hi g2
 have K4:=Hi g4
 have Q3:=Hi p3
 have Q5:=Hi p5
 have Q6:=Hi p6
 clear g1 g2 g4 p3 p5 p6 G4
 simp only [PP]
 go_upto_region 3 with fail
 refine nm_alloc2 ?_
 intro y5 hE hB0 hB1 hz
 have hz_y5:=nle hz
 have hr_y5:=nle hz.symm
 clear hz
 replace HX:=hE.tr HX
 replace HR:=Hi (HR.out.ext hE)
 replace KR:=Hi (KR.out.ext hE)
 replace B2:=hE.bl B2
 replace B3:=hE.bl B3
 replace J1:=Hi (J1.out.ext hE)
 replace J2:=Hi (J2.out.ext hE)
 replace B5:=hE.bl B5
 replace B6:=hE.bl B6
 replace K1:=Hi (K1.out.ext hE)
 replace K2:=Hi (K2.out.ext hE)
 have hs_y5:=hE.size
 clear hE
 try clear c_B2 f_B2 l_B2
 obtain ⟨c_B2,f_B2,l_B2⟩:=blk3 B2.out
 try clear c_B3 f_B3 l_B3
 obtain ⟨c_B3,f_B3,l_B3⟩:=blk3 B3.out
 try clear c_B5 f_B5 l_B5
 obtain ⟨c_B5,f_B5,l_B5⟩:=blk3 B5.out
 try clear c_B6 f_B6 l_B6
 obtain ⟨c_B6,f_B6,l_B6⟩:=blk3 B6.out
 have B7:=Hi hB0
 clear hB0
 obtain ⟨c_B7,f_B7,l_B7⟩:=blk3 B7.out
 have B8:=Hi hB1
 clear hB1
 obtain ⟨c_B8,f_B8,l_B8⟩:=blk3 B8.out
 have HV:=Hi (cmp_parts P3.out Q3.out J4.out K4.out)
 have M1:=Hi (big_mul P5.out Q6.out)
 have M2:=Hi (big_mul Q5.out P6.out)
 clear J4 K4
 refine wp_region_front 7 (fun opIx=>match opIx with
  | 2=>.spec IH default IH.v (fun s w'=>CanI w' s (z * e'))
  | 5=>.spec IH default IH.v (fun s w'=>CanI w' s (z' * e))
  | 6=>.spec Unit () (fun _=>.int .i64 (cmpR q r)) (fun _ _=>True)
  | _=>.quiet) (fun | 6=>[2,5] | _=>[]) (by kernel_rfl) (by kernel_rfl) (fun w0 he0 hz0 hc0 hf0=>?_)
 replace he0:=Hi he0
 simp only [pT]
 repeat (refine wpq fun K h=>?_;go_big_quiet_op;refine h _ ?_;clear h K)
 refine wps he0.out rfl rfl (fun w1 hW hG=>?_) fun x2=>?_
 ·exact spc [IH.v ⟨an,aa,al,ac⟩,IH.v ⟨bn',ba',bl',bc'⟩] Tryz.func103 (imul2_any _ _ _ _ _ (J1.out.ext hW) (K2.out.ext hW))
 simp only [pS]
 repeat (refine wpq fun K h=>?_;go_big_quiet_op;refine h _ ?_;clear h K)
 refine wps he0.out rfl rfl (fun w1 hW hG=>?_) fun x5=>?_
 ·exact spc [IH.v ⟨an',aa',al',ac'⟩,IH.v ⟨bn,ba,bl,bc⟩] Tryz.func103 (imul2_any _ _ _ _ _ (K1.out.ext hW) (J2.out.ext hW))
 simp only [pS]
 repeat (refine wpq fun K h=>?_;go_big_quiet_op;refine h _ ?_;clear h K)
 refine wps he0.out rfl rfl (fun w1 hW hG=>?_) fun x6=>?_
 ·have g2:=(hG 2 (by decide):Since _ _).get fun _ e g=>g.ext e
  have g5:=(hG 5 (by decide):Since _ _).get fun _ e g=>g.ext e
  exact spc [x2.v,x5.v] Tryz.func122 (HV.out ▸ icmp2_any x2 x5 _ _ (BigK+BigK) _ (g2.rawk M1.out big2_le.2.1) (g5.rawk M2.out big2_le.2.1) M1.out M2.out big2_le.1 big2_le.2.2)
 simp only [pS]
 repeat (refine wpq fun K h=>?_;go_big_quiet_op;refine h _ ?_;clear h K)
 refine wpF_nil ?_
 intro w6 hI
 have hE:=he0.out.trans hI.ext
 have G2:=Hi ((hI.facts 2:Since _ _).get fun _ e g=>g.ext e)
 have G5:=Hi ((hI.facts 5:Since _ _).get fun _ e g=>g.ext e)
 clear hI he0 hz0 hc0 hf0
 replace HX:=hE.tr HX
 replace HR:=Hi (HR.out.ext hE)
 replace KR:=Hi (KR.out.ext hE)
 replace B2:=hE.bl B2
 replace B3:=hE.bl B3
 replace J1:=Hi (J1.out.ext hE)
 replace J2:=Hi (J2.out.ext hE)
 replace B5:=hE.bl B5
 replace B6:=hE.bl B6
 replace K1:=Hi (K1.out.ext hE)
 replace K2:=Hi (K2.out.ext hE)
 replace B7:=hE.bl B7
 replace B8:=hE.bl B8
 have hs_w6:=hE.size
 clear hE
 try clear c_B2 f_B2 l_B2
 obtain ⟨c_B2,f_B2,l_B2⟩:=blk3 B2.out
 try clear c_B3 f_B3 l_B3
 obtain ⟨c_B3,f_B3,l_B3⟩:=blk3 B3.out
 try clear c_B5 f_B5 l_B5
 obtain ⟨c_B5,f_B5,l_B5⟩:=blk3 B5.out
 try clear c_B6 f_B6 l_B6
 obtain ⟨c_B6,f_B6,l_B6⟩:=blk3 B6.out
 try clear c_B7 f_B7 l_B7
 obtain ⟨c_B7,f_B7,l_B7⟩:=blk3 B7.out
 try clear c_B8 f_B8 l_B8
 obtain ⟨c_B8,f_B8,l_B8⟩:=blk3 B8.out
 simp only [pD]
 go_wp2
 go_ret
 exact ⟨(),rfl,HX.out,trivial⟩
theorem rless3_any (s t:RH) (q r:Rat) (w:World) (h:RawR w s q) (k:RawR w t r):Does 34 [s.v,t.v] w (fun _:Unit=>.bool (decide (q < r))) (fun _ _=>True):=by
 obtain ⟨neg,ao,n,c,bo,m,d⟩:=s
 obtain ⟨neg',ao',n',c',bo',m',d'⟩:=t
 have HR:=Hi h
 have KR:=Hi k
 have HX:=Hi (Ext.refl w)
 have HV:Hid (decide (cmpR q r < 0)=decide (q < r)):=Hi (by
  unfold cmpR
  by_cases h:q < r
  ·rw [if_pos h,decide_eq_true h];rfl
  ·rw [if_neg h,decide_eq_false h]
   split <;> rfl)
 clear h k
 unfold Does
 go_enter Tryz.func34,Tryz.ntmps34
 go_wp2_with fail
 refine nm_alloc2 (F:=fun W=>Calls _ _ _ W _) ?_
 intro w1 hE hB0 hB1 hz
 have hz_w1:=nle hz
 have hr_w1:=nle hz.symm
 clear hz
 replace HX:=hE.tr HX
 replace HR:=Hi (HR.out.ext hE)
 replace KR:=Hi (KR.out.ext hE)
 have hs_w1:=hE.size
 clear hE
 have B2:=Hi hB0
 clear hB0
 obtain ⟨c_B2,f_B2,l_B2⟩:=blk3 B2.out
 have B3:=Hi hB1
 clear hB1
 obtain ⟨c_B3,f_B3,l_B3⟩:=blk3 B3.out
 change Calls _ _ _ _ _
 refine Calls.mono (rcmp3_any ⟨neg,ao,n,c,bo,m,d⟩ ⟨neg',ao',n',c',bo',m',d'⟩ q r _ HR.out KR.out) ?_
 rintro e w2 ⟨x2,rfl,hE,-⟩
 replace HX:=hE.tr HX
 replace HR:=Hi (HR.out.ext hE)
 replace KR:=Hi (KR.out.ext hE)
 replace B2:=hE.bl B2
 replace B3:=hE.bl B3
 have hs_w2:=hE.size
 clear hE
 try clear c_B2 f_B2 l_B2
 obtain ⟨c_B2,f_B2,l_B2⟩:=blk3 B2.out
 try clear c_B3 f_B3 l_B3
 obtain ⟨c_B3,f_B3,l_B3⟩:=blk3 B3.out
 obtain ⟨v,hv⟩:∃ v,v=cmpR q r:=⟨_,rfl⟩
 rw [← hv] at HV ⊢
 clear hv
 go_wp2
 go_ret
 exact ⟨(),by rw [← HV.out];rfl,HX.out,trivial⟩
theorem RawR.bsz {w:World} {s:RH} {q:Rat} (h:RawR w s q):Sz 134217728 q:=by
 obtain ⟨ds,es,h1,h2,h3,h4,h5⟩:=h
 exact RawR.sz (s:=s) ⟨ds,es,h1,h2,h3,h4,h5⟩ (by decide) h4 h5
theorem CanR.numI {w:World} {neg:Bool} {a b:Option Addr} {n c m d:Nat} {q:Rat} (h:CanR w ⟨neg,a,n,c,b,m,d⟩ q):CanI w ⟨neg,a,n,c⟩ q.num:=⟨h.1,h.2.1⟩
theorem rneg3_any (s:RH) (q:Rat) (w:World) (h:RawR w s q):Does 185 [s.v] w RH.v (fun x w'=>CanR w' x (-q)):=by
 have ZQ:=Hi h.bsz
 obtain ⟨neg,ao,n,c,bo,m,d⟩:=s
 have HR:=Hi h
 have HX:=Hi (Ext.refl w)
 clear h
 unfold Does
 go_enter Tryz.func185,Tryz.ntmps185
 go_wp2_with fail
 refine nm_alloc2 (F:=fun W=>Calls _ _ _ W _) ?_
 intro w1 hE hB0 hB1 hz
 have hz_w1:=nle hz
 have hr_w1:=nle hz.symm
 clear hz
 replace HX:=hE.tr HX
 replace HR:=Hi (HR.out.ext hE)
 have hs_w1:=hE.size
 clear hE
 have B1:=Hi hB0
 clear hB0
 obtain ⟨c_B1,f_B1,l_B1⟩:=blk3 B1.out
 have B2:=Hi hB1
 clear hB1
 obtain ⟨c_B2,f_B2,l_B2⟩:=blk3 B2.out
 change Calls _ _ _ _ _
 refine Calls.mono (rtrim3_any ⟨neg,ao,n,c,bo,m,d⟩ q _ HR.out) ?_
 rintro e w2 ⟨x2,rfl,hE,g2⟩
 have G2:=Hi g2
 clear g2
 replace HX:=hE.tr HX
 replace HR:=Hi (HR.out.ext hE)
 replace B1:=hE.bl B1
 replace B2:=hE.bl B2
 have hs_w2:=hE.size
 clear hE
 try clear c_B1 f_B1 l_B1
 obtain ⟨c_B1,f_B1,l_B1⟩:=blk3 B1.out
 try clear c_B2 f_B2 l_B2
 obtain ⟨c_B2,f_B2,l_B2⟩:=blk3 B2.out
 go_upto_region 2 with fail
 refine nm_set3 B1.out rfl ?_
 intro y3 T
 replace HX:=Hi (T.ext HX.out (by omega))
 replace HR:=Hi (HR.out.keep T.keep)
 replace B1:=Hi (T.bx)
 replace B2:=Hi (T.rest _ _ (by omega) B2.out)
 replace G2:=Hi (G2.out.keep T.keep)
 have hs_y3:=nle T.size
 have hr_y3:=nle T.size.symm
 clear T
 try clear c_B1 f_B1 l_B1
 obtain ⟨c_B1,f_B1,l_B1⟩:=blk3 B1.out
 try clear c_B2 f_B2 l_B2
 obtain ⟨c_B2,f_B2,l_B2⟩:=blk3 B2.out
 obtain ⟨xn,xa,xl,xc,xb,xm,xd⟩:=x2
 go_wp2_with fail
 refine Calls.mono (ineg2_any ⟨xn,xa,xl,xc⟩ q.num _ (G2.out.numI.rawk ZQ.out.1 (by decide))) ?_
 rintro e w4 ⟨x4,rfl,hE,g4⟩
 have G4:=Hi g4
 clear g4
 replace HX:=hE.tr HX
 replace HR:=Hi (HR.out.ext hE)
 replace B1:=hE.bl B1
 replace B2:=hE.bl B2
 replace G2:=Hi (G2.out.ext hE)
 have hs_w4:=hE.size
 clear hE
 try clear c_B1 f_B1 l_B1
 obtain ⟨c_B1,f_B1,l_B1⟩:=blk3 B1.out
 try clear c_B2 f_B2 l_B2
 obtain ⟨c_B2,f_B2,l_B2⟩:=blk3 B2.out
 obtain ⟨yn,ya,yl,yc⟩:=x4
 go_upto_region 3 with fail
 refine nm_set2 B1.out rfl ?_
 intro y5 T
 replace HX:=Hi (T.ext HX.out (by omega))
 replace HR:=Hi (HR.out.keep T.keep)
 replace B1:=Hi (T.bx)
 replace B2:=Hi (T.rest _ _ (by omega) B2.out)
 replace G2:=Hi (G2.out.keep T.keep)
 replace G4:=Hi (G4.out.keep T.keep)
 have hs_y5:=nle T.size
 have hr_y5:=nle T.size.symm
 clear T
 try clear c_B1 f_B1 l_B1
 obtain ⟨c_B1,f_B1,l_B1⟩:=blk3 B1.out
 try clear c_B2 f_B2 l_B2
 obtain ⟨c_B2,f_B2,l_B2⟩:=blk3 B2.out
 go_wp2
 have hF:=((((Fin.start (L:=w.heap.size+1) HX.out (noU_block B2.out rfl)).set (by omega) (i:=0) (v:=.bool (⟨yn,ya,yl,yc,xb,xm,xd⟩:RH).neg) rfl).set (by omega) (i:=1) (v:=.slice (⟨yn,ya,yl,yc,xb,xm,xd⟩:RH).a (⟨yn,ya,yl,yc,xb,xm,xd⟩:RH).n (⟨yn,ya,yl,yc,xb,xm,xd⟩:RH).c) rfl).set (by omega) (i:=2) (v:=.slice (⟨yn,ya,yl,yc,xb,xm,xd⟩:RH).b (⟨yn,ya,yl,yc,xb,xm,xd⟩:RH).m (⟨yn,ya,yl,yc,xb,xm,xd⟩:RH).d) rfl)
 exact bodyPost_ret (v:=(⟨yn,ya,yl,yc,xb,xm,xd⟩:RH).v) (by simp [results,Tryz.results185,go_sem,blk_cell B2.out]) rfl ⟨(⟨yn,ya,yl,yc,xb,xm,xd⟩:RH),rfl,hF.ext,(CanR.keep (s:=⟨yn,ya,yl,yc,xb,xm,xd⟩) ⟨by rw [Rat.neg_num];exact G4.out.1,by rw [Rat.neg_num];exact G4.out.2,by rw [Rat.neg_den];exact G2.out.2.2⟩ hF.keep)⟩
theorem rsub3_any (s t:RH) (q r:Rat) (w:World) (h:RawR w s q) (k:RawR w t r):Does 108 [s.v,t.v] w RH.v (fun s w'=>CanR w' s (q - r)):=by
 have ZR:=Hi k.bsz
 obtain ⟨neg,ao,n,c,bo,m,d⟩:=s
 obtain ⟨neg',ao',n',c',bo',m',d'⟩:=t
 have HR:=Hi h
 have KR:=Hi k
 have HX:=Hi (Ext.refl w)
 have HV:Hid (q - r=q+-r):=Hi (Rat.sub_eq_add_neg _ _)
 clear h k
 unfold Does
 go_enter Tryz.func108,Tryz.ntmps108
 go_upto_region 1 with fail
 refine nm_alloc3 ?_
 intro w1 hE hB0 hB1 hB2 hz
 have hz_w1:=nle hz
 have hr_w1:=nle hz.symm
 clear hz
 replace HX:=hE.tr HX
 replace HR:=Hi (HR.out.ext hE)
 replace KR:=Hi (KR.out.ext hE)
 have hs_w1:=hE.size
 clear hE
 have B2:=Hi hB0
 clear hB0
 obtain ⟨c_B2,f_B2,l_B2⟩:=blk3 B2.out
 have B3:=Hi hB1
 clear hB1
 obtain ⟨c_B3,f_B3,l_B3⟩:=blk3 B3.out
 have B4:=Hi hB2
 clear hB2
 obtain ⟨c_B4,f_B4,l_B4⟩:=blk3 B4.out
 refine wp_region_front 4 (fun opIx=>match opIx with
  | 2=>.spec RH default RH.v (fun s w'=>CanR w' s (-r))
  | 3=>.spec RH default RH.v (fun s w'=>CanR w' s (q+-r))
  | _=>.quiet) (fun | 3=>[2] | _=>[]) (by kernel_rfl) (by kernel_rfl) (fun w0 he0 hz0 hc0 hf0=>?_)
 replace he0:=Hi he0
 simp only [pT]
 repeat (refine wpq fun K h=>?_;go_big_quiet_op;refine h _ ?_;clear h K)
 refine wps he0.out rfl rfl (fun w1 hW hG=>?_) fun x2=>?_
 ·exact spc [RH.v ⟨neg',ao',n',c',bo',m',d'⟩] Tryz.func185 (rneg3_any ⟨neg',ao',n',c',bo',m',d'⟩ r _ (KR.out.ext hW))
 simp only [pS]
 repeat (refine wpq fun K h=>?_;go_big_quiet_op;refine h _ ?_;clear h K)
 refine wps he0.out rfl rfl (fun w1 hW hG=>?_) fun x3=>?_
 ·have g2:=(hG 2 (by decide):Since _ _).get fun _ e g=>g.ext e
  exact spc [RH.v ⟨neg,ao,n,c,bo,m,d⟩,x2.v] Tryz.func30 (radd3_any ⟨neg,ao,n,c,bo,m,d⟩ x2 q (-r) _ (HR.out.ext hW) (g2.raw ZR.out.neg (by decide)))
 simp only [pS]
 repeat (refine wpq fun K h=>?_;go_big_quiet_op;refine h _ ?_;clear h K)
 refine wpF_nil ?_
 intro w2 hI
 have hE:=he0.out.trans hI.ext
 have G2:=Hi ((hI.facts 2:Since _ _).get fun _ e g=>g.ext e)
 have G3:=Hi ((hI.facts 3:Since _ _).get fun _ e g=>g.ext e)
 clear hI he0 hz0 hc0 hf0
 replace HX:=hE.tr HX
 replace HR:=Hi (HR.out.ext hE)
 replace KR:=Hi (KR.out.ext hE)
 replace B2:=hE.bl B2
 replace B3:=hE.bl B3
 replace B4:=hE.bl B4
 have hs_w2:=hE.size
 clear hE
 try clear c_B2 f_B2 l_B2
 obtain ⟨c_B2,f_B2,l_B2⟩:=blk3 B2.out
 try clear c_B3 f_B3 l_B3
 obtain ⟨c_B3,f_B3,l_B3⟩:=blk3 B3.out
 try clear c_B4 f_B4 l_B4
 obtain ⟨c_B4,f_B4,l_B4⟩:=blk3 B4.out
 simp only [pD]
 rw [← HV.out] at G3
 go_wp2
 have hF:=((((Fin.start (L:=w.heap.size+2) HX.out (noU_block B4.out rfl)).set (by omega) (i:=0) (v:=.bool x3.neg) rfl).set (by omega) (i:=1) (v:=.slice x3.a x3.n x3.c) rfl).set (by omega) (i:=2) (v:=.slice x3.b x3.m x3.d) rfl)
 exact bodyPost_ret (v:=x3.v) (by simp [results,Tryz.results108,go_sem,blk_cell B4.out]) rfl ⟨x3,rfl,hF.ext,G3.out.keep hF.keep⟩
theorem div_parts {z e z' e':Int} {q r:Rat} (h:(z:Rat) / (e:Rat)=q) (k:(z':Rat) / (e':Rat)=r):((z * e':Int):Rat) / ((e * z':Int):Rat)=q / r:=by
 subst h k
 rw [Rat.intCast_mul,Rat.intCast_mul,Rat.div_def,Rat.div_def,Rat.div_def,Rat.div_def,inv_mul',inv_mul',Rat.inv_inv]
 grind
theorem num_zero {z e:Int} {q:Rat} (he:0 < e) (h:(z:Rat) / (e:Rat)=q):z=0↔q=0:=by
 subst h
 constructor
 ·rintro rfl
  rw [Rat.div_def]
  show (0:Rat) * _=0
  grind
 ·intro h
  rw [Rat.div_def] at h
  rcases Rat.mul_eq_zero.1 h with h1 | h1
  ·exact Rat.intCast_eq_zero_iff.1 h1
  ·have a1:(e:Rat) ≠ 0:=by intro h0;have:=Rat.intCast_eq_zero_iff.1 h0;omega
   have:=Rat.mul_inv_cancel _ a1
   rw [h1] at this
   grind
def divE (r:Rat):Int:=if r=0 then 3 else 0
theorem divE_zero {r:Rat} (h:r=0):divE r=3:=if_pos h
theorem divE_ne {r:Rat} (h:r ≠ 0):divE r=0:=if_neg h
def DivP (q r:Rat) (x:RH) (w':World):Prop:=r ≠ 0→CanR w' x (q / r)
abbrev DV (s:RH) (e:Int):Value:=.tuple #[s.v,.int .i64 e]
theorem rdiv3_any (s t:RH) (q r:Rat) (w:World) (h:RawR w s q) (k:RawR w t r):Does 83 [s.v,t.v] w (fun x:RH=>DV x (divE r)) (DivP q r):=by
 obtain ⟨neg,ao,n,c,bo,m,d⟩:=s
 obtain ⟨neg',ao',n',c',bo',m',d'⟩:=t
 have HR:=Hi h
 have KR:=Hi k
 have HX:=Hi (Ext.refl w)
 clear h k
 unfold Does
 go_enter Tryz.func83,Tryz.ntmps83
 go_wp2_with fail
 refine nm_alloc3 (F:=fun W=>Calls _ _ _ W _) ?_
 intro w1 hE hB0 hB1 hB2 hz
 have hz_w1:=nle hz
 have hr_w1:=nle hz.symm
 clear hz
 replace HX:=hE.tr HX
 replace HR:=Hi (HR.out.ext hE)
 replace KR:=Hi (KR.out.ext hE)
 have hs_w1:=hE.size
 clear hE
 have B2:=Hi hB0
 clear hB0
 obtain ⟨c_B2,f_B2,l_B2⟩:=blk3 B2.out
 have B3:=Hi hB1
 clear hB1
 obtain ⟨c_B3,f_B3,l_B3⟩:=blk3 B3.out
 have B4:=Hi hB2
 clear hB2
 obtain ⟨c_B4,f_B4,l_B4⟩:=blk3 B4.out
 change Calls _ _ _ _ _
 refine Calls.mono (parts_any ⟨neg,ao,n,c,bo,m,d⟩ q _ HR.out) ?_
 rintro e w2 ⟨x2,rfl,hE,g2⟩
 have G2:=Hi g2
 clear g2
 replace HX:=hE.tr HX
 replace HR:=Hi (HR.out.ext hE)
 replace KR:=Hi (KR.out.ext hE)
 replace B2:=hE.bl B2
 replace B3:=hE.bl B3
 replace B4:=hE.bl B4
 have hs_w2:=hE.size
 clear hE
 try clear c_B2 f_B2 l_B2
 obtain ⟨c_B2,f_B2,l_B2⟩:=blk3 B2.out
 try clear c_B3 f_B3 l_B3
 obtain ⟨c_B3,f_B3,l_B3⟩:=blk3 B3.out
 try clear c_B4 f_B4 l_B4
 obtain ⟨c_B4,f_B4,l_B4⟩:=blk3 B4.out
 obtain ⟨⟨an,aa,al,ac⟩,⟨bn,ba,bl,bc⟩⟩:=x2
 obtain ⟨z,e,g1,g2,p3,g4,p5,p6⟩:=G2.out.div
 have J1:=Hi g1
 have J2:=Hi g2
 have J4:=Hi g4
 have P5:=Hi p5
 have P6:=Hi p6
 clear g1 g2 g4 p3 p5 p6 G2
 simp only [PP]
 go_upto_region 2 with fail
 refine nm_alloc2 ?_
 intro y3 hE hB0 hB1 hz
 have hz_y3:=nle hz
 have hr_y3:=nle hz.symm
 clear hz
 replace HX:=hE.tr HX
 replace HR:=Hi (HR.out.ext hE)
 replace KR:=Hi (KR.out.ext hE)
 replace B2:=hE.bl B2
 replace B3:=hE.bl B3
 replace B4:=hE.bl B4
 replace J1:=Hi (J1.out.ext hE)
 replace J2:=Hi (J2.out.ext hE)
 have hs_y3:=hE.size
 clear hE
 try clear c_B2 f_B2 l_B2
 obtain ⟨c_B2,f_B2,l_B2⟩:=blk3 B2.out
 try clear c_B3 f_B3 l_B3
 obtain ⟨c_B3,f_B3,l_B3⟩:=blk3 B3.out
 try clear c_B4 f_B4 l_B4
 obtain ⟨c_B4,f_B4,l_B4⟩:=blk3 B4.out
 have B6:=Hi hB0
 clear hB0
 obtain ⟨c_B6,f_B6,l_B6⟩:=blk3 B6.out
 have B7:=Hi hB1
 clear hB1
 obtain ⟨c_B7,f_B7,l_B7⟩:=blk3 B7.out
 go_wp2_with fail
 refine Calls.mono (parts_any ⟨neg',ao',n',c',bo',m',d'⟩ r _ KR.out) ?_
 rintro e w4 ⟨x4,rfl,hE,g4⟩
 have G4:=Hi g4
 clear g4
 replace HX:=hE.tr HX
 replace HR:=Hi (HR.out.ext hE)
 replace KR:=Hi (KR.out.ext hE)
 replace B2:=hE.bl B2
 replace B3:=hE.bl B3
 replace B4:=hE.bl B4
 replace J1:=Hi (J1.out.ext hE)
 replace J2:=Hi (J2.out.ext hE)
 replace B6:=hE.bl B6
 replace B7:=hE.bl B7
 have hs_w4:=hE.size
 clear hE
 try clear c_B2 f_B2 l_B2
 obtain ⟨c_B2,f_B2,l_B2⟩:=blk3 B2.out
 try clear c_B3 f_B3 l_B3
 obtain ⟨c_B3,f_B3,l_B3⟩:=blk3 B3.out
 try clear c_B4 f_B4 l_B4
 obtain ⟨c_B4,f_B4,l_B4⟩:=blk3 B4.out
 try clear c_B6 f_B6 l_B6
 obtain ⟨c_B6,f_B6,l_B6⟩:=blk3 B6.out
 try clear c_B7 f_B7 l_B7
 obtain ⟨c_B7,f_B7,l_B7⟩:=blk3 B7.out
 obtain ⟨⟨an',aa',al',ac'⟩,⟨bn',ba',bl',bc'⟩⟩:=x4
 obtain ⟨z',e',g1,g2,p3,g4,p5,p6⟩:=G4.out.div
 have K1:=Hi g1
 have K2:=Hi g2
 have K4:=Hi g4
 have KN:=Hi (num_zero p3 g4)
 have Q5:=Hi p5
 have Q6:=Hi p6
 clear g1 g2 g4 p3 p5 p6 G4
 simp only [PP]
 go_upto_region 3 with fail
 refine nm_alloc2 ?_
 intro y5 hE hB0 hB1 hz
 have hz_y5:=nle hz
 have hr_y5:=nle hz.symm
 clear hz
 replace HX:=hE.tr HX
 replace HR:=Hi (HR.out.ext hE)
 replace KR:=Hi (KR.out.ext hE)
 replace B2:=hE.bl B2
 replace B3:=hE.bl B3
 replace B4:=hE.bl B4
 replace J1:=Hi (J1.out.ext hE)
 replace J2:=Hi (J2.out.ext hE)
 replace B6:=hE.bl B6
 replace B7:=hE.bl B7
 replace K1:=Hi (K1.out.ext hE)
 replace K2:=Hi (K2.out.ext hE)
 have hs_y5:=hE.size
 clear hE
 try clear c_B2 f_B2 l_B2
 obtain ⟨c_B2,f_B2,l_B2⟩:=blk3 B2.out
 try clear c_B3 f_B3 l_B3
 obtain ⟨c_B3,f_B3,l_B3⟩:=blk3 B3.out
 try clear c_B4 f_B4 l_B4
 obtain ⟨c_B4,f_B4,l_B4⟩:=blk3 B4.out
 try clear c_B6 f_B6 l_B6
 obtain ⟨c_B6,f_B6,l_B6⟩:=blk3 B6.out
 try clear c_B7 f_B7 l_B7
 obtain ⟨c_B7,f_B7,l_B7⟩:=blk3 B7.out
 have B8:=Hi hB0
 clear hB0
 obtain ⟨c_B8,f_B8,l_B8⟩:=blk3 B8.out
 have B9:=Hi hB1
 clear hB1
 obtain ⟨c_B9,f_B9,l_B9⟩:=blk3 B9.out
 have HV:=Hi (div_parts J4.out K4.out)
 have M1:=Hi (big_mul P5.out Q6.out)
 have M2:=Hi (big_mul P6.out Q5.out)
 clear J4 K4
 go_wp2_with fail
 refine Calls.mono (isign2_any ⟨an',aa',al',ac'⟩ z' _ K1.out) ?_
 rintro e w6 ⟨x6,rfl,hE,-⟩
 replace HX:=hE.tr HX
 replace HR:=Hi (HR.out.ext hE)
 replace KR:=Hi (KR.out.ext hE)
 replace B2:=hE.bl B2
 replace B3:=hE.bl B3
 replace B4:=hE.bl B4
 replace J1:=Hi (J1.out.ext hE)
 replace J2:=Hi (J2.out.ext hE)
 replace B6:=hE.bl B6
 replace B7:=hE.bl B7
 replace K1:=Hi (K1.out.ext hE)
 replace K2:=Hi (K2.out.ext hE)
 replace B8:=hE.bl B8
 replace B9:=hE.bl B9
 have hs_w6:=hE.size
 clear hE
 try clear c_B2 f_B2 l_B2
 obtain ⟨c_B2,f_B2,l_B2⟩:=blk3 B2.out
 try clear c_B3 f_B3 l_B3
 obtain ⟨c_B3,f_B3,l_B3⟩:=blk3 B3.out
 try clear c_B4 f_B4 l_B4
 obtain ⟨c_B4,f_B4,l_B4⟩:=blk3 B4.out
 try clear c_B6 f_B6 l_B6
 obtain ⟨c_B6,f_B6,l_B6⟩:=blk3 B6.out
 try clear c_B7 f_B7 l_B7
 obtain ⟨c_B7,f_B7,l_B7⟩:=blk3 B7.out
 try clear c_B8 f_B8 l_B8
 obtain ⟨c_B8,f_B8,l_B8⟩:=blk3 B8.out
 try clear c_B9 f_B9 l_B9
 obtain ⟨c_B9,f_B9,l_B9⟩:=blk3 B9.out
 by_cases hz:z'=0
 case pos =>
  have hr:r=0:=KN.out.1 hz
  subst hz
  have HRz:=Hi hr
  rw [cmpI_eq rfl]
  have HZe:Hid (Ending.returned (DV ⟨false,none,0,0,none,0,0⟩ 3)=Ending.returned (DV ⟨false,none,0,0,none,0,0⟩ (divE r))):=Hi (by rw [divE_zero HRz.out])
  clear hr M1 M2 HV P5 P6 Q5 Q6 KN
  go_wp2
  have hF:=(((Fin.start (L:=w.heap.size+2) HX.out (noU_block B4.out rfl)).set (by omega) (i:=0) (v:=.bool false) rfl).set (by omega) (i:=1) (v:=.slice none 0 0) rfl).set (by omega) (i:=2) (v:=.slice none 0 0) rfl
  exact bodyPost_ret (v:=DV ⟨false,none,0,0,none,0,0⟩ 3) (by simp [results,Tryz.results83,go_sem,blk_cell B4.out,DV]) rfl ⟨⟨false,none,0,0,none,0,0⟩,HZe.out,hF.ext,fun h=>(h HRz.out).elim⟩
 have HRz:Hid (r ≠ 0):=Hi (fun h=>hz (KN.out.2 h))
 have hcz:cmpI z' 0=-1 ∨ cmpI z' 0=1:=by
  rcases Int.lt_or_gt_of_ne hz with h | h
  ·exact Or.inl (cmpI_lt h)
  ·exact Or.inr (cmpI_gt h)
 obtain ⟨v,hv⟩:∃ v,v=cmpI z' 0:=⟨_,rfl⟩
 rw [← hv] at hcz ⊢
 have hvb:(v == 0)=false:=by rw [beq_eq_false_iff_ne];omega
 clear hv hcz hz KN
 have HZe:∀ x:RH,Ending.returned (DV x 0)=Ending.returned (DV x (divE r)):=fun x=>by rw [divE_ne HRz.out]
 go_upto_region 5 with fail
 refine wp_region_front 7 (fun opIx=>match opIx with
  | 2=>.spec IH default IH.v (fun s w'=>CanI w' s (z * e'))
  | 5=>.spec IH default IH.v (fun s w'=>CanI w' s (e * z'))
  | 6=>.spec RH default RH.v (fun s w'=>CanR w' s (q / r))
  | _=>.quiet) (fun | 6=>[2,5] | _=>[]) (by kernel_rfl) (by kernel_rfl) (fun w0 he0 hz0 hc0 hf0=>?_)
 replace he0:=Hi he0
 simp only [pT]
 repeat (refine wpq fun K h=>?_;go_big_quiet_op;refine h _ ?_;clear h K)
 refine wps he0.out rfl rfl (fun w1 hW hG=>?_) fun x2=>?_
 ·exact spc [IH.v ⟨an,aa,al,ac⟩,IH.v ⟨bn',ba',bl',bc'⟩] Tryz.func103 (imul2_any _ _ _ _ _ (J1.out.ext hW) (K2.out.ext hW))
 simp only [pS]
 repeat (refine wpq fun K h=>?_;go_big_quiet_op;refine h _ ?_;clear h K)
 refine wps he0.out rfl rfl (fun w1 hW hG=>?_) fun x5=>?_
 ·exact spc [IH.v ⟨bn,ba,bl,bc⟩,IH.v ⟨an',aa',al',ac'⟩] Tryz.func103 (imul2_any _ _ _ _ _ (J2.out.ext hW) (K1.out.ext hW))
 simp only [pS]
 repeat (refine wpq fun K h=>?_;go_big_quiet_op;refine h _ ?_;clear h K)
 refine wps he0.out rfl rfl (fun w1 hW hG=>?_) fun x6=>?_
 ·have g2:=(hG 2 (by decide):Since _ _).get fun _ e g=>g.ext e
  have g5:=(hG 5 (by decide):Since _ _).get fun _ e g=>g.ext e
  exact spc [x2.v,x5.v] Tryz.func101 (HV.out ▸ reduce_any x2 x5 _ _ _ (g2.rawk M1.out big2_le.2.1) (g5.rawk M2.out big2_le.2.1))
 simp only [pS]
 repeat (refine wpq fun K h=>?_;go_big_quiet_op;refine h _ ?_;clear h K)
 refine wpF_nil ?_
 intro w7 hI
 have hE:=he0.out.trans hI.ext
 have G2:=Hi ((hI.facts 2:Since _ _).get fun _ e g=>g.ext e)
 have G5:=Hi ((hI.facts 5:Since _ _).get fun _ e g=>g.ext e)
 have G6:=Hi ((hI.facts 6:Since _ _).get fun _ e g=>g.ext e)
 clear hI he0 hz0 hc0 hf0
 replace HX:=hE.tr HX
 replace HR:=Hi (HR.out.ext hE)
 replace KR:=Hi (KR.out.ext hE)
 replace B2:=hE.bl B2
 replace B3:=hE.bl B3
 replace B4:=hE.bl B4
 replace J1:=Hi (J1.out.ext hE)
 replace J2:=Hi (J2.out.ext hE)
 replace B6:=hE.bl B6
 replace B7:=hE.bl B7
 replace K1:=Hi (K1.out.ext hE)
 replace K2:=Hi (K2.out.ext hE)
 replace B8:=hE.bl B8
 replace B9:=hE.bl B9
 have hs_w7:=hE.size
 clear hE
 try clear c_B2 f_B2 l_B2
 obtain ⟨c_B2,f_B2,l_B2⟩:=blk3 B2.out
 try clear c_B3 f_B3 l_B3
 obtain ⟨c_B3,f_B3,l_B3⟩:=blk3 B3.out
 try clear c_B4 f_B4 l_B4
 obtain ⟨c_B4,f_B4,l_B4⟩:=blk3 B4.out
 try clear c_B6 f_B6 l_B6
 obtain ⟨c_B6,f_B6,l_B6⟩:=blk3 B6.out
 try clear c_B7 f_B7 l_B7
 obtain ⟨c_B7,f_B7,l_B7⟩:=blk3 B7.out
 try clear c_B8 f_B8 l_B8
 obtain ⟨c_B8,f_B8,l_B8⟩:=blk3 B8.out
 try clear c_B9 f_B9 l_B9
 obtain ⟨c_B9,f_B9,l_B9⟩:=blk3 B9.out
 simp only [pD]
 go_wp2
 have hF:=(((Fin.start (L:=w.heap.size+2) HX.out (noU_block B4.out rfl)).set (by omega) (i:=0) (v:=.bool x6.neg) rfl).set (by omega) (i:=1) (v:=.slice x6.a x6.n x6.c) rfl).set (by omega) (i:=2) (v:=.slice x6.b x6.m x6.d) rfl
 exact bodyPost_ret (v:=DV x6 0) (by simp [results,Tryz.results83,go_sem,blk_cell B4.out,DV]) rfl ⟨x6,HZe x6,hF.ext,fun _=>G6.out.keep hF.keep⟩
theorem rover3_any (s t:RH) (q r:Rat) (w:World) (h:RawR w s q) (k:RawR w t r):Does 118 [s.v,t.v] w RH.v (fun x w'=>CanR w' x (q / r)):=by
 obtain ⟨neg,ao,n,c,bo,m,d⟩:=s
 obtain ⟨neg',ao',n',c',bo',m',d'⟩:=t
 have HR:=Hi h
 have KR:=Hi k
 have HX:=Hi (Ext.refl w)
 clear h k
 unfold Does
 go_enter Tryz.func118,Tryz.ntmps118
 go_wp2_with fail
 refine nm_alloc3 (F:=fun W=>Calls _ _ _ W _) ?_
 intro w1 hE hB0 hB1 hB2 hz
 have hz_w1:=nle hz
 have hr_w1:=nle hz.symm
 clear hz
 replace HX:=hE.tr HX
 replace HR:=Hi (HR.out.ext hE)
 replace KR:=Hi (KR.out.ext hE)
 have hs_w1:=hE.size
 clear hE
 have B2:=Hi hB0
 clear hB0
 obtain ⟨c_B2,f_B2,l_B2⟩:=blk3 B2.out
 have B3:=Hi hB1
 clear hB1
 obtain ⟨c_B3,f_B3,l_B3⟩:=blk3 B3.out
 have B4:=Hi hB2
 clear hB2
 obtain ⟨c_B4,f_B4,l_B4⟩:=blk3 B4.out
 change Calls _ _ _ _ _
 refine Calls.mono (rdiv3_any ⟨neg,ao,n,c,bo,m,d⟩ ⟨neg',ao',n',c',bo',m',d'⟩ q r _ HR.out KR.out) ?_
 rintro e w2 ⟨x2,rfl,hE,g2⟩
 have G2:=Hi g2
 clear g2
 replace HX:=hE.tr HX
 replace HR:=Hi (HR.out.ext hE)
 replace KR:=Hi (KR.out.ext hE)
 replace B2:=hE.bl B2
 replace B3:=hE.bl B3
 replace B4:=hE.bl B4
 have hs_w2:=hE.size
 clear hE
 try clear c_B2 f_B2 l_B2
 obtain ⟨c_B2,f_B2,l_B2⟩:=blk3 B2.out
 try clear c_B3 f_B3 l_B3
 obtain ⟨c_B3,f_B3,l_B3⟩:=blk3 B3.out
 try clear c_B4 f_B4 l_B4
 obtain ⟨c_B4,f_B4,l_B4⟩:=blk3 B4.out
 simp only [DV]
 by_cases hr:r=0
 case pos =>
  have HV:Hid (q / r=((0:Int):Rat)):=Hi (by rw [hr,Rat.div_def,Rat.inv_zero];show q * 0=0;grind)
  rw [divE_zero hr]
  clear hr G2
  go_upto_region 2 with fail
  refine nm_alloc ?_
  intro y3 hE hB0 hz
  have hz_y3:=nle hz
  have hr_y3:=nle hz.symm
  clear hz
  replace HX:=hE.tr HX
  replace HR:=Hi (HR.out.ext hE)
  replace KR:=Hi (KR.out.ext hE)
  replace B2:=hE.bl B2
  replace B3:=hE.bl B3
  replace B4:=hE.bl B4
  have hs_y3:=hE.size
  clear hE
  try clear c_B2 f_B2 l_B2
  obtain ⟨c_B2,f_B2,l_B2⟩:=blk3 B2.out
  try clear c_B3 f_B3 l_B3
  obtain ⟨c_B3,f_B3,l_B3⟩:=blk3 B3.out
  try clear c_B4 f_B4 l_B4
  obtain ⟨c_B4,f_B4,l_B4⟩:=blk3 B4.out
  have B5:=Hi hB0
  clear hB0
  obtain ⟨c_B5,f_B5,l_B5⟩:=blk3 B5.out
  go_wp2_with fail
  refine Calls.mono (rof3_any 0 _ (by decide) (by decide)) ?_
  rintro e w4 ⟨x4,rfl,hE,g4⟩
  have G4:=Hi g4
  clear g4
  replace HX:=hE.tr HX
  replace HR:=Hi (HR.out.ext hE)
  replace KR:=Hi (KR.out.ext hE)
  replace B2:=hE.bl B2
  replace B3:=hE.bl B3
  replace B4:=hE.bl B4
  replace B5:=hE.bl B5
  have hs_w4:=hE.size
  clear hE
  try clear c_B2 f_B2 l_B2
  obtain ⟨c_B2,f_B2,l_B2⟩:=blk3 B2.out
  try clear c_B3 f_B3 l_B3
  obtain ⟨c_B3,f_B3,l_B3⟩:=blk3 B3.out
  try clear c_B4 f_B4 l_B4
  obtain ⟨c_B4,f_B4,l_B4⟩:=blk3 B4.out
  try clear c_B5 f_B5 l_B5
  obtain ⟨c_B5,f_B5,l_B5⟩:=blk3 B5.out
  go_wp2
  have hF:=((((Fin.start (L:=w.heap.size+2) HX.out (noU_block B4.out rfl)).set (by omega) (i:=0) (v:=.bool x4.neg) rfl).set (by omega) (i:=1) (v:=.slice x4.a x4.n x4.c) rfl).set (by omega) (i:=2) (v:=.slice x4.b x4.m x4.d) rfl)
  exact bodyPost_ret (v:=x4.v) (by simp [results,Tryz.results118,go_sem,blk_cell B4.out]) rfl ⟨x4,rfl,hF.ext,(by rw [HV.out];exact G4.out.keep hF.keep)⟩
 rw [divE_ne hr]
 have GC:=Hi (G2.out hr)
 clear hr G2
 obtain ⟨xn,xa,xl,xc,xb,xm,xd⟩:=x2
 go_upto_region 2 with fail
 refine nm_alloc ?_
 intro y3 hE hB0 hz
 have hz_y3:=nle hz
 have hr_y3:=nle hz.symm
 clear hz
 replace HX:=hE.tr HX
 replace HR:=Hi (HR.out.ext hE)
 replace KR:=Hi (KR.out.ext hE)
 replace B2:=hE.bl B2
 replace B3:=hE.bl B3
 replace B4:=hE.bl B4
 replace GC:=Hi (GC.out.ext hE)
 have hs_y3:=hE.size
 clear hE
 try clear c_B2 f_B2 l_B2
 obtain ⟨c_B2,f_B2,l_B2⟩:=blk3 B2.out
 try clear c_B3 f_B3 l_B3
 obtain ⟨c_B3,f_B3,l_B3⟩:=blk3 B3.out
 try clear c_B4 f_B4 l_B4
 obtain ⟨c_B4,f_B4,l_B4⟩:=blk3 B4.out
 have B5:=Hi hB0
 clear hB0
 obtain ⟨c_B5,f_B5,l_B5⟩:=blk3 B5.out
 go_wp2
 have hF:=((((Fin.start (L:=w.heap.size+2) HX.out (noU_block B4.out rfl)).set (by omega) (i:=0) (v:=.bool (⟨xn,xa,xl,xc,xb,xm,xd⟩:RH).neg) rfl).set (by omega) (i:=1) (v:=.slice (⟨xn,xa,xl,xc,xb,xm,xd⟩:RH).a (⟨xn,xa,xl,xc,xb,xm,xd⟩:RH).n (⟨xn,xa,xl,xc,xb,xm,xd⟩:RH).c) rfl).set (by omega) (i:=2) (v:=.slice (⟨xn,xa,xl,xc,xb,xm,xd⟩:RH).b (⟨xn,xa,xl,xc,xb,xm,xd⟩:RH).m (⟨xn,xa,xl,xc,xb,xm,xd⟩:RH).d) rfl)
 exact bodyPost_ret (v:=(⟨xn,xa,xl,xc,xb,xm,xd⟩:RH).v) (by simp [results,Tryz.results118,go_sem,blk_cell B4.out]) rfl ⟨(⟨xn,xa,xl,xc,xb,xm,xd⟩:RH),rfl,hF.ext,(CanR.keep (s:=⟨xn,xa,xl,xc,xb,xm,xd⟩) GC.out hF.keep)⟩
end Go.Proofs.YtpieblkklbilgaaGreat
