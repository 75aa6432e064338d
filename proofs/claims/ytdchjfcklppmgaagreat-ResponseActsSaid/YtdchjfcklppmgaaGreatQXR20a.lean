/- Valid, limited of the reference 20. -/
import Derived.Test.YtdchjfcklppmgaaGreatQXRp5
import Derived.Test.YtdchjfcklppmgaaGreatQXR5b
import Derived.Test.YtdchjfcklppmgaaGreatQXM17
set_option linter.unusedVariables false
set_option maxRecDepth 8000
set_option maxHeartbeats 2000000
namespace Go.Proofs.YtdchjfcklppmgaaGreat
open Go.RowKit Go.Front Go.Num Stab
attribute [local go_sem] XW.cell XW.frozen
theorem rvalid_any (f:FH) (b a:List Rat) {S:Nat} (w:World) (h:RawF w f b a) (hf:f.b.n≤1000) (ha:f.a.n≤1000) (zb:SzL S b) (za:SzL S a) (hS:S≤400) :
  Does 156 [f.v] w (fun _:Unit=>.bool (decide (VF b a))) (fun _ _=>True):=by
 obtain ⟨⟨ba,bn,bc⟩,⟨aa,an,ac⟩⟩:=f
 have HB:=Hi h.1
 have HA:=Hi h.2
 have HX:=Hi (Ext.refl w)
 have ZA1:Hid (Sz (S + 1) (a.getD 0 0)):=Hi ((za.mono (by omega:S≤S + 1)).getD (by omega) 0)
 clear h
 simp only at hf ha
 obtain ⟨P,hP⟩:∃ P,P = (tz b).length:=⟨_,rfl⟩
 obtain ⟨Q,hQ⟩:∃ Q,Q = (tz a).length:=⟨_,rfl⟩
 have HV:Hid (VF b a↔P≤49∧Q≤49∧a.getD 0 0 = 1):=Hi (by unfold VF; rw [hP,hQ])
 have HP:=Hi hP
 have HQ:=Hi hQ
 clear hP hQ
 unfold Does
 simp only [FH.v,SH.v]
 go_enter Tryz.func156,Tryz.ntmps156
 go_upto_region 1 with fail
 refine nm_alloc ?_
 intro w1 hE hB0 hz
 have hz_w1:=nle hz
 have hr_w1:=nle hz.symm
 clear hz
 replace HX:=hE.tr HX
 have hs_w1:=hE.size
 clear hE
 have B1:=Hi hB0
 clear hB0
 obtain ⟨c_B1,f_B1,l_B1⟩:=blk3 B1.out
 obtain ⟨b1,hb1⟩:∃ b1,b1 = w.heap.size:=⟨_,rfl⟩
 have hbw:w.heap.size≤b1:=by omega
 rw [← hb1] at B1 ⊢
 clear hb1 c_B1 f_B1 l_B1
 try clear c_B1 f_B1 l_B1
 obtain ⟨c_B1,f_B1,l_B1⟩:=blk3 B1.out
 go_wp2_with fail
 refine Calls.mono (degree5_any ba bn bc b _ (HB.out.ext HX.out) (by omega)) ?_
 rintro e w2 ⟨x2,rfl,hE,-⟩
 replace HX:=hE.tr HX
 replace B1:=hE.bl B1
 have hs_w2:=hE.size
 clear hE
 try clear c_B1 f_B1 l_B1
 obtain ⟨c_B1,f_B1,l_B1⟩:=blk3 B1.out
 rw [← HP.out]
 by_cases hp:P≤49
 case neg =>
  have hp1:¬ (P:Int) - 1≤(48:Int):=by omega
  have HD:Hid (decide (VF b a) = false):=Hi (decide_eq_false (fun h=>hp (HV.out.1 h).1))
  go_wp2
  go_ret
  exact ⟨(),by rw [HD.out]; rfl,HX.out,trivial⟩
 have hp1:(P:Int) - 1≤(48:Int):=by omega
 go_wp2_with fail
 refine Calls.mono (degree5_any aa an ac a _ (HA.out.ext HX.out) (by omega)) ?_
 rintro e w3 ⟨x3,rfl,hE,-⟩
 replace HX:=hE.tr HX
 replace B1:=hE.bl B1
 have hs_w3:=hE.size
 clear hE
 try clear c_B1 f_B1 l_B1
 obtain ⟨c_B1,f_B1,l_B1⟩:=blk3 B1.out
 rw [← HQ.out]
 by_cases hq:Q≤49
 case neg =>
  have hq1:¬ (Q:Int) - 1≤(48:Int):=by omega
  have HD:Hid (decide (VF b a) = false):=Hi (decide_eq_false (fun h=>hq (HV.out.1 h).2.1))
  go_wp2
  go_ret
  exact ⟨(),by rw [HD.out]; rfl,HX.out,trivial⟩
 have hq1:(Q:Int) - 1≤(48:Int):=by omega
 obtain ⟨cc,hcc⟩:∃ cc,cc = cmpR (a.getD 0 0) ((1:Int):Rat):=⟨_,rfl⟩
 have HCC:=Hi hcc
 have HD:Hid (decide (VF b a) = decide (cc = 0)):=Hi (by
  congr 1
  rw [HV.out,hcc,pcmp_eq]
  exact propext ⟨fun h=>h.2.2,fun h=>⟨hp,hq,h⟩⟩)
 clear hcc
 go_wp2_with fail
 refine Calls.mono (at5_any aa an ac a 0 _ (HA.out.ext HX.out) (by decide)) ?_
 rintro e w4 ⟨x4,rfl,hE,g4⟩
 have G4:=Hi g4
 clear g4
 replace HX:=hE.tr HX
 replace B1:=hE.bl B1
 have hs_w4:=hE.size
 clear hE
 try clear c_B1 f_B1 l_B1
 obtain ⟨c_B1,f_B1,l_B1⟩:=blk3 B1.out
 go_wp2_with fail
 refine Calls.mono (rof3_any 1 _ (by decide) (by decide)) ?_
 rintro e w5 ⟨x5,rfl,hE,g5⟩
 have G5:=Hi g5
 clear g5
 replace HX:=hE.tr HX
 replace B1:=hE.bl B1
 replace G4:=Hi (G4.out.ext hE)
 have hs_w5:=hE.size
 clear hE
 try clear c_B1 f_B1 l_B1
 obtain ⟨c_B1,f_B1,l_B1⟩:=blk3 B1.out
 go_wp2_with fail
 refine Calls.mono (rcmp3_any x4 x5 (a.getD 0 0) ((1:Int):Rat) _ (G4.out.raw ZA1.out (by omega)) (G5.out.raw (Sz.int (by decide)) (by decide))) ?_
 rintro e w6 ⟨x6,rfl,hE,-⟩
 replace HX:=hE.tr HX
 replace B1:=hE.bl B1
 replace G4:=Hi (G4.out.ext hE)
 replace G5:=Hi (G5.out.ext hE)
 have hs_w6:=hE.size
 clear hE
 try clear c_B1 f_B1 l_B1
 obtain ⟨c_B1,f_B1,l_B1⟩:=blk3 B1.out
 rw [← HCC.out]
 by_cases hc0:cc = 0
 case pos =>
  subst hc0
  go_wp2
  go_ret
  exact ⟨(),by rw [HD.out]; rfl,HX.out,trivial⟩
 have hcb:(cc == 0) = false:=by simpa using hc0
 go_wp2
 go_ret
 exact ⟨(),by rw [HD.out,decide_eq_false hc0]; rfl,HX.out,trivial⟩
theorem rlimited_any (b a:SH) (bs as':List Rat) (N:Nat) (w:World) (hb:NewL N w b bs) (ha:NewL N w a as') (tb:tz bs = bs) (ta:tz as' = as') :
  Does 266 [FH.v ⟨b,a⟩] w FE (FEN N (limV bs as')):=by
 obtain ⟨ba,bn,bc⟩:=b
 obtain ⟨aa,an,ac⟩:=a
 have e1:=hb.len
 have e2:=ha.len
 simp only at e1 e2
 have HV:Hid (limV bs as' = if bn≤49∧an≤49 then (0,bs,as') else (12,[],[])):=Hi (by unfold limV; rw [tb,ta,e1,e2])
 obtain ⟨hi0,hhi⟩:∃ hi0,hi0 = w.heap.size:=⟨_,rfl⟩
 have LB:Hid (LIn w ⟨ba,bn,bc⟩ bs N hi0):=Hi (by rw [hhi]; exact hb)
 have LA:Hid (LIn w ⟨aa,an,ac⟩ as' N hi0):=Hi (by rw [hhi]; exact ha)
 have HX:=Hi (Ext.refl w)
 clear hb ha e1 e2 tb ta
 unfold Does
 simp only [FH.v,SH.v]
 go_enter Tryz.func266,Tryz.ntmps266
 go_upto_region 1 with fail
 refine nm_alloc2 ?_
 intro w1 hE hB0 hB1 hz
 have hz_w1:=nle hz
 have hr_w1:=nle hz.symm
 clear hz
 replace HX:=hE.tr HX
 replace LB:=Hi (LB.out.ext hE)
 replace LA:=Hi (LA.out.ext hE)
 have hs_w1:=hE.size
 clear hE
 have B1:=Hi hB0
 clear hB0
 obtain ⟨c_B1,f_B1,l_B1⟩:=blk3 B1.out
 have B2:=Hi hB1
 clear hB1
 obtain ⟨c_B2,f_B2,l_B2⟩:=blk3 B2.out
 by_cases hp:bn≤49
 case neg =>
  have hp1:(49:Int) < (bn:Int):=by omega
  have HD:Hid (limV bs as' = (12,[],[])):=Hi (by rw [HV.out,if_neg (fun h=>hp h.1)])
  go_wp2
  refine nm_setF (F:=fun W=>bodyPost _ _ _ _ _ W) B2.out rfl ?_
  intro w3 T
  replace HX:=Hi (T.ext HX.out (by omega))
  replace LB:=Hi (LB.out.put T (by omega))
  replace LA:=Hi (LA.out.put T (by omega))
  replace B1:=Hi (T.rest _ _ (by omega) B1.out)
  replace B2:=Hi (T.bx)
  have hs_w3:=nle T.size
  have hr_w3:=nle T.size.symm
  clear T
  try clear c_B1 f_B1 l_B1
  obtain ⟨c_B1,f_B1,l_B1⟩:=blk3 B1.out
  try clear c_B2 f_B2 l_B2
  obtain ⟨c_B2,f_B2,l_B2⟩:=blk3 B2.out
  exact bodyPost_ret (v:=FE (⟨⟨none,0,0⟩,⟨none,0,0⟩⟩,12)) (by simp [results,Tryz.results266,go_sem,c_B2,FE]) rfl ⟨(⟨⟨none,0,0⟩,⟨none,0,0⟩⟩,12),rfl,HX.out,by rw [HD.out]; exact ⟨rfl,NewL.nil _ _,NewL.nil _ _⟩⟩
 have hp1:¬ (49:Int) < (bn:Int):=by omega
 by_cases hq:an≤49
 case neg =>
  have hq1:(49:Int) < (an:Int):=by omega
  have HD:Hid (limV bs as' = (12,[],[])):=Hi (by rw [HV.out,if_neg (fun h=>hq h.2)])
  go_wp2
  refine nm_setF (F:=fun W=>bodyPost _ _ _ _ _ W) B2.out rfl ?_
  intro w4 T
  replace HX:=Hi (T.ext HX.out (by omega))
  replace LB:=Hi (LB.out.put T (by omega))
  replace LA:=Hi (LA.out.put T (by omega))
  replace B1:=Hi (T.rest _ _ (by omega) B1.out)
  replace B2:=Hi (T.bx)
  have hs_w4:=nle T.size
  have hr_w4:=nle T.size.symm
  clear T
  try clear c_B1 f_B1 l_B1
  obtain ⟨c_B1,f_B1,l_B1⟩:=blk3 B1.out
  try clear c_B2 f_B2 l_B2
  obtain ⟨c_B2,f_B2,l_B2⟩:=blk3 B2.out
  exact bodyPost_ret (v:=FE (⟨⟨none,0,0⟩,⟨none,0,0⟩⟩,12)) (by simp [results,Tryz.results266,go_sem,c_B2,FE]) rfl ⟨(⟨⟨none,0,0⟩,⟨none,0,0⟩⟩,12),rfl,HX.out,by rw [HD.out]; exact ⟨rfl,NewL.nil _ _,NewL.nil _ _⟩⟩
 have hq1:¬ (49:Int) < (an:Int):=by omega
 have HD:Hid (limV bs as' = (0,bs,as')):=Hi (by rw [HV.out,if_pos ⟨hp,hq⟩])
 go_wp2
 refine nm_setF (F:=fun W=>bodyPost _ _ _ _ _ W) B2.out rfl ?_
 intro w5 T
 replace HX:=Hi (T.ext HX.out (by omega))
 replace LB:=Hi (LB.out.put T (by omega))
 replace LA:=Hi (LA.out.put T (by omega))
 replace B1:=Hi (T.rest _ _ (by omega) B1.out)
 replace B2:=Hi (T.bx)
 have hs_w5:=nle T.size
 have hr_w5:=nle T.size.symm
 clear T
 try clear c_B1 f_B1 l_B1
 obtain ⟨c_B1,f_B1,l_B1⟩:=blk3 B1.out
 try clear c_B2 f_B2 l_B2
 obtain ⟨c_B2,f_B2,l_B2⟩:=blk3 B2.out
 exact bodyPost_ret (v:=FE (⟨⟨ba,bn,bc⟩,⟨aa,an,ac⟩⟩,0)) (by simp [results,Tryz.results266,go_sem,c_B2,FE]) rfl ⟨(⟨⟨ba,bn,bc⟩,⟨aa,an,ac⟩⟩,0),rfl,HX.out,by rw [HD.out]; exact ⟨rfl,LB.out.mono (Nat.le_refl _) (by omega),LA.out.mono (Nat.le_refl _) (by omega)⟩⟩
end Go.Proofs.YtdchjfcklppmgaaGreat
