/- Valid, limited of the reference 20. -/
import Derived.Test.YtpieblkklbilgaaGreatQPRp5
import Derived.Test.YtpieblkklbilgaaGreatQPR5b
import Derived.Test.YtpieblkklbilgaaGreatQPM17
set_option linter.unusedVariables false
namespace Go.Proofs.YtpieblkklbilgaaGreat
open Go.RowKit Go.Front Go.Num Stab
attribute [local go_sem] XW.cell XW.frozen
set_option maxRecDepth 8000 in
set_option maxHeartbeats 2000000 in
theorem rvalid_any (f:FH) (b a:List Rat) {S:Nat} (w:World) (h:RawF w f b a) (hf:f.b.n≤1000) (ha:f.a.n≤1000) (zb:SzL S b) (za:SzL S a) (hS:S≤400) :
  Does 132 [f.v] w (fun _:Unit=>.bool (decide (VF b a))) (fun _ _=>True):=by
 obtain ⟨⟨ba,bn,bc⟩,⟨aa,an,ac⟩⟩:=f
 have HB:=Hi h.1
 have HA:=Hi h.2
 have HX:=Hi (Ext.refl w)
 have ZA1:Hid (Sz (S+1) (a.getD 0 0)):=Hi ((za.mono (by omega:S≤S+1)).getD (by omega) 0)
 clear h
 simp only at hf ha
 obtain ⟨P,hP⟩:∃ P,P=(tz b).length:=⟨_,rfl⟩
 obtain ⟨Q,hQ⟩:∃ Q,Q=(tz a).length:=⟨_,rfl⟩
 have HV:Hid (VF b a↔P≤49∧Q≤49∧a.getD 0 0=1):=Hi (by unfold VF;rw [hP,hQ])
 have HP:=Hi hP
 have HQ:=Hi hQ
 clear hP hQ
 unfold Does
 simp only [FH.v,SH.v]
 go_enter Tryz.func132,Tryz.ntmps132
 go_upto_region 1 with fail
 refine nm_alloc ?_
 intro w1 hE hB0 hz
 have hz_w1:=nle hz
 have hr_w1:=nle hz.symm
 clear hz
 replace HX:=hE.tr HX
 have hs_w1:=hE.size
 clear hE
 have B1:=Hi hB0
 clear hB0
 obtain ⟨c_B1,f_B1,l_B1⟩:=blk3 B1.out
 obtain ⟨b1,hb1⟩:∃ b1,b1=w.heap.size:=⟨_,rfl⟩
 have hbw:w.heap.size≤b1:=by omega
 rw [← hb1] at B1 ⊢
 clear hb1 c_B1 f_B1 l_B1
 try clear c_B1 f_B1 l_B1
 obtain ⟨c_B1,f_B1,l_B1⟩:=blk3 B1.out
 go_wp2_with fail
 refine Calls.mono (degree5_any ba bn bc b _ (HB.out.ext HX.out) (by omega)) ?_
 rintro e w2 ⟨x2,rfl,hE,-⟩
 replace HX:=hE.tr HX
 replace B1:=hE.bl B1
 have hs_w2:=hE.size
 clear hE
 try clear c_B1 f_B1 l_B1
 obtain ⟨c_B1,f_B1,l_B1⟩:=blk3 B1.out
 rw [← HP.out]
 by_cases hp:P≤49
 case neg =>
  have hp1:¬ (P:Int) - 1≤(48:Int):=by omega
  have HD:Hid (decide (VF b a)=false):=Hi (decide_eq_false (fun h=>hp (HV.out.1 h).1))
  go_wp2
  go_ret
  exact ⟨(),by rw [HD.out];rfl,HX.out,trivial⟩
 have hp1:(P:Int) - 1≤(48:Int):=by omega
 go_wp2_with fail
 refine Calls.mono (degree5_any aa an ac a _ (HA.out.ext HX.out) (by omega)) ?_
 rintro e w3 ⟨x3,rfl,hE,-⟩
 replace HX:=hE.tr HX
 replace B1:=hE.bl B1
 have hs_w3:=hE.size
 clear hE
 try clear c_B1 f_B1 l_B1
 obtain ⟨c_B1,f_B1,l_B1⟩:=blk3 B1.out
 rw [← HQ.out]
 by_cases hq:Q≤49
 case neg =>
  have hq1:¬ (Q:Int) - 1≤(48:Int):=by omega
  have HD:Hid (decide (VF b a)=false):=Hi (decide_eq_false (fun h=>hq (HV.out.1 h).2.1))
  go_wp2
  go_ret
  exact ⟨(),by rw [HD.out];rfl,HX.out,trivial⟩
 have hq1:(Q:Int) - 1≤(48:Int):=by omega
 obtain ⟨cc,hcc⟩:∃ cc,cc=cmpR (a.getD 0 0) ((1:Int):Rat):=⟨_,rfl⟩
 have HCC:=Hi hcc
 have HD:Hid (decide (VF b a)=decide (cc=0)):=Hi (by
  congr 1
  rw [HV.out,hcc,pcmp_eq]
  exact propext ⟨fun h=>h.2.2,fun h=>⟨hp,hq,h⟩⟩)
 clear hcc
 go_wp2_with fail
 refine Calls.mono (at5_any aa an ac a 0 _ (HA.out.ext HX.out) (by decide)) ?_
 rintro e w4 ⟨x4,rfl,hE,g4⟩
 have G4:=Hi g4
 clear g4
 replace HX:=hE.tr HX
 replace B1:=hE.bl B1
 have hs_w4:=hE.size
 clear hE
 try clear c_B1 f_B1 l_B1
 obtain ⟨c_B1,f_B1,l_B1⟩:=blk3 B1.out
 go_wp2_with fail
 refine Calls.mono (rof3_any 1 _ (by decide) (by decide)) ?_
 rintro e w5 ⟨x5,rfl,hE,g5⟩
 have G5:=Hi g5
 clear g5
 replace HX:=hE.tr HX
 replace B1:=hE.bl B1
 replace G4:=Hi (G4.out.ext hE)
 have hs_w5:=hE.size
 clear hE
 try clear c_B1 f_B1 l_B1
 obtain ⟨c_B1,f_B1,l_B1⟩:=blk3 B1.out
 go_wp2_with fail
 refine Calls.mono (rcmp3_any x4 x5 (a.getD 0 0) ((1:Int):Rat) _ (G4.out.raw ZA1.out (by omega)) (G5.out.raw (Sz.int (by decide)) (by decide))) ?_
 rintro e w6 ⟨x6,rfl,hE,-⟩
 replace HX:=hE.tr HX
 replace B1:=hE.bl B1
 replace G4:=Hi (G4.out.ext hE)
 replace G5:=Hi (G5.out.ext hE)
 have hs_w6:=hE.size
 clear hE
 try clear c_B1 f_B1 l_B1
 obtain ⟨c_B1,f_B1,l_B1⟩:=blk3 B1.out
 rw [← HCC.out]
 by_cases hc0:cc=0
 case pos =>
  subst hc0
  go_wp2
  go_ret
  exact ⟨(),by rw [HD.out];rfl,HX.out,trivial⟩
 have hcb:(cc == 0)=false:=by simpa using hc0
 go_wp2
 go_ret
 exact ⟨(),by rw [HD.out,decide_eq_false hc0];rfl,HX.out,trivial⟩
end Go.Proofs.YtpieblkklbilgaaGreat
