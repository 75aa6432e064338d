/- Bound of the reference 07; Same of zeros. -/
import Derived.Test.YtpieblkklbilgaaGreatQOBnG
import Derived.Test.YtpieblkklbilgaaGreatQOBnB
import Derived.Test.YtpieblkklbilgaaGreatQOBn8
set_option linter.unusedVariables false
set_option maxRecDepth 8000
set_option maxHeartbeats 2000000
namespace Go.Proofs.YtpieblkklbilgaaGreat
open Go.RowKit Go.Front Go.Num Stab
attribute [local go_sem] XW.cell XW.frozen
theorem rsame3_zero (w:World):Does 116 [RH.v zR,RH.v zR] w (fun _:Unit=>.bool true) (fun _ _=>True):=by
 have U:=Hi (u32_none w)
 unfold Does
 go_enter Tryz.func116,Tryz.ntmps116
 go_wp2_with fail
 refine Calls.mono (isame2_any ⟨false,none,0,0⟩ ⟨false,none,0,0⟩ [] [] _ (U.out.ext Ext.al2) (U.out.ext Ext.al2)) ?_
 rintro e w1 ⟨x1,rfl,hE,g1⟩
 have G1:=Hi g1
 clear g1
 obtain ⟨hcw,hfw⟩:=bcellE hE
 have hsw:=hE.size
 (try simp only [World.size_alloc] at hsw)
 have hs0:w.heap.size < w1.heap.size:=by omega
 have hs1:w.heap.size+1 < w1.heap.size:=by omega
 have E1:=Hi ((Ext.al2).trans hE)
 have X1:=Hi hE
 clear hE
 simp only [and_self,decide_true]
 go_wp2_with fail
 refine Calls.mono (same1_any ⟨none,0,0⟩ ⟨none,0,0⟩ [] [] _ (U.out.ext E1.out) (U.out.ext E1.out)) ?_
 rintro e w2 ⟨x2,rfl,hE,g2⟩
 have G2:=Hi g2
 clear g2
 obtain ⟨hcw,hfw⟩:=bcellE hE
 have hsw:=hE.size
 (try simp only [World.size_alloc] at hsw)
 have hs0:w.heap.size < w2.heap.size:=by omega
 have hs1:w.heap.size+1 < w2.heap.size:=by omega
 have E2:=Hi ((E1.out).trans hE)
 have X2:=Hi hE
 clear hE
 simp only [decide_true]
 go_wp2
 go_ret
 exact ⟨(),rfl,E2.out,trivial⟩
theorem ivsame4_zero (w:World):Does 44 [IvV (zR,zR),IvV (zR,zR)] w (fun _:Unit=>.bool true) (fun _ _=>True):=by
 have HX:=Hi (Ext.refl w)
 unfold Does
 go_enter Tryz.func44,Tryz.ntmps44
 go_upto_region 1 with fail
 refine nm_alloc2 ?_
 intro w1 hE hB0 hB1 hz
 have hz_w1:=nle hz
 have hr_w1:=nle hz.symm
 clear hz
 replace HX:=hE.tr HX
 have hs_w1:=hE.size
 clear hE
 have B2:=Hi hB0
 clear hB0
 obtain ⟨c_B2,f_B2,l_B2⟩:=blk3 B2.out
 have B3:=Hi hB1
 clear hB1
 obtain ⟨c_B3,f_B3,l_B3⟩:=blk3 B3.out
 go_wp2_with fail
 refine Calls.mono (rsame3_zero _) ?_
 rintro e w9 ⟨x9,rfl,hE,-⟩
 replace HX:=hE.tr HX
 replace B2:=hE.bl B2
 replace B3:=hE.bl B3
 have hs_w9:=hE.size
 clear hE
 try clear c_B2 f_B2 l_B2
 obtain ⟨c_B2,f_B2,l_B2⟩:=blk3 B2.out
 try clear c_B3 f_B3 l_B3
 obtain ⟨c_B3,f_B3,l_B3⟩:=blk3 B3.out
 go_wp2_with fail
 refine Calls.mono (rsame3_zero _) ?_
 rintro e w15 ⟨x15,rfl,hE,-⟩
 replace HX:=hE.tr HX
 replace B2:=hE.bl B2
 replace B3:=hE.bl B3
 have hs_w15:=hE.size
 clear hE
 try clear c_B2 f_B2 l_B2
 obtain ⟨c_B2,f_B2,l_B2⟩:=blk3 B2.out
 try clear c_B3 f_B3 l_B3
 obtain ⟨c_B3,f_B3,l_B3⟩:=blk3 B3.out
 go_wp2
 go_ret
 exact ⟨(),rfl,HX.out,trivial⟩
end Go.Proofs.YtpieblkklbilgaaGreat
