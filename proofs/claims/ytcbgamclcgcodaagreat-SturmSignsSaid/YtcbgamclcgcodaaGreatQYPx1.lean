/- Neg of package rational; Add, Sub of package poly. -/
import Derived.Test.YtcbgamclcgcodaaGreatQYM26
import Derived.Test.YtcbgamclcgcodaaGreatQYM27
set_option linter.unusedVariables false
namespace Go.Proofs.YtcbgamclcgcodaaGreat
open Go.RowKit Go.Front Go.Num Stab
attribute [local go_sem] XW.cell XW.frozen
set_option maxRecDepth 4000 in
set_option maxHeartbeats 1000000 in
theorem rneg_any (s:RH) (q:Rat) (w:World) (h:RawR w s q):Does 210 [s.v] w RH.v (fun r w'=>CanR w' r (-q)):=by
 have HR:=Hi h
 have HX:=Hi (Ext.refl w)
 obtain ⟨neg,ao,n,c,bo,m,d⟩:=s
 clear h
 unfold Does
 go_enter Tryz.func210,Tryz.ntmps210
 go_upto_region 1 with fail
 refine nm_alloc2 ?_
 intro w1 hE hB0 hB1 hz
 have hz_w1:=nle hz
 have hr_w1:=nle hz.symm
 clear hz
 replace HX:=hE.tr HX
 have hs_w1:=hE.size
 clear hE
 have B1:=Hi hB0
 clear hB0
 obtain ⟨c_B1,f_B1,l_B1⟩:=blk3 B1.out
 have B2:=Hi hB1
 clear hB1
 obtain ⟨c_B2,f_B2,l_B2⟩:=blk3 B2.out
 go_wp2_with fail
 refine Calls.mono (flip_any ⟨neg,ao,n,c,bo,m,d⟩ _) ?_
 rintro e w1 ⟨x1,rfl,hE,-⟩
 replace HX:=hE.tr HX
 replace B1:=hE.bl B1
 replace B2:=hE.bl B2
 have hs_w1:=hE.size
 clear hE
 try clear c_B1 f_B1 l_B1
 obtain ⟨c_B1,f_B1,l_B1⟩:=blk3 B1.out
 try clear c_B2 f_B2 l_B2
 obtain ⟨c_B2,f_B2,l_B2⟩:=blk3 B2.out
 go_wp2_with fail
 refine Calls.mono (rtrim_any ⟨!neg,ao,n,c,bo,m,d⟩ _ _ (HR.out.neg.ext HX.out)) ?_
 rintro e w2 ⟨x2,rfl,hE,g2⟩
 have G2:=Hi g2
 clear g2
 replace HX:=hE.tr HX
 replace B1:=hE.bl B1
 replace B2:=hE.bl B2
 have hs_w2:=hE.size
 clear hE
 try clear c_B1 f_B1 l_B1
 obtain ⟨c_B1,f_B1,l_B1⟩:=blk3 B1.out
 try clear c_B2 f_B2 l_B2
 obtain ⟨c_B2,f_B2,l_B2⟩:=blk3 B2.out
 go_wp2
 have hF:=((((Fin.start (L:=w.heap.size + 1) HX.out (noU_block B2.out rfl)).set (by omega) (i:=0) (v:=.bool x2.neg) rfl).set (by omega) (i:=1) (v:=.slice x2.a x2.n x2.c) rfl).set (by omega) (i:=2) (v:=.slice x2.b x2.m x2.d) rfl)
 exact bodyPost_ret (v:=x2.v) (by simp [results,Tryz.results210,go_sem,blk_cell B2.out]) rfl ⟨x2,rfl,hF.ext,G2.out.keep hF.keep⟩
end Go.Proofs.YtcbgamclcgcodaaGreat
