/- Degree, Scale, Sub of the reference 05. -/
import Derived.Test.YtpieblkklbilgaaGreatQKM11
import Derived.Test.YtpieblkklbilgaaGreatQKM7
set_option linter.unusedVariables false
namespace Go.Proofs.YtpieblkklbilgaaGreat
open Go.RowKit Go.Front Go.Num
attribute [local go_sem] XW.cell XW.frozen
set_option maxRecDepth 4000 in
set_option maxHeartbeats 1000000 in
theorem degree5_any (ao:Option Addr) (n cap:Nat) (qs:List Rat) (w:World) (h:RawL w ⟨ao,n,cap⟩ qs) (hn:n≤1073741824) :
  Does 94 [.slice ao n cap] w (fun _:Unit=>.int .i64 (((tz qs).length:Int) - 1)) (fun _ _=>True):=by
 have H:=Hi h
 have HX:=Hi (Ext.refl w)
 clear h
 unfold Does
 go_enter Tryz.func94,Tryz.ntmps94
 go_wp2_with fail
 refine Calls.mono (trim5_any ao n cap qs _ H.out hn) ?_
 rintro e w1 ⟨x1,rfl,hE,g1⟩
 have G1:=Hi g1
 clear g1
 replace HX:=hE.tr HX
 have hs_w1:=hE.size
 clear hE
 obtain ⟨pa,P,pc⟩:=x1
 simp only [SH.v]
 have hP:=G1.out.len
 simp only at hP
 have h1:=G1.out.can.le
 have h2:=G1.out.can.max
 simp only at h1 h2
 have HV:Hid (((tz qs).length:Int) - 1=(P:Int) - 1):=Hi (by rw [hP])
 clear hP
 go_wp2
 go_ret
 exact ⟨(),by rw [HV.out];rfl,HX.out,trivial⟩
end Go.Proofs.YtpieblkklbilgaaGreat
