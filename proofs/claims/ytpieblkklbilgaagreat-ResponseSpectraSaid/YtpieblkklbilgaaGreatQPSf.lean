/- SmallRat, SmallPoly of package make. -/
import Derived.Test.YtpieblkklbilgaaGreatQPM8
import Derived.Test.YtpieblkklbilgaaGreatQPM7
import Derived.Test.YtpieblkklbilgaaGreatQPRp1
set_option linter.unusedVariables false
set_option maxRecDepth 4000
set_option maxHeartbeats 1000000
namespace Go.Proofs.YtpieblkklbilgaaGreat
open Go.RowKit Go.Front Go.Num
attribute [local go_sem] XW.cell XW.frozen
def SmD (k:Nat) (rs:List RH):Prop:=∀ r ∈ rs,r.n≤k∧r.m≤k
def sm4 (n m:Nat):Bool:=decide (n≤4∧m≤4)
theorem smallrat_any (s:RH) (w:World):Does 99 [s.v] w (fun _:Unit=>.bool (sm4 s.n s.m)) (fun _ _=>True):=by
 obtain ⟨neg,ao,n,c,bo,m,d⟩:=s
 have HX:=Hi (Ext.refl w)
 unfold Does
 by_cases h1:n≤4
 ·have h1i:(n:Int)≤4:=by omega
  by_cases h2:m≤4
  ·have h2i:(m:Int)≤4:=by omega
   have hv:Hid (sm4 n m=true):=Hi (decide_eq_true ⟨h1,h2⟩)
   go_enter Tryz.func99,Tryz.ntmps99
   go_upto_region 1 with fail
   refine nm_alloc ?_
   intro w1 hE hB0 hz
   have hz_w1:=nle hz
   have hr_w1:=nle hz.symm
   clear hz
   replace HX:=hE.tr HX
   have hs_w1:=hE.size
   clear hE
   have B1:=Hi hB0
   clear hB0
   obtain ⟨c_B1,f_B1,l_B1⟩:=blk3 B1.out
   go_wp2
   go_ret
   exact ⟨(),by rw [hv.out];rfl,HX.out,trivial⟩
  ·have h2i:¬ (m:Int)≤4:=by omega
   have hv:Hid (sm4 n m=false):=Hi (decide_eq_false (fun h=>h2 h.2))
   go_enter Tryz.func99,Tryz.ntmps99
   go_upto_region 1 with fail
   refine nm_alloc ?_
   intro w1 hE hB0 hz
   have hz_w1:=nle hz
   have hr_w1:=nle hz.symm
   clear hz
   replace HX:=hE.tr HX
   have hs_w1:=hE.size
   clear hE
   have B1:=Hi hB0
   clear hB0
   obtain ⟨c_B1,f_B1,l_B1⟩:=blk3 B1.out
   go_wp2
   go_ret
   exact ⟨(),by rw [hv.out];rfl,HX.out,trivial⟩
 ·have h1i:¬ (n:Int)≤4:=by omega
  have hv:Hid (sm4 n m=false):=Hi (decide_eq_false (fun h=>h1 h.1))
  go_enter Tryz.func99,Tryz.ntmps99
  go_upto_region 1 with fail
  refine nm_alloc ?_
  intro w1 hE hB0 hz
  have hz_w1:=nle hz
  have hr_w1:=nle hz.symm
  clear hz
  replace HX:=hE.tr HX
  have hs_w1:=hE.size
  clear hE
  have B1:=Hi hB0
  clear hB0
  obtain ⟨c_B1,f_B1,l_B1⟩:=blk3 B1.out
  go_wp2
  go_ret
  exact ⟨(),by rw [hv.out];rfl,HX.out,trivial⟩
theorem SmD.take_succ {k j:Nat} {rs:List RH} (h:SmD k (rs.take j)) (hj:j < rs.length) (hr:(rs.getD j default).n≤k∧(rs.getD j default).m≤k):SmD k (rs.take (j+1)):=by
 intro r hm
 rw [List.take_succ_eq_append_getElem hj] at hm
 rcases List.mem_append.1 hm with h1 | h1
 ·exact h r h1
 ·obtain rfl:r=rs[j]:=by simpa using h1
  rw [show rs.getD j default=rs[j] by simp [hj]] at hr
  exact hr
def SmPs (n:Nat) (rs:List RH) (b:Bool):Prop:=b=true↔n≤8∧SmD 2 rs
theorem smallpoly_any (ao:Option Addr) (n cap:Nat) (rs:List RH) (w:World) (h:RS w ⟨ao,n,cap⟩ rs) :
  Does 27 [.slice ao n cap] w (fun b:Bool=>.bool b) (fun b _=>SmPs n rs b):=by
 have H:=Hi h
 have HX:=Hi (Ext.refl w)
 have hle:=h.le
 have hmx:=h.max
 have Hlen:=Hi h.len
 simp only at hle hmx Hlen
 clear h
 unfold Does
 by_cases h8:8 < n
 case pos =>
  have h8i:(8:Int) < n:=by omega
  go_enter Tryz.func27,Tryz.ntmps27
  go_wp2
  go_ret
  exact ⟨false,rfl,HX.out,⟨fun h=>(by cases h),fun h=>by omega⟩⟩
 go_enter Tryz.func27,Tryz.ntmps27
 go_wp2
 go_loopg [10] n (fun g i wr=>∃ j:Nat,j+g=n∧i=.int .i64 (j:Nat)∧Ext w wr∧SmD 2 (rs.take j))
 case atStart=>exact ⟨0,by omega,rfl,HX.out,fun r hr=>by simp at hr⟩
 case round =>
  obtain ⟨j,hj,rfl,g1,g2⟩:=hrel
  clear HX
  have HX:=Hi g1
  have HS:=Hi g2
  clear g1 g2
  by_cases h0:gk=0
  case pos =>
   subst h0
   obtain rfl:j=n:=by omega
   have HE:Hid (rs.take j=rs):=Hi (List.take_of_length_le (by rw [Hlen.out];exact Nat.le_refl _))
   rw [HE.out] at HS
   go_wp2
   go_ret
   exact ⟨true,rfl,HX.out,⟨fun _=>⟨by omega,HS.out⟩,fun _=>rfl⟩⟩
  have hjn:(j:Int) < n:=by omega
  obtain ⟨b,off,hao,⟨hc1,hc2,hc3⟩⟩:=(H.out.ext HX.out).at (k:=j) (by omega)
  obtain ⟨r,hr⟩:∃ r,r=rs.getD j default:=⟨_,rfl⟩
  rw [← hr] at hc1 hc2 hc3
  have Hr:=Hi hr
  obtain ⟨rneg,ra,rn,rc,rb,rm,rd⟩:=r
  simp only at hc1 hc2 hc3
  subst hao
  have hbl:b < wr.heap.size:=World.block_lt_of_cell? _ _ hc1
  have hmem:Hid ((⟨rneg,ra,rn,rc,rb,rm,rd⟩:RH) ∈ rs):=Hi (by rw [hr,show rs.getD j default=rs[j]'(by rw [Hlen.out];omega) by simp [show j < rs.length by rw [Hlen.out];omega]];exact List.getElem_mem _)
  clear hr
  go_upto_region 6 with fail
  refine nm_alloc ?_
  intro y1 hE hB0 hz
  have hz_y1:=nle hz
  have hr_y1:=nle hz.symm
  clear hz
  replace HX:=hE.tr HX
  have hs_y1:=hE.size
  clear hE
  have B4:=Hi hB0
  clear hB0
  obtain ⟨c_B4,f_B4,l_B4⟩:=blk3 B4.out
  clear hc1 hc2 hc3 hbl
  by_cases h1:rn≤2
  ·have h1i:¬ (2:Int) < rn:=by omega
   by_cases h2:rm≤2
   ·have h2i:¬ (2:Int) < rm:=by omega
    have HS2:Hid (SmD 2 (rs.take (j+1))):=Hi (HS.out.take_succ (by rw [Hlen.out];omega) (by rw [← Hr.out];exact ⟨h1,h2⟩))
    go_wp2
    go_roundg (gk - 1)
    case measure=>omega
    case rel=>exact ⟨j+1,by omega,by go_num,HX.out,HS2.out⟩
   ·have h2i:(2:Int) < rm:=by omega
    go_wp2
    go_ret
    exact ⟨false,rfl,HX.out,⟨fun h=>(by cases h),fun h=>absurd (h.2 _ hmem.out).2 h2⟩⟩
  ·have h1i:(2:Int) < rn:=by omega
   go_wp2
   go_ret
   exact ⟨false,rfl,HX.out,⟨fun h=>(by cases h),fun h=>absurd (h.2 _ hmem.out).1 h1⟩⟩
end Go.Proofs.YtpieblkklbilgaaGreat
/- fits of the law of chapter 20. -/
set_option linter.unusedVariables false
namespace Go.Proofs.YtpieblkklbilgaaGreat
open Go.RowKit Go.Front Go.Num Stab
attribute [local go_sem] XW.cell XW.frozen
def FitsP (f:FH) (rb ra:List RH):Prop:=f.b.n≤5∧f.a.n≤5∧SmD 2 rb∧SmD 2 ra
set_option maxRecDepth 8000 in
set_option maxHeartbeats 2000000 in
theorem fits_any (f:FH) (rb ra:List RH) (w:World) (h:RS w f.b rb) (k:RS w f.a ra) :
  Does 58 [f.v] w (fun b:Bool=>.bool b) (fun b _=>b=true→FitsP f rb ra):=by
 obtain ⟨⟨ba,bn,bc⟩,⟨aa,an,ac⟩⟩:=f
 have H:=Hi h
 have K:=Hi k
 have HX:=Hi (Ext.refl w)
 have h1:=h.le
 have h2:=h.max
 have k1:=k.le
 have k2:=k.max
 simp only at h1 h2 k1 k2
 clear h k
 unfold Does
 simp only [FH.v,SH.v]
 go_enter Tryz.func58,Tryz.ntmps58
 go_upto_region 1 with fail
 refine nm_alloc ?_
 intro w1 hE hB0 hz
 have hz_w1:=nle hz
 have hr_w1:=nle hz.symm
 clear hz
 replace HX:=hE.tr HX
 have hs_w1:=hE.size
 clear hE
 have B1:=Hi hB0
 clear hB0
 obtain ⟨c_B1,f_B1,l_B1⟩:=blk3 B1.out
 go_wp2_with fail
 refine Calls.mono (smallpoly_any ba bn bc rb _ (H.out.ext HX.out)) ?_
 rintro e w2 ⟨x2,rfl,hE,g2⟩
 have G2:=Hi g2
 clear g2
 replace HX:=hE.tr HX
 replace B1:=hE.bl B1
 have hs_w2:=hE.size
 clear hE
 try clear c_B1 f_B1 l_B1
 obtain ⟨c_B1,f_B1,l_B1⟩:=blk3 B1.out
 cases x2
 case false =>
  go_wp2
  go_ret
  exact ⟨false,rfl,HX.out,fun h=>by cases h⟩
 go_wp2_with fail
 refine Calls.mono (smallpoly_any aa an ac ra _ (K.out.ext HX.out)) ?_
 rintro e w3 ⟨x3,rfl,hE,g3⟩
 have G3:=Hi g3
 clear g3
 replace HX:=hE.tr HX
 replace B1:=hE.bl B1
 have hs_w3:=hE.size
 clear hE
 try clear c_B1 f_B1 l_B1
 obtain ⟨c_B1,f_B1,l_B1⟩:=blk3 B1.out
 cases x3
 case false =>
  go_wp2
  go_ret
  exact ⟨false,rfl,HX.out,fun h=>by cases h⟩
 by_cases hb5:bn≤5
 case neg =>
  have hb5i:¬ (bn:Int)≤5:=by omega
  go_wp2
  go_ret
  exact ⟨false,rfl,HX.out,fun h=>by cases h⟩
 have hb5i:(bn:Int)≤5:=by omega
 by_cases ha5:an≤5
 case neg =>
  have ha5i:¬ (an:Int)≤5:=by omega
  go_wp2
  go_ret
  refine ⟨decide ((an:Int)≤5),rfl,HX.out,fun h=>by have:=of_decide_eq_true h;omega⟩
 have ha5i:(an:Int)≤5:=by omega
 go_wp2
 go_ret
 exact ⟨true,rfl,HX.out,fun _=>⟨hb5,ha5,(G2.out.1 rfl).2,(G3.out.1 rfl).2⟩⟩
end Go.Proofs.YtpieblkklbilgaaGreat
