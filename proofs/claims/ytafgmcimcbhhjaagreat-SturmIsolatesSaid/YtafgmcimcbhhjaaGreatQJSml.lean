import Derived.Test.YtafgmcimcbhhjaaGreatQJK1
set_option linter.unusedVariables false
set_option maxRecDepth 4000
set_option maxHeartbeats 1000000
namespace Go.Proofs.YtafgmcimcbhhjaaGreat
open Go.RowKit Go.Front Go.Num
attribute [local go_sem] XW.cell XW.frozen
def SmD(k:Nat)(rs:List RH):Prop:=∀ r ∈ rs,r.n≤k∧r.m≤k
def sm4(n m:Nat):Bool:=decide (n≤4∧m≤4)
theorem yr(s:RH)(w:World):au 20 [s.v] w (fun _:Unit=>.bool (sm4 s.n s.m)) (fun _ _=>True):=by
 obtain ⟨neg,ao,n,c,bo,m,d⟩:=s;have HX:=Hi (Ext.refl w);unfold au;by_cases h1:n≤4
 ·have h1i:(n:Int)≤4:=zo;by_cases h2:m≤4
  ·have h2i:(m:Int)≤4:=zo;have hv:Hid (sm4 n m=true):=Hi (decide_eq_true ⟨h1,h2⟩);go_enter Tryz.func20,Tryz.ntmps20
   go_upto_region 1 with fail
   refine nmA ?_;intro w1 hE B1 hz_w1 hr_w1;replace HX:=hE.tr HX;have hs_w1:=hE.size;replace b_B1:=bX3 B1;go_wp2
   go_ret
   exact ⟨(),by rw [hv.out];rfl,HX.out,trivial⟩
  ·have h2i:¬ (m:Int)≤4:=zo;have hv:Hid (sm4 n m=false):=Hi (decide_eq_false (fun h=>h2 h.2));go_enter Tryz.func20,Tryz.ntmps20
   go_upto_region 1 with fail
   refine nmA ?_;intro w1 hE B1 hz_w1 hr_w1;replace HX:=hE.tr HX;have hs_w1:=hE.size;replace b_B1:=bX3 B1;go_wp2
   go_ret
   exact ⟨(),by rw [hv.out];rfl,HX.out,trivial⟩
 ·have h1i:¬ (n:Int)≤4:=zo;have hv:Hid (sm4 n m=false):=Hi (decide_eq_false (fun h=>h1 h.1));go_enter Tryz.func20,Tryz.ntmps20
  go_upto_region 1 with fail
  refine nmA ?_;intro w1 hE B1 hz_w1 hr_w1;replace HX:=hE.tr HX;have hs_w1:=hE.size;replace b_B1:=bX3 B1;go_wp2
  go_ret
  exact ⟨(),by rw [hv.out];rfl,HX.out,trivial⟩
theorem SmD.take_succ{k j:Nat}{rs:List RH}(h:SmD k (rs.take j))(hj:j<rs.length)(hr:(rs.getD j default).n≤k∧(rs.getD j default).m≤k):SmD k (rs.take (j+1)):=by
 intro r hm;rw [List.take_succ_eq_append_getElem hj] at hm;rcases List.mem_append.1 hm with h1|h1
 ·exact h r h1
 ·obtain rfl:r=rs[j]:=by simpa using h1
  rw [show rs.getD j default=rs[j] by simp [hj]] at hr;exact hr
def D6(n:Nat)(rs:List RH)(b:Bool):Prop:=b=true↔n≤8∧SmD 2 rs
theorem mE(ao:Option Addr)(n cap:Nat)(rs:List RH)(w:World)(h:RS w ⟨ao,n,cap⟩ rs) :
  au 18 [.slice ao n cap] w (fun b:Bool=>.bool b) (fun b _=>D6 n rs b):=by
 have H:=Hi h;have HX:=Hi (Ext.refl w);have hle:=h.le;have hmx:=h.max;have Hlen:=Hi h.len;simp only at hle hmx Hlen;clear h;unfold au;by_cases h8:8<n
 case pos =>
  have h8i:(8:Int)<n:=zo;go_enter Tryz.func18,Tryz.ntmps18;go_wp2
  go_ret
  exact ⟨false,rfl,HX.out,⟨fun h=>(by cases h),fun h=>by omega⟩⟩
 go_enter Tryz.func18,Tryz.ntmps18;go_wp2
 go_loopg [10] n (fun g i wr=>∃ j:Nat,j+g=n∧i=.int .i64 (j:Nat)∧Ext w wr∧SmD 2 (rs.take j))
 case atStart=>exact ⟨0,zo,rfl,HX.out,fun r hr=>by simp at hr⟩
 case round =>
  obtain ⟨j,hj,rfl,g1,g2⟩:=hrel;clear HX;have HX:=Hi g1;have HS:=Hi g2;clear g1 g2;by_cases h0:gk=0
  case pos =>
   subst h0;obtain rfl:j=n:=by omega
   have HE:Hid (rs.take j=rs):=Hi (nXm (by rw [Hlen.out];exact nXe _));rw [HE.out] at HS;go_wp2
   go_ret
   exact ⟨true,rfl,HX.out,⟨fun _=>⟨zo,HS.out⟩,fun _=>rfl⟩⟩
  have hjn:(j:Int)<n:=zo;obtain ⟨b,off,hao,⟨hc1,hc2,hc3⟩⟩:=(H.out.ext HX.out).at (k:=j) zo;obtain ⟨r,hr⟩:∃ r,r=rs.getD j default:=⟨_,rfl⟩;rw [←hr] at hc1 hc2 hc3;have Hr:=Hi hr;obtain ⟨rneg,ra,rn,rc,rb,rm,rd⟩:=r;simp only at hc1 hc2 hc3;subst hao;have hbl:b<wr.heap.size:=nXq _ _ hc1;have hmem:Hid ((⟨rneg,ra,rn,rc,rb,rm,rd⟩:RH) ∈ rs):=Hi (by rw [hr,show rs.getD j default=rs[j]'(by rw [Hlen.out];omega) by simp [show j<rs.length by rw [Hlen.out];omega]];exact List.getElem_mem _);clear hr
  go_upto_region 6 with fail
  refine nmA ?_;intro y1 hE B4 hz_y1 hr_y1;replace HX:=hE.tr HX;have hs_y1:=hE.size;replace b_B4:=bX3 B4;clear hc1 hc2 hc3 hbl;by_cases h1:rn≤2
  ·have h1i:¬ (2:Int)<rn:=zo;by_cases h2:rm≤2
   ·have h2i:¬ (2:Int)<rm:=zo;have HS2:Hid (SmD 2 (rs.take (j+1))):=Hi (HS.out.take_succ (by rw [Hlen.out];omega) (by rw [←Hr.out];exact ⟨h1,h2⟩));go_wp2
    go_roundg (gk-1)
    case measure=>omega
    case rel=>exact ⟨j+1,zo,by go_num,HX.out,HS2.out⟩
   ·have h2i:(2:Int)<rm:=zo;go_wp2
    go_ret
    exact ⟨false,rfl,HX.out,⟨fun h=>(by cases h),fun h=>absurd (h.2 _ hmem.out).2 h2⟩⟩
  ·have h1i:(2:Int)<rn:=zo;go_wp2
   go_ret
   exact ⟨false,rfl,HX.out,⟨fun h=>(by cases h),fun h=>absurd (h.2 _ hmem.out).1 h1⟩⟩
end Go.Proofs.YtafgmcimcbhhjaaGreat
