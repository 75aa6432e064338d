/- SmallRat, SmallPoly of package make. -/
import Derived.Test.YtpieblkklbilgaaGreatQKM8
import Derived.Test.YtpieblkklbilgaaGreatQKM7
import Derived.Test.YtpieblkklbilgaaGreatQKBn8
import Derived.Test.YtpieblkklbilgaaGreatQKBnR
import Derived.Test.YtpieblkklbilgaaGreatQKBnE
set_option linter.unusedVariables false
set_option maxRecDepth 4000
set_option maxHeartbeats 1000000
namespace Go.Proofs.YtpieblkklbilgaaGreat
open Go.RowKit Go.Front Go.Num
attribute [local go_sem] XW.cell XW.frozen
def SmD (k:Nat) (rs:List RH):Prop:=∀ r ∈ rs,r.n≤k∧r.m≤k
def sm4 (n m:Nat):Bool:=decide (n≤4∧m≤4)
theorem smallrat_any (s:RH) (w:World):Does 99 [s.v] w (fun _:Unit=>.bool (sm4 s.n s.m)) (fun _ _=>True):=by
 obtain ⟨neg,ao,n,c,bo,m,d⟩:=s
 have HX:=Hi (Ext.refl w)
 unfold Does
 by_cases h1:n≤4
 ·have h1i:(n:Int)≤4:=by omega
  by_cases h2:m≤4
  ·have h2i:(m:Int)≤4:=by omega
   have hv:Hid (sm4 n m=true):=Hi (decide_eq_true ⟨h1,h2⟩)
   go_enter Tryz.func99,Tryz.ntmps99
   go_upto_region 1 with fail
   refine nm_alloc ?_
   intro w1 hE hB0 hz
   have hz_w1:=nle hz
   have hr_w1:=nle hz.symm
   clear hz
   replace HX:=hE.tr HX
   have hs_w1:=hE.size
   clear hE
   have B1:=Hi hB0
   clear hB0
   obtain ⟨c_B1,f_B1,l_B1⟩:=blk3 B1.out
   go_wp2
   go_ret
   exact ⟨(),by rw [hv.out];rfl,HX.out,trivial⟩
  ·have h2i:¬ (m:Int)≤4:=by omega
   have hv:Hid (sm4 n m=false):=Hi (decide_eq_false (fun h=>h2 h.2))
   go_enter Tryz.func99,Tryz.ntmps99
   go_upto_region 1 with fail
   refine nm_alloc ?_
   intro w1 hE hB0 hz
   have hz_w1:=nle hz
   have hr_w1:=nle hz.symm
   clear hz
   replace HX:=hE.tr HX
   have hs_w1:=hE.size
   clear hE
   have B1:=Hi hB0
   clear hB0
   obtain ⟨c_B1,f_B1,l_B1⟩:=blk3 B1.out
   go_wp2
   go_ret
   exact ⟨(),by rw [hv.out];rfl,HX.out,trivial⟩
 ·have h1i:¬ (n:Int)≤4:=by omega
  have hv:Hid (sm4 n m=false):=Hi (decide_eq_false (fun h=>h1 h.1))
  go_enter Tryz.func99,Tryz.ntmps99
  go_upto_region 1 with fail
  refine nm_alloc ?_
  intro w1 hE hB0 hz
  have hz_w1:=nle hz
  have hr_w1:=nle hz.symm
  clear hz
  replace HX:=hE.tr HX
  have hs_w1:=hE.size
  clear hE
  have B1:=Hi hB0
  clear hB0
  obtain ⟨c_B1,f_B1,l_B1⟩:=blk3 B1.out
  go_wp2
  go_ret
  exact ⟨(),by rw [hv.out];rfl,HX.out,trivial⟩
theorem SmD.take_succ {k j:Nat} {rs:List RH} (h:SmD k (rs.take j)) (hj:j < rs.length) (hr:(rs.getD j default).n≤k∧(rs.getD j default).m≤k):SmD k (rs.take (j+1)):=by
 intro r hm
 rw [List.take_succ_eq_append_getElem hj] at hm
 rcases List.mem_append.1 hm with h1 | h1
 ·exact h r h1
 ·obtain rfl:r=rs[j]:=by simpa using h1
  rw [show rs.getD j default=rs[j] by simp [hj]] at hr
  exact hr
def SmPs (n:Nat) (rs:List RH) (b:Bool):Prop:=b=true↔n≤8∧SmD 2 rs
theorem smallpoly_any (ao:Option Addr) (n cap:Nat) (rs:List RH) (w:World) (h:RS w ⟨ao,n,cap⟩ rs) :
  Does 27 [.slice ao n cap] w (fun b:Bool=>.bool b) (fun b _=>SmPs n rs b):=by
 have H:=Hi h
 have HX:=Hi (Ext.refl w)
 have hle:=h.le
 have hmx:=h.max
 have Hlen:=Hi h.len
 simp only at hle hmx Hlen
 clear h
 unfold Does
 by_cases h8:8 < n
 case pos =>
  have h8i:(8:Int) < n:=by omega
  go_enter Tryz.func27,Tryz.ntmps27
  go_wp2
  go_ret
  exact ⟨false,rfl,HX.out,⟨fun h=>(by cases h),fun h=>by omega⟩⟩
 go_enter Tryz.func27,Tryz.ntmps27
 go_wp2
 go_loopg [10] n (fun g i wr=>∃ j:Nat,j+g=n∧i=.int .i64 (j:Nat)∧Ext w wr∧SmD 2 (rs.take j))
 case atStart=>exact ⟨0,by omega,rfl,HX.out,fun r hr=>by simp at hr⟩
 case round =>
  obtain ⟨j,hj,rfl,g1,g2⟩:=hrel
  clear HX
  have HX:=Hi g1
  have HS:=Hi g2
  clear g1 g2
  by_cases h0:gk=0
  case pos =>
   subst h0
   obtain rfl:j=n:=by omega
   have HE:Hid (rs.take j=rs):=Hi (List.take_of_length_le (by rw [Hlen.out];exact Nat.le_refl _))
   rw [HE.out] at HS
   go_wp2
   go_ret
   exact ⟨true,rfl,HX.out,⟨fun _=>⟨by omega,HS.out⟩,fun _=>rfl⟩⟩
  have hjn:(j:Int) < n:=by omega
  obtain ⟨b,off,hao,⟨hc1,hc2,hc3⟩⟩:=(H.out.ext HX.out).at (k:=j) (by omega)
  obtain ⟨r,hr⟩:∃ r,r=rs.getD j default:=⟨_,rfl⟩
  rw [← hr] at hc1 hc2 hc3
  have Hr:=Hi hr
  obtain ⟨rneg,ra,rn,rc,rb,rm,rd⟩:=r
  simp only at hc1 hc2 hc3
  subst hao
  have hbl:b < wr.heap.size:=World.block_lt_of_cell? _ _ hc1
  have hmem:Hid ((⟨rneg,ra,rn,rc,rb,rm,rd⟩:RH) ∈ rs):=Hi (by rw [hr,show rs.getD j default=rs[j]'(by rw [Hlen.out];omega) by simp [show j < rs.length by rw [Hlen.out];omega]];exact List.getElem_mem _)
  clear hr
  go_upto_region 6 with fail
  refine nm_alloc ?_
  intro y1 hE hB0 hz
  have hz_y1:=nle hz
  have hr_y1:=nle hz.symm
  clear hz
  replace HX:=hE.tr HX
  have hs_y1:=hE.size
  clear hE
  have B4:=Hi hB0
  clear hB0
  obtain ⟨c_B4,f_B4,l_B4⟩:=blk3 B4.out
  clear hc1 hc2 hc3 hbl
  by_cases h1:rn≤2
  ·have h1i:¬ (2:Int) < rn:=by omega
   by_cases h2:rm≤2
   ·have h2i:¬ (2:Int) < rm:=by omega
    have HS2:Hid (SmD 2 (rs.take (j+1))):=Hi (HS.out.take_succ (by rw [Hlen.out];omega) (by rw [← Hr.out];exact ⟨h1,h2⟩))
    go_wp2
    go_roundg (gk - 1)
    case measure=>omega
    case rel=>exact ⟨j+1,by omega,by go_num,HX.out,HS2.out⟩
   ·have h2i:(2:Int) < rm:=by omega
    go_wp2
    go_ret
    exact ⟨false,rfl,HX.out,⟨fun h=>(by cases h),fun h=>absurd (h.2 _ hmem.out).2 h2⟩⟩
  ·have h1i:(2:Int) < rn:=by omega
   go_wp2
   go_ret
   exact ⟨false,rfl,HX.out,⟨fun h=>(by cases h),fun h=>absurd (h.2 _ hmem.out).1 h1⟩⟩
end Go.Proofs.YtpieblkklbilgaaGreat
/- awake of law 07; SmallOn. -/
set_option linter.unusedVariables false
set_option maxRecDepth 100000
set_option maxHeartbeats 8000000
namespace Go.Proofs.YtpieblkklbilgaaGreat
open Go.RowKit Go.Front Go.Num Stab
attribute [local go_sem] XW.cell XW.frozen
def smOn (s t:RH):Bool:=sm4 s.n s.m && sm4 t.n t.m
theorem smallon_any (s t:RH) (w:World):Does 28 [IvV (s,t)] w (fun _:Unit=>.bool (smOn s t)) (fun _ _=>True):=by
 have HX:=Hi (Ext.refl w)
 obtain ⟨sn,sa,sl,sc,sb,sm,sd⟩:=s
 obtain ⟨tn,ta,tl,tc,tb,tm,td⟩:=t
 have HV:Hid (smOn ⟨sn,sa,sl,sc,sb,sm,sd⟩ ⟨tn,ta,tl,tc,tb,tm,td⟩=(sm4 sl sm && sm4 tl tm)):=Hi rfl
 unfold Does
 go_enter Tryz.func28,Tryz.ntmps28
 go_upto_region 1 with fail
 refine nm_alloc ?_
 intro w1 hE hB0 hz
 have hz_w1:=nle hz
 have hr_w1:=nle hz.symm
 clear hz
 replace HX:=hE.tr HX
 have hs_w1:=hE.size
 clear hE
 have B1:=Hi hB0
 clear hB0
 obtain ⟨c_B1,f_B1,l_B1⟩:=blk3 B1.out
 go_wp2_with fail
 refine Calls.mono (smallrat_any ⟨sn,sa,sl,sc,sb,sm,sd⟩ _) ?_
 rintro e w5 ⟨x5,rfl,hE,-⟩
 replace HX:=hE.tr HX
 replace B1:=hE.bl B1
 have hs_w5:=hE.size
 clear hE
 try clear c_B1 f_B1 l_B1
 obtain ⟨c_B1,f_B1,l_B1⟩:=blk3 B1.out
 obtain ⟨r,hr⟩:∃ r,r=sm4 sl sm:=⟨_,rfl⟩
 rw [← hr] at HV
 rw [show sm4 (RH.n ⟨sn,sa,sl,sc,sb,sm,sd⟩) (RH.m ⟨sn,sa,sl,sc,sb,sm,sd⟩)=r from hr.symm]
 clear hr
 cases r with
 | false =>
  go_wp2
  go_ret
  exact ⟨(),by rw [HV.out];rfl,HX.out,trivial⟩
 | true =>
 go_wp2_with fail
 refine Calls.mono (smallrat_any ⟨tn,ta,tl,tc,tb,tm,td⟩ _) ?_
 rintro e w9 ⟨x9,rfl,hE,-⟩
 replace HX:=hE.tr HX
 replace B1:=hE.bl B1
 have hs_w9:=hE.size
 clear hE
 try clear c_B1 f_B1 l_B1
 obtain ⟨c_B1,f_B1,l_B1⟩:=blk3 B1.out
 obtain ⟨r,hr⟩:∃ r,r=sm4 tl tm:=⟨_,rfl⟩
 rw [← hr] at HV
 rw [show sm4 (RH.n ⟨tn,ta,tl,tc,tb,tm,td⟩) (RH.m ⟨tn,ta,tl,tc,tb,tm,td⟩)=r from hr.symm]
 clear hr
 go_wp2
 go_ret
 exact ⟨(),by rw [HV.out];rfl,HX.out,trivial⟩
abbrev bq1:List Rat:=[((0:Int):Rat),((0:Int):Rat),((1:Int):Rat)]
abbrev bq2:List Rat:=[((1:Int):Rat) / ((4:Int):Rat),((0:Int):Rat),((1:Int):Rat)]
abbrev bq3:List Rat:=[((1:Int):Rat),((-1:Int):Rat),((1:Int):Rat)]
theorem szl_3 {s:Nat} {a b c:Rat} (ha:Sz s a) (hb:Sz s b) (hc:Sz s c):SzL s [a,b,c]:=by
 intro x hx
 simp only [List.mem_cons,List.not_mem_nil,or_false] at hx
 rcases hx with rfl | rfl | rfl <;> assumption
theorem bq_facts:tz bq1=bq1∧tz bq2=bq2:=by decide +kernel
theorem i11:loV (loV ((-1:Int):Rat) ((1:Int):Rat)) (hiV ((-1:Int):Rat) ((1:Int):Rat))=((-1:Int):Rat)∧hiV (loV ((-1:Int):Rat) ((1:Int):Rat)) (hiV ((-1:Int):Rat) ((1:Int):Rat))=((1:Int):Rat)∧loV ((-1:Int):Rat) ((1:Int):Rat)=((-1:Int):Rat)∧hiV ((-1:Int):Rat) ((1:Int):Rat)=((1:Int):Rat):=by decide +kernel
theorem awk7a:cfV bq1 ((-1:Int):Rat) ((1:Int):Rat)=bq3:=by decide +kernel
theorem awk7b:(prV bq2 ((-1:Int):Rat) ((1:Int):Rat))=some [((-1:Int):Rat),0,0,((1:Int):Rat)]:=by decide +kernel
theorem awk7c:(prV bq1 ((-1:Int):Rat) ((1:Int):Rat))=none:=by decide +kernel
theorem two7_any (w:World):Does 97 [] w IvV (fun x w'=>CanR w' x.1 ((-1:Int):Rat)∧CanR w' x.2 ((1:Int):Rat)):=by
 have HX:=Hi (Ext.refl w)
 unfold Does
 go_enter Tryz.func97,Tryz.ntmps97
 go_upto_region 1 with fail
 refine nm_alloc ?_
 intro w0 hE hB0 hz
 have hz_w0:=nle hz
 have hr_w0:=nle hz.symm
 clear hz
 replace HX:=hE.tr HX
 have hs_w0:=hE.size
 clear hE
 have B0:=Hi hB0
 clear hB0
 obtain ⟨c_B0,f_B0,l_B0⟩:=blk3 B0.out
 go_wp2_with fail
 refine Calls.mono (rof3_any (-1) _ (by decide) (by decide)) ?_
 rintro e w1 ⟨x1,rfl,hE,g1⟩
 have G1:=Hi g1
 clear g1
 replace HX:=hE.tr HX
 replace B0:=hE.bl B0
 have hs_w1:=hE.size
 clear hE
 try clear c_B0 f_B0 l_B0
 obtain ⟨c_B0,f_B0,l_B0⟩:=blk3 B0.out
 go_wp2_with fail
 refine Calls.mono (rof3_any 1 _ (by decide) (by decide)) ?_
 rintro e w2 ⟨x2,rfl,hE,g2⟩
 have G2:=Hi g2
 clear g2
 replace HX:=hE.tr HX
 replace B0:=hE.bl B0
 replace G1:=Hi (G1.out.ext hE)
 have hs_w2:=hE.size
 clear hE
 try clear c_B0 f_B0 l_B0
 obtain ⟨c_B0,f_B0,l_B0⟩:=blk3 B0.out
 go_wp2_with fail
 refine Calls.mono (ivmake4_any x1 x2 _ _ _ (G1.out.raw (Sz.int (by decide)) (by decide)) (G2.out.raw (Sz.int (by decide)) (by decide))) ?_
 rintro e w3 ⟨x3,rfl,hE,g3⟩
 have G3:=Hi g3
 clear g3
 replace HX:=hE.tr HX
 replace B0:=hE.bl B0
 replace G1:=Hi (G1.out.ext hE)
 replace G2:=Hi (G2.out.ext hE)
 have hs_w3:=hE.size
 clear hE
 try clear c_B0 f_B0 l_B0
 obtain ⟨c_B0,f_B0,l_B0⟩:=blk3 B0.out
 rw [i11.2.2.1,i11.2.2.2] at G3
 have HL:=Hi G3.out.1
 have HH:=Hi G3.out.2
 clear G3
 go_wp2
 refine nm_set6 (F:=fun W=>bodyPost _ _ _ _ _ W) B0.out rfl ?_
 intro w10 T
 replace HX:=Hi (T.ext HX.out (by omega))
 replace B0:=Hi (T.bx)
 replace G1:=Hi (G1.out.keep T.keep)
 replace G2:=Hi (G2.out.keep T.keep)
 replace HL:=Hi (HL.out.keep T.keep)
 replace HH:=Hi (HH.out.keep T.keep)
 have hs_w10:=nle T.size
 have hr_w10:=nle T.size.symm
 clear T
 try clear c_B0 f_B0 l_B0
 obtain ⟨c_B0,f_B0,l_B0⟩:=blk3 B0.out
 exact bodyPost_ret (v:=IvV x3) (by simp [results,Tryz.results97,go_sem,c_B0]) rfl ⟨x3,rfl,HX.out,HL.out,HH.out⟩
theorem awake7_any (w:World):Does 24 [] w (fun _:Unit=>.bool true) (fun _ _=>True):=by
 have HX:=Hi (Ext.refl w)
 have Z0:Hid (Sz 1 ((0:Int):Rat)):=Hi (Sz.int (by decide))
 have Z1:Hid (Sz 1 ((1:Int):Rat)):=Hi (Sz.int (by decide))
 have ZM:Hid (Sz 1 ((-1:Int):Rat)):=Hi (Sz.int (by decide))
 have ZQ:Hid (Sz 1 (((1:Int):Rat) / ((4:Int):Rat))):=Hi ⟨by decide +kernel,by decide +kernel⟩
 have ZL1:Hid (SzL 1 bq1):=Hi (szl_3 Z0.out Z0.out Z1.out)
 have ZL2:Hid (SzL 1 bq2):=Hi (szl_3 ZQ.out Z0.out Z1.out)
 have T1:=Hi bq_facts.1
 have T2:=Hi bq_facts.2
 have I1:Hid (loV ((-1:Int):Rat) ((1:Int):Rat)=((-1:Int):Rat)∧hiV ((-1:Int):Rat) ((1:Int):Rat)=((1:Int):Rat)):=Hi i11.2.2
 unfold Does
 go_enter Tryz.func24,Tryz.ntmps24
 go_wp2_with fail
 refine Calls.mono (rof3_any 0 _ (by decide) (by decide)) ?_
 rintro e w6 ⟨x6,rfl,hE,g6⟩
 have G6:=Hi g6
 clear g6
 replace HX:=hE.tr HX
 have hs_w6:=hE.size
 clear hE
 go_wp2_with fail
 refine Calls.mono (rof3_any 0 _ (by decide) (by decide)) ?_
 rintro e w7 ⟨x7,rfl,hE,g7⟩
 have G7:=Hi g7
 clear g7
 replace HX:=hE.tr HX
 replace G6:=Hi (G6.out.ext hE)
 have hs_w7:=hE.size
 clear hE
 go_wp2_with fail
 refine Calls.mono (rof3_any 1 _ (by decide) (by decide)) ?_
 rintro e w8 ⟨x8,rfl,hE,g8⟩
 have G8:=Hi g8
 clear g8
 replace HX:=hE.tr HX
 replace G6:=Hi (G6.out.ext hE)
 replace G7:=Hi (G7.out.ext hE)
 have hs_w8:=hE.size
 clear hE
 go_wp2_with fail
 refine nm_alloc (F:=fun W=>Calls _ _ _ W _) ?_
 intro w9 hE hB0 hz
 have hz_w9:=nle hz
 have hr_w9:=nle hz.symm
 clear hz
 replace HX:=hE.tr HX
 replace G6:=Hi (G6.out.ext hE)
 replace G7:=Hi (G7.out.ext hE)
 replace G8:=Hi (G8.out.ext hE)
 have hs_w9:=hE.size
 clear hE
 have B9:=Hi hB0
 clear hB0
 obtain ⟨c_B9,f_B9,l_B9⟩:=blk3 B9.out
 change Calls _ _ _ _ _
 have L1:Hid (CanL w9 ⟨some ⟨w8.heap.size,0,none⟩,3,3⟩ bq1):=Hi (canL_3 B9.out G6.out G7.out G8.out)
 (try clear c_B9 f_B9 l_B9);clear B9
 clear G6
 clear G7
 clear G8
 refine Calls.mono (two7_any _) ?_
 rintro e w10 ⟨x10,rfl,hE,g10⟩
 have G10:=Hi g10
 clear g10
 replace HX:=hE.tr HX
 replace L1:=Hi (L1.out.ext hE)
 have hs_w10:=hE.size
 clear hE
 obtain ⟨xl,xh⟩:=x10
 have HL:=Hi G10.out.1
 have HH:=Hi G10.out.2
 clear G10
 go_wp2_with fail
 refine Calls.mono (bcoef_any _ 3 3 bq1 xl xh _ _ 1 1 _ (L1.out.raw ZL1.out (by decide)) (HL.out.raw ZM.out (by decide)) (HH.out.raw Z1.out (by decide)) (by decide) (by rw [T1.out];decide) (by rw [T1.out];decide) (by rw [T1.out];exact ZL1.out) ZM.out Z1.out (by decide) (by decide)) ?_
 rintro e w11 ⟨x11,rfl,hE,g11⟩
 have G11:=Hi g11
 clear g11
 replace HX:=hE.tr HX
 replace L1:=Hi (L1.out.ext hE)
 have hs_w11:=hE.size
 clear hE
 rw [T1.out,I1.out.1,I1.out.2,awk7a] at G11
 obtain ⟨ca,cn,cc⟩:=x11
 have hcn:cn=3:=by have:=G11.out.len;exact this.symm
 subst hcn
 have LC:=Hi G11.out.can
 clear G11 HL HH
 simp only [SH.v]
 clear L1
 go_wp2_with fail
 refine Calls.mono (rfrac3_any 1 4 _ (by decide) (by decide) (by decide) (by decide)) ?_
 rintro e w13 ⟨x13,rfl,hE,g13⟩
 have G13:=Hi g13
 clear g13
 replace HX:=hE.tr HX
 replace LC:=Hi (LC.out.ext hE)
 have hs_w13:=hE.size
 clear hE
 go_wp2_with fail
 refine Calls.mono (rof3_any 0 _ (by decide) (by decide)) ?_
 rintro e w14 ⟨x14,rfl,hE,g14⟩
 have G14:=Hi g14
 clear g14
 replace HX:=hE.tr HX
 replace LC:=Hi (LC.out.ext hE)
 replace G13:=Hi (G13.out.ext hE)
 have hs_w14:=hE.size
 clear hE
 go_wp2_with fail
 refine Calls.mono (rof3_any 1 _ (by decide) (by decide)) ?_
 rintro e w15 ⟨x15,rfl,hE,g15⟩
 have G15:=Hi g15
 clear g15
 replace HX:=hE.tr HX
 replace LC:=Hi (LC.out.ext hE)
 replace G13:=Hi (G13.out.ext hE)
 replace G14:=Hi (G14.out.ext hE)
 have hs_w15:=hE.size
 clear hE
 go_wp2_with fail
 refine nm_alloc (F:=fun W=>Calls _ _ _ W _) ?_
 intro w16 hE hB0 hz
 have hz_w16:=nle hz
 have hr_w16:=nle hz.symm
 clear hz
 replace HX:=hE.tr HX
 replace LC:=Hi (LC.out.ext hE)
 replace G13:=Hi (G13.out.ext hE)
 replace G14:=Hi (G14.out.ext hE)
 replace G15:=Hi (G15.out.ext hE)
 have hs_w16:=hE.size
 clear hE
 have B16:=Hi hB0
 clear hB0
 obtain ⟨c_B16,f_B16,l_B16⟩:=blk3 B16.out
 change Calls _ _ _ _ _
 have L2:Hid (CanL w16 ⟨some ⟨w15.heap.size,0,none⟩,3,3⟩ bq2):=Hi (canL_3 B16.out G13.out G14.out G15.out)
 (try clear c_B16 f_B16 l_B16);clear B16
 clear G13
 clear G14
 clear G15
 refine Calls.mono (two7_any _) ?_
 rintro e w17 ⟨x17,rfl,hE,g17⟩
 have G17:=Hi g17
 clear g17
 replace HX:=hE.tr HX
 replace LC:=Hi (LC.out.ext hE)
 replace L2:=Hi (L2.out.ext hE)
 have hs_w17:=hE.size
 clear hE
 obtain ⟨xl,xh⟩:=x17
 have HL:=Hi G17.out.1
 have HH:=Hi G17.out.2
 clear G17
 go_wp2_with fail
 refine Calls.mono (bprove_any _ 3 3 bq2 xl xh _ _ 1 1 _ (L2.out.raw ZL2.out (by decide)) (HL.out.raw ZM.out (by decide)) (HH.out.raw Z1.out (by decide)) (by decide) (by rw [T2.out];decide) (by rw [T2.out];exact ZL2.out) ZM.out Z1.out (by decide) (by decide)) ?_
 rintro e w18 ⟨x18,rfl,hE,g18⟩
 have G18:=Hi g18
 clear g18
 replace HX:=hE.tr HX
 replace LC:=Hi (LC.out.ext hE)
 replace L2:=Hi (L2.out.ext hE)
 have hs_w18:=hE.size
 clear hE
 rw [T2.out,I1.out.1,I1.out.2,awk7b] at G18
 obtain ⟨⟨⟨⟨ln,la,ll,lc,lb,lm,ld⟩,⟨hn',ha,hl,hcc,hb,hm,hd⟩⟩,⟨sa,sn,sc⟩⟩,e18⟩:=x18
 obtain ⟨he,-,ho⟩:=G18.out
 simp only at he ho
 subst he
 have hsn:sn=2:=by have:=ho.len;simp only [List.length_cons,List.length_nil] at this;omega
 subst hsn
 clear ho G18 HL HH
 clear L2
 go_upto_region 3 with fail
 refine nm_alloc ?_
 intro w19 hE hB0 hz
 have hz_w19:=nle hz
 have hr_w19:=nle hz.symm
 clear hz
 replace HX:=hE.tr HX
 replace LC:=Hi (LC.out.ext hE)
 have hs_w19:=hE.size
 clear hE
 have B2:=Hi hB0
 clear hB0
 obtain ⟨c_B2,f_B2,l_B2⟩:=blk3 B2.out
 go_wp2_with fail
 refine Calls.mono (rof3_any 0 _ (by decide) (by decide)) ?_
 rintro e w22 ⟨x22,rfl,hE,g22⟩
 have G22:=Hi g22
 clear g22
 replace HX:=hE.tr HX
 replace LC:=Hi (LC.out.ext hE)
 replace B2:=hE.bl B2
 have hs_w22:=hE.size
 clear hE
 try clear c_B2 f_B2 l_B2
 obtain ⟨c_B2,f_B2,l_B2⟩:=blk3 B2.out
 go_wp2_with fail
 refine Calls.mono (rof3_any 0 _ (by decide) (by decide)) ?_
 rintro e w23 ⟨x23,rfl,hE,g23⟩
 have G23:=Hi g23
 clear g23
 replace HX:=hE.tr HX
 replace LC:=Hi (LC.out.ext hE)
 replace B2:=hE.bl B2
 replace G22:=Hi (G22.out.ext hE)
 have hs_w23:=hE.size
 clear hE
 try clear c_B2 f_B2 l_B2
 obtain ⟨c_B2,f_B2,l_B2⟩:=blk3 B2.out
 go_wp2_with fail
 refine Calls.mono (rof3_any 1 _ (by decide) (by decide)) ?_
 rintro e w24 ⟨x24,rfl,hE,g24⟩
 have G24:=Hi g24
 clear g24
 replace HX:=hE.tr HX
 replace LC:=Hi (LC.out.ext hE)
 replace B2:=hE.bl B2
 replace G22:=Hi (G22.out.ext hE)
 replace G23:=Hi (G23.out.ext hE)
 have hs_w24:=hE.size
 clear hE
 try clear c_B2 f_B2 l_B2
 obtain ⟨c_B2,f_B2,l_B2⟩:=blk3 B2.out
 go_wp2_with fail
 refine nm_alloc (F:=fun W=>Calls _ _ _ W _) ?_
 intro w25 hE hB0 hz
 have hz_w25:=nle hz
 have hr_w25:=nle hz.symm
 clear hz
 replace HX:=hE.tr HX
 replace LC:=Hi (LC.out.ext hE)
 replace B2:=hE.bl B2
 replace G22:=Hi (G22.out.ext hE)
 replace G23:=Hi (G23.out.ext hE)
 replace G24:=Hi (G24.out.ext hE)
 have hs_w25:=hE.size
 clear hE
 try clear c_B2 f_B2 l_B2
 obtain ⟨c_B2,f_B2,l_B2⟩:=blk3 B2.out
 have B25:=Hi hB0
 clear hB0
 obtain ⟨c_B25,f_B25,l_B25⟩:=blk3 B25.out
 change Calls _ _ _ _ _
 have L3:Hid (CanL w25 ⟨some ⟨w24.heap.size,0,none⟩,3,3⟩ bq1):=Hi (canL_3 B25.out G22.out G23.out G24.out)
 (try clear c_B25 f_B25 l_B25);clear B25
 clear G22
 clear G23
 clear G24
 refine Calls.mono (two7_any _) ?_
 rintro e w26 ⟨x26,rfl,hE,g26⟩
 have G26:=Hi g26
 clear g26
 replace HX:=hE.tr HX
 replace LC:=Hi (LC.out.ext hE)
 replace B2:=hE.bl B2
 replace L3:=Hi (L3.out.ext hE)
 have hs_w26:=hE.size
 clear hE
 try clear c_B2 f_B2 l_B2
 obtain ⟨c_B2,f_B2,l_B2⟩:=blk3 B2.out
 obtain ⟨xl,xh⟩:=x26
 have HL:=Hi G26.out.1
 have HH:=Hi G26.out.2
 clear G26
 go_wp2_with fail
 refine Calls.mono (bprove_any _ 3 3 bq1 xl xh _ _ 1 1 _ (L3.out.raw ZL1.out (by decide)) (HL.out.raw ZM.out (by decide)) (HH.out.raw Z1.out (by decide)) (by decide) (by rw [T1.out];decide) (by rw [T1.out];exact ZL1.out) ZM.out Z1.out (by decide) (by decide)) ?_
 rintro e w27 ⟨x27,rfl,hE,g27⟩
 have G27:=Hi g27
 clear g27
 replace HX:=hE.tr HX
 replace LC:=Hi (LC.out.ext hE)
 replace B2:=hE.bl B2
 replace L3:=Hi (L3.out.ext hE)
 have hs_w27:=hE.size
 clear hE
 try clear c_B2 f_B2 l_B2
 obtain ⟨c_B2,f_B2,l_B2⟩:=blk3 B2.out
 rw [T1.out,I1.out.1,I1.out.2,awk7c] at G27
 have hx27:=G27.out
 unfold PvP at hx27
 subst hx27
 clear G27 HL HH
 clear L3
 go_upto_region 4 with fail
 refine nm_alloc ?_
 intro w28 hE hB0 hz
 have hz_w28:=nle hz
 have hr_w28:=nle hz.symm
 clear hz
 replace HX:=hE.tr HX
 replace LC:=Hi (LC.out.ext hE)
 replace B2:=hE.bl B2
 have hs_w28:=hE.size
 clear hE
 try clear c_B2 f_B2 l_B2
 obtain ⟨c_B2,f_B2,l_B2⟩:=blk3 B2.out
 have B4:=Hi hB0
 clear hB0
 obtain ⟨c_B4,f_B4,l_B4⟩:=blk3 B4.out
 go_wp2_with fail
 refine Calls.mono (rof3_any 1 _ (by decide) (by decide)) ?_
 rintro e w44 ⟨x44,rfl,hE,g44⟩
 have G44:=Hi g44
 clear g44
 replace HX:=hE.tr HX
 replace LC:=Hi (LC.out.ext hE)
 replace B2:=hE.bl B2
 replace B4:=hE.bl B4
 have hs_w44:=hE.size
 clear hE
 try clear c_B2 f_B2 l_B2
 obtain ⟨c_B2,f_B2,l_B2⟩:=blk3 B2.out
 try clear c_B4 f_B4 l_B4
 obtain ⟨c_B4,f_B4,l_B4⟩:=blk3 B4.out
 go_wp2_with fail
 refine Calls.mono (rof3_any (-1) _ (by decide) (by decide)) ?_
 rintro e w45 ⟨x45,rfl,hE,g45⟩
 have G45:=Hi g45
 clear g45
 replace HX:=hE.tr HX
 replace LC:=Hi (LC.out.ext hE)
 replace B2:=hE.bl B2
 replace B4:=hE.bl B4
 replace G44:=Hi (G44.out.ext hE)
 have hs_w45:=hE.size
 clear hE
 try clear c_B2 f_B2 l_B2
 obtain ⟨c_B2,f_B2,l_B2⟩:=blk3 B2.out
 try clear c_B4 f_B4 l_B4
 obtain ⟨c_B4,f_B4,l_B4⟩:=blk3 B4.out
 go_wp2_with fail
 refine Calls.mono (rof3_any 1 _ (by decide) (by decide)) ?_
 rintro e w46 ⟨x46,rfl,hE,g46⟩
 have G46:=Hi g46
 clear g46
 replace HX:=hE.tr HX
 replace LC:=Hi (LC.out.ext hE)
 replace B2:=hE.bl B2
 replace B4:=hE.bl B4
 replace G44:=Hi (G44.out.ext hE)
 replace G45:=Hi (G45.out.ext hE)
 have hs_w46:=hE.size
 clear hE
 try clear c_B2 f_B2 l_B2
 obtain ⟨c_B2,f_B2,l_B2⟩:=blk3 B2.out
 try clear c_B4 f_B4 l_B4
 obtain ⟨c_B4,f_B4,l_B4⟩:=blk3 B4.out
 go_wp2_with fail
 refine nm_alloc (F:=fun W=>Calls _ _ _ W _) ?_
 intro w47 hE hB0 hz
 have hz_w47:=nle hz
 have hr_w47:=nle hz.symm
 clear hz
 replace HX:=hE.tr HX
 replace LC:=Hi (LC.out.ext hE)
 replace B2:=hE.bl B2
 replace B4:=hE.bl B4
 replace G44:=Hi (G44.out.ext hE)
 replace G45:=Hi (G45.out.ext hE)
 replace G46:=Hi (G46.out.ext hE)
 have hs_w47:=hE.size
 clear hE
 try clear c_B2 f_B2 l_B2
 obtain ⟨c_B2,f_B2,l_B2⟩:=blk3 B2.out
 try clear c_B4 f_B4 l_B4
 obtain ⟨c_B4,f_B4,l_B4⟩:=blk3 B4.out
 have B47:=Hi hB0
 clear hB0
 obtain ⟨c_B47,f_B47,l_B47⟩:=blk3 B47.out
 change Calls _ _ _ _ _
 have L4:Hid (CanL w47 ⟨some ⟨w46.heap.size,0,none⟩,3,3⟩ bq3):=Hi (canL_3 B47.out G44.out G45.out G46.out)
 (try clear c_B47 f_B47 l_B47);clear B47
 clear G44
 clear G45
 clear G46
 refine Calls.mono ((by have h:=samelist_any ⟨ca,3,cc⟩ ⟨some ⟨w46.heap.size,0,none⟩,3,3⟩ bq3 bq3 _ LC.out L4.out;rw [decide_eq_true rfl] at h;exact h)) ?_
 rintro e w48 ⟨x48,rfl,hE,-⟩
 replace HX:=hE.tr HX
 replace LC:=Hi (LC.out.ext hE)
 replace B2:=hE.bl B2
 replace B4:=hE.bl B4
 have hs_w48:=hE.size
 clear hE
 try clear c_B2 f_B2 l_B2
 obtain ⟨c_B2,f_B2,l_B2⟩:=blk3 B2.out
 try clear c_B4 f_B4 l_B4
 obtain ⟨c_B4,f_B4,l_B4⟩:=blk3 B4.out
 go_wp2
 go_ret
 exact ⟨(),rfl,HX.out,trivial⟩
end Go.Proofs.YtpieblkklbilgaaGreat
