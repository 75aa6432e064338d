/- BernsteinChecks returns true. -/
import Derived.Test.YtpieblkklbilgaaGreatQKBa
import Derived.Test.YtpieblkklbilgaaGreatQKGU
import Derived.Test.YtpieblkklbilgaaGreatQKLwO
import Derived.Test.YtpieblkklbilgaaGreatQKCD
import Derived.Test.YtpieblkklbilgaaGreatQKJR
set_option linter.unusedVariables false
namespace Go.Proofs.YtpieblkklbilgaaGreat
open Go.RowKit Go.Front Go.Num Stab
attribute [local go_sem] XW.cell XW.frozen
theorem Vals.ext {w w':World} {rs:List RH} {qs:List Rat} (h:Vals CanR w rs qs) (he:Ext w w'):Vals CanR w' rs qs:=h.can_ext he
theorem vals_raw {w:World} {rs:List RH} {k:Nat} (hi:∀ r ∈ rs,RatIn w r) (hk:SmD k rs) (hk1:1≤k) (hk2:k≤134217728):∃ qs,Vals RawR w rs qs∧SzL k qs:=by
 have each:∀ i,∃ q,i < rs.length→RawR w (rs.getD i default) q:=by
  intro i
  by_cases hl:i < rs.length
  ·have hm:rs.getD i default ∈ rs:=by
    rw [show rs.getD i default=rs[i] by simp [hl]]
    exact List.getElem_mem hl
   obtain ⟨h1,h2⟩:=hk _ hm
   obtain ⟨q,hq⟩:=(hi _ hm).raw (by omega) (by omega)
   exact ⟨q,fun _=>hq⟩
  ·exact ⟨0,fun h=>absurd h hl⟩
 have hval:Vals RawR w rs ((List.range rs.length).map fun i=>Classical.choose (each i)):=by
  refine ⟨by simp,fun i hl=>?_⟩
  have hl':i < rs.length:=by simpa using hl
  rw [rg_at _ hl']
  exact Classical.choose_spec (each i) hl'
 refine ⟨_,hval,?_⟩
 intro q hq
 obtain ⟨i,hi',rfl⟩:=List.mem_iff_getElem.1 hq
 have hl:i < rs.length:=by simpa using hi'
 have hm:rs.getD i default ∈ rs:=by
  rw [show rs.getD i default=rs[i] by simp [hl]]
  exact List.getElem_mem hl
 obtain ⟨h1,h2⟩:=hk _ hm
 have h3:=hval.2 i (by simpa using hl)
 rw [show ((List.range rs.length).map fun i=>Classical.choose (each i)).getD i 0=((List.range rs.length).map fun i=>Classical.choose (each i))[i] by simp [hl]] at h3
 exact h3.sz hk1 h1 h2
theorem IvS.at {w:World} {ao:Option Addr} {n c:Nat} {rs:List RH} (h:IvS w ⟨ao,n,c⟩ rs) {k:Nat} (hk:k < n) :
  ∃ b off,ao=some ⟨b,off,none⟩∧b < w.heap.size∧IAt w b (off+k * 6) (rs.getD (2 * k) default) (rs.getD (2 * k+1) default):=by
 rcases h.at' with h0 | ⟨b,off,h3,h4⟩
 ·simp only at h0;omega
 ·simp only at h3 h4
  have g1:=h4 (2 * k) (by omega)
  have g2:=h4 (2 * k+1) (by omega)
  rw [show off+2 * k * 3=off+k * 6 by omega] at g1
  rw [show off+(2 * k+1) * 3=off+k * 6+3 by omega] at g2
  exact ⟨b,off,h3,World.block_lt_of_cell? _ _ g1.1,g1.1,g1.2.1,g1.2.2,g2.1,g2.2.1,g2.2.2⟩
theorem sm_two {rs:List RH} {j:Nat} (hj:2 * j+1 < rs.length) (h:SmD 4 (rs.take (2 * j))) (hs:smOn (rs.getD (2 * j) default) (rs.getD (2 * j+1) default)=true):SmD 4 (rs.take (2 * (j+1))):=by
 unfold smOn at hs
 obtain ⟨h1,h2⟩:=Bool.and_eq_true_iff.1 hs
 have e1:sm4 (rs.getD (2 * j) default).n (rs.getD (2 * j) default).m=true:=h1
 have e2:sm4 (rs.getD (2 * j+1) default).n (rs.getD (2 * j+1) default).m=true:=h2
 exact (h.take_succ (by omega) (of_decide_eq_true e1)).take_succ hj (of_decide_eq_true e2)
theorem nm_at6 {w1:World} {b:Nat} {T:TypeId} {c0 c1 c2 c3 c4 c5 c6 v:Value} {F:World→Prop} (hb:w1.heap[b]?=some (.cells #[c0,c1,c2,c3,c4,c5,c6] T (0,0))) (hn:#[c0,c1,c2,c3,c4,c5,c6].toList.all nonU=true)
  (h:∀ w2,PutB w1 b T #[c0,c1,c2,c3,c4,c5,v] w2→F w2):F (w1.setCell ⟨b,6,none⟩ v):=by
 have e0:=blk_set hb 6 v
 simp only [List.setIfInBounds_toArray,List.set_cons_zero,List.set_cons_succ] at e0
 exact h _ (PutB.of (Array.getElem?_eq_some_iff.1 hb).1 (noU_block hb hn) (Mods.setCell w1 ⟨b,6,none⟩ v) (by simp [World.setCell]) e0)
theorem sm4_lec {n m:Nat} (h:sm4 n m=true):n≤4∧m≤4:=of_decide_eq_true h
theorem hund_sz:Sz 1 (((1:Int):Rat) / ((100:Int):Rat)):=⟨by decide +kernel,by decide +kernel⟩
set_option maxRecDepth 8000 in
set_option maxHeartbeats 32000000 in
theorem checks7_any (pa:Option Addr) (pn pc:Nat) (rp:List RH) (s t:RH) (xo:Option Addr) (xn xc:Nat) (rs:List RH) (ao:Option Addr) (cap:Nat) (ls:List Int) (zn za zb:Int) (w:World) (h1:RS w ⟨pa,pn,pc⟩ rp) (i1:∀ r ∈ rp,RatIn w r)
  (is':RatIn w s) (it:RatIn w t) (hx:IvS w ⟨xo,xn,xc⟩ rs) (ix:∀ r ∈ rs,RatIn w r) (h:IntsAt w ao ls) (hr:InR ls) (hl:ls.length≤9223372036854775807) (hc:ls.length≤cap) (hcm:cap≤9223372036854775807)
  (c1:-9223372036854775808≤zn) (c2:zn≤9223372036854775807) (a1:-9223372036854775808≤za) (a2:za≤9223372036854775807) (b1:-9223372036854775808≤zb) (b2:zb≤9223372036854775807) :
  Does 5 [.slice pa pn pc,SgV ((s,t),⟨xo,xn,xc⟩),.slice ao ls.length cap,.int .i64 zn,.int .i64 za,.int .i64 zb] w (fun _:Unit=>.bool true) (fun _ _=>True):=by
 have HX:=Hi (Ext.refl w)
 have HPo:Hid (∀ w1,Ext w w1→Does 20 [.slice ao ls.length cap,.int .i64 zn] w1 SH.v (fun x w'=>CanL w' x (talV ls zn))):=Hi (fun w1 hE=>tall_any ao cap ls zn w1 (h.ext hE) hr hl hc hcm c1 c2)
 obtain ⟨f2,f3,f4⟩:=tal_facts ls zn
 obtain ⟨n,hn⟩:∃ n,n=ls.length:=⟨_,rfl⟩
 obtain ⟨q,hq⟩:∃ q,q=talV ls zn:=⟨_,rfl⟩
 rw [← hn,← hq] at HPo
 rw [← hq] at f2 f3 f4
 have hql:=f2
 have HTZ:=Hi f3
 have FQ:=Hi f4
 have ZQ:=Hi f4.sz
 rw [← hn]
 have H1:=Hi h1
 have I1:=Hi i1
 have IS:=Hi is'
 have IT:=Hi it
 have HXS:=Hi hx
 have IX:=Hi ix
 have hxl:=hx.len
 have hxle:=hx.le
 have hxmx:=hx.max
 simp only at hxl hxle hxmx
 have HXL:=Hi hxl
 have hq8:(tz q).length≤8:=by rw [HTZ.out];exact hql
 have ZQT:Hid (SzL 20 (tz q)):=Hi (by rw [HTZ.out];exact ZQ.out)
 have FQT:Hid (FrB 20 (tz q)):=Hi (by rw [HTZ.out];exact FQ.out)
 clear hn hq h hr hl hc hcm f2 f3 f4 h1 i1 is' it hx ix hxl
 obtain ⟨sn,sa,sl,sc,sb,sm,sd⟩:=s
 obtain ⟨tn,ta,tl,tc,tb,tm,td⟩:=t
 unfold Does
 go_enter Tryz.func5,Tryz.ntmps5
 go_upto_region 1 with fail
 refine nm_alloc ?_
 intro w1 hE hB0 hz
 have hz_w1:=nle hz
 have hr_w1:=nle hz.symm
 clear hz
 replace HX:=hE.tr HX
 have hs_w1:=hE.size
 clear hE
 have B7:=Hi hB0
 clear hB0
 obtain ⟨c_B7,f_B7,l_B7⟩:=blk3 B7.out
 go_wp2_with fail
 refine Calls.mono (smallpoly_any pa pn pc rp _ (H1.out.ext HX.out)) ?_
 rintro e w21 ⟨x21,rfl,hE,g21⟩
 have G21:=Hi g21
 clear g21
 replace HX:=hE.tr HX
 replace B7:=hE.bl B7
 have hs_w21:=hE.size
 clear hE
 try clear c_B7 f_B7 l_B7
 obtain ⟨c_B7,f_B7,l_B7⟩:=blk3 B7.out
 cases x21
 case false =>
  go_wp2_with fail
  refine Calls.mono (awake7_any _) ?_
  rintro e w35 ⟨x35,rfl,hE,-⟩
  replace HX:=hE.tr HX
  replace B7:=hE.bl B7
  have hs_w35:=hE.size
  clear hE
  try clear c_B7 f_B7 l_B7
  obtain ⟨c_B7,f_B7,l_B7⟩:=blk3 B7.out
  go_wp2
  go_ret
  exact ⟨(),rfl,HX.out,trivial⟩
 obtain ⟨hp8,sp⟩:=G21.out.1 rfl
 have SP:=Hi sp
 clear sp G21
 go_wp2_with fail
 refine Calls.mono (smallon_any ⟨sn,sa,sl,sc,sb,sm,sd⟩ ⟨tn,ta,tl,tc,tb,tm,td⟩ _) ?_
 rintro e w26 ⟨x26,rfl,hE,-⟩
 replace HX:=hE.tr HX
 replace B7:=hE.bl B7
 have hs_w26:=hE.size
 clear hE
 try clear c_B7 f_B7 l_B7
 obtain ⟨c_B7,f_B7,l_B7⟩:=blk3 B7.out
 obtain ⟨s4,hs4⟩:∃ s4,s4=smOn ⟨sn,sa,sl,sc,sb,sm,sd⟩ ⟨tn,ta,tl,tc,tb,tm,td⟩:=⟨_,rfl⟩
 rw [← hs4]
 have Hs4:=Hi hs4
 clear hs4
 cases s4
 case false =>
  go_wp2_with fail
  refine Calls.mono (awake7_any _) ?_
  rintro e w35 ⟨x35,rfl,hE,-⟩
  replace HX:=hE.tr HX
  replace B7:=hE.bl B7
  have hs_w35:=hE.size
  clear hE
  try clear c_B7 f_B7 l_B7
  obtain ⟨c_B7,f_B7,l_B7⟩:=blk3 B7.out
  go_wp2
  go_ret
  exact ⟨(),rfl,HX.out,trivial⟩
 by_cases hx6:xn≤6
 case neg =>
  have hx6i:(6:Int) < xn:=by omega
  go_wp2_with fail
  refine Calls.mono (awake7_any _) ?_
  rintro e w35 ⟨x35,rfl,hE,-⟩
  replace HX:=hE.tr HX
  replace B7:=hE.bl B7
  have hs_w35:=hE.size
  clear hE
  try clear c_B7 f_B7 l_B7
  obtain ⟨c_B7,f_B7,l_B7⟩:=blk3 B7.out
  go_wp2
  go_ret
  exact ⟨(),rfl,HX.out,trivial⟩
 have hx6i:¬ (6:Int) < xn:=by omega
 have h44:sm4 sl sm=true∧sm4 tl tm=true:=by have:=Hs4.out.symm;unfold smOn at this;exact Bool.and_eq_true_iff.1 this
 obtain ⟨hs1,hs2⟩:=sm4_lec h44.1
 obtain ⟨ht1,ht2⟩:=sm4_lec h44.2
 obtain ⟨p,hp,zp⟩:=rats_raw H1.out I1.out SP.out (by decide) (by decide)
 obtain ⟨a,ha⟩:=RatIn.raw IS.out (by simp only;omega) (by simp only;omega)
 obtain ⟨b,hb⟩:=RatIn.raw IT.out (by simp only;omega) (by simp only;omega)
 have ZA:Hid (Sz 4 a):=Hi (ha.sz (by decide) (by simp only;omega) (by simp only;omega))
 have ZB:Hid (Sz 4 b):=Hi (hb.sz (by decide) (by simp only;omega) (by simp only;omega))
 have hpl:=hp.len
 simp only at hpl
 have h8:(tz p).length≤8:=Nat.le_trans (tz_len_le p) (by omega)
 have ZP:Hid (SzL 19 (tz p)):=Hi (SzL.mono zp.tz (by decide))
 have FP:Hid (FrB 19 (tz p)):=Hi ((FrB.of zp.tz (n:=8) h8).mono (by decide))
 have LP0:=Hi hp
 have RA0:=Hi ha
 have RB0:=Hi hb
 clear hp ha hb zp hpl h44 hs1 hs2 ht1 ht2 Hs4 SP
 have hXn:Ext w26 w26:=Ext.refl w26
 have HXn:=Hi hXn
 clear hXn
 have HX9:=HX
 have B79:=B7
 obtain ⟨b7,hb7⟩:∃ z,z=w.heap.size:=⟨_,rfl⟩
 rw [← hb7] at B7 B79
 rw [← hb7]
 clear hb7 c_B7 f_B7 l_B7
 try clear c_B7 f_B7 l_B7
 obtain ⟨c_B7,f_B7,l_B7⟩:=blk3 B7.out
 have HSM0:Hid (SmD 4 (rs.take (2 * 0))):=Hi (fun r hr=>by simp at hr)
 go_wp2
 go_loopg [39] xn (fun g i wr=>∃ (j:Nat),j+g=xn∧i=.int .i64 (j:Nat)∧Ext w26 wr∧SmD 4 (rs.take (2 * j)))
 case atStart=>exact ⟨0,by omega,rfl,HXn.out,HSM0.out⟩
 case round =>
  obtain ⟨j,hj,rfl,g1,g2⟩:=hrel
  clear HXn B7 HX c_B7 f_B7 l_B7 HSM0
  have HXn:=Hi g1
  have B7:=Hi (g1.block B79.out)
  have HX:=Hi (HX9.out.trans g1)
  have HSM:=Hi g2
  clear g1 g2
  try clear c_B7 f_B7 l_B7
  obtain ⟨c_B7,f_B7,l_B7⟩:=blk3 B7.out
  by_cases h1:gk=0
  case neg =>
   have hin:(j:Int) < xn:=by omega
   obtain ⟨bw,off,hao,hbl,⟨f1,f2,f3,f4,f5,f6⟩⟩:=(HXS.out.ext HX.out).at (k:=j) (by omega)
   obtain ⟨r1,hr1⟩:∃ r,r=rs.getD (2 * j) default:=⟨_,rfl⟩
   obtain ⟨r2,hr2⟩:∃ r,r=rs.getD (2 * j+1) default:=⟨_,rfl⟩
   rw [← hr1] at f1 f2 f3
   rw [← hr2] at f4 f5 f6
   have HR1:=Hi hr1
   have HR2:=Hi hr2
   obtain ⟨rn,ra,rl,rc,rb,rm,rd⟩:=r1
   obtain ⟨kn,ka,kl,kc,kb,km,kd⟩:=r2
   simp only at f1 f2 f3 f4 f5 f6
   subst hao
   clear hr1 hr2
   go_upto_region 6 with fail
   refine nm_alloc ?_
   intro w40 hE hB0 hz
   have hz_w40:=nle hz
   have hr_w40:=nle hz.symm
   clear hz
   replace HX:=hE.tr HX
   replace HXn:=hE.tr HXn
   replace B7:=hE.bl B7
   have hs_w40:=hE.size
   clear hE
   try clear c_B7 f_B7 l_B7
   obtain ⟨c_B7,f_B7,l_B7⟩:=blk3 B7.out
   have B14:=Hi hB0
   clear hB0
   obtain ⟨c_B14,f_B14,l_B14⟩:=blk3 B14.out
   clear f1 f2 f3 f4 f5 f6
   go_wp2_with fail
   refine Calls.mono (smallon_any ⟨rn,ra,rl,rc,rb,rm,rd⟩ ⟨kn,ka,kl,kc,kb,km,kd⟩ _) ?_
   rintro e w44 ⟨x44,rfl,hE,-⟩
   replace HX:=hE.tr HX
   replace HXn:=hE.tr HXn
   replace B7:=hE.bl B7
   replace B14:=hE.bl B14
   have hs_w44:=hE.size
   clear hE
   try clear c_B7 f_B7 l_B7
   obtain ⟨c_B7,f_B7,l_B7⟩:=blk3 B7.out
   try clear c_B14 f_B14 l_B14
   obtain ⟨c_B14,f_B14,l_B14⟩:=blk3 B14.out
   obtain ⟨s4,hs4⟩:∃ s4,s4=smOn ⟨rn,ra,rl,rc,rb,rm,rd⟩ ⟨kn,ka,kl,kc,kb,km,kd⟩:=⟨_,rfl⟩
   rw [← hs4]
   have Hs4:=Hi hs4
   clear hs4
   cases s4
   case false =>
    go_wp2_with fail
    refine Calls.mono (awake7_any _) ?_
    rintro e w46 ⟨x46,rfl,hE,-⟩
    replace HX:=hE.tr HX
    replace HXn:=hE.tr HXn
    replace B7:=hE.bl B7
    replace B14:=hE.bl B14
    have hs_w46:=hE.size
    clear hE
    try clear c_B7 f_B7 l_B7
    obtain ⟨c_B7,f_B7,l_B7⟩:=blk3 B7.out
    try clear c_B14 f_B14 l_B14
    obtain ⟨c_B14,f_B14,l_B14⟩:=blk3 B14.out
    go_wp2
    go_ret
    exact ⟨(),rfl,HX.out,trivial⟩
   have HSM2:Hid (SmD 4 (rs.take (2 * (j+1)))):=Hi (sm_two (by rw [HXL.out];omega) HSM.out (by rw [← HR1.out,← HR2.out];exact Hs4.out.symm))
   go_wp2
   go_roundg (gk - 1)
   case measure=>omega
   case rel=>exact ⟨j+1,by omega,by go_num,HXn.out,HSM2.out⟩
  subst h1
  obtain rfl:j=xn:=by omega
  have hin:¬ (j:Int) < (j:Int):=by omega
  rw [List.take_of_length_le (by rw [HXL.out];omega)] at HSM
  obtain ⟨qs,hqs,zqs⟩:=vals_raw IX.out HSM.out (by decide) (by decide)
  have hsr1:=HXn.out.size
  have hsr2:=HX.out.size
  have LX0:Hid (RawIL w ⟨xo,j,xc⟩ qs):=Hi ⟨rs,HXS.out,hqs⟩
  have ZX:=Hi zqs
  clear hqs zqs
  obtain ⟨r1,hr1⟩:∃ r,r=ckE (tz p) (loV a b) (hiV a b) (tps qs):=⟨_,rfl⟩
  have HC1:Hid (∀ w1,Ext w w1→Does 26 [.slice pa pn pc,SgV ((⟨sn,sa,sl,sc,sb,sm,sd⟩,⟨tn,ta,tl,tc,tb,tm,td⟩),⟨xo,j,xc⟩)] w1 (fun _:Unit=>.int .i64 r1) (fun _ _=>True)):=Hi (fun w1 hE=>by
   rw [hr1];exact bcheck_any pa pn pc p ⟨sn,sa,sl,sc,sb,sm,sd⟩ ⟨tn,ta,tl,tc,tb,tm,td⟩ xo j xc qs a b 19 4 w1 (LP0.out.ext hE) (RA0.out.ext hE) (RB0.out.ext hE) (LX0.out.ext hE) (by omega) h8 ZP.out ZA.out ZB.out ZX.out (by decide) (by decide) (by omega))
  have HC2:Hid (∀ w1,Ext w w1→Does 32 [.slice pa pn pc,SgV ((⟨sn,sa,sl,sc,sb,sm,sd⟩,⟨tn,ta,tl,tc,tb,tm,td⟩),⟨xo,j,xc⟩)] w1 (fun _:Unit=>.int .i64 r1) (fun _ _=>True)):=Hi (fun w1 hE=>by
   rw [hr1];exact rcheck7_any pa pn pc p ⟨sn,sa,sl,sc,sb,sm,sd⟩ ⟨tn,ta,tl,tc,tb,tm,td⟩ xo j xc qs a b 19 4 w1 (LP0.out.ext hE) (RA0.out.ext hE) (RB0.out.ext hE) (LX0.out.ext hE) (by omega) h8 FP.out ZA.out ZB.out ZX.out (by decide) (by decide) (by decide) (by omega))
  clear hr1
  go_wp2_with fail
  refine Calls.mono (HPo.out _ HX.out) ?_
  rintro e w50 ⟨x50,rfl,hE,g50⟩
  have G50:=Hi g50
  clear g50
  replace HX:=hE.tr HX
  replace HXn:=hE.tr HXn
  replace B7:=hE.bl B7
  have hs_w50:=hE.size
  clear hE
  try clear c_B7 f_B7 l_B7
  obtain ⟨c_B7,f_B7,l_B7⟩:=blk3 B7.out
  obtain ⟨qa,qn,qc⟩:=x50
  have LQ:=Hi G50.out.lin
  clear G50
  have hqn:qn≤8:=by have e:q.length=qn:=LQ.out.can.len;omega
  simp only [SH.v]
  go_wp2_with fail
  refine Calls.mono (on_any za zb _ a1 a2 b1 b2) ?_
  rintro e w53 ⟨x53,rfl,hE,g53⟩
  have G53:=Hi g53
  clear g53
  replace HX:=hE.tr HX
  replace HXn:=hE.tr HXn
  replace B7:=hE.bl B7
  replace LQ:=Hi (LQ.out.ext hE)
  have hs_w53:=hE.size
  clear hE
  try clear c_B7 f_B7 l_B7
  obtain ⟨c_B7,f_B7,l_B7⟩:=blk3 B7.out
  obtain ⟨⟨ln,la,ll,lc,lb,lm,ld⟩,⟨hn,ha,hl,hc,hb,hm,hd⟩⟩:=x53
  have DL:Hid (Dyd 0 (loV (cosQ za) (cosQ zb))):=Hi (dyd_lo (cosQ_dyd za) (cosQ_dyd zb))
  have DH:Hid (Dyd 0 (hiV (cosQ za) (cosQ zb))):=Hi (dyd_hi (cosQ_dyd za) (cosQ_dyd zb))
  have hlh:=lo_hi (cosQ za) (cosQ zb)
  have HL:=Hi G53.out.1
  have HH:=Hi G53.out.2
  clear G53
  obtain ⟨lo,hlo⟩:∃ lo,lo=loV (cosQ za) (cosQ zb):=⟨_,rfl⟩
  obtain ⟨hi,hhi⟩:∃ hi,hi=hiV (cosQ za) (cosQ zb):=⟨_,rfl⟩
  rw [← hlo] at HL DL hlh
  rw [← hhi] at HH DH hlh
  have HLH:=Hi hlh
  have ZL:=Hi (DL.out.sz (by decide))
  have ZH:=Hi (DH.out.sz (by decide))
  clear hlo hhi hlh
  simp only at HL HH
  go_upto_region 10 with fail
  refine nm_alloc ?_
  intro w54 hE hB0 hz
  have hz_w54:=nle hz
  have hr_w54:=nle hz.symm
  clear hz
  replace HX:=hE.tr HX
  replace HXn:=hE.tr HXn
  replace B7:=hE.bl B7
  replace LQ:=Hi (LQ.out.ext hE)
  replace HL:=Hi (HL.out.ext hE)
  replace HH:=Hi (HH.out.ext hE)
  have hs_w54:=hE.size
  clear hE
  try clear c_B7 f_B7 l_B7
  obtain ⟨c_B7,f_B7,l_B7⟩:=blk3 B7.out
  have B16:=Hi hB0
  clear hB0
  obtain ⟨c_B16,f_B16,l_B16⟩:=blk3 B16.out
  have p754:b7 < w54.heap.size:=l_B7
  have HRP:=Hi (rprove7_any qa qn qc q ⟨ln,la,ll,lc,lb,lm,ld⟩ ⟨hn,ha,hl,hc,hb,hm,hd⟩ lo hi 20 _ LQ.out.can HTZ.out HL.out HH.out hql FQ.out (by decide) DL.out DH.out HLH.out)
  go_wp2_with fail
  refine Calls.mono (HRP.out) ?_
  rintro e w57 ⟨x57,rfl,hE,g57⟩
  have G57:=Hi g57
  clear g57
  replace HX:=hE.tr HX
  replace HXn:=hE.tr HXn
  replace B7:=hE.bl B7
  replace LQ:=Hi (LQ.out.ext hE)
  replace HL:=Hi (HL.out.ext hE)
  replace HH:=Hi (HH.out.ext hE)
  replace B16:=hE.bl B16
  have hs_w57:=hE.size
  clear hE
  try clear c_B7 f_B7 l_B7
  obtain ⟨c_B7,f_B7,l_B7⟩:=blk3 B7.out
  try clear c_B16 f_B16 l_B16
  obtain ⟨c_B16,f_B16,l_B16⟩:=blk3 B16.out
  clear HRP
  obtain ⟨⟨⟨⟨un,ua,ul,uc,ub,um,ud⟩,⟨vn,va,vl,vc,vb,vm,vd⟩⟩,⟨ya,yn,yc⟩⟩,e57⟩:=x57
  rcases hr1:rcl 12 q lo hi with _ | xs
  case none =>
   rw [hr1] at G57
   have hx2:=G57.out
   unfold PvP at hx2
   simp only [Prod.mk.injEq,RH.mk.injEq,SH.mk.injEq] at hx2
   obtain ⟨⟨⟨⟨rfl,rfl,rfl,rfl,rfl,rfl,rfl⟩,rfl,rfl,rfl,rfl,rfl,rfl,rfl⟩,rfl,rfl,rfl⟩,rfl⟩:=hx2
   clear hr1 G57
   have p7:b7 < w57.heap.size:=l_B7
   go_upto_region 11 with fail
   refine nm_alloc ?_
   intro w58 hE hB0 hz
   have hz_w58:=nle hz
   have hr_w58:=nle hz.symm
   clear hz
   replace HX:=hE.tr HX
   replace HXn:=hE.tr HXn
   replace B7:=hE.bl B7
   replace LQ:=Hi (LQ.out.ext hE)
   replace HL:=Hi (HL.out.ext hE)
   replace HH:=Hi (HH.out.ext hE)
   replace B16:=hE.bl B16
   have hs_w58:=hE.size
   clear hE
   try clear c_B7 f_B7 l_B7
   obtain ⟨c_B7,f_B7,l_B7⟩:=blk3 B7.out
   try clear c_B16 f_B16 l_B16
   obtain ⟨c_B16,f_B16,l_B16⟩:=blk3 B16.out
   have B17:=Hi hB0
   clear hB0
   obtain ⟨c_B17,f_B17,l_B17⟩:=blk3 B17.out
   obtain ⟨b17,hb17⟩:∃ z,z=w57.heap.size:=⟨_,rfl⟩
   have q17:w57.heap.size≤b17:=by omega
   have q17w:w.heap.size≤b17:=by omega
   have q17n:w26.heap.size≤b17:=by omega
   have n717:b7 ≠ b17:=by omega
   have q17q:w50.heap.size≤b17:=by omega
   rw [← hb17] at B17
   rw [← hb17]
   clear hb17 c_B17 f_B17 l_B17
   try clear c_B7 f_B7 l_B7
   obtain ⟨c_B7,f_B7,l_B7⟩:=blk3 B7.out
   try clear c_B16 f_B16 l_B16
   obtain ⟨c_B16,f_B16,l_B16⟩:=blk3 B16.out
   try clear c_B17 f_B17 l_B17
   obtain ⟨c_B17,f_B17,l_B17⟩:=blk3 B17.out
   have RZ:=Hi (rawR_default w58)
   have RY:Hid (RawIL w58 ⟨none,0,0⟩ []):=Hi ⟨[],IvS.nil _,Vals.nil _ _⟩
   have ZZ0:Hid (Sz 4 (0:Rat)):=Hi (Sz.zero (by decide))
   have ZY:Hid (SzL 4 ([]:List Rat)):=Hi (fun y hy=>by simp at hy)
   obtain ⟨r2,hr2⟩:∃ r,r=ckE (tz q) (loV (0) (0)) (hiV (0) (0)) (tps ([])):=⟨_,rfl⟩
   have HD1:Hid (∀ w1,Ext w58 w1→Does 26 [.slice qa qn qc,SgV ((⟨false,none,0,0,none,0,0⟩,⟨false,none,0,0,none,0,0⟩),⟨none,0,0⟩)] w1 (fun _:Unit=>.int .i64 r2) (fun _ _=>True)):=Hi (fun w1 hE=>by
    rw [hr2];exact bcheck_any qa qn qc q ⟨false,none,0,0,none,0,0⟩ ⟨false,none,0,0,none,0,0⟩ none 0 0 ([]) (0) (0) 20 4 w1 ((LQ.out.can.raw ZQ.out (by decide)).ext hE) (RZ.out.ext hE) (RZ.out.ext hE) (RY.out.ext hE) (by omega) hq8 ZQT.out ZZ0.out ZZ0.out ZY.out (by decide) (by decide) (by decide))
   have HD2:Hid (∀ w1,Ext w58 w1→Does 32 [.slice qa qn qc,SgV ((⟨false,none,0,0,none,0,0⟩,⟨false,none,0,0,none,0,0⟩),⟨none,0,0⟩)] w1 (fun _:Unit=>.int .i64 r2) (fun _ _=>True)):=Hi (fun w1 hE=>by
    rw [hr2];exact rcheck7_any qa qn qc q ⟨false,none,0,0,none,0,0⟩ ⟨false,none,0,0,none,0,0⟩ none 0 0 ([]) (0) (0) 20 4 w1 ((LQ.out.can.raw ZQ.out (by decide)).ext hE) (RZ.out.ext hE) (RZ.out.ext hE) (RY.out.ext hE) (by omega) hq8 FQT.out ZZ0.out ZZ0.out ZY.out (by decide) (by decide) (by decide) (by decide))
   clear hr2
   go_upto_region 20 with fail
   refine wp_region_front 19 (fun opIx=>match opIx with
    | 0=>.spec Unit () (fun _=>.bool true) (fun _ _=>True)
    | 4=>.spec Unit () (fun _=>.int .i64 r1) (fun _ _=>True)
    | 7=>.spec Unit () (fun _=>.int .i64 r1) (fun _ _=>True)
    | 13=>.spec Unit () (fun _=>.int .i64 r2) (fun _ _=>True)
    | 16=>.spec Unit () (fun _=>.int .i64 r2) (fun _ _=>True)
    | _=>.quiet) (fun _=>[]) (by kernel_rfl) (by kernel_rfl) (fun w0 he0 hz0 hc0 hf0=>?_)
   replace he0:=Hi he0
   simp only [pT]
   repeat (refine wpq fun K h=>?_;go_big_quiet_op;refine h _ ?_;clear h K)
   refine wps he0.out rfl rfl (fun w1 hW hG=>?_) fun x100=>?_
   ·exact spc [] Tryz.func24 (awake7_any _)
   simp only [pS]
   repeat (refine wpq fun K h=>?_;go_big_quiet_op;refine h _ ?_;clear h K)
   refine wps he0.out rfl rfl (fun w1 hW hG=>?_) fun x101=>?_
   ·exact spc [.slice pa pn pc,SgV ((⟨sn,sa,sl,sc,sb,sm,sd⟩,⟨tn,ta,tl,tc,tb,tm,td⟩),⟨xo,j,xc⟩)] Tryz.func26 (HC1.out _ (HX.out.trans hW))
   simp only [pS]
   repeat (refine wpq fun K h=>?_;go_big_quiet_op;refine h _ ?_;clear h K)
   refine wps he0.out rfl rfl (fun w1 hW hG=>?_) fun x102=>?_
   ·exact spc [.slice pa pn pc,SgV ((⟨sn,sa,sl,sc,sb,sm,sd⟩,⟨tn,ta,tl,tc,tb,tm,td⟩),⟨xo,j,xc⟩)] Tryz.func32 (HC2.out _ (HX.out.trans hW))
   simp only [pS]
   repeat (refine wpq fun K h=>?_;go_big_quiet_op;refine h _ ?_;clear h K)
   refine wps he0.out rfl rfl (fun w1 hW hG=>?_) fun x103=>?_
   ·exact spc [.slice qa qn qc,SgV ((⟨false,none,0,0,none,0,0⟩,⟨false,none,0,0,none,0,0⟩),⟨none,0,0⟩)] Tryz.func26 (HD1.out _ hW)
   simp only [pS]
   repeat (refine wpq fun K h=>?_;go_big_quiet_op;refine h _ ?_;clear h K)
   refine wps he0.out rfl rfl (fun w1 hW hG=>?_) fun x104=>?_
   ·exact spc [.slice qa qn qc,SgV ((⟨false,none,0,0,none,0,0⟩,⟨false,none,0,0,none,0,0⟩),⟨none,0,0⟩)] Tryz.func32 (HD2.out _ hW)
   simp only [pS]
   repeat (refine wpq fun K h=>?_;go_big_quiet_op;refine h _ ?_;clear h K)
   refine wpF_nil ?_
   intro w90 hI
   have hE:=he0.out.trans hI.ext
   clear hI he0 hz0 hc0 hf0
   replace HX:=hE.tr HX
   replace HXn:=hE.tr HXn
   replace B7:=hE.bl B7
   replace LQ:=Hi (LQ.out.ext hE)
   replace HL:=Hi (HL.out.ext hE)
   replace HH:=Hi (HH.out.ext hE)
   replace B16:=hE.bl B16
   replace B17:=hE.bl B17
   have hs_w90:=hE.size
   clear hE
   try clear c_B7 f_B7 l_B7
   obtain ⟨c_B7,f_B7,l_B7⟩:=blk3 B7.out
   try clear c_B16 f_B16 l_B16
   obtain ⟨c_B16,f_B16,l_B16⟩:=blk3 B16.out
   try clear c_B17 f_B17 l_B17
   obtain ⟨c_B17,f_B17,l_B17⟩:=blk3 B17.out
   simp only [pD]
   go_wp2
   all_goals (go_ret;exact ⟨(),rfl,HX.out,trivial⟩)
  rw [hr1] at G57
  obtain ⟨rfl,hv2,ho2⟩:=G57.out
  simp only at hv2 ho2
  have HA:=Hi (rcl_all DL.out DH.out HLH.out hr1)
  have hyl:=ho2.len
  have hyn0:0 < yn:=by
   rcases Nat.eq_zero_or_pos yn with h | h
   ·rw [h] at hyl;exact absurd (List.length_eq_zero_iff.1 (by omega)) HA.out.2.2.2.1
   ·exact h
  have hyn:yn≤4096:=by have:=HA.out.2.2.1;omega
  obtain ⟨L,ycap,yrs,yre,hya,hLD,hbk,hre,hvls,hyrl,hyc,hym⟩:=ho2.bk hyn0
  simp only [SH.v,Value.slice.injEq] at hya
  obtain ⟨rfl,-,rfl⟩:=hya
  have V3:=Hi hv2.1
  have V4:=Hi hv2.2
  have BK:=Hi hbk
  have VL:=Hi hvls
  have HYL:=Hi hyrl
  have HQL:=Hi hyl
  have hL54:w54.heap.size≤L:=hLD
  have hLl:L < w57.heap.size:=hbk.lt
  have HRE:=Hi hre
  have LO57:Hid (OwnI w57 (fun k=>k=L) (.slice (some ⟨L,0,none⟩) yn yc) yn xs):=Hi ho2.only
  clear hv2 ho2 hbk hvls hr1 hyl hyrl hLD hre G57
  simp only at V3 V4
  have p7:b7 < w57.heap.size:=l_B7
  go_upto_region 11 with fail
  refine nm_alloc ?_
  intro w58 hE hB0 hz
  have hz_w58:=nle hz
  have hr_w58:=nle hz.symm
  clear hz
  replace HX:=hE.tr HX
  replace HXn:=hE.tr HXn
  replace B7:=hE.bl B7
  replace LQ:=Hi (LQ.out.ext hE)
  replace HL:=Hi (HL.out.ext hE)
  replace HH:=Hi (HH.out.ext hE)
  replace B16:=hE.bl B16
  replace V3:=Hi (V3.out.ext hE)
  replace V4:=Hi (V4.out.ext hE)
  replace VL:=Hi (VL.out.ext hE)
  replace BK:=Hi (BK.out.ext hE)
  replace LO57:=Hi (LO57.out.ext hE)
  have hs_w58:=hE.size
  clear hE
  try clear c_B7 f_B7 l_B7
  obtain ⟨c_B7,f_B7,l_B7⟩:=blk3 B7.out
  try clear c_B16 f_B16 l_B16
  obtain ⟨c_B16,f_B16,l_B16⟩:=blk3 B16.out
  have B17:=Hi hB0
  clear hB0
  obtain ⟨c_B17,f_B17,l_B17⟩:=blk3 B17.out
  obtain ⟨b17,hb17⟩:∃ z,z=w57.heap.size:=⟨_,rfl⟩
  have q17:w57.heap.size≤b17:=by omega
  have q17w:w.heap.size≤b17:=by omega
  have q17n:w26.heap.size≤b17:=by omega
  have n717:b7 ≠ b17:=by omega
  have q17q:w50.heap.size≤b17:=by omega
  rw [← hb17] at B17
  rw [← hb17]
  clear hb17 c_B17 f_B17 l_B17
  try clear c_B7 f_B7 l_B7
  obtain ⟨c_B7,f_B7,l_B7⟩:=blk3 B7.out
  try clear c_B16 f_B16 l_B16
  obtain ⟨c_B16,f_B16,l_B16⟩:=blk3 B16.out
  try clear c_B17 f_B17 l_B17
  obtain ⟨c_B17,f_B17,l_B17⟩:=blk3 B17.out
  have nL17:L ≠ b17:=by omega
  have nL7:b7 ≠ L:=by omega
  go_wp2_with fail
  refine Calls.mono (mod_any zn (yn:Nat) _ c1 c2 (by omega) (by omega)) ?_
  rintro e w66 ⟨x66,rfl,hE,-⟩
  replace HX:=hE.tr HX
  replace HXn:=hE.tr HXn
  replace B7:=hE.bl B7
  replace LQ:=Hi (LQ.out.ext hE)
  replace HL:=Hi (HL.out.ext hE)
  replace HH:=Hi (HH.out.ext hE)
  replace B16:=hE.bl B16
  replace V3:=Hi (V3.out.ext hE)
  replace V4:=Hi (V4.out.ext hE)
  replace VL:=Hi (VL.out.ext hE)
  replace BK:=Hi (BK.out.ext hE)
  replace LO57:=Hi (LO57.out.ext hE)
  replace B17:=hE.bl B17
  have hs_w66:=hE.size
  clear hE
  try clear c_B7 f_B7 l_B7
  obtain ⟨c_B7,f_B7,l_B7⟩:=blk3 B7.out
  try clear c_B16 f_B16 l_B16
  obtain ⟨c_B16,f_B16,l_B16⟩:=blk3 B16.out
  try clear c_B17 f_B17 l_B17
  obtain ⟨c_B17,f_B17,l_B17⟩:=blk3 B17.out
  have e1:=Int.emod_nonneg zn (show ((yn:Nat):Int) ≠ 0 by omega)
  have e2:=Int.emod_lt_of_pos zn (show (0:Int) < (yn:Nat) by omega)
  obtain ⟨k,hk⟩:∃ k:Nat,zn % ((yn:Nat):Int)=(k:Nat):=⟨(zn % ((yn:Nat):Int)).toNat,by omega⟩
  rw [hk] at e1 e2 ⊢
  clear hk e1
  have hky:k < yn:=by omega
  go_wp2_with fail
  refine Calls.mono (mod_any zn 4 _ c1 c2 (by decide) (by decide)) ?_
  rintro e w68 ⟨x68,rfl,hE,-⟩
  replace HX:=hE.tr HX
  replace HXn:=hE.tr HXn
  replace B7:=hE.bl B7
  replace LQ:=Hi (LQ.out.ext hE)
  replace HL:=Hi (HL.out.ext hE)
  replace HH:=Hi (HH.out.ext hE)
  replace B16:=hE.bl B16
  replace V3:=Hi (V3.out.ext hE)
  replace V4:=Hi (V4.out.ext hE)
  replace VL:=Hi (VL.out.ext hE)
  replace BK:=Hi (BK.out.ext hE)
  replace LO57:=Hi (LO57.out.ext hE)
  replace B17:=hE.bl B17
  have hs_w68:=hE.size
  clear hE
  try clear c_B7 f_B7 l_B7
  obtain ⟨c_B7,f_B7,l_B7⟩:=blk3 B7.out
  try clear c_B16 f_B16 l_B16
  obtain ⟨c_B16,f_B16,l_B16⟩:=blk3 B16.out
  try clear c_B17 f_B17 l_B17
  obtain ⟨c_B17,f_B17,l_B17⟩:=blk3 B17.out
  have m1:=Int.emod_nonneg zn (show (4:Int) ≠ 0 by decide)
  have m2:=Int.emod_lt_of_pos zn (show (0:Int) < 4 by decide)
  obtain ⟨m4,hm4⟩:∃ m,m=zn % 4:=⟨_,rfl⟩
  rw [← hm4] at m1 m2 ⊢
  clear hm4
  have p17:b17 < w68.heap.size:=l_B17
  have pL:L < w68.heap.size:=BK.out.lt
  have ZX1:=Hi HA.out.2.1
  have hW68:w57.heap.size≤w68.heap.size:=by omega
  have hW50:w50.heap.size≤L:=by omega
  have hW26:w.heap.size≤L:=by omega
  have hW26n:w26.heap.size≤L:=by omega
  have hW54:w54.heap.size≤w68.heap.size:=by omega
  have hcp:k≤yc:=by omega
  have hg0:=BK.out.at (k:=2 * k) (by rw [HYL.out];omega)
  have hg1:=BK.out.at (k:=2 * k+1) (by rw [HYL.out];omega)
  rw [show 2 * k * 3=k * 6 by omega] at hg0
  rw [show (2 * k+1) * 3=k * 6+3 by omega] at hg1
  have R1:=Hi (VL.out.2 (2 * k) (by rw [HQL.out];omega))
  have R2:=Hi (VL.out.2 (2 * k+1) (by rw [HQL.out];omega))
  have ZR1:=Hi (ZX1.out.at (i:=2 * k) (by rw [HQL.out];omega))
  have ZR2:=Hi (ZX1.out.at (i:=2 * k+1) (by rw [HQL.out];omega))
  obtain ⟨f1,f2,f3⟩:=hg0
  obtain ⟨f4,f5,f6⟩:=hg1
  obtain ⟨⟨rn,ra,rl,rc,rb,rm,rd⟩,hr1⟩:∃ r,r=yrs.getD (2 * k) default:=⟨_,rfl⟩
  obtain ⟨⟨kn,ka,kl,kc,kb,km,kd⟩,hr2⟩:∃ r,r=yrs.getD (2 * k+1) default:=⟨_,rfl⟩
  rw [← hr1] at R1 f1 f2 f3
  rw [← hr2] at R2 f4 f5 f6
  simp only at f1 f2 f3
  have f4:w68.cell? ⟨L,k * 6+3,none⟩=some (.bool kn):=f4
  have f5:w68.cell? ⟨L,k * 6+4,none⟩=some (.slice ka kl kc):=f5
  have f6:w68.cell? ⟨L,k * 6+5,none⟩=some (.slice kb km kd):=f6
  have hfz:=fun i=>BK.out.frozen i
  clear hr1 hr2
  rcases (show m4=3 ∨ m4=1 ∨ m4=2 ∨ m4=0 by omega) with rfl | rfl | rfl | rfl
  case inl =>
   clear f1 f2 f3 f4 f5 f6 hfz
   have C0:=Hi (OwnI.can (s:=⟨some ⟨L,0,none⟩,yn,yc⟩) LO57.out).2
   clear LO57
   clear BK
   clear VL
   clear R1
   clear R2
   go_upto_region 20 with fail
   have RC:=Hi (C0.out.raw ZX1.out (by decide))
   have ZX4:=Hi (ZX1.out.mono (show 1≤4 by decide))
   have ZL4:=Hi (ZL.out.mono (show 1≤4 by decide))
   have ZH4:=Hi (ZH.out.mono (show 1≤4 by decide))
   have RV3:=Hi (V3.out.raw ZL.out (by decide))
   have RV4:=Hi (V4.out.raw ZH.out (by decide))
   obtain ⟨r2,hr2⟩:∃ r,r=ckE (tz q) (loV (lo) (hi)) (hiV (lo) (hi)) (tps (xs)):=⟨_,rfl⟩
   have HD1:Hid (∀ w1,Ext w68 w1→Does 26 [.slice qa qn qc,SgV ((⟨un,ua,ul,uc,ub,um,ud⟩,⟨vn,va,vl,vc,vb,vm,vd⟩),⟨some ⟨L,0,none⟩,yn,yc⟩)] w1 (fun _:Unit=>.int .i64 r2) (fun _ _=>True)):=Hi (fun w1 hE=>by
    rw [hr2];exact bcheck_any qa qn qc q ⟨un,ua,ul,uc,ub,um,ud⟩ ⟨vn,va,vl,vc,vb,vm,vd⟩ (some ⟨L,0,none⟩) yn yc (xs) (lo) (hi) 20 4 w1 ((LQ.out.can.raw ZQ.out (by decide)).ext hE) (RV3.out.ext hE) (RV4.out.ext hE) (RC.out.ext hE) (by omega) hq8 ZQT.out ZL4.out ZH4.out ZX4.out (by decide) (by decide) (by omega))
   have HD2:Hid (∀ w1,Ext w68 w1→Does 32 [.slice qa qn qc,SgV ((⟨un,ua,ul,uc,ub,um,ud⟩,⟨vn,va,vl,vc,vb,vm,vd⟩),⟨some ⟨L,0,none⟩,yn,yc⟩)] w1 (fun _:Unit=>.int .i64 r2) (fun _ _=>True)):=Hi (fun w1 hE=>by
    rw [hr2];exact rcheck7_any qa qn qc q ⟨un,ua,ul,uc,ub,um,ud⟩ ⟨vn,va,vl,vc,vb,vm,vd⟩ (some ⟨L,0,none⟩) yn yc (xs) (lo) (hi) 20 4 w1 ((LQ.out.can.raw ZQ.out (by decide)).ext hE) (RV3.out.ext hE) (RV4.out.ext hE) (RC.out.ext hE) (by omega) hq8 FQT.out ZL4.out ZH4.out ZX4.out (by decide) (by decide) (by decide) (by omega))
   clear hr2
   go_upto_region 20 with fail
   refine wp_region_front 19 (fun opIx=>match opIx with
    | 0=>.spec Unit () (fun _=>.bool true) (fun _ _=>True)
    | 4=>.spec Unit () (fun _=>.int .i64 r1) (fun _ _=>True)
    | 7=>.spec Unit () (fun _=>.int .i64 r1) (fun _ _=>True)
    | 13=>.spec Unit () (fun _=>.int .i64 r2) (fun _ _=>True)
    | 16=>.spec Unit () (fun _=>.int .i64 r2) (fun _ _=>True)
    | _=>.quiet) (fun _=>[]) (by kernel_rfl) (by kernel_rfl) (fun w0 he0 hz0 hc0 hf0=>?_)
   replace he0:=Hi he0
   simp only [pT]
   repeat (refine wpq fun K h=>?_;go_big_quiet_op;refine h _ ?_;clear h K)
   refine wps he0.out rfl rfl (fun w1 hW hG=>?_) fun x100=>?_
   ·exact spc [] Tryz.func24 (awake7_any _)
   simp only [pS]
   repeat (refine wpq fun K h=>?_;go_big_quiet_op;refine h _ ?_;clear h K)
   refine wps he0.out rfl rfl (fun w1 hW hG=>?_) fun x101=>?_
   ·exact spc [.slice pa pn pc,SgV ((⟨sn,sa,sl,sc,sb,sm,sd⟩,⟨tn,ta,tl,tc,tb,tm,td⟩),⟨xo,j,xc⟩)] Tryz.func26 (HC1.out _ (HX.out.trans hW))
   simp only [pS]
   repeat (refine wpq fun K h=>?_;go_big_quiet_op;refine h _ ?_;clear h K)
   refine wps he0.out rfl rfl (fun w1 hW hG=>?_) fun x102=>?_
   ·exact spc [.slice pa pn pc,SgV ((⟨sn,sa,sl,sc,sb,sm,sd⟩,⟨tn,ta,tl,tc,tb,tm,td⟩),⟨xo,j,xc⟩)] Tryz.func32 (HC2.out _ (HX.out.trans hW))
   simp only [pS]
   repeat (refine wpq fun K h=>?_;go_big_quiet_op;refine h _ ?_;clear h K)
   refine wps he0.out rfl rfl (fun w1 hW hG=>?_) fun x103=>?_
   ·exact spc [.slice qa qn qc,SgV ((⟨un,ua,ul,uc,ub,um,ud⟩,⟨vn,va,vl,vc,vb,vm,vd⟩),⟨some ⟨L,0,none⟩,yn,yc⟩)] Tryz.func26 (HD1.out _ hW)
   simp only [pS]
   repeat (refine wpq fun K h=>?_;go_big_quiet_op;refine h _ ?_;clear h K)
   refine wps he0.out rfl rfl (fun w1 hW hG=>?_) fun x104=>?_
   ·exact spc [.slice qa qn qc,SgV ((⟨un,ua,ul,uc,ub,um,ud⟩,⟨vn,va,vl,vc,vb,vm,vd⟩),⟨some ⟨L,0,none⟩,yn,yc⟩)] Tryz.func32 (HD2.out _ hW)
   simp only [pS]
   repeat (refine wpq fun K h=>?_;go_big_quiet_op;refine h _ ?_;clear h K)
   refine wpF_nil ?_
   intro w90 hI
   have hE:=he0.out.trans hI.ext
   clear hI he0 hz0 hc0 hf0
   replace HX:=hE.tr HX
   replace HXn:=hE.tr HXn
   replace B7:=hE.bl B7
   replace LQ:=Hi (LQ.out.ext hE)
   replace HL:=Hi (HL.out.ext hE)
   replace HH:=Hi (HH.out.ext hE)
   replace B16:=hE.bl B16
   replace V3:=Hi (V3.out.ext hE)
   replace V4:=Hi (V4.out.ext hE)
   replace B17:=hE.bl B17
   have hs_w90:=hE.size
   clear hE
   try clear c_B7 f_B7 l_B7
   obtain ⟨c_B7,f_B7,l_B7⟩:=blk3 B7.out
   try clear c_B16 f_B16 l_B16
   obtain ⟨c_B16,f_B16,l_B16⟩:=blk3 B16.out
   try clear c_B17 f_B17 l_B17
   obtain ⟨c_B17,f_B17,l_B17⟩:=blk3 B17.out
   simp only [pD]
   go_wp2
   all_goals (go_ret;exact ⟨(),rfl,HX.out,trivial⟩)
  case inr.inl =>
   clear LO57
   go_upto_region 17 with fail
   refine wp_region_front 17 (fun opIx=>match opIx with
    | _=>.quiet) (fun _=>[]) (by kernel_rfl) (by kernel_rfl) (fun w0 he0 hz0 hc0 hf0=>?_)
   replace he0:=Hi he0
   simp only [pT]
   repeat (refine wpq fun K h=>?_;go_big_quiet_op;refine h _ ?_;clear h K)
   refine wpF_nil ?_
   intro w70 hI
   have hE:=he0.out.trans hI.ext
   clear hI he0 hz0 hc0 hf0
   replace HX:=hE.tr HX
   replace HXn:=hE.tr HXn
   replace B7:=hE.bl B7
   replace LQ:=Hi (LQ.out.ext hE)
   replace HL:=Hi (HL.out.ext hE)
   replace HH:=Hi (HH.out.ext hE)
   replace B16:=hE.bl B16
   replace V3:=Hi (V3.out.ext hE)
   replace V4:=Hi (V4.out.ext hE)
   replace VL:=Hi (VL.out.ext hE)
   replace BK:=Hi (BK.out.ext hE)
   replace B17:=hE.bl B17
   replace R1:=Hi (R1.out.ext hE)
   replace R2:=Hi (R2.out.ext hE)
   have hs_w70:=hE.size
   clear hE
   try clear c_B7 f_B7 l_B7
   obtain ⟨c_B7,f_B7,l_B7⟩:=blk3 B7.out
   try clear c_B16 f_B16 l_B16
   obtain ⟨c_B16,f_B16,l_B16⟩:=blk3 B16.out
   try clear c_B17 f_B17 l_B17
   obtain ⟨c_B17,f_B17,l_B17⟩:=blk3 B17.out
   simp only [pD]
   clear f1 f2 f3 f4 f5 f6 hfz
   have hfz:=fun i=>BK.out.frozen i
   have pL70:L < w70.heap.size:=BK.out.lt
   have hg0:=BK.out.at (k:=2 * k) (by rw [HYL.out];omega)
   have hg1:=BK.out.at (k:=2 * k+1) (by rw [HYL.out];omega)
   rw [show 2 * k * 3=k * 6 by omega] at hg0
   rw [show (2 * k+1) * 3=k * 6+3 by omega] at hg1
   obtain ⟨f1,f2,f3⟩:=hg0
   obtain ⟨f4,f5,f6⟩:=hg1
   have f5:w70.cell? ⟨L,k * 6+4,none⟩=_:=f5
   have f6:w70.cell? ⟨L,k * 6+5,none⟩=_:=f6
   go_upto_region 20 with fail
   refine nm_iv (k:=k) BK.out HRE.out (by rw [HYL.out];omega) ?_
   intro w80 cs T TN
   clear f1 f2 f3 f4 f5 f6 hfz
   clear BK
   replace HX:=Hi (T.ext HX.out (by omega))
   replace HXn:=Hi (T.ext HXn.out (by omega))
   replace B7:=Hi (T.rest _ _ (by omega) B7.out)
   replace LQ:=Hi (LQ.out.put T (by omega))
   replace HL:=Hi (HL.out.keep T.keep)
   replace HH:=Hi (HH.out.keep T.keep)
   replace B16:=Hi (T.rest _ _ (by omega) B16.out)
   replace V3:=Hi (V3.out.keep T.keep)
   replace V4:=Hi (V4.out.keep T.keep)
   replace VL:=Hi (VL.out.keep T.keep)
   replace B17:=Hi (T.rest _ _ (by omega) B17.out)
   replace R1:=Hi (R1.out.keep T.keep)
   replace R2:=Hi (R2.out.keep T.keep)
   have hs_w80:=nle T.size
   have hr_w80:=nle T.size.symm
   clear T
   try clear c_B7 f_B7 l_B7
   obtain ⟨c_B7,f_B7,l_B7⟩:=blk3 B7.out
   try clear c_B16 f_B16 l_B16
   obtain ⟨c_B16,f_B16,l_B16⟩:=blk3 B16.out
   try clear c_B17 f_B17 l_B17
   obtain ⟨c_B17,f_B17,l_B17⟩:=blk3 B17.out
   have BK:=Hi TN
   clear TN
   have VL2:=Hi ((VL.out.set R2.out (2 * k)).set R1.out (2 * k+1))
   have C0:Hid (CanIL w80 ⟨some ⟨L,0,none⟩,yn,yc⟩ (swp xs k)):=Hi (BK.out.cil VL2.out (by rw [List.length_set,List.length_set];exact HYL.out) hyc hym)
   have ZX1':=Hi (swp_sz (by decide) ZX1.out k)
   have RC:=Hi (C0.out.raw ZX1'.out (by decide))
   have ZX4:=Hi (ZX1'.out.mono (show 1≤4 by decide))
   have ZL4:=Hi (ZL.out.mono (show 1≤4 by decide))
   have ZH4:=Hi (ZH.out.mono (show 1≤4 by decide))
   have RV3:=Hi (V3.out.raw ZL.out (by decide))
   have RV4:=Hi (V4.out.raw ZH.out (by decide))
   obtain ⟨r2,hr2⟩:∃ r,r=ckE (tz q) (loV (lo) (hi)) (hiV (lo) (hi)) (tps (swp xs k)):=⟨_,rfl⟩
   have HD1:Hid (∀ w1,Ext w80 w1→Does 26 [.slice qa qn qc,SgV ((⟨un,ua,ul,uc,ub,um,ud⟩,⟨vn,va,vl,vc,vb,vm,vd⟩),⟨some ⟨L,0,none⟩,yn,yc⟩)] w1 (fun _:Unit=>.int .i64 r2) (fun _ _=>True)):=Hi (fun w1 hE=>by
    rw [hr2];exact bcheck_any qa qn qc q ⟨un,ua,ul,uc,ub,um,ud⟩ ⟨vn,va,vl,vc,vb,vm,vd⟩ (some ⟨L,0,none⟩) yn yc (swp xs k) (lo) (hi) 20 4 w1 ((LQ.out.can.raw ZQ.out (by decide)).ext hE) (RV3.out.ext hE) (RV4.out.ext hE) (RC.out.ext hE) (by omega) hq8 ZQT.out ZL4.out ZH4.out ZX4.out (by decide) (by decide) (by omega))
   have HD2:Hid (∀ w1,Ext w80 w1→Does 32 [.slice qa qn qc,SgV ((⟨un,ua,ul,uc,ub,um,ud⟩,⟨vn,va,vl,vc,vb,vm,vd⟩),⟨some ⟨L,0,none⟩,yn,yc⟩)] w1 (fun _:Unit=>.int .i64 r2) (fun _ _=>True)):=Hi (fun w1 hE=>by
    rw [hr2];exact rcheck7_any qa qn qc q ⟨un,ua,ul,uc,ub,um,ud⟩ ⟨vn,va,vl,vc,vb,vm,vd⟩ (some ⟨L,0,none⟩) yn yc (swp xs k) (lo) (hi) 20 4 w1 ((LQ.out.can.raw ZQ.out (by decide)).ext hE) (RV3.out.ext hE) (RV4.out.ext hE) (RC.out.ext hE) (by omega) hq8 FQT.out ZL4.out ZH4.out ZX4.out (by decide) (by decide) (by decide) (by omega))
   clear hr2
   go_upto_region 20 with fail
   refine wp_region_front 19 (fun opIx=>match opIx with
    | 0=>.spec Unit () (fun _=>.bool true) (fun _ _=>True)
    | 4=>.spec Unit () (fun _=>.int .i64 r1) (fun _ _=>True)
    | 7=>.spec Unit () (fun _=>.int .i64 r1) (fun _ _=>True)
    | 13=>.spec Unit () (fun _=>.int .i64 r2) (fun _ _=>True)
    | 16=>.spec Unit () (fun _=>.int .i64 r2) (fun _ _=>True)
    | _=>.quiet) (fun _=>[]) (by kernel_rfl) (by kernel_rfl) (fun w0 he0 hz0 hc0 hf0=>?_)
   replace he0:=Hi he0
   simp only [pT]
   repeat (refine wpq fun K h=>?_;go_big_quiet_op;refine h _ ?_;clear h K)
   refine wps he0.out rfl rfl (fun w1 hW hG=>?_) fun x100=>?_
   ·exact spc [] Tryz.func24 (awake7_any _)
   simp only [pS]
   repeat (refine wpq fun K h=>?_;go_big_quiet_op;refine h _ ?_;clear h K)
   refine wps he0.out rfl rfl (fun w1 hW hG=>?_) fun x101=>?_
   ·exact spc [.slice pa pn pc,SgV ((⟨sn,sa,sl,sc,sb,sm,sd⟩,⟨tn,ta,tl,tc,tb,tm,td⟩),⟨xo,j,xc⟩)] Tryz.func26 (HC1.out _ (HX.out.trans hW))
   simp only [pS]
   repeat (refine wpq fun K h=>?_;go_big_quiet_op;refine h _ ?_;clear h K)
   refine wps he0.out rfl rfl (fun w1 hW hG=>?_) fun x102=>?_
   ·exact spc [.slice pa pn pc,SgV ((⟨sn,sa,sl,sc,sb,sm,sd⟩,⟨tn,ta,tl,tc,tb,tm,td⟩),⟨xo,j,xc⟩)] Tryz.func32 (HC2.out _ (HX.out.trans hW))
   simp only [pS]
   repeat (refine wpq fun K h=>?_;go_big_quiet_op;refine h _ ?_;clear h K)
   refine wps he0.out rfl rfl (fun w1 hW hG=>?_) fun x103=>?_
   ·exact spc [.slice qa qn qc,SgV ((⟨un,ua,ul,uc,ub,um,ud⟩,⟨vn,va,vl,vc,vb,vm,vd⟩),⟨some ⟨L,0,none⟩,yn,yc⟩)] Tryz.func26 (HD1.out _ hW)
   simp only [pS]
   repeat (refine wpq fun K h=>?_;go_big_quiet_op;refine h _ ?_;clear h K)
   refine wps he0.out rfl rfl (fun w1 hW hG=>?_) fun x104=>?_
   ·exact spc [.slice qa qn qc,SgV ((⟨un,ua,ul,uc,ub,um,ud⟩,⟨vn,va,vl,vc,vb,vm,vd⟩),⟨some ⟨L,0,none⟩,yn,yc⟩)] Tryz.func32 (HD2.out _ hW)
   simp only [pS]
   repeat (refine wpq fun K h=>?_;go_big_quiet_op;refine h _ ?_;clear h K)
   refine wpF_nil ?_
   intro w90 hI
   have hE:=he0.out.trans hI.ext
   clear hI he0 hz0 hc0 hf0
   replace HX:=hE.tr HX
   replace HXn:=hE.tr HXn
   replace B7:=hE.bl B7
   replace LQ:=Hi (LQ.out.ext hE)
   replace HL:=Hi (HL.out.ext hE)
   replace HH:=Hi (HH.out.ext hE)
   replace B16:=hE.bl B16
   replace V3:=Hi (V3.out.ext hE)
   replace V4:=Hi (V4.out.ext hE)
   replace VL:=Hi (VL.out.ext hE)
   replace B17:=hE.bl B17
   replace R1:=Hi (R1.out.ext hE)
   replace R2:=Hi (R2.out.ext hE)
   replace BK:=Hi (BK.out.ext hE)
   have hs_w90:=hE.size
   clear hE
   try clear c_B7 f_B7 l_B7
   obtain ⟨c_B7,f_B7,l_B7⟩:=blk3 B7.out
   try clear c_B16 f_B16 l_B16
   obtain ⟨c_B16,f_B16,l_B16⟩:=blk3 B16.out
   try clear c_B17 f_B17 l_B17
   obtain ⟨c_B17,f_B17,l_B17⟩:=blk3 B17.out
   simp only [pD]
   go_wp2
   all_goals (go_ret;exact ⟨(),rfl,HX.out,trivial⟩)
  case inr.inr.inl =>
   clear LO57
   go_upto_region 19 with fail
   refine wp_region_front 11 (fun opIx=>match opIx with
    | 9=>.spec RH default RH.v (fun s w'=>CanR w' s (((1:Int):Rat) / ((100:Int):Rat)))
    | 10=>.spec RH default RH.v (fun s w'=>CanR w' s (xs.getD (2 * k+1) 0+((1:Int):Rat) / ((100:Int):Rat)))
    | _=>.quiet) (fun | 10=>[9] | _=>[]) (by kernel_rfl) (by kernel_rfl) (fun w0 he0 hz0 hc0 hf0=>?_)
   replace he0:=Hi he0
   simp only [pT]
   repeat (refine wpq fun K h=>?_;go_big_quiet_op;refine h _ ?_;clear h K)
   refine wps he0.out rfl rfl (fun w1 hW hG=>?_) fun x80=>?_
   ·exact spc [.int .i64 1,.int .i64 100] Tryz.func31 (rfrac3_any 1 100 _ (by decide) (by decide) (by decide) (by decide))
   simp only [pS]
   repeat (refine wpq fun K h=>?_;go_big_quiet_op;refine h _ ?_;clear h K)
   refine wps he0.out rfl rfl (fun w1 hW hG=>?_) fun x81=>?_
   ·have g80:=(hG 9 (by decide):Since _ _).get fun _ e g=>g.ext e
    exact spc [RH.v ⟨kn,ka,kl,kc,kb,km,kd⟩,x80.v] Tryz.func30 (radd3_any _ x80 _ _ _ ((R2.out.ext hW).raw ZR2.out (by decide)) (g80.raw hund_sz (by decide)))
   simp only [pS]
   repeat (refine wpq fun K h=>?_;go_big_quiet_op;refine h _ ?_;clear h K)
   refine wpF_nil ?_
   intro w70 hI
   have hE:=he0.out.trans hI.ext
   have G80:=Hi ((hI.facts 9:Since _ _).get fun _ e g=>g.ext e)
   have G81:=Hi ((hI.facts 10:Since _ _).get fun _ e g=>g.ext e)
   clear hI he0 hz0 hc0 hf0
   replace HX:=hE.tr HX
   replace HXn:=hE.tr HXn
   replace B7:=hE.bl B7
   replace LQ:=Hi (LQ.out.ext hE)
   replace HL:=Hi (HL.out.ext hE)
   replace HH:=Hi (HH.out.ext hE)
   replace B16:=hE.bl B16
   replace V3:=Hi (V3.out.ext hE)
   replace V4:=Hi (V4.out.ext hE)
   replace VL:=Hi (VL.out.ext hE)
   replace BK:=Hi (BK.out.ext hE)
   replace B17:=hE.bl B17
   replace R1:=Hi (R1.out.ext hE)
   replace R2:=Hi (R2.out.ext hE)
   have hs_w70:=hE.size
   clear hE
   try clear c_B7 f_B7 l_B7
   obtain ⟨c_B7,f_B7,l_B7⟩:=blk3 B7.out
   try clear c_B16 f_B16 l_B16
   obtain ⟨c_B16,f_B16,l_B16⟩:=blk3 B16.out
   try clear c_B17 f_B17 l_B17
   obtain ⟨c_B17,f_B17,l_B17⟩:=blk3 B17.out
   simp only [pD]
   clear f1 f2 f3 f4 f5 f6 hfz
   have hfz:=fun i=>BK.out.frozen i
   have pL70:L < w70.heap.size:=BK.out.lt
   have hg0:=BK.out.at (k:=2 * k) (by rw [HYL.out];omega)
   have hg1:=BK.out.at (k:=2 * k+1) (by rw [HYL.out];omega)
   rw [show 2 * k * 3=k * 6 by omega] at hg0
   rw [show (2 * k+1) * 3=k * 6+3 by omega] at hg1
   obtain ⟨f1,f2,f3⟩:=hg0
   obtain ⟨f4,f5,f6⟩:=hg1
   have f5:w70.cell? ⟨L,k * 6+4,none⟩=_:=f5
   have f6:w70.cell? ⟨L,k * 6+5,none⟩=_:=f6
   obtain ⟨zn',za',zl',zc',zb',zm',zd'⟩:=x81
   go_upto_region 20 with fail
   refine nm_ivhi (k:=k) BK.out HRE.out (by rw [HYL.out];omega) ?_
   intro w80 cs T TN
   clear f1 f2 f3 f4 f5 f6 hfz
   clear BK
   replace HX:=Hi (T.ext HX.out (by omega))
   replace HXn:=Hi (T.ext HXn.out (by omega))
   replace B7:=Hi (T.rest _ _ (by omega) B7.out)
   replace LQ:=Hi (LQ.out.put T (by omega))
   replace HL:=Hi (HL.out.keep T.keep)
   replace HH:=Hi (HH.out.keep T.keep)
   replace B16:=Hi (T.rest _ _ (by omega) B16.out)
   replace V3:=Hi (V3.out.keep T.keep)
   replace V4:=Hi (V4.out.keep T.keep)
   replace VL:=Hi (VL.out.keep T.keep)
   replace B17:=Hi (T.rest _ _ (by omega) B17.out)
   replace R1:=Hi (R1.out.keep T.keep)
   replace R2:=Hi (R2.out.keep T.keep)
   replace G80:=Hi (G80.out.keep T.keep)
   replace G81:=Hi (G81.out.keep T.keep)
   have hs_w80:=nle T.size
   have hr_w80:=nle T.size.symm
   clear T
   try clear c_B7 f_B7 l_B7
   obtain ⟨c_B7,f_B7,l_B7⟩:=blk3 B7.out
   try clear c_B16 f_B16 l_B16
   obtain ⟨c_B16,f_B16,l_B16⟩:=blk3 B16.out
   try clear c_B17 f_B17 l_B17
   obtain ⟨c_B17,f_B17,l_B17⟩:=blk3 B17.out
   have BK:=Hi TN
   clear TN
   have VL2:=Hi (VL.out.set G81.out (2 * k+1))
   have C0:Hid (CanIL w80 ⟨some ⟨L,0,none⟩,yn,yc⟩ (inc xs k (((1:Int):Rat) / ((100:Int):Rat)))):=Hi (BK.out.cil VL2.out (by rw [List.length_set];exact HYL.out) hyc hym)
   have ZX1':=Hi (inc_sz (by decide) ZX1.out hund_sz k)
   have RC:=Hi (C0.out.raw ZX1'.out (by decide))
   have ZX4:=Hi (ZX1'.out.mono (show 1+2≤4 by decide))
   have ZL4:=Hi (ZL.out.mono (show 1≤4 by decide))
   have ZH4:=Hi (ZH.out.mono (show 1≤4 by decide))
   have RV3:=Hi (V3.out.raw ZL.out (by decide))
   have RV4:=Hi (V4.out.raw ZH.out (by decide))
   obtain ⟨r2,hr2⟩:∃ r,r=ckE (tz q) (loV (lo) (hi)) (hiV (lo) (hi)) (tps (inc xs k (((1:Int):Rat) / ((100:Int):Rat)))):=⟨_,rfl⟩
   have HD1:Hid (∀ w1,Ext w80 w1→Does 26 [.slice qa qn qc,SgV ((⟨un,ua,ul,uc,ub,um,ud⟩,⟨vn,va,vl,vc,vb,vm,vd⟩),⟨some ⟨L,0,none⟩,yn,yc⟩)] w1 (fun _:Unit=>.int .i64 r2) (fun _ _=>True)):=Hi (fun w1 hE=>by
    rw [hr2];exact bcheck_any qa qn qc q ⟨un,ua,ul,uc,ub,um,ud⟩ ⟨vn,va,vl,vc,vb,vm,vd⟩ (some ⟨L,0,none⟩) yn yc (inc xs k (((1:Int):Rat) / ((100:Int):Rat))) (lo) (hi) 20 4 w1 ((LQ.out.can.raw ZQ.out (by decide)).ext hE) (RV3.out.ext hE) (RV4.out.ext hE) (RC.out.ext hE) (by omega) hq8 ZQT.out ZL4.out ZH4.out ZX4.out (by decide) (by decide) (by omega))
   have HD2:Hid (∀ w1,Ext w80 w1→Does 32 [.slice qa qn qc,SgV ((⟨un,ua,ul,uc,ub,um,ud⟩,⟨vn,va,vl,vc,vb,vm,vd⟩),⟨some ⟨L,0,none⟩,yn,yc⟩)] w1 (fun _:Unit=>.int .i64 r2) (fun _ _=>True)):=Hi (fun w1 hE=>by
    rw [hr2];exact rcheck7_any qa qn qc q ⟨un,ua,ul,uc,ub,um,ud⟩ ⟨vn,va,vl,vc,vb,vm,vd⟩ (some ⟨L,0,none⟩) yn yc (inc xs k (((1:Int):Rat) / ((100:Int):Rat))) (lo) (hi) 20 4 w1 ((LQ.out.can.raw ZQ.out (by decide)).ext hE) (RV3.out.ext hE) (RV4.out.ext hE) (RC.out.ext hE) (by omega) hq8 FQT.out ZL4.out ZH4.out ZX4.out (by decide) (by decide) (by decide) (by omega))
   clear hr2
   go_upto_region 20 with fail
   refine wp_region_front 19 (fun opIx=>match opIx with
    | 0=>.spec Unit () (fun _=>.bool true) (fun _ _=>True)
    | 4=>.spec Unit () (fun _=>.int .i64 r1) (fun _ _=>True)
    | 7=>.spec Unit () (fun _=>.int .i64 r1) (fun _ _=>True)
    | 13=>.spec Unit () (fun _=>.int .i64 r2) (fun _ _=>True)
    | 16=>.spec Unit () (fun _=>.int .i64 r2) (fun _ _=>True)
    | _=>.quiet) (fun _=>[]) (by kernel_rfl) (by kernel_rfl) (fun w0 he0 hz0 hc0 hf0=>?_)
   replace he0:=Hi he0
   simp only [pT]
   repeat (refine wpq fun K h=>?_;go_big_quiet_op;refine h _ ?_;clear h K)
   refine wps he0.out rfl rfl (fun w1 hW hG=>?_) fun x100=>?_
   ·exact spc [] Tryz.func24 (awake7_any _)
   simp only [pS]
   repeat (refine wpq fun K h=>?_;go_big_quiet_op;refine h _ ?_;clear h K)
   refine wps he0.out rfl rfl (fun w1 hW hG=>?_) fun x101=>?_
   ·exact spc [.slice pa pn pc,SgV ((⟨sn,sa,sl,sc,sb,sm,sd⟩,⟨tn,ta,tl,tc,tb,tm,td⟩),⟨xo,j,xc⟩)] Tryz.func26 (HC1.out _ (HX.out.trans hW))
   simp only [pS]
   repeat (refine wpq fun K h=>?_;go_big_quiet_op;refine h _ ?_;clear h K)
   refine wps he0.out rfl rfl (fun w1 hW hG=>?_) fun x102=>?_
   ·exact spc [.slice pa pn pc,SgV ((⟨sn,sa,sl,sc,sb,sm,sd⟩,⟨tn,ta,tl,tc,tb,tm,td⟩),⟨xo,j,xc⟩)] Tryz.func32 (HC2.out _ (HX.out.trans hW))
   simp only [pS]
   repeat (refine wpq fun K h=>?_;go_big_quiet_op;refine h _ ?_;clear h K)
   refine wps he0.out rfl rfl (fun w1 hW hG=>?_) fun x103=>?_
   ·exact spc [.slice qa qn qc,SgV ((⟨un,ua,ul,uc,ub,um,ud⟩,⟨vn,va,vl,vc,vb,vm,vd⟩),⟨some ⟨L,0,none⟩,yn,yc⟩)] Tryz.func26 (HD1.out _ hW)
   simp only [pS]
   repeat (refine wpq fun K h=>?_;go_big_quiet_op;refine h _ ?_;clear h K)
   refine wps he0.out rfl rfl (fun w1 hW hG=>?_) fun x104=>?_
   ·exact spc [.slice qa qn qc,SgV ((⟨un,ua,ul,uc,ub,um,ud⟩,⟨vn,va,vl,vc,vb,vm,vd⟩),⟨some ⟨L,0,none⟩,yn,yc⟩)] Tryz.func32 (HD2.out _ hW)
   simp only [pS]
   repeat (refine wpq fun K h=>?_;go_big_quiet_op;refine h _ ?_;clear h K)
   refine wpF_nil ?_
   intro w90 hI
   have hE:=he0.out.trans hI.ext
   clear hI he0 hz0 hc0 hf0
   replace HX:=hE.tr HX
   replace HXn:=hE.tr HXn
   replace B7:=hE.bl B7
   replace LQ:=Hi (LQ.out.ext hE)
   replace HL:=Hi (HL.out.ext hE)
   replace HH:=Hi (HH.out.ext hE)
   replace B16:=hE.bl B16
   replace V3:=Hi (V3.out.ext hE)
   replace V4:=Hi (V4.out.ext hE)
   replace VL:=Hi (VL.out.ext hE)
   replace B17:=hE.bl B17
   replace R1:=Hi (R1.out.ext hE)
   replace R2:=Hi (R2.out.ext hE)
   replace G80:=Hi (G80.out.ext hE)
   replace G81:=Hi (G81.out.ext hE)
   replace BK:=Hi (BK.out.ext hE)
   have hs_w90:=hE.size
   clear hE
   try clear c_B7 f_B7 l_B7
   obtain ⟨c_B7,f_B7,l_B7⟩:=blk3 B7.out
   try clear c_B16 f_B16 l_B16
   obtain ⟨c_B16,f_B16,l_B16⟩:=blk3 B16.out
   try clear c_B17 f_B17 l_B17
   obtain ⟨c_B17,f_B17,l_B17⟩:=blk3 B17.out
   simp only [pD]
   go_wp2
   all_goals (go_ret;exact ⟨(),rfl,HX.out,trivial⟩)
  case inr.inr.inr =>
   have C0:=Hi (OwnI.can (s:=⟨some ⟨L,0,none⟩,yn,yc⟩) LO57.out).2
   clear LO57
   clear BK
   clear VL
   clear R1
   clear R2
   clear f1 f2 f3 f4 f5 f6 hfz
   obtain ⟨crs,hcs,hcv⟩:=C0.out
   have T0:Hid (CanIL w68 ⟨some ⟨L,0,none⟩,k,yc⟩ (xs.take (k * 2))):=Hi ⟨_,hcs.take (by omega),hcv.take _⟩
   have D0:Hid (CanIL w68 ⟨if yc=k+1 then some ⟨L,0,none⟩ else some ⟨L,(k+1) * 6,none⟩,yn - (k+1),yc - (k+1)⟩ (xs.drop ((k+1) * 2))):=Hi (by
    have h:=hcs.drop (m:=k+1) (by omega)
    rw [Nat.zero_add] at h
    refine ⟨_,⟨h.len,h.le,h.max,?_⟩,hcv.drop _⟩
    by_cases hy:yc=k+1
    ·left;simp only;omega
    ·rw [if_neg hy];exact h.at')
   clear hcs hcv
   have HX0:=HX
   have LQ0:=LQ
   have V30:=V3
   have V40:=V4
   have B170:=B17
   have B70:=B7
   have B160:=B16
   have hXs:Ext w68 w68:=Ext.refl w68
   have HXs:=Hi hXs
   clear hXs
   have hkk:k+1≤yn:=by omega
   have hkc:k+1≤yc:=by omega
   go_upto_region 15 with fail
   refine wp_region_front 10 (fun opIx=>match opIx with
    | 4=>.spec (SH) (default) (SH.v) (fun x w'=>OwnI w' (w68.heap.size≤·) x.v k (xs.take (k * 2)))
    | _=>.quiet) (fun _=>[]) (by kernel_rfl) (by kernel_rfl) (fun w0 he0 hz0 hc0 hf0=>?_)
   replace he0:=Hi he0
   simp only [pT]
   repeat (refine wpq fun K h=>?_;go_big_quiet_op;refine h _ ?_;clear h K)
   refine wps he0.out rfl rfl (fun w1 hW hG=>?_) fun x80=>?_
   ·exact spec_append_il (.const (.slice none 0 0)) (.tmp 74) 46 Tryz.underlying46 rfl ⟨some ⟨L,0,none⟩,k,yc⟩ (xs.take (k * 2)) w68.heap.size hW.size (T0.out.ext hW) (by simp only;omega) rfl rfl
   simp only [pS]
   repeat (refine wpq fun K h=>?_;go_big_quiet_op;refine h _ ?_;clear h K)
   refine wpF_nil ?_
   intro w70 hI
   have hE:=he0.out.trans hI.ext
   have G80:=Hi ((hI.facts 4:Since _ _).get fun _ e g=>g.ext e)
   clear hI he0 hz0 hc0 hf0
   replace HX:=hE.tr HX
   replace HXn:=hE.tr HXn
   replace B7:=hE.bl B7
   replace LQ:=Hi (LQ.out.ext hE)
   replace HL:=Hi (HL.out.ext hE)
   replace HH:=Hi (HH.out.ext hE)
   replace B16:=hE.bl B16
   replace V3:=Hi (V3.out.ext hE)
   replace V4:=Hi (V4.out.ext hE)
   replace B17:=hE.bl B17
   replace HXs:=hE.tr HXs
   replace T0:=Hi (T0.out.ext hE)
   replace D0:=Hi (D0.out.ext hE)
   have hs_w70:=hE.size
   clear hE
   try clear c_B7 f_B7 l_B7
   obtain ⟨c_B7,f_B7,l_B7⟩:=blk3 B7.out
   try clear c_B16 f_B16 l_B16
   obtain ⟨c_B16,f_B16,l_B16⟩:=blk3 B16.out
   try clear c_B17 f_B17 l_B17
   obtain ⟨c_B17,f_B17,l_B17⟩:=blk3 B17.out
   simp only [pD]
   have B17':=Hi (B170.out)
   go_upto_region 20 with (at_builtin;refine wpList_append_il rfl (.tmp 75) (.tmp 80) 46 Tryz.underlying46 rfl (w68.heap.size≤·) _ k (xs.take (k * 2)) ⟨if yc=k+1 then some ⟨L,0,none⟩ else some ⟨L,(k+1) * 6,none⟩,yn - (k+1),yc - (k+1)⟩ (xs.drop ((k+1) * 2)) rfl G80.out rfl D0.out (by omega) (by simp only;omega) (fun b hb=>by show w68.heap.size≤b;omega) ?_;intro s' y3 q1 q2 q3;have hB:=q2.blk (fun h=>by have h:w68.heap.size≤b17:=h;omega) B17.out;have c6:=blk_cell hB;have f6:=blk_frozen hB;have l6:=(Array.getElem?_eq_some_iff.1 hB).1)
   have hE3:Ext w68 y3:=Ext.mods HXs.out q2 (fun k h=>h)
   clear HX LQ V3 V4 B17 c_B17 f_B17 l_B17 c6 f6 l6 hB
   clear B7 c_B7 f_B7 l_B7 B16 c_B16 f_B16 l_B16
   have B7:=Hi (hE3.block B70.out)
   have B16:=Hi (hE3.block B160.out)
   have HX:=Hi (HX0.out.trans hE3)
   have LQ:=Hi (LQ0.out.ext hE3)
   have V3:=Hi (V30.out.ext hE3)
   have V4:=Hi (V40.out.ext hE3)
   have B17:=Hi (hE3.block B170.out)
   have HO:=Hi q1
   clear q1 q2 q3 hE3 G80 T0 D0 HXs HXn HL HH C0
   obtain ⟨ea,en,ec⟩:=s'
   have hen:en=k+(yn - (k+1)):=(OwnI.can (s:=⟨ea,en,ec⟩) HO.out).1
   have HEN:=Hi hen
   clear hen
   refine nm_at6 B17.out rfl ?_
   intro w80 T
   replace HX:=Hi (T.ext HX.out (by omega))
   replace LQ:=Hi (LQ.out.put T (by omega))
   replace V3:=Hi (V3.out.keep T.keep)
   replace V4:=Hi (V4.out.keep T.keep)
   replace B17:=Hi (T.bx)
   replace B7:=Hi (T.rest _ _ (by omega) B7.out)
   replace B16:=Hi (T.rest _ _ (by omega) B16.out)
   replace HO:=Hi (HO.out.put T (by intro h;(try dsimp only at h);omega))
   have hs_w80:=nle T.size
   have hr_w80:=nle T.size.symm
   clear T
   try clear c_B17 f_B17 l_B17
   obtain ⟨c_B17,f_B17,l_B17⟩:=blk3 B17.out
   try clear c_B7 f_B7 l_B7
   obtain ⟨c_B7,f_B7,l_B7⟩:=blk3 B7.out
   try clear c_B16 f_B16 l_B16
   obtain ⟨c_B16,f_B16,l_B16⟩:=blk3 B16.out
   have C0:=Hi (OwnI.can (s:=⟨ea,en,ec⟩) HO.out).2
   have ZX1':Hid (SzL 1 (xs.take (k * 2) ++ xs.drop ((k+1) * 2))):=Hi (fun y hy=>(List.mem_append.1 hy).elim (fun h=>ZX1.out y (List.mem_of_mem_take h)) (fun h=>ZX1.out y (List.mem_of_mem_drop h)))
   have RC:=Hi (C0.out.raw ZX1'.out (by decide))
   have ZX4:=Hi (ZX1'.out.mono (show 1≤4 by decide))
   have ZL4:=Hi (ZL.out.mono (show 1≤4 by decide))
   have ZH4:=Hi (ZH.out.mono (show 1≤4 by decide))
   have henm:en≤4096:=by have:=HEN.out;omega
   have RV3:=Hi (V3.out.raw ZL.out (by decide))
   have RV4:=Hi (V4.out.raw ZH.out (by decide))
   obtain ⟨r2,hr2⟩:∃ r,r=ckE (tz q) (loV (lo) (hi)) (hiV (lo) (hi)) (tps (xs.take (k * 2) ++ xs.drop ((k+1) * 2))):=⟨_,rfl⟩
   have HD1:Hid (∀ w1,Ext w80 w1→Does 26 [.slice qa qn qc,SgV ((⟨un,ua,ul,uc,ub,um,ud⟩,⟨vn,va,vl,vc,vb,vm,vd⟩),⟨ea,en,ec⟩)] w1 (fun _:Unit=>.int .i64 r2) (fun _ _=>True)):=Hi (fun w1 hE=>by
    rw [hr2];exact bcheck_any qa qn qc q ⟨un,ua,ul,uc,ub,um,ud⟩ ⟨vn,va,vl,vc,vb,vm,vd⟩ ea en ec (xs.take (k * 2) ++ xs.drop ((k+1) * 2)) (lo) (hi) 20 4 w1 ((LQ.out.can.raw ZQ.out (by decide)).ext hE) (RV3.out.ext hE) (RV4.out.ext hE) (RC.out.ext hE) (by omega) hq8 ZQT.out ZL4.out ZH4.out ZX4.out (by decide) (by decide) (by omega))
   have HD2:Hid (∀ w1,Ext w80 w1→Does 32 [.slice qa qn qc,SgV ((⟨un,ua,ul,uc,ub,um,ud⟩,⟨vn,va,vl,vc,vb,vm,vd⟩),⟨ea,en,ec⟩)] w1 (fun _:Unit=>.int .i64 r2) (fun _ _=>True)):=Hi (fun w1 hE=>by
    rw [hr2];exact rcheck7_any qa qn qc q ⟨un,ua,ul,uc,ub,um,ud⟩ ⟨vn,va,vl,vc,vb,vm,vd⟩ ea en ec (xs.take (k * 2) ++ xs.drop ((k+1) * 2)) (lo) (hi) 20 4 w1 ((LQ.out.can.raw ZQ.out (by decide)).ext hE) (RV3.out.ext hE) (RV4.out.ext hE) (RC.out.ext hE) (by omega) hq8 FQT.out ZL4.out ZH4.out ZX4.out (by decide) (by decide) (by decide) (by omega))
   clear hr2
   go_upto_region 20 with fail
   refine wp_region_front 19 (fun opIx=>match opIx with
    | 0=>.spec Unit () (fun _=>.bool true) (fun _ _=>True)
    | 4=>.spec Unit () (fun _=>.int .i64 r1) (fun _ _=>True)
    | 7=>.spec Unit () (fun _=>.int .i64 r1) (fun _ _=>True)
    | 13=>.spec Unit () (fun _=>.int .i64 r2) (fun _ _=>True)
    | 16=>.spec Unit () (fun _=>.int .i64 r2) (fun _ _=>True)
    | _=>.quiet) (fun _=>[]) (by kernel_rfl) (by kernel_rfl) (fun w0 he0 hz0 hc0 hf0=>?_)
   replace he0:=Hi he0
   simp only [pT]
   repeat (refine wpq fun K h=>?_;go_big_quiet_op;refine h _ ?_;clear h K)
   refine wps he0.out rfl rfl (fun w1 hW hG=>?_) fun x100=>?_
   ·exact spc [] Tryz.func24 (awake7_any _)
   simp only [pS]
   repeat (refine wpq fun K h=>?_;go_big_quiet_op;refine h _ ?_;clear h K)
   refine wps he0.out rfl rfl (fun w1 hW hG=>?_) fun x101=>?_
   ·exact spc [.slice pa pn pc,SgV ((⟨sn,sa,sl,sc,sb,sm,sd⟩,⟨tn,ta,tl,tc,tb,tm,td⟩),⟨xo,j,xc⟩)] Tryz.func26 (HC1.out _ (HX.out.trans hW))
   simp only [pS]
   repeat (refine wpq fun K h=>?_;go_big_quiet_op;refine h _ ?_;clear h K)
   refine wps he0.out rfl rfl (fun w1 hW hG=>?_) fun x102=>?_
   ·exact spc [.slice pa pn pc,SgV ((⟨sn,sa,sl,sc,sb,sm,sd⟩,⟨tn,ta,tl,tc,tb,tm,td⟩),⟨xo,j,xc⟩)] Tryz.func32 (HC2.out _ (HX.out.trans hW))
   simp only [pS]
   repeat (refine wpq fun K h=>?_;go_big_quiet_op;refine h _ ?_;clear h K)
   refine wps he0.out rfl rfl (fun w1 hW hG=>?_) fun x103=>?_
   ·exact spc [.slice qa qn qc,SgV ((⟨un,ua,ul,uc,ub,um,ud⟩,⟨vn,va,vl,vc,vb,vm,vd⟩),⟨ea,en,ec⟩)] Tryz.func26 (HD1.out _ hW)
   simp only [pS]
   repeat (refine wpq fun K h=>?_;go_big_quiet_op;refine h _ ?_;clear h K)
   refine wps he0.out rfl rfl (fun w1 hW hG=>?_) fun x104=>?_
   ·exact spc [.slice qa qn qc,SgV ((⟨un,ua,ul,uc,ub,um,ud⟩,⟨vn,va,vl,vc,vb,vm,vd⟩),⟨ea,en,ec⟩)] Tryz.func32 (HD2.out _ hW)
   simp only [pS]
   repeat (refine wpq fun K h=>?_;go_big_quiet_op;refine h _ ?_;clear h K)
   refine wpF_nil ?_
   intro w90 hI
   have hE:=he0.out.trans hI.ext
   clear hI he0 hz0 hc0 hf0
   replace HX:=hE.tr HX
   replace LQ:=Hi (LQ.out.ext hE)
   replace V3:=Hi (V3.out.ext hE)
   replace V4:=Hi (V4.out.ext hE)
   replace B17:=hE.bl B17
   replace B7:=hE.bl B7
   replace B16:=hE.bl B16
   replace HO:=Hi (HO.out.ext hE)
   have hs_w90:=hE.size
   clear hE
   try clear c_B17 f_B17 l_B17
   obtain ⟨c_B17,f_B17,l_B17⟩:=blk3 B17.out
   try clear c_B7 f_B7 l_B7
   obtain ⟨c_B7,f_B7,l_B7⟩:=blk3 B7.out
   try clear c_B16 f_B16 l_B16
   obtain ⟨c_B16,f_B16,l_B16⟩:=blk3 B16.out
   simp only [pD]
   go_wp2
   all_goals (go_ret;exact ⟨(),rfl,HX.out,trivial⟩)
end Go.Proofs.YtpieblkklbilgaaGreat
