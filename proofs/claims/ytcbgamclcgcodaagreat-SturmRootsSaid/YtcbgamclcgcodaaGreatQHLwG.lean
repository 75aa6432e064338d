/- SturmRoots returns true. -/
import Derived.Test.YtcbgamclcgcodaaGreatQHLwH
set_option linter.unusedVariables false
namespace Go.Proofs.YtcbgamclcgcodaaGreat
open Go.RowKit Go.Front Go.Num Stab Sg
attribute [local go_sem] XW.cell XW.frozen
theorem RooP.cnt {p ds:List Rat} (h:RooP p ds) {lo hi:Rat} (hlh:lo≤hi):cntV p lo hi = cc ds lo hi:=by
 obtain ⟨rl,b,h1,h2,-⟩:=h
 exact cnt_fac h1.fac h1.sx.pos h2.nd h2.mem hlh
theorem cc_snoc (lo hi x:Rat):∀ ds,cc (ds ++ [x]) lo hi = cc ds lo hi + (if lo≤x∧x≤hi then 1 else 0):=by
 intro ds
 induction ds with
 | nil=>show (if lo≤x∧x≤hi then 1 else 0) + 0 = 0 + _; omega
 | cons d ds ih =>
  show (if lo≤d∧d≤hi then 1 else 0) + cc (ds ++ [x]) lo hi = ((if lo≤d∧d≤hi then 1 else 0) + cc ds lo hi) + _
  rw [ih]
  omega
theorem cc_step (lo hi:Rat) {ds:List Rat} {i:Nat} (hi':i < ds.length):cc (ds.take (i + 1)) lo hi = cc (ds.take i) lo hi + (if lo≤ds.getD i 0∧ds.getD i 0≤hi then 1 else 0):=by
 have e:ds.take (i + 1) = ds.take i ++ [ds.getD i 0]:=by
  rw [List.take_add_one,List.getD_eq_getElem?_getD,List.getElem?_eq_getElem hi']
  rfl
 rw [e,cc_snoc]
theorem cc_le (lo hi:Rat):∀ ds,cc ds lo hi≤ds.length:=by
 intro ds
 induction ds with
 | nil=>exact Nat.le_refl _
 | cons d ds ih =>
  show (if lo≤d∧d≤hi then 1 else 0) + cc ds lo hi≤ds.length + 1
  split <;> omega
theorem RooP.dsz {p ds:List Rat} (h:RooP p ds):SzL 1 ds:=by
 obtain ⟨rl,b,h1,h2,-⟩:=h
 exact fun q hq=>tw_sz (h1.tw q ((h2.mem q).1 hq))
set_option maxRecDepth 8000 in
set_option maxHeartbeats 8000000 in
theorem sroots_any (ao:Option Addr) (cap:Nat) (xs:List Int) (za zb:Int) (w:World) (h:IntsAt w ao xs) (hr:InR xs) (hl:xs.length≤9223372036854775807) (hc:xs.length≤cap) (hcm:cap≤9223372036854775807)
  (a1:-9223372036854775808≤za) (a2:za≤9223372036854775807) (b1:-9223372036854775808≤zb) (b2:zb≤9223372036854775807) :
  Does 6 [.slice ao xs.length cap,.int .i64 za,.int .i64 zb] w (fun _:Unit=>.bool true) (fun _ _=>True):=by
 have HX:=Hi (Ext.refl w)
 obtain ⟨n,hn⟩:∃ n,n = xs.length:=⟨_,rfl⟩
 have HRo:Hid (Does 35 [.slice ao n cap] w RT2 (fun x w'=>CanL w' x.1.1 x.2.1∧CanL w' x.1.2 x.2.2∧RooP x.2.1 x.2.2)):=Hi (by rw [hn]; exact rooted_any ao cap xs w h hr hl hc hcm)
 rw [← hn]
 clear hn h hr hl hc hcm
 unfold Does
 go_enter Tryz.func6,Tryz.ntmps6
 go_wp2_with fail
 refine Calls.mono (HRo.out) ?_
 rintro e w17 ⟨x17,rfl,hE,g17⟩
 have G17:=Hi g17
 clear g17
 replace HX:=hE.tr HX
 have hs_w17:=hE.size
 clear hE
 obtain ⟨⟨⟨pa,pn,pc⟩,⟨ya,yn,yc⟩⟩,⟨p,ds⟩⟩:=x17
 have LP:=Hi G17.out.1.lin
 have LY:=Hi G17.out.2.1.lin
 have HRP:=Hi G17.out.2.2
 clear G17
 obtain ⟨k1,k2,k3,k4⟩:=HRP.out.frk
 have HK1:=Hi k1
 have HK2:=Hi k2
 have H0:=Hi k3
 have hpl:p.length≤12:=k4
 have hpn:pn≤12:=by have e:p.length = pn:=LP.out.len; omega
 have hyn:ds.length = yn:=LY.out.len
 have ZD:=Hi HRP.out.dsz
 clear k1 k2 k3 k4
 have hkk:(pn + 1) * (2125764 / 3)≤25000000:=by
  have:=Nat.mul_le_mul_right (2125764 / 3) (show pn + 1≤13 by omega)
  omega
 simp only [RT2,SH.v]
 go_wp2_with fail
 refine Calls.mono (on_any za zb _ a1 a2 b1 b2) ?_
 rintro e w22 ⟨x22,rfl,hE,g22⟩
 have G22:=Hi g22
 clear g22
 replace HX:=hE.tr HX
 replace LP:=Hi (LP.out.ext hE)
 replace LY:=Hi (LY.out.ext hE)
 have hs_w22:=hE.size
 clear hE
 obtain ⟨⟨ln,la,ll,lc,lb,lm,ld⟩,⟨hn,ha,hl,hc,hb,hm,hd⟩⟩:=x22
 have ZL:Hid (Sz 1 (loV (cosQ za) (cosQ zb))):=Hi ((lo_or (cosQ za) (cosQ zb)).elim (fun e=>by rw [e]; exact cosQ_sz za) (fun e=>by rw [e]; exact cosQ_sz zb))
 have ZH:Hid (Sz 1 (hiV (cosQ za) (cosQ zb))):=Hi ((hi_or (cosQ za) (cosQ zb)).elim (fun e=>by rw [e]; exact cosQ_sz za) (fun e=>by rw [e]; exact cosQ_sz zb))
 have hlh:=lo_hi (cosQ za) (cosQ zb)
 have HL:=Hi G22.out.1
 have HH:=Hi G22.out.2
 clear G22
 obtain ⟨lo,hlo⟩:∃ lo,lo = loV (cosQ za) (cosQ zb):=⟨_,rfl⟩
 obtain ⟨hi,hhi⟩:∃ hi,hi = hiV (cosQ za) (cosQ zb):=⟨_,rfl⟩
 rw [← hlo] at HL ZL hlh
 rw [← hhi] at HH ZH hlh
 have HLH:=Hi hlh
 clear hlo hhi hlh
 go_upto_region 3 with fail
 refine nm_alloc ?_
 intro w23 hE hB0 hz
 have hz_w23:=nle hz
 have hr_w23:=nle hz.symm
 clear hz
 replace HX:=hE.tr HX
 replace LP:=Hi (LP.out.ext hE)
 replace LY:=Hi (LY.out.ext hE)
 replace HL:=Hi (HL.out.ext hE)
 replace HH:=Hi (HH.out.ext hE)
 have hs_w23:=hE.size
 clear hE
 have B9:=Hi hB0
 clear hB0
 obtain ⟨c_B9,f_B9,l_B9⟩:=blk3 B9.out
 obtain ⟨b9,hb9⟩:∃ b,b = w22.heap.size:=⟨_,rfl⟩
 have hw9:w.heap.size≤b9:=by omega
 rw [← hb9] at B9 ⊢
 clear hb9 c_B9 f_B9 l_B9
 have HX7:=Hi (Ext.refl w23)
 have hdl1:yn≤yc:=LY.out.can.le
 have hdl2:yc≤9223372036854775807:=LY.out.can.max
 go_wp2
 go_loopg [10,25] yn (fun g u10 u25 wr=>∃ i:Nat,i + g = yn∧u25 = .int .i64 (i:Nat)∧u10 = .int .i64 (cc (ds.take i) lo hi:Nat)∧Ext w23 wr)
 case atStart=>exact ⟨0,by omega,rfl,rfl,HX7.out⟩
 case round =>
  obtain ⟨i,hi',rfl,rfl,g1⟩:=hrel
  clear HX7
  have HX7:=Hi g1
  have HXw:=Hi (HX.out.trans g1)
  have B92:=Hi (g1.block B9.out)
  have LP2:=Hi (LP.out.ext g1)
  have LY2:=Hi (LY.out.ext g1)
  have HL2:=Hi (HL.out.ext g1)
  have HH2:=Hi (HH.out.ext g1)
  clear g1
  have hcl:=cc_le lo hi (ds.take i)
  rw [List.length_take] at hcl
  try clear c_B92 f_B92 l_B92
  obtain ⟨c_B92,f_B92,l_B92⟩:=blk3 B92.out
  by_cases h0:gk = 0
  case pos =>
   subst h0
   obtain rfl:i = yn:=by omega
   have hin:¬ (i:Int) < i:=by omega
   have HN:Hid (cntV p lo hi = (cc (ds.take i) lo hi:Nat)):=Hi (by rw [List.take_of_length_le (by omega)]; exact HRP.out.cnt HLH.out)
   obtain ⟨c,hcc⟩:∃ c,c = cc (ds.take i) lo hi:=⟨_,rfl⟩
   rw [← hcc] at HN hcl ⊢
   clear hcc
   go_wp2_with fail
   refine Calls.mono (scount_any pa pn pc p 2125764 ⟨ln,la,ll,lc,lb,lm,ld⟩ ⟨hn,ha,hl,hc,hb,hm,hd⟩ lo hi 1 _ LP2.out.can (by omega) H0.out HK1.out (by decide) hkk HK2.out (HL2.out.raw ZL.out (by decide)) (HH2.out.raw ZH.out (by decide)) ZL.out ZH.out (by decide) (by decide)) ?_
   rintro e w38 ⟨x38,rfl,hE,-⟩
   replace HX7:=hE.tr HX7
   replace HXw:=hE.tr HXw
   replace B92:=hE.bl B92
   replace LP2:=Hi (LP2.out.ext hE)
   replace LY2:=Hi (LY2.out.ext hE)
   replace HL2:=Hi (HL2.out.ext hE)
   replace HH2:=Hi (HH2.out.ext hE)
   have hs_w38:=hE.size
   clear hE
   try clear c_B92 f_B92 l_B92
   obtain ⟨c_B92,f_B92,l_B92⟩:=blk3 B92.out
   rw [lo_of HLH.out,hi_of HLH.out,HN.out]
   go_wp2_with fail
   refine Calls.mono (awake6_any _) ?_
   rintro e w41 ⟨x41,rfl,hE,-⟩
   replace HX7:=hE.tr HX7
   replace HXw:=hE.tr HXw
   replace B92:=hE.bl B92
   replace LP2:=Hi (LP2.out.ext hE)
   replace LY2:=Hi (LY2.out.ext hE)
   replace HL2:=Hi (HL2.out.ext hE)
   replace HH2:=Hi (HH2.out.ext hE)
   have hs_w41:=hE.size
   clear hE
   try clear c_B92 f_B92 l_B92
   obtain ⟨c_B92,f_B92,l_B92⟩:=blk3 B92.out
   go_wp2
   go_ret
   exact ⟨(),rfl,HXw.out,trivial⟩
  have hin:(i:Int) < yn:=by omega
  have hiy:i < yn:=by omega
  have HST:=Hi (cc_step lo hi (ds:=ds) (i:=i) (by omega))
  obtain ⟨ba,oa,r,hao,hbl,⟨hc1,hc2,hc3⟩,hPc⟩:=LY2.out.celx (k:=i) hiy
  obtain ⟨rneg,ra,rn,rc,rb,rm,rd⟩:=r
  simp only at hc1 hc2 hc3
  have HC:=Hi hPc
  have ZI:Hid (Sz 1 (ds.getD i 0)):=Hi (ZD.out.at (by omega))
  clear hPc
  subst hao
  go_upto_region 7 with fail
  refine nm_alloc ?_
  intro w12 hE hB0 hz
  have hz_w12:=nle hz
  have hr_w12:=nle hz.symm
  clear hz
  replace HX7:=hE.tr HX7
  replace HXw:=hE.tr HXw
  replace B92:=hE.bl B92
  replace LP2:=Hi (LP2.out.ext hE)
  replace LY2:=Hi (LY2.out.ext hE)
  replace HL2:=Hi (HL2.out.ext hE)
  replace HH2:=Hi (HH2.out.ext hE)
  replace HC:=Hi (HC.out.ext hE)
  have hs_w12:=hE.size
  clear hE
  try clear c_B92 f_B92 l_B92
  obtain ⟨c_B92,f_B92,l_B92⟩:=blk3 B92.out
  have B12:=Hi hB0
  clear hB0
  obtain ⟨c_B12,f_B12,l_B12⟩:=blk3 B12.out
  clear hc1 hc2 hc3
  go_wp2_with fail
  refine Calls.mono (ivhas4_any ⟨ln,la,ll,lc,lb,lm,ld⟩ ⟨hn,ha,hl,hc,hb,hm,hd⟩ ⟨rneg,ra,rn,rc,rb,rm,rd⟩ lo hi (ds.getD i 0) 1 _ (HL2.out.raw ZL.out (by decide)) (HH2.out.raw ZH.out (by decide)) (HC.out.raw ZI.out (by decide)) ZL.out ZH.out (by decide)) ?_
  rintro e w31 ⟨x31,rfl,hE,-⟩
  replace HX7:=hE.tr HX7
  replace HXw:=hE.tr HXw
  replace B92:=hE.bl B92
  replace LP2:=Hi (LP2.out.ext hE)
  replace LY2:=Hi (LY2.out.ext hE)
  replace HL2:=Hi (HL2.out.ext hE)
  replace HH2:=Hi (HH2.out.ext hE)
  replace HC:=Hi (HC.out.ext hE)
  replace B12:=hE.bl B12
  have hs_w31:=hE.size
  clear hE
  try clear c_B92 f_B92 l_B92
  obtain ⟨c_B92,f_B92,l_B92⟩:=blk3 B92.out
  try clear c_B12 f_B12 l_B12
  obtain ⟨c_B12,f_B12,l_B12⟩:=blk3 B12.out
  rw [lo_of HLH.out,hi_of HLH.out]
  obtain ⟨c,hcc⟩:∃ c,c = cc (ds.take i) lo hi:=⟨_,rfl⟩
  rw [← hcc] at HST hcl ⊢
  clear hcc
  by_cases hq:lo≤ds.getD i 0∧ds.getD i 0≤hi
  ·rw [if_pos hq] at HST
   rw [decide_eq_true hq]
   clear hq
   go_wp2
   go_roundg (gk - 1)
   case measure=>omega
   case rel=>exact ⟨i + 1,by omega,by go_num,by rw [HST.out]; go_num,HX7.out⟩
  ·rw [if_neg hq] at HST
   rw [decide_eq_false hq]
   clear hq
   go_wp2
   go_roundg (gk - 1)
   case measure=>omega
   case rel=>exact ⟨i + 1,by omega,by go_num,by rw [HST.out]; rfl,HX7.out⟩
end Go.Proofs.YtcbgamclcgcodaaGreat
