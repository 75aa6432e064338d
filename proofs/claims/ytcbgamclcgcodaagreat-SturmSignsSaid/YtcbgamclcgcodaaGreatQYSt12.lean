/- cut, parts of package sturm. Printed by gen/sturm.py. -/
import Derived.Test.YtcbgamclcgcodaaGreatQYM24
set_option linter.unusedVariables false
set_option maxRecDepth 8000
set_option maxHeartbeats 2000000
namespace Go.Proofs.YtcbgamclcgcodaaGreat
open Go.RowKit Go.Front Go.Num Stab
attribute [local go_sem] XW.cell XW.frozen
theorem scut_any (ao:Option Addr) (n cap:Nat) (qs:List Rat) (w:World) (h:RawL w ⟨ao,n,cap⟩ qs) :
  Does 191 [.slice ao n cap] w (fun _:Unit=>.slice ao (tz qs).length cap) (fun _ _=>tz qs = qs.take (tz qs).length∧(tz qs).length≤n):=by
 have H:=Hi h
 have hle:=h.le
 have hmx:=h.max
 have Hlen:=Hi h.len
 simp only at hle hmx Hlen
 clear h
 unfold Does
 change Calls Tryz.prog _ #[.slice ao n cap] w _
 go_enter Tryz.func191,Tryz.ntmps191
 go_wp2
 go_loopg [3] n (fun g nv wr=>nv = .int .i64 (g:Nat)∧g≤n∧tz qs = tz (qs.take g)∧Ext w wr)
 case atStart=>exact ⟨rfl,Nat.le_refl _,by rw [List.take_of_length_le (by rw [Hlen.out]; exact Nat.le_refl _)],Ext.refl _⟩
 case round =>
  obtain ⟨rfl,hg,hs,hE⟩:=hrel
  have Hs:=Hi hs
  have HE:=Hi hE
  clear hs hE
  by_cases h0:gk = 0
  ·subst h0
   go_wp2
   go_ret
   have e:tz qs = []:=by rw [Hs.out]; rfl
   refine ⟨(),?_,HE.out,?_,?_⟩
   ·rw [e]; simp
   ·rw [e]; simp
   ·rw [e]; simp
  ·obtain ⟨k,rfl⟩:∃ m,gk = m + 1:=⟨gk - 1,by omega⟩
   obtain ⟨b,off,r,hao,⟨hc1,hc2,hc3⟩,hP⟩:=(H.out.ext HE.out).at (k:=k) (by omega)
   subst hao
   have hbl:b < wr.heap.size:=World.block_lt_of_cell? _ _ hc1
   obtain ⟨rneg,ra,rn,rc,rb,rm,rd⟩:=r
   simp only at hc1 hc2 hc3
   have HP:=Hi hP
   clear hP h0
   go_wp2_with fail
   refine Calls.mono (rsign_any ⟨rneg,ra,rn,rc,rb,rm,rd⟩ _ _ HP.out) ?_
   rintro e w1 ⟨x1,rfl,hE1,-⟩
   replace HE:=Hi (HE.out.trans hE1)
   have HZ:=Hi (cmpR_self0 (qs.getD k 0))
   obtain ⟨c,hc⟩:∃ c,c = cmpR (qs.getD k 0) 0:=⟨_,rfl⟩
   rw [← hc] at HZ ⊢
   clear hc hE1 HP hc1 hc2 hc3 hbl
   by_cases hz:c = 0
   ·subst hz
    have Hz0:=Hi (HZ.out.1 rfl)
    clear HZ
    go_wp2
    go_roundg k
    case measure=>omega
    case rel=>exact ⟨by go_num,by omega,by rw [Hs.out,tz_zero (by rw [Hlen.out]; omega) Hz0.out],HE.out⟩
   ·have hzb:(c == 0) = false:=by simpa using hz
    have HF:Hid (tz qs = qs.take (k + 1)):=Hi (by rw [Hs.out,tz_stop (by rw [Hlen.out]; omega) (fun h=>hz (HZ.out.2 h))])
    clear HZ hz
    go_wp2
    go_ret
    have e:(tz qs).length = k + 1:=by rw [HF.out,List.length_take,Hlen.out]; omega
    refine ⟨(),?_,HE.out,?_,?_⟩
    ·rw [e]; rfl
    ·rw [e]; exact HF.out
    ·omega
theorem sparts_any (t:RH) (q:Rat) (w:World) (h:CanR w t q):Does 193 [t.v] w PT (fun x w'=>CanR w' x.1 (q.num:Rat)∧CanR w' x.2 ((q.den:Int):Rat)):=by
 obtain ⟨neg,a,n,c,b,m,d⟩:=t
 have H:=Hi h
 have HX:=Hi (Ext.refl w)
 clear h
 unfold Does
 go_enter Tryz.func193,Tryz.ntmps193
 go_upto_region 1 with fail
 refine nm_alloc3 ?_
 intro w1 hE hB0 hB1 hB2 hz
 have hz_w1:=nle hz
 have hr_w1:=nle hz.symm
 clear hz
 replace HX:=hE.tr HX
 have hs_w1:=hE.size
 clear hE
 have B1:=Hi hB0
 clear hB0
 obtain ⟨c_B1,f_B1,l_B1⟩:=blk3 B1.out
 have B2:=Hi hB1
 clear hB1
 obtain ⟨c_B2,f_B2,l_B2⟩:=blk3 B2.out
 have B3:=Hi hB2
 clear hB2
 obtain ⟨c_B3,f_B3,l_B3⟩:=blk3 B3.out
 go_upto_region 2 with fail
 refine nm_alloc ?_
 intro w2 hE hB0 hz
 have hz_w2:=nle hz
 have hr_w2:=nle hz.symm
 clear hz
 replace HX:=hE.tr HX
 replace B1:=hE.bl B1
 replace B2:=hE.bl B2
 replace B3:=hE.bl B3
 have hs_w2:=hE.size
 clear hE
 try clear c_B1 f_B1 l_B1
 obtain ⟨c_B1,f_B1,l_B1⟩:=blk3 B1.out
 try clear c_B2 f_B2 l_B2
 obtain ⟨c_B2,f_B2,l_B2⟩:=blk3 B2.out
 try clear c_B3 f_B3 l_B3
 obtain ⟨c_B3,f_B3,l_B3⟩:=blk3 B3.out
 have BO:=Hi hB0
 clear hB0
 obtain ⟨c_BO,f_BO,l_BO⟩:=blk3 BO.out
 go_region
 refine nm_twod B2.out rfl B3.out rfl (by omega) ?_
 intro y3 y4 y5 T3 T4 E5
 have HY:Hid (Ext w y5):=Hi ((T4.ext (T3.ext HX.out (by omega)) (by omega)).trans E5)
 have HO:=Hi (E5.block (T4.rest _ _ (by omega) (T3.rest _ _ (by omega) BO.out)))
 have HA:=Hi (H.out.ext HY.out)
 have C2:=Hi (E5.block (T4.rest _ _ (by omega) T3.bx))
 have C3:=Hi (E5.block T4.bx)
 have c_C2:=blk_cell C2.out
 have c_C3:=blk_cell C3.out
 have f_C2:=blk_frozen C2.out
 have f_C3:=blk_frozen C3.out
 clear T3 T4 E5 c_B1 c_B2 c_B3 f_B1 f_B2 f_B3 c_BO f_BO
 go_wp2
 exact bodyPost_ret (v:=PT (⟨neg,a,n,c,some ⟨w1.heap.size,0,none⟩,1,1⟩,⟨false,b,m,d,some ⟨w1.heap.size,0,none⟩,1,1⟩)) (by simp [results,Tryz.results193,go_sem,PT,c_C2,c_C3]) rfl
  ⟨(⟨neg,a,n,c,some ⟨w1.heap.size,0,none⟩,1,1⟩,⟨false,b,m,d,some ⟨w1.heap.size,0,none⟩,1,1⟩),rfl,HY.out,
   ⟨by rw [Rat.num_intCast]; exact HA.out.1,by rw [Rat.num_intCast]; exact HA.out.2.1,by rw [Rat.den_intCast]; exact pu32_one HO.out⟩,
   ⟨by rw [Rat.num_intCast]; exact (decide_eq_false (by omega)).symm,by rw [Rat.num_intCast]; exact HA.out.2.2,by rw [Rat.den_intCast]; exact pu32_one HO.out⟩⟩
end Go.Proofs.YtcbgamclcgcodaaGreat
/- primitive of package sturm. -/
set_option linter.unusedVariables false
namespace Go.Proofs.YtcbgamclcgcodaaGreat
open Go.RowKit Go.Front Go.Num Stab
attribute [local go_sem] XW.cell XW.frozen
set_option maxRecDepth 8000 in
set_option maxHeartbeats 4000000 in
theorem sprim_raw (ao:Option Addr) (n cap:Nat) (l:List Rat) (S D:Nat) (w:World) (h:RawL w ⟨ao,n,cap⟩ l) (hn:n≤1000000) (hS:1≤S) (hS2:S≤30000000) (hD:0 < D) (hl:D < W32 ^ S) (hf:∀ x ∈ l,Fr S D x) :
  Does 113 [.slice ao n cap] w SH.v (fun x w'=>NewRow w.heap.size w' x (splL l)):=by
 obtain ⟨i0,hi0,hz0,hz1,hz2⟩:=info_parts infoR
 have HX:=Hi (Ext.refl w)
 have LP:=Hi h
 have hle:=h.le
 have hmx:=h.max
 have Hlen:=Hi h.len
 simp only at hle hmx Hlen
 have HSz:=Hi (fr_all_sz hS hD hl hf)
 clear h
 unfold Does
 go_enter Tryz.func113,Tryz.ntmps113
 go_wp2_with fail
 refine Calls.mono (scut_any ao n cap l _ (LP.out.ext HX.out)) ?_
 rintro e w2 ⟨x2,rfl,hE,g2⟩
 have G2:=Hi g2
 clear g2
 replace HX:=hE.tr HX
 have hs_w2:=hE.size
 clear hE
 obtain ⟨q1,q2⟩:=G2.out
 obtain ⟨P,hP⟩:∃ P,P = (tz l).length:=⟨_,rfl⟩
 obtain ⟨p,hp⟩:∃ p,p = tz l:=⟨_,rfl⟩
 have LQ:Hid (RawL w ⟨ao,P,cap⟩ p):=Hi (by rw [hp,q1,hP]; exact LP.out.take q2)
 have HPl:Hid (p.length = P):=Hi (by rw [hp,hP])
 have HSL:Hid (splL l = p.map (· / measV p)):=Hi (by rw [hp]; rfl)
 have HM0:Hid (p ≠ []→measV p ≠ 0):=Hi (fun h0=>by
  rw [hp] at h0 ⊢
  have:=spl_pos h0
  exact fun h1=>by rw [show splM l = 0 from h1] at this; exact absurd this Rat.lt_irrefl)
 have HFp:Hid (∀ x ∈ p,Fr S D x):=Hi (fun x hx=>hf x (by rw [hp,q1] at hx; exact List.mem_of_mem_take hx))
 have hPn:P≤n:=by omega
 rw [← hP]
 clear hP hp q1 q2 G2 hf HSz Hlen
 clear LP
 go_wp2_with fail
 refine Calls.mono (rof_any 0 _ (by decide) (by decide)) ?_
 rintro e w3 ⟨x3,rfl,hE,g3⟩
 have G3:=Hi g3
 clear g3
 replace HX:=hE.tr HX
 have hs_w3:=hE.size
 clear hE
 go_upto_region 3 with fail
 refine nm_alloc ?_
 intro w4 hE hB0 hz
 have hz_w4:=nle hz
 have hr_w4:=nle hz.symm
 clear hz
 replace HX:=hE.tr HX
 replace G3:=Hi (G3.out.ext hE)
 have hs_w4:=hE.size
 clear hE
 have B4:=Hi hB0
 clear hB0
 obtain ⟨c_B4,f_B4,l_B4⟩:=blk3 B4.out
 obtain ⟨b4,hb4⟩:∃ b4,b4 = w3.heap.size:=⟨_,rfl⟩
 have hb4w:w.heap.size≤b4:=by omega
 rw [← hb4] at B4 ⊢
 clear hb4 c_B4 f_B4 l_B4
 go_wp2
 go_loopg [18] P (fun g v wr=>∃ (i:Nat) (m:RH),i + g = P∧v = .int .i64 (i:Nat)∧Ext w wr∧wr.heap[b4]? = some (.cells #[.bool m.neg,.slice m.a m.n m.c,.slice m.b m.m m.d] 34 (0,0))∧CanR wr m (measV (p.take i)))
 case atStart=>exact ⟨0,x3,by omega,rfl,HX.out,B4.out,G3.out⟩
 case round =>
  obtain ⟨i,m,hi,rfl,g1,g4,g5⟩:=hrel
  obtain ⟨mn,ma,ml,mc,mb,mm,md⟩:=m
  clear HX B4 G3
  have HX:=Hi g1
  have B4:=Hi g4
  have HM2:=Hi g5
  clear g1 g4 g5
  try clear c_B4 f_B4 l_B4
  obtain ⟨c_B4,f_B4,l_B4⟩:=blk3 B4.out
  by_cases h0:gk = 0
  case neg =>
   have hin:(i:Int) < P:=by omega
   obtain ⟨b,off,r,hao,hbl,⟨hc1,hc2,hc3⟩,hPc⟩:=(LQ.out.ext HX.out).cells' (k:=i) (by omega)
   obtain ⟨rneg,ra,rn,rc,rb,rm,rd⟩:=r
   simp only at hc1 hc2 hc3
   have HC:=Hi hPc
   clear hPc
   have HAO:=Hi hao
   subst hao
   go_upto_region 6 with fail
   clear hc1 hc2 hc3
   have hb4r:b4 < wr.heap.size:=l_B4
   refine nm_alloc ?_
   intro w6 hE hB0 hz
   have hz_w6:=nle hz
   have hr_w6:=nle hz.symm
   clear hz
   replace HX:=hE.tr HX
   replace B4:=hE.bl B4
   replace HM2:=Hi (HM2.out.ext hE)
   replace HC:=Hi (HC.out.ext hE)
   have hs_w6:=hE.size
   clear hE
   try clear c_B4 f_B4 l_B4
   obtain ⟨c_B4,f_B4,l_B4⟩:=blk3 B4.out
   have B6:=Hi hB0
   clear hB0
   obtain ⟨c_B6,f_B6,l_B6⟩:=blk3 B6.out
   have Zm:Hid (Sz S (measV (p.take i))):=Hi ((meas_fr fun x hx=>HFp.out x (List.mem_of_mem_take hx)).sz hS hD hl)
   have Zc:Hid (Sz S (p.getD i 0)):=Hi ((fr_all_sz hS hD hl HFp.out).at (by rw [HPl.out]; omega))
   obtain ⟨c,hc⟩:∃ c,c = p.getD i 0:=⟨_,rfl⟩
   obtain ⟨a,ha⟩:∃ a,a = measV (p.take i):=⟨_,rfl⟩
   have HMs:Hid (measV (p.take (i + 1)) = pcmV a c):=Hi (by rw [ptake_snoc (by rw [HPl.out]; omega),meas_snoc,ha,hc])
   rw [← hc] at HC Zc
   rw [← ha] at HM2 Zm
   clear hc ha
   go_wp2_with fail
   refine Calls.mono (rsign_any ⟨mn,ma,ml,mc,mb,mm,md⟩ a _ (HM2.out.raw Zm.out (by omega))) ?_
   rintro e w7 ⟨x7,rfl,hE,-⟩
   replace HX:=hE.tr HX
   replace B4:=hE.bl B4
   replace HM2:=Hi (HM2.out.ext hE)
   replace HC:=Hi (HC.out.ext hE)
   replace B6:=hE.bl B6
   have hs_w7:=hE.size
   clear hE
   try clear c_B4 f_B4 l_B4
   obtain ⟨c_B4,f_B4,l_B4⟩:=blk3 B4.out
   try clear c_B6 f_B6 l_B6
   obtain ⟨c_B6,f_B6,l_B6⟩:=blk3 B6.out
   have HZ:=Hi (cmpR_self0 a)
   obtain ⟨cc,hcc⟩:∃ cc,cc = cmpR a 0:=⟨_,rfl⟩
   rw [← hcc] at HZ ⊢
   clear hcc
   have h0b:((gk:Int) == 0) = false:=by simpa using h0
   by_cases hz:cc = 0
   case pos =>
    subst hz
    have HV:Hid (pcmV a c = c.abs):=Hi (by unfold pcmV; rw [if_pos (HZ.out.1 rfl)])
    clear HZ
    go_wp2_with fail
    refine Calls.mono (rabs_any ⟨rneg,ra,rn,rc,rb,rm,rd⟩ c _ HC.out) ?_
    rintro e w8 ⟨x8,rfl,hE,g8⟩
    have G8:=Hi g8
    clear g8
    replace HX:=hE.tr HX
    replace B4:=hE.bl B4
    replace HM2:=Hi (HM2.out.ext hE)
    replace HC:=Hi (HC.out.ext hE)
    replace B6:=hE.bl B6
    have hs_w8:=hE.size
    clear hE
    try clear c_B4 f_B4 l_B4
    obtain ⟨c_B4,f_B4,l_B4⟩:=blk3 B4.out
    try clear c_B6 f_B6 l_B6
    obtain ⟨c_B6,f_B6,l_B6⟩:=blk3 B6.out
    go_upto_region 13 with fail
    refine nm_set3 B4.out rfl ?_
    intro y1 T
    replace HX:=Hi (T.ext HX.out (by omega))
    replace B4:=Hi (T.bx)
    replace HM2:=Hi (HM2.out.keep T.keep)
    replace HC:=Hi (HC.out.keep T.keep)
    replace B6:=Hi (T.rest _ _ (by omega) B6.out)
    replace G8:=Hi (G8.out.keep T.keep)
    have hs_y1:=nle T.size
    have hr_y1:=nle T.size.symm
    clear T
    try clear c_B4 f_B4 l_B4
    obtain ⟨c_B4,f_B4,l_B4⟩:=blk3 B4.out
    try clear c_B6 f_B6 l_B6
    obtain ⟨c_B6,f_B6,l_B6⟩:=blk3 B6.out
    have HMn:Hid (CanR y1 x8 (measV (p.take (i + 1)))):=Hi (by rw [HMs.out,HV.out]; exact G8.out)
    go_wp2
    go_roundg (gk - 1)
    case measure=>omega
    case rel=>exact ⟨i + 1,x8,by omega,by go_num,HX.out,B4.out,HMn.out⟩
   have hzb:(cc == 0) = false:=by simpa using hz
   have Ha0:Hid (a ≠ 0):=Hi (fun h=>hz (HZ.out.2 h))
   clear hz HZ
   by_cases hb0:c = 0
   case pos =>
    have HV:Hid (pcmV a c = a):=Hi (by unfold pcmV; rw [if_neg Ha0.out,if_pos hb0])
    have Hb0:=Hi hb0
    clear hb0
    go_wp2_with fail
    refine Calls.mono (rdiv_zero ⟨mn,ma,ml,mc,mb,mm,md⟩ ⟨rneg,ra,rn,rc,rb,rm,rd⟩ a c _ (HM2.out.raw Zm.out (by omega)) HC.out Hb0.out) ?_
    rintro e w8 ⟨x8,rfl,hE,-⟩
    replace HX:=hE.tr HX
    replace B4:=hE.bl B4
    replace HM2:=Hi (HM2.out.ext hE)
    replace HC:=Hi (HC.out.ext hE)
    replace B6:=hE.bl B6
    have hs_w8:=hE.size
    clear hE
    try clear c_B4 f_B4 l_B4
    obtain ⟨c_B4,f_B4,l_B4⟩:=blk3 B4.out
    try clear c_B6 f_B6 l_B6
    obtain ⟨c_B6,f_B6,l_B6⟩:=blk3 B6.out
    go_upto_region 9 with fail
    refine nm_alloc ?_
    intro y1 hE hB0 hz
    have hz_y1:=nle hz
    have hr_y1:=nle hz.symm
    clear hz
    replace HX:=hE.tr HX
    replace B4:=hE.bl B4
    replace HM2:=Hi (HM2.out.ext hE)
    replace HC:=Hi (HC.out.ext hE)
    replace B6:=hE.bl B6
    have hs_y1:=hE.size
    clear hE
    try clear c_B4 f_B4 l_B4
    obtain ⟨c_B4,f_B4,l_B4⟩:=blk3 B4.out
    try clear c_B6 f_B6 l_B6
    obtain ⟨c_B6,f_B6,l_B6⟩:=blk3 B6.out
    have B7:=Hi hB0
    clear hB0
    obtain ⟨c_B7,f_B7,l_B7⟩:=blk3 B7.out
    go_wp2
    go_roundg (gk - 1)
    case measure=>omega
    case rel=>exact ⟨i + 1,⟨mn,ma,ml,mc,mb,mm,md⟩,by omega,by go_num,HX.out,B4.out,by rw [HMs.out,HV.out]; exact HM2.out⟩
   have Hb0:=Hi hb0
   clear hb0
   obtain ⟨q,hq⟩:∃ q,q = a / c:=⟨_,rfl⟩
   have Hq0:Hid (q ≠ 0):=Hi (fun h=>by
    have h1:=pd_div (a:=a) Hb0.out
    rw [← hq,h] at h1
    exact Ha0.out (by rw [← h1]; grind))
   have ZQ:Hid (Sz (S + S) q):=Hi (by rw [hq]; exact Zm.out.div Zc.out)
   have HV:Hid (pcmV a c = (a / (q.num:Rat)).abs):=Hi (by unfold pcmV; rw [if_neg Ha0.out,if_neg Hb0.out,← hq])
   go_wp2_with fail
   refine Calls.mono (rdiv_any ⟨mn,ma,ml,mc,mb,mm,md⟩ ⟨rneg,ra,rn,rc,rb,rm,rd⟩ a c _ (HM2.out.raw Zm.out (by omega)) HC.out Hb0.out) ?_
   rintro e w8 ⟨x8,rfl,hE,g8⟩
   have G8:=Hi g8
   clear g8
   replace HX:=hE.tr HX
   replace B4:=hE.bl B4
   replace HM2:=Hi (HM2.out.ext hE)
   replace HC:=Hi (HC.out.ext hE)
   replace B6:=hE.bl B6
   have hs_w8:=hE.size
   clear hE
   try clear c_B4 f_B4 l_B4
   obtain ⟨c_B4,f_B4,l_B4⟩:=blk3 B4.out
   try clear c_B6 f_B6 l_B6
   obtain ⟨c_B6,f_B6,l_B6⟩:=blk3 B6.out
   rw [← hq] at G8
   clear hq
   go_upto_region 9 with fail
   refine nm_alloc ?_
   intro y1 hE hB0 hz
   have hz_y1:=nle hz
   have hr_y1:=nle hz.symm
   clear hz
   replace HX:=hE.tr HX
   replace B4:=hE.bl B4
   replace HM2:=Hi (HM2.out.ext hE)
   replace HC:=Hi (HC.out.ext hE)
   replace B6:=hE.bl B6
   replace G8:=Hi (G8.out.ext hE)
   have hs_y1:=hE.size
   clear hE
   try clear c_B4 f_B4 l_B4
   obtain ⟨c_B4,f_B4,l_B4⟩:=blk3 B4.out
   try clear c_B6 f_B6 l_B6
   obtain ⟨c_B6,f_B6,l_B6⟩:=blk3 B6.out
   have B7:=Hi hB0
   clear hB0
   obtain ⟨c_B7,f_B7,l_B7⟩:=blk3 B7.out
   go_wp2_with fail
   refine Calls.mono (sparts_any x8 q _ G8.out) ?_
   rintro e w9 ⟨x9,rfl,hE,g9⟩
   have G9:=Hi g9
   clear g9
   replace HX:=hE.tr HX
   replace B4:=hE.bl B4
   replace HM2:=Hi (HM2.out.ext hE)
   replace HC:=Hi (HC.out.ext hE)
   replace B6:=hE.bl B6
   replace G8:=Hi (G8.out.ext hE)
   replace B7:=hE.bl B7
   have hs_w9:=hE.size
   clear hE
   try clear c_B4 f_B4 l_B4
   obtain ⟨c_B4,f_B4,l_B4⟩:=blk3 B4.out
   try clear c_B6 f_B6 l_B6
   obtain ⟨c_B6,f_B6,l_B6⟩:=blk3 B6.out
   try clear c_B7 f_B7 l_B7
   obtain ⟨c_B7,f_B7,l_B7⟩:=blk3 B7.out
   obtain ⟨x9,x0⟩:=x9
   have G9a:=Hi G9.out.1
   have G9b:=Hi G9.out.2
   clear G9
   simp only [PT]
   go_upto_region 11 with fail
   refine nm_alloc2 ?_
   intro y2 hE hB0 hB1 hz
   have hz_y2:=nle hz
   have hr_y2:=nle hz.symm
   clear hz
   replace HX:=hE.tr HX
   replace B4:=hE.bl B4
   replace HM2:=Hi (HM2.out.ext hE)
   replace HC:=Hi (HC.out.ext hE)
   replace B6:=hE.bl B6
   replace G8:=Hi (G8.out.ext hE)
   replace B7:=hE.bl B7
   replace G9a:=Hi (G9a.out.ext hE)
   replace G9b:=Hi (G9b.out.ext hE)
   have hs_y2:=hE.size
   clear hE
   try clear c_B4 f_B4 l_B4
   obtain ⟨c_B4,f_B4,l_B4⟩:=blk3 B4.out
   try clear c_B6 f_B6 l_B6
   obtain ⟨c_B6,f_B6,l_B6⟩:=blk3 B6.out
   try clear c_B7 f_B7 l_B7
   obtain ⟨c_B7,f_B7,l_B7⟩:=blk3 B7.out
   have B8:=Hi hB0
   clear hB0
   obtain ⟨c_B8,f_B8,l_B8⟩:=blk3 B8.out
   have B9:=Hi hB1
   clear hB1
   obtain ⟨c_B9,f_B9,l_B9⟩:=blk3 B9.out
   go_wp2_with fail
   refine Calls.mono (rdiv_any ⟨mn,ma,ml,mc,mb,mm,md⟩ x9 a (q.num:Rat) _ (HM2.out.raw Zm.out (by omega)) (G9a.out.raw ZQ.out.numz (by omega)) (num_ne Hq0.out)) ?_
   rintro e w10 ⟨x10,rfl,hE,g10⟩
   have G10:=Hi g10
   clear g10
   replace HX:=hE.tr HX
   replace B4:=hE.bl B4
   replace HM2:=Hi (HM2.out.ext hE)
   replace HC:=Hi (HC.out.ext hE)
   replace B6:=hE.bl B6
   replace G8:=Hi (G8.out.ext hE)
   replace B7:=hE.bl B7
   replace G9a:=Hi (G9a.out.ext hE)
   replace G9b:=Hi (G9b.out.ext hE)
   replace B8:=hE.bl B8
   replace B9:=hE.bl B9
   have hs_w10:=hE.size
   clear hE
   try clear c_B4 f_B4 l_B4
   obtain ⟨c_B4,f_B4,l_B4⟩:=blk3 B4.out
   try clear c_B6 f_B6 l_B6
   obtain ⟨c_B6,f_B6,l_B6⟩:=blk3 B6.out
   try clear c_B7 f_B7 l_B7
   obtain ⟨c_B7,f_B7,l_B7⟩:=blk3 B7.out
   try clear c_B8 f_B8 l_B8
   obtain ⟨c_B8,f_B8,l_B8⟩:=blk3 B8.out
   try clear c_B9 f_B9 l_B9
   obtain ⟨c_B9,f_B9,l_B9⟩:=blk3 B9.out
   go_upto_region 12 with fail
   refine nm_set3 B4.out rfl ?_
   intro y3 T
   replace HX:=Hi (T.ext HX.out (by omega))
   replace B4:=Hi (T.bx)
   replace HM2:=Hi (HM2.out.keep T.keep)
   replace HC:=Hi (HC.out.keep T.keep)
   replace B6:=Hi (T.rest _ _ (by omega) B6.out)
   replace G8:=Hi (G8.out.keep T.keep)
   replace B7:=Hi (T.rest _ _ (by omega) B7.out)
   replace G9a:=Hi (G9a.out.keep T.keep)
   replace G9b:=Hi (G9b.out.keep T.keep)
   replace B8:=Hi (T.rest _ _ (by omega) B8.out)
   replace B9:=Hi (T.rest _ _ (by omega) B9.out)
   replace G10:=Hi (G10.out.keep T.keep)
   have hs_y3:=nle T.size
   have hr_y3:=nle T.size.symm
   clear T
   try clear c_B4 f_B4 l_B4
   obtain ⟨c_B4,f_B4,l_B4⟩:=blk3 B4.out
   try clear c_B6 f_B6 l_B6
   obtain ⟨c_B6,f_B6,l_B6⟩:=blk3 B6.out
   try clear c_B7 f_B7 l_B7
   obtain ⟨c_B7,f_B7,l_B7⟩:=blk3 B7.out
   try clear c_B8 f_B8 l_B8
   obtain ⟨c_B8,f_B8,l_B8⟩:=blk3 B8.out
   try clear c_B9 f_B9 l_B9
   obtain ⟨c_B9,f_B9,l_B9⟩:=blk3 B9.out
   go_wp2_with fail
   refine Calls.mono (rabs_any x10 _ _ (G10.out.raw (Zm.out.div ZQ.out.numz) (by omega))) ?_
   rintro e w11 ⟨x11,rfl,hE,g11⟩
   have G11:=Hi g11
   clear g11
   replace HX:=hE.tr HX
   replace B4:=hE.bl B4
   replace HM2:=Hi (HM2.out.ext hE)
   replace HC:=Hi (HC.out.ext hE)
   replace B6:=hE.bl B6
   replace G8:=Hi (G8.out.ext hE)
   replace B7:=hE.bl B7
   replace G9a:=Hi (G9a.out.ext hE)
   replace G9b:=Hi (G9b.out.ext hE)
   replace B8:=hE.bl B8
   replace B9:=hE.bl B9
   replace G10:=Hi (G10.out.ext hE)
   have hs_w11:=hE.size
   clear hE
   try clear c_B4 f_B4 l_B4
   obtain ⟨c_B4,f_B4,l_B4⟩:=blk3 B4.out
   try clear c_B6 f_B6 l_B6
   obtain ⟨c_B6,f_B6,l_B6⟩:=blk3 B6.out
   try clear c_B7 f_B7 l_B7
   obtain ⟨c_B7,f_B7,l_B7⟩:=blk3 B7.out
   try clear c_B8 f_B8 l_B8
   obtain ⟨c_B8,f_B8,l_B8⟩:=blk3 B8.out
   try clear c_B9 f_B9 l_B9
   obtain ⟨c_B9,f_B9,l_B9⟩:=blk3 B9.out
   go_upto_region 13 with fail
   refine nm_set3 B4.out rfl ?_
   intro y4 T
   replace HX:=Hi (T.ext HX.out (by omega))
   replace B4:=Hi (T.bx)
   replace HM2:=Hi (HM2.out.keep T.keep)
   replace HC:=Hi (HC.out.keep T.keep)
   replace B6:=Hi (T.rest _ _ (by omega) B6.out)
   replace G8:=Hi (G8.out.keep T.keep)
   replace B7:=Hi (T.rest _ _ (by omega) B7.out)
   replace G9a:=Hi (G9a.out.keep T.keep)
   replace G9b:=Hi (G9b.out.keep T.keep)
   replace B8:=Hi (T.rest _ _ (by omega) B8.out)
   replace B9:=Hi (T.rest _ _ (by omega) B9.out)
   replace G10:=Hi (G10.out.keep T.keep)
   replace G11:=Hi (G11.out.keep T.keep)
   have hs_y4:=nle T.size
   have hr_y4:=nle T.size.symm
   clear T
   try clear c_B4 f_B4 l_B4
   obtain ⟨c_B4,f_B4,l_B4⟩:=blk3 B4.out
   try clear c_B6 f_B6 l_B6
   obtain ⟨c_B6,f_B6,l_B6⟩:=blk3 B6.out
   try clear c_B7 f_B7 l_B7
   obtain ⟨c_B7,f_B7,l_B7⟩:=blk3 B7.out
   try clear c_B8 f_B8 l_B8
   obtain ⟨c_B8,f_B8,l_B8⟩:=blk3 B8.out
   try clear c_B9 f_B9 l_B9
   obtain ⟨c_B9,f_B9,l_B9⟩:=blk3 B9.out
   have HMn:Hid (CanR y4 x11 (measV (p.take (i + 1)))):=Hi (by rw [HMs.out,HV.out]; exact G11.out)
   go_wp2
   go_roundg (gk - 1)
   case measure=>omega
   case rel=>exact ⟨i + 1,x11,by omega,by go_num,HX.out,B4.out,HMn.out⟩
  subst h0
  obtain rfl:i = P:=by omega
  have hin:¬ (i:Int) < i:=by omega
  have HM3:Hid (CanR wr ⟨mn,ma,ml,mc,mb,mm,md⟩ (measV p)):=Hi (by
   have:=HM2.out
   rw [List.take_of_length_le (by rw [HPl.out]; exact Nat.le_refl _)] at this
   exact this)
  clear HM2
  have hXr:=HX.out.size
  have hb4r:b4 < wr.heap.size:=l_B4
  go_upto_region 15 with (refine wpList_make rfl (.tmp 50) (.tmp 50) 24 rfl 34 i0 (RH.v default) 3 Tryz.underlying24 hi0 hz0 hz1 _ _ i rfl rfl (by omega) (by omega) (by rw [hz2]; omega) (by omega) ?_; intro y1 hnew hE)
  have KB:=Hi (RBk.make rfl hnew)
  clear hnew
  replace HX:=hE.tr HX
  replace B4:=hE.bl B4
  replace HM3:=Hi (HM3.out.ext hE)
  have hs_y1:=hE.size
  clear hE
  try clear c_B4 f_B4 l_B4
  obtain ⟨c_B4,f_B4,l_B4⟩:=blk3 B4.out
  obtain ⟨L,hL⟩:∃ L,L = wr.heap.size:=⟨_,rfl⟩
  have hLw:w.heap.size≤L:=by omega
  have hL4:b4 ≠ L:=by omega
  rw [← hL] at KB ⊢
  clear hL hs_y1 c_B4 f_B4 l_B4
  go_wp2
  go_loopg [54] i (fun g v wr=>∃ (j:Nat) (rs:List RH),j + g = i∧v = .int .i64 (j:Nat)∧Ext w wr∧wr.heap[b4]? = some (.cells #[.bool mn,.slice ma ml mc,.slice mb mm md] 34 (0,0))∧CanR wr ⟨mn,ma,ml,mc,mb,mm,md⟩ (measV p)∧RBk wr L rs #[]∧rs.length = i∧PreC wr rs ((p.take j).map (· / measV p)))
  case atStart=>exact ⟨0,_,by omega,rfl,HX.out,B4.out,HM3.out,KB.out,by simp,fun j hj=>by simp at hj⟩
  case round =>
   obtain ⟨j,rs,hj,rfl,g1,g4,g5,g6,g7,g8⟩:=hrel
   clear HX B4 HM3 KB
   have HX:=Hi g1
   have B4:=Hi g4
   have HM3:=Hi g5
   have KB:=Hi g6
   have HRl:=Hi g7
   have PC:=Hi g8
   clear g1 g4 g5 g6 g7 g8
   try clear c_B4 f_B4 l_B4
   obtain ⟨c_B4,f_B4,l_B4⟩:=blk3 B4.out
   try clear f_KB l_KB
   have f_KB:=blk_frozen KB.out
   have l_KB:=(Array.getElem?_eq_some_iff.1 KB.out).1
   by_cases h0:gk = 0
   case neg =>
    have hin2:(j:Int) < i:=by omega
    obtain ⟨b,off,r,hao,hbl,⟨hc1,hc2,hc3⟩,hPc⟩:=(LQ.out.ext HX.out).cells' (k:=j) (by omega)
    obtain ⟨rneg,ra,rn,rc,rb,rm,rd⟩:=r
    simp only at hc1 hc2 hc3
    have HC:=Hi hPc
    clear hPc
    subst hao
    go_upto_region 18 with fail
    clear hc1 hc2 hc3
    have hLr:L < wr.heap.size:=l_KB
    refine nm_alloc ?_
    intro y6 hE hB0 hz
    have hz_y6:=nle hz
    have hr_y6:=nle hz.symm
    clear hz
    replace HX:=hE.tr HX
    replace B4:=hE.bl B4
    replace HM3:=Hi (HM3.out.ext hE)
    replace PC:=Hi (PC.out.ext hE)
    replace KB:=hE.bl KB
    replace HC:=Hi (HC.out.ext hE)
    have hs_y6:=hE.size
    clear hE
    try clear c_B4 f_B4 l_B4
    obtain ⟨c_B4,f_B4,l_B4⟩:=blk3 B4.out
    try clear f_KB l_KB
    have f_KB:=blk_frozen KB.out
    have l_KB:=(Array.getElem?_eq_some_iff.1 KB.out).1
    have B9:=Hi hB0
    clear hB0
    obtain ⟨c_B9,f_B9,l_B9⟩:=blk3 B9.out
    have Zm:Hid (Sz S (measV p)):=Hi ((meas_fr HFp.out).sz hS hD hl)
    have Zc:Hid (Sz S (p.getD j 0)):=Hi ((fr_all_sz hS hD hl HFp.out).at (by rw [HPl.out]; omega))
    have Hm0:Hid (measV p ≠ 0):=Hi (HM0.out fun h=>by have:=HPl.out; rw [h] at this; simp at this; omega)
    go_wp2_with fail
    refine Calls.mono (rdiv_any ⟨rneg,ra,rn,rc,rb,rm,rd⟩ ⟨mn,ma,ml,mc,mb,mm,md⟩ (p.getD j 0) (measV p) _ HC.out (HM3.out.raw Zm.out (by omega)) Hm0.out) ?_
    rintro e w7 ⟨x7,rfl,hE,g7⟩
    have G7:=Hi g7
    clear g7
    replace HX:=hE.tr HX
    replace B4:=hE.bl B4
    replace HM3:=Hi (HM3.out.ext hE)
    replace PC:=Hi (PC.out.ext hE)
    replace KB:=hE.bl KB
    replace HC:=Hi (HC.out.ext hE)
    replace B9:=hE.bl B9
    have hs_w7:=hE.size
    clear hE
    try clear c_B4 f_B4 l_B4
    obtain ⟨c_B4,f_B4,l_B4⟩:=blk3 B4.out
    try clear f_KB l_KB
    have f_KB:=blk_frozen KB.out
    have l_KB:=(Array.getElem?_eq_some_iff.1 KB.out).1
    try clear c_B9 f_B9 l_B9
    obtain ⟨c_B9,f_B9,l_B9⟩:=blk3 B9.out
    obtain ⟨f1,f2,f3⟩:=RBk.at (re:=#[]) KB.out (k:=j) (by rw [HRl.out]; omega)
    go_upto_region 19 with fail
    refine nm_rat (k:=j) KB.out rfl (by rw [HRl.out]; omega) ?_
    intro y8 T
    clear f1 f2 f3
    replace HX:=Hi (T.ext HX.out (by omega))
    replace B4:=Hi (T.rest _ _ (by omega) B4.out)
    replace HM3:=Hi (HM3.out.keep T.keep)
    replace PC:=Hi (PC.out.keep T.keep)
    replace KB:=Hi (T.bx)
    replace HC:=Hi (HC.out.keep T.keep)
    replace B9:=Hi (T.rest _ _ (by omega) B9.out)
    replace G7:=Hi (G7.out.keep T.keep)
    have hs_y8:=nle T.size
    have hr_y8:=nle T.size.symm
    clear T
    try clear c_B4 f_B4 l_B4
    obtain ⟨c_B4,f_B4,l_B4⟩:=blk3 B4.out
    try clear f_KB l_KB
    have f_KB:=blk_frozen KB.out
    have l_KB:=(Array.getElem?_eq_some_iff.1 KB.out).1
    try clear c_B9 f_B9 l_B9
    obtain ⟨c_B9,f_B9,l_B9⟩:=blk3 B9.out
    replace PC:=Hi (PC.out.snoc (x:=x7) (i:=j) (by rw [List.length_map,List.length_take,HPl.out]; omega) (by rw [HRl.out]; omega) G7.out)
    have HRp:Hid ((p.take j).map (· / measV p) ++ [p.getD j 0 / measV p] = (p.take (j + 1)).map (· / measV p)):=Hi (by rw [ptake_snoc (by rw [HPl.out]; omega),List.map_append]; rfl)
    rw [HRp.out] at PC
    go_wp2
    go_roundg (gk - 1)
    case measure=>omega
    case rel=>exact ⟨j + 1,_,by omega,by go_num,HX.out,B4.out,HM3.out,KB.out,by rw [List.length_set]; exact HRl.out,PC.out⟩
   subst h0
   obtain rfl:j = i:=by omega
   have hin:¬ (j:Int) < j:=by omega
   have HO:Hid (RowC wr L (splL l)):=Hi (by
    have:=PC.out
    rw [List.take_of_length_le (by rw [HPl.out]; exact Nat.le_refl _),← HSL.out] at this
    exact this.row KB.out HRl.out (by rw [HSL.out,List.length_map,HPl.out]))
   go_wp2
   go_ret
   exact ⟨⟨some ⟨L,0,none⟩,j,j⟩,rfl,HX.out,L,hLw,by rw [HSL.out,List.length_map,HPl.out],HO.out⟩
theorem sprim_any (ao:Option Addr) (n cap:Nat) (l:List Rat) (S D:Nat) (w:World) (h:CanL w ⟨ao,n,cap⟩ l) (hn:n≤1000000) (hS:1≤S) (hS2:S≤30000000) (hD:0 < D) (hl:D < W32 ^ S) (hf:∀ x ∈ l,Fr S D x) :
  Does 113 [.slice ao n cap] w SH.v (fun x w'=>NewRow w.heap.size w' x (splL l)):=sprim_raw ao n cap l S D w (h.raw (fr_all_sz hS hD hl hf) (by omega)) hn hS hS2 hD hl hf
end Go.Proofs.YtcbgamclcgcodaaGreat
