/- SturmHalves returns true. -/
import Derived.Test.YtcbgamclcgcodaaGreatQHAwk6
import Derived.Test.YtcbgamclcgcodaaGreatQHRtd
set_option linter.unusedVariables false
namespace Go.Proofs.YtcbgamclcgcodaaGreat
open Go.RowKit Go.Front Go.Num Stab Sg
attribute [local go_sem] XW.cell XW.frozen
theorem cnt_bd {p:List Rat} (hl:p.length≤12) (h:tz p ≠ []) (a b:Rat):-100≤cntV p a b∧cntV p a b≤100:=by
 have v1:=var_le (remsV (rootV p)) a
 have v2:=var_le (remsV (rootV p)) b
 have e1:=rems_len (rootV p)
 have e2:(rootV p).length≤p.length:=by unfold rootV; split; exact sqf_len h; exact Nat.le_refl _
 unfold cntV
 split <;> omega
theorem mid_in {a b:Rat} (h:a≤b):a≤(a + b) * (((1:Int):Rat) / ((2:Int):Rat))∧(a + b) * (((1:Int):Rat) / ((2:Int):Rat))≤b:=by
 have e:(((1:Int):Rat) / ((2:Int):Rat)) * 2 = 1:=by decide +kernel
 generalize (((1:Int):Rat) / ((2:Int):Rat)) = c at e
 have h2:(a + b) * c * 2 = a + b:=by rw [Rat.mul_assoc,e,Rat.mul_one]
 constructor <;> grind
set_option maxRecDepth 8000 in
set_option maxHeartbeats 8000000 in
theorem halves_any (ao:Option Addr) (cap:Nat) (xs:List Int) (za zb zc:Int) (w:World) (h:IntsAt w ao xs) (hr:InR xs) (hl:xs.length≤9223372036854775807) (hc:xs.length≤cap) (hcm:cap≤9223372036854775807)
  (a1:-9223372036854775808≤za) (a2:za≤9223372036854775807) (b1:-9223372036854775808≤zb) (b2:zb≤9223372036854775807) (c1:-9223372036854775808≤zc) (c2:zc≤9223372036854775807) :
  Does 7 [.slice ao xs.length cap,.int .i64 za,.int .i64 zb,.int .i64 zc] w (fun _:Unit=>.bool true) (fun _ _=>True):=by
 have HX:=Hi (Ext.refl w)
 obtain ⟨n,hn⟩:∃ n,n = xs.length:=⟨_,rfl⟩
 have HRo:Hid (Does 35 [.slice ao n cap] w RT2 (fun x w'=>CanL w' x.1.1 x.2.1∧CanL w' x.1.2 x.2.2∧RooP x.2.1 x.2.2)):=Hi (by rw [hn]; exact rooted_any ao cap xs w h hr hl hc hcm)
 rw [← hn]
 clear hn h hr hl hc hcm
 unfold Does
 go_enter Tryz.func7,Tryz.ntmps7
 go_wp2_with fail
 refine Calls.mono (HRo.out) ?_
 rintro e w21 ⟨x21,rfl,hE,g21⟩
 have G21:=Hi g21
 clear g21
 replace HX:=hE.tr HX
 have hs_w21:=hE.size
 clear hE
 obtain ⟨⟨⟨pa,pn,pc⟩,⟨ya,yn,yc⟩⟩,⟨p,ds⟩⟩:=x21
 have LP:=Hi G21.out.1.lin
 have HRP:=Hi G21.out.2.2
 clear G21
 obtain ⟨k1,k2,k3,k4⟩:=HRP.out.frk
 have HK1:=Hi k1
 have HK2:=Hi k2
 have H0:=Hi k3
 have HZ:=Hi HRP.out.sz
 have hpl:p.length≤12:=k4
 have hpn:pn≤12:=by have e:p.length = pn:=LP.out.len; omega
 clear k1 k2 k3 k4
 have hkk:(pn + 1) * (2125764 / 3)≤25000000:=by
  have:=Nat.mul_le_mul_right (2125764 / 3) (show pn + 1≤13 by omega)
  omega
 simp only [RT2,SH.v]
 go_wp2_with fail
 refine Calls.mono (on_any za zb _ a1 a2 b1 b2) ?_
 rintro e w26 ⟨x26,rfl,hE,g26⟩
 have G26:=Hi g26
 clear g26
 replace HX:=hE.tr HX
 replace LP:=Hi (LP.out.ext hE)
 have hs_w26:=hE.size
 clear hE
 obtain ⟨⟨ln,la,ll,lc,lb,lm,ld⟩,⟨hn,ha,hl,hc,hb,hm,hd⟩⟩:=x26
 have ZL:Hid (Sz 5 (loV (cosQ za) (cosQ zb))):=Hi ((lo_or (cosQ za) (cosQ zb)).elim (fun e=>by rw [e]; exact (cosQ_sz za).mono (by decide)) (fun e=>by rw [e]; exact (cosQ_sz zb).mono (by decide)))
 have ZH:Hid (Sz 5 (hiV (cosQ za) (cosQ zb))):=Hi ((hi_or (cosQ za) (cosQ zb)).elim (fun e=>by rw [e]; exact (cosQ_sz za).mono (by decide)) (fun e=>by rw [e]; exact (cosQ_sz zb).mono (by decide)))
 have ZL1:Hid (Sz 1 (loV (cosQ za) (cosQ zb))):=Hi ((lo_or (cosQ za) (cosQ zb)).elim (fun e=>by rw [e]; exact cosQ_sz za) (fun e=>by rw [e]; exact cosQ_sz zb))
 have ZH1:Hid (Sz 1 (hiV (cosQ za) (cosQ zb))):=Hi ((hi_or (cosQ za) (cosQ zb)).elim (fun e=>by rw [e]; exact cosQ_sz za) (fun e=>by rw [e]; exact cosQ_sz zb))
 have hlh:=lo_hi (cosQ za) (cosQ zb)
 have HL:=Hi G26.out.1
 have HH:=Hi G26.out.2
 clear G26
 obtain ⟨lo,hlo⟩:∃ lo,lo = loV (cosQ za) (cosQ zb):=⟨_,rfl⟩
 obtain ⟨hi,hhi⟩:∃ hi,hi = hiV (cosQ za) (cosQ zb):=⟨_,rfl⟩
 rw [← hlo] at HL ZL ZL1 hlh
 rw [← hhi] at HH ZH ZH1 hlh
 have HLH:=Hi hlh
 clear hlo hhi hlh
 go_upto_region 3 with fail
 refine nm_alloc ?_
 intro w27 hE hB0 hz
 have hz_w27:=nle hz
 have hr_w27:=nle hz.symm
 clear hz
 replace HX:=hE.tr HX
 replace LP:=Hi (LP.out.ext hE)
 replace HL:=Hi (HL.out.ext hE)
 replace HH:=Hi (HH.out.ext hE)
 have hs_w27:=hE.size
 clear hE
 have B11:=Hi hB0
 clear hB0
 obtain ⟨c_B11,f_B11,l_B11⟩:=blk3 B11.out
 go_wp2_with fail
 refine Calls.mono (cos_any zc _ c1 c2) ?_
 rintro e w28 ⟨x28,rfl,hE,g28⟩
 have G28:=Hi g28
 clear g28
 replace HX:=hE.tr HX
 replace LP:=Hi (LP.out.ext hE)
 replace HL:=Hi (HL.out.ext hE)
 replace HH:=Hi (HH.out.ext hE)
 replace B11:=hE.bl B11
 have hs_w28:=hE.size
 clear hE
 try clear c_B11 f_B11 l_B11
 obtain ⟨c_B11,f_B11,l_B11⟩:=blk3 B11.out
 go_upto_region 4 with fail
 refine nm_alloc ?_
 intro w29 hE hB0 hz
 have hz_w29:=nle hz
 have hr_w29:=nle hz.symm
 clear hz
 replace HX:=hE.tr HX
 replace LP:=Hi (LP.out.ext hE)
 replace HL:=Hi (HL.out.ext hE)
 replace HH:=Hi (HH.out.ext hE)
 replace B11:=hE.bl B11
 replace G28:=Hi (G28.out.ext hE)
 have hs_w29:=hE.size
 clear hE
 try clear c_B11 f_B11 l_B11
 obtain ⟨c_B11,f_B11,l_B11⟩:=blk3 B11.out
 have B12:=Hi hB0
 clear hB0
 obtain ⟨c_B12,f_B12,l_B12⟩:=blk3 B12.out
 obtain ⟨b11,hb11⟩:∃ b,b = w26.heap.size:=⟨_,rfl⟩
 obtain ⟨b12,hb12⟩:∃ b,b = w28.heap.size:=⟨_,rfl⟩
 have hw11:w.heap.size≤b11:=by omega
 have hw12:w28.heap.size≤b12:=by omega
 have hw12':w.heap.size≤b12:=by omega
 have h12:b11 ≠ b12:=by omega
 rw [← hb11] at B11 ⊢
 rw [← hb12] at B12 ⊢
 clear hb11 hb12 c_B11 f_B11 l_B11 c_B12 f_B12 l_B12
 have ZX:Hid (Sz 5 (cosQ zc)):=Hi ((cosQ_sz zc).mono (by decide))
 obtain ⟨x,hx⟩:∃ x,x = cosQ zc:=⟨_,rfl⟩
 rw [← hx] at G28 ZX
 clear hx
 obtain ⟨cn,ca,cl,cc,cb,cm,cd⟩:=x28
 simp only at B12
 try clear c_B11 f_B11 l_B11
 obtain ⟨c_B11,f_B11,l_B11⟩:=blk3 B11.out
 try clear c_B12 f_B12 l_B12
 obtain ⟨c_B12,f_B12,l_B12⟩:=blk3 B12.out
 go_wp2_with fail
 refine Calls.mono (ivhas4_any ⟨ln,la,ll,lc,lb,lm,ld⟩ ⟨hn,ha,hl,hc,hb,hm,hd⟩ ⟨cn,ca,cl,cc,cb,cm,cd⟩ lo hi x 5 _ (HL.out.raw ZL.out (by decide)) (HH.out.raw ZH.out (by decide)) (G28.out.raw ZX.out (by decide)) ZL.out ZH.out (by decide)) ?_
 rintro e w31 ⟨x31,rfl,hE,-⟩
 replace HX:=hE.tr HX
 replace LP:=Hi (LP.out.ext hE)
 replace HL:=Hi (HL.out.ext hE)
 replace HH:=Hi (HH.out.ext hE)
 replace B11:=hE.bl B11
 replace G28:=Hi (G28.out.ext hE)
 replace B12:=hE.bl B12
 have hs_w31:=hE.size
 clear hE
 try clear c_B11 f_B11 l_B11
 obtain ⟨c_B11,f_B11,l_B11⟩:=blk3 B11.out
 try clear c_B12 f_B12 l_B12
 obtain ⟨c_B12,f_B12,l_B12⟩:=blk3 B12.out
 rw [lo_of HLH.out,hi_of HLH.out]
 obtain ⟨r,hr⟩:∃ r,r = decide (lo≤x∧x≤hi):=⟨_,rfl⟩
 have HR:=Hi hr
 rw [← hr]
 clear hr
 go_upto_if 32 with fail
 go_cut [] (fun wc=>∃ (t:RH) (y:Rat),Ext w wc∧LIn wc ⟨pa,pn,pc⟩ p 0 w21.heap.size∧CanR wc ⟨ln,la,ll,lc,lb,lm,ld⟩ lo∧CanR wc ⟨hn,ha,hl,hc,hb,hm,hd⟩ hi∧CanR wc t y∧Sz 5 y∧lo≤y∧y≤hi∧wc.heap[b11]? = some (.cells #[.bool ln,.slice la ll lc,.slice lb lm ld,.bool hn,.slice ha hl hc,.slice hb hm hd] 38 (0,0))∧wc.heap[b12]? = some (.cells #[.bool t.neg,.slice t.a t.n t.c,.slice t.b t.m t.d] 34 (0,0)))
 case first =>
  cases r
  case true =>
   have hin:=of_decide_eq_true HR.out.symm
   go_wp2
   go_meet
   case rel=>exact ⟨⟨cn,ca,cl,cc,cb,cm,cd⟩,x,HX.out,LP.out,HL.out,HH.out,G28.out,ZX.out,hin.1,hin.2,B11.out,B12.out⟩
  have HM:=Hi (mid_in HLH.out)
  have ZM:Hid (Sz 5 ((lo + hi) * (((1:Int):Rat) / ((2:Int):Rat)))):=Hi ((ZL1.out.add ZH1.out).mul (l:=2) ((Sz.int (by decide)).div (Sz.int (by decide))))
  go_wp2_with fail
  refine Calls.mono (ivmid4_any ⟨ln,la,ll,lc,lb,lm,ld⟩ ⟨hn,ha,hl,hc,hb,hm,hd⟩ lo hi 1 _ (HL.out.raw ZL.out (by decide)) (HH.out.raw ZH.out (by decide)) ZL1.out ZH1.out (by decide)) ?_
  rintro e w34 ⟨x34,rfl,hE,g34⟩
  have G34:=Hi g34
  clear g34
  replace HX:=hE.tr HX
  replace LP:=Hi (LP.out.ext hE)
  replace HL:=Hi (HL.out.ext hE)
  replace HH:=Hi (HH.out.ext hE)
  replace B11:=hE.bl B11
  replace G28:=Hi (G28.out.ext hE)
  replace B12:=hE.bl B12
  have hs_w34:=hE.size
  clear hE
  try clear c_B11 f_B11 l_B11
  obtain ⟨c_B11,f_B11,l_B11⟩:=blk3 B11.out
  try clear c_B12 f_B12 l_B12
  obtain ⟨c_B12,f_B12,l_B12⟩:=blk3 B12.out
  go_wp2_with fail
  refine nm_set3 B12.out rfl ?_
  intro w35 T
  replace HX:=Hi (T.ext HX.out (by omega))
  replace LP:=Hi (LP.out.put T (by omega))
  replace HL:=Hi (HL.out.keep T.keep)
  replace HH:=Hi (HH.out.keep T.keep)
  replace B11:=Hi (T.rest _ _ (by omega) B11.out)
  replace G28:=Hi (G28.out.keep T.keep)
  replace B12:=Hi (T.bx)
  replace G34:=Hi (G34.out.keep T.keep)
  have hs_w35:=nle T.size
  have hr_w35:=nle T.size.symm
  clear T
  try clear c_B11 f_B11 l_B11
  obtain ⟨c_B11,f_B11,l_B11⟩:=blk3 B11.out
  try clear c_B12 f_B12 l_B12
  obtain ⟨c_B12,f_B12,l_B12⟩:=blk3 B12.out
  go_meet
  case rel=>exact ⟨x34,_,HX.out,LP.out,HL.out,HH.out,G34.out,ZM.out,HM.out.1,HM.out.2,B11.out,B12.out⟩
 case rest =>
  obtain ⟨⟨tn,ta,tl,tc,tb,tm,td⟩,y,g1,g2,g3,g4,g5,g6,g7,g8,g9,g10⟩:=hcut
  clear HX LP HL HH G28 ZX B11 B12 c_B11 f_B11 l_B11 c_B12 f_B12 l_B12
  have HX:=Hi g1
  have LP:=Hi g2
  have HL:=Hi g3
  have HH:=Hi g4
  have HT:=Hi g5
  have ZY:=Hi g6
  have B11:=Hi g9
  have B12:=Hi g10
  have H1:=Hi g7
  have H2:=Hi g8
  simp only at B12
  clear g1 g2 g3 g4 g5 g6 g7 g8 g9 g10
  have HN:=Hi (cnt_halves H0.out lo y hi)
  obtain ⟨bn1,bn2⟩:=cnt_bd hpl H0.out lo hi
  obtain ⟨bu1,bu2⟩:=cnt_bd hpl H0.out lo y
  obtain ⟨bv1,bv2⟩:=cnt_bd hpl H0.out y hi
  have HLn:=LP.out.len
  simp only at HLn
  have ZE:Hid (Sz 200 (evV p y)):=Hi ((ev_dsz HZ.out ZY.out (by decide) pn 0 (by omega)).mono (by omega))
  try clear c_B11 f_B11 l_B11
  obtain ⟨c_B11,f_B11,l_B11⟩:=blk3 B11.out
  try clear c_B12 f_B12 l_B12
  obtain ⟨c_B12,f_B12,l_B12⟩:=blk3 B12.out
  go_wp2_with fail
  refine Calls.mono (scount_any pa pn pc p 2125764 ⟨ln,la,ll,lc,lb,lm,ld⟩ ⟨hn,ha,hl,hc,hb,hm,hd⟩ lo hi 5 _ LP.out.can (by omega) H0.out HK1.out (by decide) hkk HK2.out (HL.out.raw ZL.out (by decide)) (HH.out.raw ZH.out (by decide)) ZL.out ZH.out (by decide) (by decide)) ?_
  rintro e w38 ⟨x38,rfl,hE,-⟩
  replace HX:=hE.tr HX
  replace LP:=Hi (LP.out.ext hE)
  replace HL:=Hi (HL.out.ext hE)
  replace HH:=Hi (HH.out.ext hE)
  replace HT:=Hi (HT.out.ext hE)
  replace B11:=hE.bl B11
  replace B12:=hE.bl B12
  have hs_w38:=hE.size
  clear hE
  try clear c_B11 f_B11 l_B11
  obtain ⟨c_B11,f_B11,l_B11⟩:=blk3 B11.out
  try clear c_B12 f_B12 l_B12
  obtain ⟨c_B12,f_B12,l_B12⟩:=blk3 B12.out
  rw [lo_of HLH.out,hi_of HLH.out]
  obtain ⟨n1,hn1⟩:∃ n1,n1 = cntV p lo hi:=⟨_,rfl⟩
  rw [← hn1] at HN bn1 bn2 ⊢
  clear hn1
  go_wp2_with fail
  refine Calls.mono (ivmake4_any ⟨ln,la,ll,lc,lb,lm,ld⟩ ⟨tn,ta,tl,tc,tb,tm,td⟩ lo y _ (HL.out.raw ZL.out (by decide)) (HT.out.raw ZY.out (by decide))) ?_
  rintro e w46 ⟨x46,rfl,hE,g46⟩
  have G46:=Hi g46
  clear g46
  replace HX:=hE.tr HX
  replace LP:=Hi (LP.out.ext hE)
  replace HL:=Hi (HL.out.ext hE)
  replace HH:=Hi (HH.out.ext hE)
  replace HT:=Hi (HT.out.ext hE)
  replace B11:=hE.bl B11
  replace B12:=hE.bl B12
  have hs_w46:=hE.size
  clear hE
  try clear c_B11 f_B11 l_B11
  obtain ⟨c_B11,f_B11,l_B11⟩:=blk3 B11.out
  try clear c_B12 f_B12 l_B12
  obtain ⟨c_B12,f_B12,l_B12⟩:=blk3 B12.out
  rw [lo_of H1.out,hi_of H1.out] at G46
  obtain ⟨xl,xh⟩:=x46
  have HA:=Hi G46.out.1
  have HB:=Hi G46.out.2
  clear G46
  go_wp2_with fail
  refine Calls.mono (scount_any pa pn pc p 2125764 xl xh lo y 5 _ LP.out.can (by omega) H0.out HK1.out (by decide) hkk HK2.out (HA.out.raw ZL.out (by decide)) (HB.out.raw ZY.out (by decide)) ZL.out ZY.out (by decide) (by decide)) ?_
  rintro e w47 ⟨x47,rfl,hE,-⟩
  replace HX:=hE.tr HX
  replace LP:=Hi (LP.out.ext hE)
  replace HL:=Hi (HL.out.ext hE)
  replace HH:=Hi (HH.out.ext hE)
  replace HT:=Hi (HT.out.ext hE)
  replace B11:=hE.bl B11
  replace B12:=hE.bl B12
  have hs_w47:=hE.size
  clear hE
  try clear c_B11 f_B11 l_B11
  obtain ⟨c_B11,f_B11,l_B11⟩:=blk3 B11.out
  try clear c_B12 f_B12 l_B12
  obtain ⟨c_B12,f_B12,l_B12⟩:=blk3 B12.out
  rw [lo_of H1.out,hi_of H1.out]
  obtain ⟨u1,hu1⟩:∃ u1,u1 = cntV p lo y:=⟨_,rfl⟩
  rw [← hu1] at HN bu1 bu2 ⊢
  clear hu1 HA HB
  go_wp2_with fail
  refine Calls.mono (ivmake4_any ⟨tn,ta,tl,tc,tb,tm,td⟩ ⟨hn,ha,hl,hc,hb,hm,hd⟩ y hi _ (HT.out.raw ZY.out (by decide)) (HH.out.raw ZH.out (by decide))) ?_
  rintro e w55 ⟨x55,rfl,hE,g55⟩
  have G55:=Hi g55
  clear g55
  replace HX:=hE.tr HX
  replace LP:=Hi (LP.out.ext hE)
  replace HL:=Hi (HL.out.ext hE)
  replace HH:=Hi (HH.out.ext hE)
  replace HT:=Hi (HT.out.ext hE)
  replace B11:=hE.bl B11
  replace B12:=hE.bl B12
  have hs_w55:=hE.size
  clear hE
  try clear c_B11 f_B11 l_B11
  obtain ⟨c_B11,f_B11,l_B11⟩:=blk3 B11.out
  try clear c_B12 f_B12 l_B12
  obtain ⟨c_B12,f_B12,l_B12⟩:=blk3 B12.out
  rw [lo_of H2.out,hi_of H2.out] at G55
  obtain ⟨xl2,xh2⟩:=x55
  have HA:=Hi G55.out.1
  have HB:=Hi G55.out.2
  clear G55
  go_wp2_with fail
  refine Calls.mono (scount_any pa pn pc p 2125764 xl2 xh2 y hi 5 _ LP.out.can (by omega) H0.out HK1.out (by decide) hkk HK2.out (HA.out.raw ZY.out (by decide)) (HB.out.raw ZH.out (by decide)) ZY.out ZH.out (by decide) (by decide)) ?_
  rintro e w56 ⟨x56,rfl,hE,-⟩
  replace HX:=hE.tr HX
  replace LP:=Hi (LP.out.ext hE)
  replace HL:=Hi (HL.out.ext hE)
  replace HH:=Hi (HH.out.ext hE)
  replace HT:=Hi (HT.out.ext hE)
  replace B11:=hE.bl B11
  replace B12:=hE.bl B12
  have hs_w56:=hE.size
  clear hE
  try clear c_B11 f_B11 l_B11
  obtain ⟨c_B11,f_B11,l_B11⟩:=blk3 B11.out
  try clear c_B12 f_B12 l_B12
  obtain ⟨c_B12,f_B12,l_B12⟩:=blk3 B12.out
  rw [lo_of H2.out,hi_of H2.out]
  obtain ⟨v1,hv1⟩:∃ v1,v1 = cntV p y hi:=⟨_,rfl⟩
  rw [← hv1] at HN bv1 bv2 ⊢
  clear hv1 HA HB
  go_wp2_with fail
  refine Calls.mono (eval5_any pa pn pc p ⟨tn,ta,tl,tc,tb,tm,td⟩ y 2 5 _ LP.out.can HT.out (by omega) HZ.out ZY.out (by decide) (by decide) (by decide)) ?_
  rintro e w61 ⟨x61,rfl,hE,g61⟩
  have G61:=Hi g61
  clear g61
  replace HX:=hE.tr HX
  replace LP:=Hi (LP.out.ext hE)
  replace HL:=Hi (HL.out.ext hE)
  replace HH:=Hi (HH.out.ext hE)
  replace HT:=Hi (HT.out.ext hE)
  replace B11:=hE.bl B11
  replace B12:=hE.bl B12
  have hs_w61:=hE.size
  clear hE
  try clear c_B11 f_B11 l_B11
  obtain ⟨c_B11,f_B11,l_B11⟩:=blk3 B11.out
  try clear c_B12 f_B12 l_B12
  obtain ⟨c_B12,f_B12,l_B12⟩:=blk3 B12.out
  go_wp2_with fail
  refine Calls.mono (rsign3_any x61 (evV p y) _ (G61.out.raw ZE.out (by decide))) ?_
  rintro e w62 ⟨x62,rfl,hE,-⟩
  replace HX:=hE.tr HX
  replace LP:=Hi (LP.out.ext hE)
  replace HL:=Hi (HL.out.ext hE)
  replace HH:=Hi (HH.out.ext hE)
  replace HT:=Hi (HT.out.ext hE)
  replace B11:=hE.bl B11
  replace B12:=hE.bl B12
  replace G61:=Hi (G61.out.ext hE)
  have hs_w62:=hE.size
  clear hE
  try clear c_B11 f_B11 l_B11
  obtain ⟨c_B11,f_B11,l_B11⟩:=blk3 B11.out
  try clear c_B12 f_B12 l_B12
  obtain ⟨c_B12,f_B12,l_B12⟩:=blk3 B12.out
  obtain ⟨c,hcc⟩:∃ c,c = cmpR (evV p y) 0:=⟨_,rfl⟩
  have HCC:Hid (c = 0↔evV p y = 0):=Hi (by rw [hcc]; exact cmpR_eq0)
  rw [← hcc]
  clear hcc
  by_cases hc0:c = 0
  case pos =>
   rw [if_pos (HCC.out.1 hc0)] at HN
   subst hc0
   have hE:(n1 == u1 - 1 + v1) = true:=by rw [beq_iff_eq]; have:=HN.out; omega
   go_wp2_with fail
   refine Calls.mono (awake6_any _) ?_
   rintro e w66 ⟨x66,rfl,hE,-⟩
   replace HX:=hE.tr HX
   replace LP:=Hi (LP.out.ext hE)
   replace HL:=Hi (HL.out.ext hE)
   replace HH:=Hi (HH.out.ext hE)
   replace HT:=Hi (HT.out.ext hE)
   replace B11:=hE.bl B11
   replace B12:=hE.bl B12
   replace G61:=Hi (G61.out.ext hE)
   have hs_w66:=hE.size
   clear hE
   try clear c_B11 f_B11 l_B11
   obtain ⟨c_B11,f_B11,l_B11⟩:=blk3 B11.out
   try clear c_B12 f_B12 l_B12
   obtain ⟨c_B12,f_B12,l_B12⟩:=blk3 B12.out
   go_wp2
   go_ret
   exact ⟨(),rfl,HX.out,trivial⟩
  have hcb:(c == 0) = false:=by rw [beq_eq_false_iff_ne]; exact hc0
  rw [if_neg (fun h=>hc0 (HCC.out.2 h))] at HN
  have hE:(n1 == u1 + v1) = true:=by rw [beq_iff_eq]; have:=HN.out; omega
  go_wp2_with fail
  refine Calls.mono (awake6_any _) ?_
  rintro e w66 ⟨x66,rfl,hE,-⟩
  replace HX:=hE.tr HX
  replace LP:=Hi (LP.out.ext hE)
  replace HL:=Hi (HL.out.ext hE)
  replace HH:=Hi (HH.out.ext hE)
  replace HT:=Hi (HT.out.ext hE)
  replace B11:=hE.bl B11
  replace B12:=hE.bl B12
  replace G61:=Hi (G61.out.ext hE)
  have hs_w66:=hE.size
  clear hE
  try clear c_B11 f_B11 l_B11
  obtain ⟨c_B11,f_B11,l_B11⟩:=blk3 B11.out
  try clear c_B12 f_B12 l_B12
  obtain ⟨c_B12,f_B12,l_B12⟩:=blk3 B12.out
  go_wp2
  go_ret
  exact ⟨(),rfl,HX.out,trivial⟩
end Go.Proofs.YtcbgamclcgcodaaGreat
