/- SturmValues returns true. -/
import Derived.Test.YtcbgamclcgcodaaGreatQVAwk6
import Derived.Test.YtcbgamclcgcodaaGreatQVSmq
import Derived.Test.YtcbgamclcgcodaaGreatQVSh
set_option linter.unusedVariables false
set_option maxRecDepth 8000
set_option maxHeartbeats 8000000
namespace Go.Proofs.YtcbgamclcgcodaaGreat
open Go.RowKit Go.Front Go.Num Stab Sg
attribute [local go_sem] XW.cell XW.frozen
theorem ivwid4_any (s t:RH) (a b:Rat) (T:Nat) (w:World) (hs:RawR w s a) (ht:RawR w t b) (za:Sz T a) (zb:Sz T b) (hT:T≤1000):Does 45 [IvV (s,t)] w RH.v (fun x w'=>CanR w' x (hiV a b - loV a b)):=by
 have HX:=Hi (Ext.refl w)
 have HS:=Hi hs
 have HT:=Hi ht
 have ZA:Hid (Sz T (loV a b)):=Hi (by rcases lo_or a b with e | e <;> rw [e] <;> assumption)
 have ZB:Hid (Sz T (hiV a b)):=Hi (by rcases hi_or a b with e | e <;> rw [e] <;> assumption)
 clear hs ht za zb
 unfold Does
 go_enter Tryz.func45,Tryz.ntmps45
 obtain ⟨sn,sa,sl,sc,sb,sm,sd⟩:=s
 obtain ⟨tn,ta,tl,tc,tb,tm,td⟩:=t
 go_upto_region 1 with fail
 refine nm_alloc2 ?_
 intro w1 hE hB0 hB1 hz
 have hz_w1:=nle hz
 have hr_w1:=nle hz.symm
 clear hz
 replace HX:=hE.tr HX
 replace HS:=Hi (HS.out.ext hE)
 replace HT:=Hi (HT.out.ext hE)
 have hs_w1:=hE.size
 clear hE
 have B1:=Hi hB0
 clear hB0
 obtain ⟨c_B1,f_B1,l_B1⟩:=blk3 B1.out
 have B2:=Hi hB1
 clear hB1
 obtain ⟨c_B2,f_B2,l_B2⟩:=blk3 B2.out
 go_wp2_with fail
 refine Calls.mono (ivtrim4_any ⟨sn,sa,sl,sc,sb,sm,sd⟩ ⟨tn,ta,tl,tc,tb,tm,td⟩ a b _ HS.out HT.out) ?_
 rintro e w4 ⟨x4,rfl,hE,g4⟩
 have G4:=Hi g4
 clear g4
 replace HX:=hE.tr HX
 replace HS:=Hi (HS.out.ext hE)
 replace HT:=Hi (HT.out.ext hE)
 replace B1:=hE.bl B1
 replace B2:=hE.bl B2
 have hs_w4:=hE.size
 clear hE
 try clear c_B1 f_B1 l_B1
 obtain ⟨c_B1,f_B1,l_B1⟩:=blk3 B1.out
 try clear c_B2 f_B2 l_B2
 obtain ⟨c_B2,f_B2,l_B2⟩:=blk3 B2.out
 obtain ⟨⟨ln,la,ll,lc,lb,lm,ld⟩,⟨hn,ha,hl,hc,hb,hm,hd⟩⟩:=x4
 have HL:=Hi G4.out.1
 have HH:=Hi G4.out.2
 clear G4
 go_upto_region 2 with fail
 refine nm_set6 B1.out rfl ?_
 intro w5 T
 replace HX:=Hi (T.ext HX.out (by omega))
 replace HS:=Hi (HS.out.keep T.keep)
 replace HT:=Hi (HT.out.keep T.keep)
 replace B1:=Hi (T.bx)
 replace B2:=Hi (T.rest _ _ (by omega) B2.out)
 replace HL:=Hi (HL.out.keep T.keep)
 replace HH:=Hi (HH.out.keep T.keep)
 have hs_w5:=nle T.size
 have hr_w5:=nle T.size.symm
 clear T
 try clear c_B1 f_B1 l_B1
 obtain ⟨c_B1,f_B1,l_B1⟩:=blk3 B1.out
 try clear c_B2 f_B2 l_B2
 obtain ⟨c_B2,f_B2,l_B2⟩:=blk3 B2.out
 go_wp2_with fail
 refine Calls.mono (rsub3_any ⟨hn,ha,hl,hc,hb,hm,hd⟩ ⟨ln,la,ll,lc,lb,lm,ld⟩ (hiV a b) (loV a b) _ (HH.out.raw ZB.out (by omega)) (HL.out.raw ZA.out (by omega))) ?_
 rintro e w9 ⟨x9,rfl,hE,g9⟩
 have G9:=Hi g9
 clear g9
 replace HX:=hE.tr HX
 replace HS:=Hi (HS.out.ext hE)
 replace HT:=Hi (HT.out.ext hE)
 replace B1:=hE.bl B1
 replace B2:=hE.bl B2
 replace HL:=Hi (HL.out.ext hE)
 replace HH:=Hi (HH.out.ext hE)
 have hs_w9:=hE.size
 clear hE
 try clear c_B1 f_B1 l_B1
 obtain ⟨c_B1,f_B1,l_B1⟩:=blk3 B1.out
 try clear c_B2 f_B2 l_B2
 obtain ⟨c_B2,f_B2,l_B2⟩:=blk3 B2.out
 go_wp2
 refine nm_set3 (F:=fun W=>bodyPost _ _ _ _ _ W) B2.out rfl ?_
 intro w10 T
 replace HX:=Hi (T.ext HX.out (by omega))
 replace HS:=Hi (HS.out.keep T.keep)
 replace HT:=Hi (HT.out.keep T.keep)
 replace B1:=Hi (T.rest _ _ (by omega) B1.out)
 replace B2:=Hi (T.bx)
 replace HL:=Hi (HL.out.keep T.keep)
 replace HH:=Hi (HH.out.keep T.keep)
 replace G9:=Hi (G9.out.keep T.keep)
 have hs_w10:=nle T.size
 have hr_w10:=nle T.size.symm
 clear T
 try clear c_B1 f_B1 l_B1
 obtain ⟨c_B1,f_B1,l_B1⟩:=blk3 B1.out
 try clear c_B2 f_B2 l_B2
 obtain ⟨c_B2,f_B2,l_B2⟩:=blk3 B2.out
 exact bodyPost_ret (v:=RH.v x9) (by simp [results,Tryz.results45,go_sem,c_B2]) rfl ⟨x9,rfl,HX.out,G9.out⟩
theorem frac_in {m:Int} (h1:0≤m) (h2:m < 1001):0≤(m:Rat) / ((1000:Int):Rat)∧(m:Rat) / ((1000:Int):Rat)≤1:=by
 have e:=div_cancel (a:=(m:Rat)) (b:=((1000:Int):Rat)) (by decide)
 have e3:((1000:Int):Rat) = 1000:=rfl
 have e1:(0:Rat)≤(m:Rat):=by exact_mod_cast h1
 have e2:(m:Rat)≤1000:=by
  have:(m:Rat)≤((1000:Int):Rat):=Rat.intCast_le_intCast.2 (by omega)
  exact this
 rw [e3] at e ⊢
 generalize (m:Rat) / 1000 = c at *
 constructor <;> grind
theorem in_iv {lo hi c:Rat} (h:lo≤hi) (h1:0≤c) (h2:c≤1):lo≤lo + (hi - lo) * c∧lo + (hi - lo) * c≤hi:=by
 have k1:=Rat.mul_nonneg (a:=hi - lo) (b:=c) (by grind) h1
 have k2:=mul_le' (a:=c) (b:=1) (c:=hi - lo) h2 (by grind)
 constructor <;> grind
theorem svalues_any (ao:Option Addr) (cap:Nat) (xs:List Int) (za zb zn:Int) (w:World) (h:IntsAt w ao xs) (hr:InR xs) (hl:xs.length≤9223372036854775807) (hc:xs.length≤cap) (hcm:cap≤9223372036854775807)
  (a1:-9223372036854775808≤za) (a2:za≤9223372036854775807) (b1:-9223372036854775808≤zb) (b2:zb≤9223372036854775807) (c1:-9223372036854775808≤zn) (c2:zn≤9223372036854775807) :
  Does 8 [.slice ao xs.length cap,.int .i64 za,.int .i64 zb,.int .i64 zn] w (fun _:Unit=>.bool true) (fun _ _=>True):=by
 have HX:=Hi (Ext.refl w)
 have HPo:Hid (Does 15 [.slice ao xs.length cap,.int .i64 ((6:Nat):Int)] w SH.v (fun s w'=>NewL w.heap.size w' s (polyQ xs 6))):=Hi (poly_any ao cap 6 xs w h hr hl (by decide) hc hcm)
 obtain ⟨f1,f2,f3,f4⟩:=polyQ_facts xs
 obtain ⟨n,hn⟩:∃ n,n = xs.length:=⟨_,rfl⟩
 obtain ⟨p,hp⟩:∃ p,p = polyQ xs 6:=⟨_,rfl⟩
 rw [← hn,← hp] at HPo
 rw [← hp] at f1 f2 f3 f4
 have HSm:=Hi f1
 have hpl:=f2
 have HTZ:=Hi f3
 have HZ:=Hi f4
 rw [← hn]
 clear hn hp h hr hl hc hcm f1 f2 f3 f4
 unfold Does
 go_enter Tryz.func8,Tryz.ntmps8
 go_wp2_with fail
 refine Calls.mono (HPo.out) ?_
 rintro e w18 ⟨x18,rfl,hE,g18⟩
 have G18:=Hi g18
 clear g18
 replace HX:=hE.tr HX
 have hs_w18:=hE.size
 clear hE
 obtain ⟨pa,pn,pc⟩:=x18
 have LP:=Hi (NewL.can G18.out).lin
 clear G18
 have hpn:pn≤7:=by have e:p.length = pn:=LP.out.len; omega
 have HK:=Hi (HSm.out.pok hpl HTZ.out pn)
 have hkk:(pn + 1) * (5000000 / 3)≤25000000:=by
  have:=Nat.mul_le_mul_right (5000000 / 3) (show pn + 1≤8 by omega)
  omega
 simp only [SH.v]
 go_wp2_with fail
 refine Calls.mono (on_any za zb _ a1 a2 b1 b2) ?_
 rintro e w21 ⟨x21,rfl,hE,g21⟩
 have G21:=Hi g21
 clear g21
 replace HX:=hE.tr HX
 replace LP:=Hi (LP.out.ext hE)
 have hs_w21:=hE.size
 clear hE
 obtain ⟨⟨ln,la,ll,lc,lb,lm,ld⟩,⟨hn,ha,hl,hc,hb,hm,hd⟩⟩:=x21
 have ZL:Hid (Sz 1 (loV (cosQ za) (cosQ zb))):=Hi ((lo_or (cosQ za) (cosQ zb)).elim (fun e=>by rw [e]; exact cosQ_sz za) (fun e=>by rw [e]; exact cosQ_sz zb))
 have ZH:Hid (Sz 1 (hiV (cosQ za) (cosQ zb))):=Hi ((hi_or (cosQ za) (cosQ zb)).elim (fun e=>by rw [e]; exact cosQ_sz za) (fun e=>by rw [e]; exact cosQ_sz zb))
 have hlh:=lo_hi (cosQ za) (cosQ zb)
 have HL:=Hi G21.out.1
 have HH:=Hi G21.out.2
 clear G21
 obtain ⟨lo,hlo⟩:∃ lo,lo = loV (cosQ za) (cosQ zb):=⟨_,rfl⟩
 obtain ⟨hi,hhi⟩:∃ hi,hi = hiV (cosQ za) (cosQ zb):=⟨_,rfl⟩
 rw [← hlo] at HL ZL hlh
 rw [← hhi] at HH ZH hlh
 have HLH:=Hi hlh
 clear hlo hhi hlh
 go_upto_region 2 with fail
 refine nm_alloc ?_
 intro w22 hE hB0 hz
 have hz_w22:=nle hz
 have hr_w22:=nle hz.symm
 clear hz
 replace HX:=hE.tr HX
 replace LP:=Hi (LP.out.ext hE)
 replace HL:=Hi (HL.out.ext hE)
 replace HH:=Hi (HH.out.ext hE)
 have hs_w22:=hE.size
 clear hE
 have B10:=Hi hB0
 clear hB0
 obtain ⟨c_B10,f_B10,l_B10⟩:=blk3 B10.out
 have e1:=Int.emod_nonneg zn (show (1001:Int) ≠ 0 by decide)
 have e2:=Int.emod_lt_of_pos zn (show (0:Int) < 1001 by decide)
 obtain ⟨m,hme⟩:∃ m,m = zn % 1001:=⟨_,rfl⟩
 have HM:=Hi hme
 rw [← hme] at e1 e2
 clear hme
 have ZW:Hid (Sz 3 (hi - lo)):=Hi ((ZH.out.sub ZL.out).mono (by decide))
 have ZF:Hid (Sz 2 ((m:Rat) / ((1000:Int):Rat))):=Hi (((Sz.int (by unfold W32; omega)).div (Sz.int (by decide))).mono (by decide))
 have HFI:=Hi (frac_in e1 e2)
 refine wp_region_front 10 (fun opIx=>match opIx with
  | 3=>.spec RH default RH.v (fun s w'=>CanR w' s (hi - lo))
  | 5=>.spec Unit () (fun _=>.int .i64 m) (fun _ _=>True)
  | 6=>.spec RH default RH.v (fun s w'=>CanR w' s ((m:Rat) / ((1000:Int):Rat)))
  | 7=>.spec RH default RH.v (fun s w'=>CanR w' s ((hi - lo) * ((m:Rat) / ((1000:Int):Rat))))
  | 8=>.spec RH default RH.v (fun s w'=>CanR w' s (lo + (hi - lo) * ((m:Rat) / ((1000:Int):Rat))))
  | 9=>.alloc 34 #[.bool false,.slice none 0 0,.slice none 0 0]
  | _=>.quiet) (fun | 7=>[3,6] | 8=>[7] | _=>[]) (by kernel_rfl) (by kernel_rfl) (fun w0 he0 hz0 hc0 hf0=>?_)
 replace he0:=Hi he0
 simp only [pT]
 repeat (refine wpq fun K h=>?_; go_big_quiet_op; refine h _ ?_; clear h K)
 refine wps he0.out rfl rfl (fun w1 hW hG=>?_) fun x30=>?_
 ·exact spc [IvV (⟨ln,la,ll,lc,lb,lm,ld⟩,⟨hn,ha,hl,hc,hb,hm,hd⟩)] Tryz.func45 ((by have h:=ivwid4_any ⟨ln,la,ll,lc,lb,lm,ld⟩ ⟨hn,ha,hl,hc,hb,hm,hd⟩ lo hi 1 _ ((HL.out.ext hW).raw ZL.out (by decide)) ((HH.out.ext hW).raw ZH.out (by decide)) ZL.out ZH.out (by decide); rw [lo_of HLH.out,hi_of HLH.out] at h; exact h))
 simp only [pS]
 repeat (refine wpq fun K h=>?_; go_big_quiet_op; refine h _ ?_; clear h K)
 refine wps he0.out rfl rfl (fun w1 hW hG=>?_) fun x31=>?_
 ·exact spc [.int .i64 zn,.int .i64 1001] Tryz.func31 ((by rw [HM.out]; exact mod_any zn 1001 _ c1 c2 (by decide) (by decide)))
 simp only [pS]
 repeat (refine wpq fun K h=>?_; go_big_quiet_op; refine h _ ?_; clear h K)
 refine wps he0.out rfl rfl (fun w1 hW hG=>?_) fun x32=>?_
 ·exact spc [.int .i64 m,.int .i64 1000] Tryz.func33 (rfrac3_any m 1000 _ (by omega) (by omega) (by decide) (by decide))
 simp only [pS]
 repeat (refine wpq fun K h=>?_; go_big_quiet_op; refine h _ ?_; clear h K)
 refine wps he0.out rfl rfl (fun w1 hW hG=>?_) fun x33=>?_
 ·have g30:=(hG 3 (by decide):Since _ _).get fun _ e g=>g.ext e
  have g32:=(hG 6 (by decide):Since _ _).get fun _ e g=>g.ext e
  exact spc [x30.v,x32.v] Tryz.func44 (rmul3_any x30 x32 _ _ _ (g30.raw ZW.out (by decide)) (g32.raw ZF.out (by decide)))
 simp only [pS]
 repeat (refine wpq fun K h=>?_; go_big_quiet_op; refine h _ ?_; clear h K)
 refine wps he0.out rfl rfl (fun w1 hW hG=>?_) fun x34=>?_
 ·have g33:=(hG 7 (by decide):Since _ _).get fun _ e g=>g.ext e
  exact spc [RH.v ⟨ln,la,ll,lc,lb,lm,ld⟩,x33.v] Tryz.func32 (radd3_any _ x33 _ _ _ ((HL.out.ext hW).raw ZL.out (by decide)) (g33.raw (ZW.out.mul ZF.out) (by decide)))
 simp only [pS]
 repeat (refine wpq fun K h=>?_; go_big_quiet_op; refine h _ ?_; clear h K)
 refine wpF_alloc rfl rfl (fun w=>by simp [execOp,go_sem,ptr]) (fun b35 hb35 hl35=>?_)
 simp only [pS]
 repeat (refine wpq fun K h=>?_; go_big_quiet_op; refine h _ ?_; clear h K)
 refine wpF_nil ?_
 intro w23 hI
 have hE:=he0.out.trans hI.ext
 have G30:=Hi ((hI.facts 3:Since _ _).get fun _ e g=>g.ext e)
 have G32:=Hi ((hI.facts 6:Since _ _).get fun _ e g=>g.ext e)
 have G33:=Hi ((hI.facts 7:Since _ _).get fun _ e g=>g.ext e)
 have G34:=Hi ((hI.facts 8:Since _ _).get fun _ e g=>g.ext e)
 have A35:Hid (w23.heap[b35]? = some (.cells #[.bool false,.slice none 0 0,.slice none 0 0] 34 (0,0))):=hI.facts 9
 rw [hz0] at hl35
 clear hI he0 hz0 hc0 hf0
 replace HX:=hE.tr HX
 replace LP:=Hi (LP.out.ext hE)
 replace HL:=Hi (HL.out.ext hE)
 replace HH:=Hi (HH.out.ext hE)
 replace B10:=hE.bl B10
 have hs_w23:=hE.size
 clear hE
 try clear c_B10 f_B10 l_B10
 obtain ⟨c_B10,f_B10,l_B10⟩:=blk3 B10.out
 obtain ⟨c_A35,f_A35,l_A35⟩:=blk3 A35.out
 simp only [pD,ptr]
 have HIN:=Hi (in_iv HLH.out HFI.out.1 HFI.out.2)
 have ZX:Hid (Sz 8 (lo + (hi - lo) * ((m:Rat) / ((1000:Int):Rat)))):=Hi ((ZL.out.add (ZW.out.mul ZF.out)).mono (by decide))
 obtain ⟨x,hx⟩:∃ x,x = lo + (hi - lo) * ((m:Rat) / ((1000:Int):Rat)):=⟨_,rfl⟩
 rw [← hx] at G34 HIN ZX
 clear hx
 clear G30
 clear G32
 clear G33
 obtain ⟨tn,ta,tl,tc,tb,tm,td⟩:=x34
 go_upto_region 3 with fail
 refine nm_set3 A35.out rfl ?_
 intro w24 T
 replace HX:=Hi (T.ext HX.out (by omega))
 replace LP:=Hi (LP.out.put T (by omega))
 replace HL:=Hi (HL.out.keep T.keep)
 replace HH:=Hi (HH.out.keep T.keep)
 replace B10:=Hi (T.rest _ _ (by omega) B10.out)
 replace G34:=Hi (G34.out.keep T.keep)
 replace A35:=Hi (T.bx)
 have hs_w24:=nle T.size
 have hr_w24:=nle T.size.symm
 clear T
 try clear c_B10 f_B10 l_B10
 obtain ⟨c_B10,f_B10,l_B10⟩:=blk3 B10.out
 try clear c_A35 f_A35 l_A35
 obtain ⟨c_A35,f_A35,l_A35⟩:=blk3 A35.out
 have HT:=Hi G34.out
 clear G34
 have ZE:Hid (Sz 200 (evV p x)):=Hi ((ev_dsz HZ.out ZX.out (by decide) pn 0 (by have e:p.length = pn:=LP.out.len; omega)).mono (by omega))
 go_wp2_with fail
 refine Calls.mono (snng_any pa pn pc p 5000000 ⟨ln,la,ll,lc,lb,lm,ld⟩ ⟨hn,ha,hl,hc,hb,hm,hd⟩ lo hi 1 _ LP.out.can (by omega) HK.out (by decide) hkk (HL.out.raw ZL.out (by decide)) (HH.out.raw ZH.out (by decide)) ZL.out ZH.out (by decide) (by decide)) ?_
 rintro e w34 ⟨x34,rfl,hE,-⟩
 replace HX:=hE.tr HX
 replace LP:=Hi (LP.out.ext hE)
 replace HL:=Hi (HL.out.ext hE)
 replace HH:=Hi (HH.out.ext hE)
 replace B10:=hE.bl B10
 replace A35:=hE.bl A35
 replace HT:=Hi (HT.out.ext hE)
 have hs_w34:=hE.size
 clear hE
 try clear c_B10 f_B10 l_B10
 obtain ⟨c_B10,f_B10,l_B10⟩:=blk3 B10.out
 try clear c_A35 f_A35 l_A35
 obtain ⟨c_A35,f_A35,l_A35⟩:=blk3 A35.out
 rw [lo_of HLH.out,hi_of HLH.out]
 go_wp2_with fail
 refine Calls.mono (spos_any pa pn pc p 5000000 ⟨ln,la,ll,lc,lb,lm,ld⟩ ⟨hn,ha,hl,hc,hb,hm,hd⟩ lo hi 1 _ LP.out.can (by omega) HK.out (by decide) hkk (HL.out.raw ZL.out (by decide)) (HH.out.raw ZH.out (by decide)) ZL.out ZH.out (by decide) (by decide)) ?_
 rintro e w40 ⟨x40,rfl,hE,-⟩
 replace HX:=hE.tr HX
 replace LP:=Hi (LP.out.ext hE)
 replace HL:=Hi (HL.out.ext hE)
 replace HH:=Hi (HH.out.ext hE)
 replace B10:=hE.bl B10
 replace A35:=hE.bl A35
 replace HT:=Hi (HT.out.ext hE)
 have hs_w40:=hE.size
 clear hE
 try clear c_B10 f_B10 l_B10
 obtain ⟨c_B10,f_B10,l_B10⟩:=blk3 B10.out
 try clear c_A35 f_A35 l_A35
 obtain ⟨c_A35,f_A35,l_A35⟩:=blk3 A35.out
 rw [lo_of HLH.out,hi_of HLH.out]
 go_wp2_with fail
 refine Calls.mono (eval5_any pa pn pc p ⟨tn,ta,tl,tc,tb,tm,td⟩ x 1 8 _ LP.out.can HT.out (by omega) HZ.out ZX.out (by decide) (by decide) (by decide)) ?_
 rintro e w45 ⟨x45,rfl,hE,g45⟩
 have G45:=Hi g45
 clear g45
 replace HX:=hE.tr HX
 replace LP:=Hi (LP.out.ext hE)
 replace HL:=Hi (HL.out.ext hE)
 replace HH:=Hi (HH.out.ext hE)
 replace B10:=hE.bl B10
 replace A35:=hE.bl A35
 replace HT:=Hi (HT.out.ext hE)
 have hs_w45:=hE.size
 clear hE
 try clear c_B10 f_B10 l_B10
 obtain ⟨c_B10,f_B10,l_B10⟩:=blk3 B10.out
 try clear c_A35 f_A35 l_A35
 obtain ⟨c_A35,f_A35,l_A35⟩:=blk3 A35.out
 go_wp2_with fail
 refine Calls.mono (rsign3_any x45 (evV p x) _ (G45.out.raw ZE.out (by decide))) ?_
 rintro e w46 ⟨x46,rfl,hE,-⟩
 replace HX:=hE.tr HX
 replace LP:=Hi (LP.out.ext hE)
 replace HL:=Hi (HL.out.ext hE)
 replace HH:=Hi (HH.out.ext hE)
 replace B10:=hE.bl B10
 replace A35:=hE.bl A35
 replace HT:=Hi (HT.out.ext hE)
 replace G45:=Hi (G45.out.ext hE)
 have hs_w46:=hE.size
 clear hE
 try clear c_B10 f_B10 l_B10
 obtain ⟨c_B10,f_B10,l_B10⟩:=blk3 B10.out
 try clear c_A35 f_A35 l_A35
 obtain ⟨c_A35,f_A35,l_A35⟩:=blk3 A35.out
 have HU:Hid (nngV p lo hi = true→0≤cmpR (evV p x) 0):=Hi (fun h=>by
  have h1:=nng_true HTZ.out HLH.out h HIN.out.1 HIN.out.2
  unfold cmpR
  rw [if_neg (by grind)]
  split <;> decide)
 have HV:Hid (posV p lo hi = true→nngV p lo hi = true∧0 < cmpR (evV p x) 0):=Hi (fun h=>by
  obtain ⟨h1,h2⟩:=pos_true HTZ.out HLH.out h
  have h3:=h2 x HIN.out.1 HIN.out.2
  refine ⟨h1,?_⟩
  unfold cmpR
  rw [if_neg (by grind),if_neg (by grind)]
  decide)
 obtain ⟨u,hu⟩:∃ u,u = nngV p lo hi:=⟨_,rfl⟩
 obtain ⟨v,hv⟩:∃ v,v = posV p lo hi:=⟨_,rfl⟩
 obtain ⟨s,hs⟩:∃ s,s = cmpR (evV p x) 0:=⟨_,rfl⟩
 rw [← hu,← hs] at HU
 rw [← hu,← hv,← hs] at HV
 rw [← hu,← hv,← hs]
 clear hu hv hs
 go_wp2_with fail
 refine Calls.mono (awake6_any _) ?_
 rintro e w47 ⟨x47,rfl,hE,-⟩
 replace HX:=hE.tr HX
 replace LP:=Hi (LP.out.ext hE)
 replace HL:=Hi (HL.out.ext hE)
 replace HH:=Hi (HH.out.ext hE)
 replace B10:=hE.bl B10
 replace A35:=hE.bl A35
 replace HT:=Hi (HT.out.ext hE)
 replace G45:=Hi (G45.out.ext hE)
 have hs_w47:=hE.size
 clear hE
 try clear c_B10 f_B10 l_B10
 obtain ⟨c_B10,f_B10,l_B10⟩:=blk3 B10.out
 try clear c_A35 f_A35 l_A35
 obtain ⟨c_A35,f_A35,l_A35⟩:=blk3 A35.out
 cases v
 ·cases u
  ·go_wp2
   go_ret
   exact ⟨(),rfl,HX.out,trivial⟩
  ·have h1:=HU.out rfl
   go_wp2
   go_ret
   exact ⟨(),rfl,HX.out,trivial⟩
 ·obtain ⟨rfl,h2⟩:=HV.out rfl
  have h1:0≤s:=by omega
  go_wp2
  go_ret
  exact ⟨(),rfl,HX.out,trivial⟩
end Go.Proofs.YtcbgamclcgcodaaGreat
