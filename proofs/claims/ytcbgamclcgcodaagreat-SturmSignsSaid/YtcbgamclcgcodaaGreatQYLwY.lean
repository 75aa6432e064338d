/- SturmSigns returns true. -/
import Derived.Test.YtcbgamclcgcodaaGreatQYAwk6
import Derived.Test.YtcbgamclcgcodaaGreatQYRtd
import Derived.Test.YtcbgamclcgcodaaGreatQYSm
import Derived.Test.YtcbgamclcgcodaaGreatQYSh
set_option linter.unusedVariables false
set_option maxRecDepth 8000
set_option maxHeartbeats 8000000
namespace Go.Proofs.YtcbgamclcgcodaaGreat
open Go.RowKit Go.Front Go.Num Stab Sg
attribute [local go_sem] XW.cell XW.frozen
theorem spec_one1 {P:Program} {o:Oper} {a:Act} {w:World} {T:TypeId} (x:RH) (p:Rat) (hx:CanR w x p) (hT:T = 34)
  (hrun:(execOp a.eval o).run P w = .ok (.value (.slice (some ⟨w.heap.size,0,none⟩) 1 1)) (w.alloc (.cells #[.bool x.neg,.slice x.a x.n x.c,.slice x.b x.m x.d] T))) :
  specAt P o a w (fun b:Nat=>.slice (some ⟨b,0,none⟩) 1 1) (fun b w'=>CanL w' ⟨some ⟨b,0,none⟩,1,1⟩ [p]):=by
 subst hT
 unfold specAt
 rw [hrun]
 exact ⟨Ext.alloc _ _,w.heap.size,rfl,canL_1 (heap_alloc_new _ _) (hx.ext (Ext.alloc _ _))⟩
theorem ssafx_any (pa:Option Addr) (P pc:Nat) (p:List Rat) (K:Nat) (t:RH) (x:Rat) (T:Nat) (w:World) (h:CanL w ⟨pa,P,pc⟩ p) (hP:P≤49) (htz:tz p = p) (hk:FrK K p) (hK:K≤12000000) (ht:RawR w t x) (hx:Sz T x) (hT:1≤T) (hT3:T≤1000) :
  Does 50 [.slice pa P pc,t.v] w (fun _:Unit=>.tuple #[.int .i64 (safV (P + 1) (splL p) x),.int .i64 0]) (fun _ _=>True):=by
 obtain ⟨tn,ta,tl,tc,tb,tm,td⟩:=t
 have HX:=Hi (Ext.refl w)
 have LP:=Hi h.lin
 have HT:=Hi ht
 have ZX:=Hi hx
 have hlen:=h.len
 simp only at hlen
 obtain ⟨S,D,hS,hD,hDW,hF,hSK⟩:=hk
 have hSs:=FrK.small hSK
 have HF:=Hi hF
 have HSz:Hid (SzL K p):=Hi ((hF.sz hS hD hDW).mono (by omega))
 have HSW:Hid (∀ y ∈ splL p,Wz S y):=Hi (spl_wz (fun x hx=>hF x (mem_tz hx)) hD)
 have HSl:Hid ((splL p).length = P):=Hi (by rw [spl_len,htz,hlen])
 have HCK:Hid (chkV p ≠ 12):=Hi (by
  unfold chkV
  rw [if_neg (by have:=tz_len_le p; omega)]
  split <;> decide)
 obtain ⟨c,hc⟩:∃ c,c = chkV p:=⟨_,rfl⟩
 have HC:=Hi hc
 rw [← hc] at HCK
 obtain ⟨s,hs⟩:∃ s,s = safV (P + 1) (splL p) x:=⟨_,rfl⟩
 have HS:=Hi hs
 rw [← hs]
 clear h ht hx hF hSK hlen htz hc hs
 unfold Does
 go_enter Tryz.func50,Tryz.ntmps50
 go_upto_region 1 with fail
 refine nm_alloc ?_
 intro w1 hE hB0 hz
 have hz_w1:=nle hz
 have hr_w1:=nle hz.symm
 clear hz
 replace HX:=hE.tr HX
 replace LP:=Hi (LP.out.ext hE)
 replace HT:=Hi (HT.out.ext hE)
 have hs_w1:=hE.size
 clear hE
 have B3:=Hi hB0
 clear hB0
 obtain ⟨c_B3,f_B3,l_B3⟩:=blk3 B3.out
 go_wp2_with fail
 refine Calls.mono (schk_any pa P pc p _ (LP.out.can.raw HSz.out (by omega))) ?_
 rintro e w7 ⟨x7,rfl,hE,-⟩
 replace HX:=hE.tr HX
 replace LP:=Hi (LP.out.ext hE)
 replace HT:=Hi (HT.out.ext hE)
 replace B3:=hE.bl B3
 have hs_w7:=hE.size
 clear hE
 try clear c_B3 f_B3 l_B3
 obtain ⟨c_B3,f_B3,l_B3⟩:=blk3 B3.out
 rw [← HC.out]
 have hcb:(c == 12) = false:=by rw [beq_eq_false_iff_ne]; exact HCK.out
 go_upto_region 3 with fail
 refine wp_region_front 7 (fun opIx=>match opIx with
  | 1=>.spec (SH) (default) (SH.v) (fun x w'=>CanN P w' x (splL p))
  | 3=>.spec RH default RH.v (fun s w'=>CanR w' s (x))
  | 4=>.spec Unit () (fun _=>.int .i64 s) (fun _ _=>True)
  | _=>.quiet) (fun | 4=>[1,3] | _=>[]) (by kernel_rfl) (by kernel_rfl) (fun w0 he0 hz0 hc0 hf0=>?_)
 replace he0:=Hi he0
 simp only [pT]
 repeat (refine wpq fun K h=>?_; go_big_quiet_op; refine h _ ?_; clear h K)
 refine wps he0.out rfl rfl (fun w1 hW hG=>?_) fun x20=>?_
 ·exact spc [.slice pa P pc] Tryz.func113 ((sprim_any pa P pc p S D _ (LP.out.can.ext hW) (by omega) hS (by omega) hD hDW HF.out).wk (fun x w' _ h=>⟨let ⟨_,_,_,_,h4⟩:=h.lin (by have:=HSl.out; omega); h4.can,by have h5:=(let ⟨_,_,_,_,h4⟩:=h.lin (by have:=HSl.out; omega); h4.can.len); rw [← h5]; exact HSl.out⟩))
 simp only [pS]
 repeat (refine wpq fun K h=>?_; go_big_quiet_op; refine h _ ?_; clear h K)
 refine wps he0.out rfl rfl (fun w1 hW hG=>?_) fun x21=>?_
 ·exact spc [RH.v ⟨tn,ta,tl,tc,tb,tm,td⟩] Tryz.func120 (rtrim_any _ _ _ (HT.out.ext hW))
 simp only [pS]
 repeat (refine wpq fun K h=>?_; go_big_quiet_op; refine h _ ?_; clear h K)
 refine wps he0.out rfl rfl (fun w1 hW hG=>?_) fun x22=>?_
 ·have g20:=(hG 1 (by decide):Since _ _).get fun _ e g=>g.ext e
  have g21:=(hG 3 (by decide):Since _ _).get fun _ e g=>g.ext e
  exact spc [x20.v,x21.v] Tryz.func115 ((by rw [HS.out,← g20.2]; exact ssaf_any x20.a x20.n x20.c (splL p) x21 x S T _ g20.1 (by rw [g20.2]; omega) (spl_tz p) HSW.out hS (by omega) g21 ZX.out hT hT3))
 simp only [pS]
 repeat (refine wpq fun K h=>?_; go_big_quiet_op; refine h _ ?_; clear h K)
 refine wpF_nil ?_
 intro w2 hI
 have hE:=he0.out.trans hI.ext
 have G20:=Hi ((hI.facts 1:Since _ _).get fun _ e g=>g.ext e)
 have G21:=Hi ((hI.facts 3:Since _ _).get fun _ e g=>g.ext e)
 clear hI he0 hz0 hc0 hf0
 replace HX:=hE.tr HX
 replace LP:=Hi (LP.out.ext hE)
 replace HT:=Hi (HT.out.ext hE)
 replace B3:=hE.bl B3
 have hs_w2:=hE.size
 clear hE
 try clear c_B3 f_B3 l_B3
 obtain ⟨c_B3,f_B3,l_B3⟩:=blk3 B3.out
 simp only [pD]
 go_wp2
 exact bodyPost_ret (v:=.tuple #[.int .i64 s,.int .i64 0]) (by simp [results,Tryz.results50,go_sem]) rfl ⟨(),rfl,HX.out,trivial⟩
theorem RooP.in {p ds:List Rat} (h:RooP p ds) {y:Rat} (hy:y ∈ ds):-1≤y∧y≤1∧evV p y = 0:=by
 obtain ⟨rl,b,h1,h2,-⟩:=h
 have hm:=(h2.mem y).1 hy
 obtain ⟨z,h3,h4⟩:=h1.tw y hm
 have k1:((-12:Int):Rat)≤(z:Rat):=Rat.intCast_le_intCast.2 (by omega)
 have k2:(z:Rat)≤((12:Int):Rat):=Rat.intCast_le_intCast.2 (by omega)
 rw [← h3] at k1 k2
 have e1:((-12:Int):Rat) = -12:=rfl
 have e2:((12:Int):Rat) = 12:=rfl
 rw [e1] at k1
 rw [e2] at k2
 exact ⟨by grind,by grind,(h1.fac.zero h1.sx.pos y).2 hm⟩
theorem RooP.pok {p ds:List Rat} (h:RooP p ds) (P:Nat):PoK 2125764 P p∧tz p = p:=by
 obtain ⟨rl,b,h1,h2,hl⟩:=h
 exact ⟨h1.pok hl P,h1.tz⟩
theorem RooP.dsz2 {p ds:List Rat} (h:RooP p ds):SzL 1 ds:=by
 obtain ⟨rl,b,h1,h2,-⟩:=h
 exact fun q hq=>tw_sz (h1.tw q ((h2.mem q).1 hq))
theorem two_lh:loV ((-1:Int):Rat) ((1:Int):Rat) = -1∧hiV ((-1:Int):Rat) ((1:Int):Rat) = 1:=by decide +kernel
theorem ssigns_any (ao:Option Addr) (cap:Nat) (xs:List Int) (bo:Option Addr) (bcap:Nat) (ys:List Int) (za zb zn:Int) (w:World) (h:IntsAt w ao xs) (hr:InR xs) (hl:xs.length≤9223372036854775807) (hc:xs.length≤cap) (hcm:cap≤9223372036854775807)
  (h':IntsAt w bo ys) (hr':InR ys) (hl':ys.length≤9223372036854775807) (hc':ys.length≤bcap) (hcm':bcap≤9223372036854775807)
  (a1:-9223372036854775808≤za) (a2:za≤9223372036854775807) (b1:-9223372036854775808≤zb) (b2:zb≤9223372036854775807) (c1:-9223372036854775808≤zn) (c2:zn≤9223372036854775807) :
  Does 10 [.slice ao xs.length cap,.slice bo ys.length bcap,.int .i64 za,.int .i64 zb,.int .i64 zn] w (fun _:Unit=>.bool true) (fun _ _=>True):=by
 have HX:=Hi (Ext.refl w)
 have HPo:Hid (∀ w1,Ext w w1→Does 15 [.slice bo ys.length bcap,.int .i64 ((3:Nat):Int)] w1 SH.v (fun s w'=>NewL w1.heap.size w' s (polyQ ys 3))):=Hi (fun w1 he=>poly_any bo bcap 3 ys w1 (h'.ext he) hr' hl' (by decide) hc' hcm')
 have HRo:Hid (∀ w1,Ext w w1→Does 35 [.slice ao xs.length cap] w1 RT2 (fun x w'=>CanL w' x.1.1 x.2.1∧CanL w' x.1.2 x.2.2∧RooP x.2.1 x.2.2)):=Hi (fun w1 he=>rooted_any ao cap xs w1 (h.ext he) hr hl hc hcm)
 have e1:=Int.emod_nonneg zn (show (1000:Int) ≠ 0 by decide)
 have e2:=Int.emod_lt_of_pos zn (show (0:Int) < 1000 by decide)
 obtain ⟨m,hme⟩:∃ m:Nat,(m:Int) = zn % 1000:=⟨(zn % 1000).toNat,by omega⟩
 have hm1000:m < 1000:=by omega
 have HM:=Hi hme
 clear hme e1 e2
 obtain ⟨q1,q2,q3,q4⟩:=polyQ3 ys
 obtain ⟨s1,s2,s3,s4,s5⟩:=sqP_facts ys
 obtain ⟨t1,t2,t3,t4,t5,t6⟩:=sqC_facts ys hm1000
 have NS:Hid (∀ lo hi:Rat,lo≤hi→nngV (sqP ys) lo hi = true):=Hi (fun lo hi hlh=>nng_sq s5 lo hi hlh)
 have NC:Hid (∀ lo hi:Rat,lo≤hi→posV (sqC ys m) lo hi = true):=Hi (fun lo hi hlh=>pos_ge t4 t6 lo hi hlh)
 have ESQ:Hid (sqP ys = mul5V (polyQ ys 3) (polyQ ys 3)):=Hi rfl
 have ESC:Hid (sqC ys m = add5V (sqP ys) [((1:Int):Rat) / ((1 + (m:Int):Int):Rat)]):=Hi rfl
 obtain ⟨na,hna⟩:∃ n,n = xs.length:=⟨_,rfl⟩
 obtain ⟨nb,hnb⟩:∃ n,n = ys.length:=⟨_,rfl⟩
 obtain ⟨q,hq⟩:∃ q,q = polyQ ys 3:=⟨_,rfl⟩
 obtain ⟨sp,hsp⟩:∃ s,s = sqP ys:=⟨_,rfl⟩
 obtain ⟨sc,hsc⟩:∃ s,s = sqC ys m:=⟨_,rfl⟩
 rw [← hnb,← hq] at HPo
 rw [← hna] at HRo
 rw [← hsp,← hq] at ESQ
 rw [← hsc,← hsp] at ESC
 rw [← hq] at q2 q3 q4
 rw [← hsp] at s1 s2 s3 s4 NS
 rw [← hsc] at t1 t2 t3 NC
 have PS:=Hi (fun P=>s1.pok s2 s3 P)
 have PC:=Hi (fun P=>t1.pok t2 t3 P)
 have ZQ:=Hi q4
 have ZS:=Hi s4
 have ZC1:Hid (SzL 2 [((1:Int):Rat) / ((1 + (m:Int):Int):Rat)]):=Hi (fun y hy=>by rw [List.mem_singleton.1 hy]; exact t5)
 rw [← hna,← hnb]
 clear hna hnb hq hsp hsc h hr hl hc hcm h' hr' hl' hc' hcm' q1 q3 q4 s1 s3 s4 s5 t1 t3 t4 t5 t6
 unfold Does
 go_enter Tryz.func10,Tryz.ntmps10
 go_wp2_with fail
 refine Calls.mono (HPo.out _ HX.out) ?_
 rintro e w29 ⟨x29,rfl,hE,g29⟩
 have G29:=Hi g29
 clear g29
 replace HX:=hE.tr HX
 have hs_w29:=hE.size
 clear hE
 obtain ⟨pa,pn,pc⟩:=x29
 have LQ:=Hi (NewL.can G29.out).lin
 clear G29
 have hpn:pn≤4:=by have e:q.length = pn:=LQ.out.len; omega
 simp only [SH.v]
 go_wp2_with fail
 refine Calls.mono (on_any za zb _ a1 a2 b1 b2) ?_
 rintro e w32 ⟨x32,rfl,hE,g32⟩
 have G32:=Hi g32
 clear g32
 replace HX:=hE.tr HX
 replace LQ:=Hi (LQ.out.ext hE)
 have hs_w32:=hE.size
 clear hE
 obtain ⟨⟨ln,la,ll,lc,lb,lm,ld⟩,⟨hn,ha,hl,hc,hb,hm,hd⟩⟩:=x32
 have ZL:Hid (Sz 1 (loV (cosQ za) (cosQ zb))):=Hi ((lo_or (cosQ za) (cosQ zb)).elim (fun e=>by rw [e]; exact cosQ_sz za) (fun e=>by rw [e]; exact cosQ_sz zb))
 have ZH:Hid (Sz 1 (hiV (cosQ za) (cosQ zb))):=Hi ((hi_or (cosQ za) (cosQ zb)).elim (fun e=>by rw [e]; exact cosQ_sz za) (fun e=>by rw [e]; exact cosQ_sz zb))
 have hlh:=lo_hi (cosQ za) (cosQ zb)
 have HL:=Hi G32.out.1
 have HH:=Hi G32.out.2
 clear G32
 obtain ⟨lo,hlo⟩:∃ lo,lo = loV (cosQ za) (cosQ zb):=⟨_,rfl⟩
 obtain ⟨hi,hhi⟩:∃ hi,hi = hiV (cosQ za) (cosQ zb):=⟨_,rfl⟩
 rw [← hlo] at HL ZL hlh
 rw [← hhi] at HH ZH hlh
 have HLH:=Hi hlh
 clear hlo hhi hlh
 go_upto_region 2 with fail
 refine nm_alloc ?_
 intro w33 hE hB0 hz
 have hz_w33:=nle hz
 have hr_w33:=nle hz.symm
 clear hz
 replace HX:=hE.tr HX
 replace LQ:=Hi (LQ.out.ext hE)
 replace HL:=Hi (HL.out.ext hE)
 replace HH:=Hi (HH.out.ext hE)
 have hs_w33:=hE.size
 clear hE
 have B12:=Hi hB0
 clear hB0
 obtain ⟨c_B12,f_B12,l_B12⟩:=blk3 B12.out
 go_wp2_with fail
 refine Calls.mono (mul5_any pa pa pn pc pn pc q q 1 _ (LQ.out.can.raw ZQ.out (by decide)) (LQ.out.can.raw ZQ.out (by decide)) (by omega) (by omega) ZQ.out ZQ.out (by decide)) ?_
 rintro e w35 ⟨x35,rfl,hE,g35⟩
 have G35:=Hi g35
 clear g35
 replace HX:=hE.tr HX
 replace LQ:=Hi (LQ.out.ext hE)
 replace HL:=Hi (HL.out.ext hE)
 replace HH:=Hi (HH.out.ext hE)
 replace B12:=hE.bl B12
 have hs_w35:=hE.size
 clear hE
 try clear c_B12 f_B12 l_B12
 obtain ⟨c_B12,f_B12,l_B12⟩:=blk3 B12.out
 rw [← ESQ.out] at G35
 obtain ⟨sa,sn,sc'⟩:=x35
 have LS:=Hi (NewL.can G35.out).lin
 clear G35
 have hsn:sn≤7:=by have e:sp.length = sn:=LS.out.len; omega
 have hk9:∀ k,k≤7→(k + 1) * (9000000 / 3)≤25000000:=fun k hk=>by
  have:=Nat.mul_le_mul_right (9000000 / 3) (show k + 1≤8 by omega)
  omega
 have HK9:=Hi hk9
 clear hk9
 simp only [SH.v]
 go_wp2_with fail
 refine Calls.mono (snng_any sa sn sc' sp 9000000 ⟨ln,la,ll,lc,lb,lm,ld⟩ ⟨hn,ha,hl,hc,hb,hm,hd⟩ lo hi 1 _ LS.out.can (by omega) (PS.out sn) (by decide) (HK9.out sn hsn) (HL.out.raw ZL.out (by decide)) (HH.out.raw ZH.out (by decide)) ZL.out ZH.out (by decide) (by decide)) ?_
 rintro e w39 ⟨x39,rfl,hE,-⟩
 replace HX:=hE.tr HX
 replace LQ:=Hi (LQ.out.ext hE)
 replace HL:=Hi (HL.out.ext hE)
 replace HH:=Hi (HH.out.ext hE)
 replace B12:=hE.bl B12
 replace LS:=Hi (LS.out.ext hE)
 have hs_w39:=hE.size
 clear hE
 try clear c_B12 f_B12 l_B12
 obtain ⟨c_B12,f_B12,l_B12⟩:=blk3 B12.out
 rw [NS.out _ _ (lo_hi lo hi)]
 go_upto_region 4 with fail
 refine wp_region_edges [(12,11)] _ (by simp only [addEs,addE,List.push_toArray,List.cons_append,List.nil_append]; exact rfl) (by intro c a d v w h; cases d <;> exact h) 12 (fun opIx=>match opIx with
  | 2=>.spec Unit () (fun _=>.int .i64 (m:Nat)) (fun _ _=>True)
  | 4=>.spec RH default RH.v (fun s w'=>CanR w' s (((1:Int):Rat) / ((1 + (m:Int):Int):Rat)))
  | 5=>.spec (Nat) (0) (fun b=>.slice (some ⟨b,0,none⟩) 1 1) (fun b w'=>CanL w' ⟨some ⟨b,0,none⟩,1,1⟩ [((1:Int):Rat) / ((1 + (m:Int):Int):Rat)])
  | 6=>.spec (SH) (default) (SH.v) (fun x w'=>CanL w' x sc)
  | 8=>.spec Unit () (fun _=>.tuple #[.bool true,.int .i64 0]) (fun _ _=>True)
  | _=>.quiet) (fun | 5=>[4] | 6=>[5] | 8=>[6] | _=>[]) (by kernel_rfl) (by kernel_rfl) (by kernel_rfl) (fun w0 he0 hz0 hc0 hf0=>?_)
 replace he0:=Hi he0
 simp only [pT]
 repeat (refine wpq fun K h=>?_; go_big_quiet_op; refine h _ ?_; clear h K)
 refine wps he0.out rfl rfl (fun w1 hW hG=>?_) fun x50=>?_
 ·exact spc [.int .i64 zn,.int .i64 1000] Tryz.func31 ((by rw [HM.out]; exact mod_any zn 1000 _ c1 c2 (by decide) (by decide)))
 simp only [pS]
 repeat (refine wpq fun K h=>?_; go_big_quiet_op; refine h _ ?_; clear h K)
 refine wps he0.out rfl rfl (fun w1 hW hG=>?_) fun x51=>?_
 ·exact spc [.int .i64 1,.int .i64 (1 + (m:Int))] Tryz.func33 (rfrac3_any 1 (1 + (m:Int)) _ (by decide) (by decide) (by omega) (by omega))
 simp only [pS]
 repeat (refine wpq fun K h=>?_; go_big_quiet_op; refine h _ ?_; clear h K)
 refine wps he0.out rfl rfl (fun w1 hW hG=>?_) fun x52=>?_
 ·have g51:=(hG 4 (by decide):Since _ _).get fun _ e g=>g.ext e
  exact spec_one1 x51 _ g51 rfl (by simp [execOp,go_sem])
 simp only [pS]
 repeat (refine wpq fun K h=>?_; go_big_quiet_op; refine h _ ?_; clear h K)
 refine wps he0.out rfl rfl (fun w1 hW hG=>?_) fun x53=>?_
 ·have g52:=(hG 5 (by decide):Since _ _).get fun _ e g=>g.ext e
  exact spc [.slice sa sn sc',.slice (some ⟨x52,0,none⟩) 1 1] Tryz.func53 ((by rw [ESC.out]; exact (add5_any sa (some ⟨x52,0,none⟩) sn sc' 1 1 sp [((1:Int):Rat) / ((1 + (m:Int):Int):Rat)] _ ((LS.out.can.ext hW).raw ZS.out (by decide)) (g52.raw ZC1.out (by decide)) (by omega) (by decide) (ZS.out.mono (by decide)) (ZC1.out.mono (by decide))).wk (fun _ _ _ h=>NewL.can h)))
 simp only [pS]
 repeat (refine wpq fun K h=>?_; go_big_quiet_op; refine h _ ?_; clear h K)
 refine wps he0.out rfl rfl (fun w1 hW hG=>?_) fun x54=>?_
 ·have g53:=(hG 6 (by decide):Since _ _).get fun _ e g=>g.ext e
  exact spc [x53.v,IvV (⟨ln,la,ll,lc,lb,lm,ld⟩,⟨hn,ha,hl,hc,hb,hm,hd⟩)] Tryz.func47 ((by have hx:=g53.len; have h:=spos_any x53.a x53.n x53.c sc 9000000 ⟨ln,la,ll,lc,lb,lm,ld⟩ ⟨hn,ha,hl,hc,hb,hm,hd⟩ lo hi 1 _ g53 (by omega) (PC.out _) (by decide) (HK9.out _ (by omega)) ((HL.out.ext hW).raw ZL.out (by decide)) ((HH.out.ext hW).raw ZH.out (by decide)) ZL.out ZH.out (by decide) (by decide); rw [NC.out _ _ (lo_hi lo hi)] at h; exact h))
 simp only [pS]
 repeat (refine wpq fun K h=>?_; go_big_quiet_op; refine h _ ?_; clear h K)
 refine wpF_nil ?_
 intro w42 hI
 have hE:=he0.out.trans hI.ext
 have G51:=Hi ((hI.facts 4:Since _ _).get fun _ e g=>g.ext e)
 have G52:=Hi ((hI.facts 5:Since _ _).get fun _ e g=>g.ext e)
 have G53:=Hi ((hI.facts 6:Since _ _).get fun _ e g=>g.ext e)
 clear hI he0 hz0 hc0 hf0
 replace HX:=hE.tr HX
 replace LQ:=Hi (LQ.out.ext hE)
 replace HL:=Hi (HL.out.ext hE)
 replace HH:=Hi (HH.out.ext hE)
 replace B12:=hE.bl B12
 replace LS:=Hi (LS.out.ext hE)
 have hs_w42:=hE.size
 clear hE
 try clear c_B12 f_B12 l_B12
 obtain ⟨c_B12,f_B12,l_B12⟩:=blk3 B12.out
 simp only [pD]
 clear G52 G53
 clear G51
 clear LQ
 clear LS
 clear HL
 clear HH
 (try clear c_B12 f_B12 l_B12); clear B12
 clear PS PC ZQ ZS ZC1 NS NC ESQ ESC HLH ZL ZH HK9
 go_wp2_with fail
 refine Calls.mono (HRo.out _ HX.out) ?_
 rintro e w70 ⟨x70,rfl,hE,g70⟩
 have G70:=Hi g70
 clear g70
 replace HX:=hE.tr HX
 have hs_w70:=hE.size
 clear hE
 obtain ⟨⟨⟨ra,rn,rc⟩,⟨ya,yn,yc⟩⟩,⟨p,ds⟩⟩:=x70
 have LP:=Hi G70.out.1.lin
 have LY:=Hi G70.out.2.1.lin
 have HRP:=Hi G70.out.2.2
 clear G70
 obtain ⟨k1,k2,k3,k4⟩:=HRP.out.frk
 have HK1:=Hi k1
 have H0:=Hi k3
 have hpl:p.length≤12:=k4
 have hrn:p.length = rn:=LP.out.len
 have hyn:ds.length = yn:=LY.out.len
 have HPK:=Hi (HRP.out.pok rn).1
 have HTZ:=Hi (HRP.out.pok rn).2
 have ZD:=Hi HRP.out.dsz2
 clear k1 k2 k3 k4
 have hkk:(rn + 1) * (2125764 / 3)≤25000000:=by
  have:=Nat.mul_le_mul_right (2125764 / 3) (show rn + 1≤13 by omega)
  omega
 simp only [RT2,SH.v]
 have ZL:Hid (Sz 1 (loV ((-1:Int):Rat) ((1:Int):Rat))):=Hi (by rw [two_lh.1]; exact (Sz.int (z:=-1) (by decide)))
 have ZH:Hid (Sz 1 (hiV ((-1:Int):Rat) ((1:Int):Rat))):=Hi (by rw [two_lh.2]; exact (Sz.int (z:=1) (by decide)))
 go_wp2_with fail
 refine Calls.mono (two_any _) ?_
 rintro e w75 ⟨x75,rfl,hE,g75⟩
 have G75:=Hi g75
 clear g75
 replace HX:=hE.tr HX
 replace LP:=Hi (LP.out.ext hE)
 replace LY:=Hi (LY.out.ext hE)
 have hs_w75:=hE.size
 clear hE
 obtain ⟨xl,xh⟩:=x75
 have HL:=Hi G75.out.1
 have HH:=Hi G75.out.2
 clear G75
 go_wp2_with fail
 refine Calls.mono (snng_any ra rn rc p 2125764 xl xh _ _ 1 _ LP.out.can (by omega) HPK.out (by decide) hkk (HL.out.raw ZL.out (by decide)) (HH.out.raw ZH.out (by decide)) ZL.out ZH.out (by decide) (by decide)) ?_
 rintro e w76 ⟨x76,rfl,hE,-⟩
 replace HX:=hE.tr HX
 replace LP:=Hi (LP.out.ext hE)
 replace LY:=Hi (LY.out.ext hE)
 have hs_w76:=hE.size
 clear hE
 rw [lo_of (lo_hi _ _),hi_of (lo_hi _ _),two_lh.1,two_lh.2]
 clear HL HH
 go_wp2_with fail
 refine Calls.mono (two_any _) ?_
 rintro e w81 ⟨x81,rfl,hE,g81⟩
 have G81:=Hi g81
 clear g81
 replace HX:=hE.tr HX
 replace LP:=Hi (LP.out.ext hE)
 replace LY:=Hi (LY.out.ext hE)
 have hs_w81:=hE.size
 clear hE
 obtain ⟨xl,xh⟩:=x81
 have HL:=Hi G81.out.1
 have HH:=Hi G81.out.2
 clear G81
 go_wp2_with fail
 refine Calls.mono (spos_any ra rn rc p 2125764 xl xh _ _ 1 _ LP.out.can (by omega) HPK.out (by decide) hkk (HL.out.raw ZL.out (by decide)) (HH.out.raw ZH.out (by decide)) ZL.out ZH.out (by decide) (by decide)) ?_
 rintro e w82 ⟨x82,rfl,hE,-⟩
 replace HX:=hE.tr HX
 replace LP:=Hi (LP.out.ext hE)
 replace LY:=Hi (LY.out.ext hE)
 have hs_w82:=hE.size
 clear hE
 rw [lo_of (lo_hi _ _),hi_of (lo_hi _ _),two_lh.1,two_lh.2]
 clear HL HH ZL ZH
 have hlh:(-1:Rat)≤1:=by decide
 have HXW:Hid (posV p (-1) 1 = true→nngV p (-1) 1 = true∧yn = 0):=Hi (fun h=>by
  obtain ⟨k1,k2⟩:=pos_true HTZ.out hlh h
  refine ⟨k1,?_⟩
  apply Classical.byContradiction
  intro hn
  have hmem:ds.getD 0 0 ∈ ds:=getD_mem (by omega)
  obtain ⟨m1,m2,m3⟩:=HRP.out.in hmem
  have:=k2 _ m1 m2
  rw [m3] at this
  exact absurd this Rat.lt_irrefl)
 have HSN:Hid (∀ y,y ∈ ds→nngV p (-1) 1 = true→safV (rn + 1) (splL p) y < 0→¬ y < 1):=Hi (fun y hy hw hs hlt=>by
  obtain ⟨m1,m2,m3⟩:=HRP.out.in hy
  have hq0:tz (splL p) ≠ []:=by rw [spl_tz]; exact fun k=>H0.out (spl_ne.1 k)
  obtain ⟨t,t1,t2,t3⟩:=saf_sg hq0 (n:=rn + 1) (by rw [spl_tz,spl_len]; have:=tz_len_le p; omega) hs hlt
  have h5:=nng_true HTZ.out hlh hw (x:=t) (by grind) (by grind)
  have hm:=spl_pos H0.out
  have h6:=ev_spl1 p t
  have h7:=Rat.mul_pos (a:=splM p) (b:=-(evV (splL p) t)) hm (by grind)
  grind)
 obtain ⟨W,hW⟩:∃ W,W = nngV p (-1) 1:=⟨_,rfl⟩
 obtain ⟨X,hX⟩:∃ X,X = posV p (-1) 1:=⟨_,rfl⟩
 rw [← hW] at HSN
 rw [← hW,← hX] at HXW
 rw [← hW,← hX]
 clear hW hX hlh
 obtain ⟨N,hN⟩:∃ N,N = w70.heap.size:=⟨_,rfl⟩
 rw [← hN] at LP LY
 clear hN
 go_upto_region 10 with fail
 go_cut [105] (fun v wc=>v = .bool false∧Ext w wc∧LIn wc ⟨ra,rn,rc⟩ p 0 N∧LIn wc ⟨ya,yn,yc⟩ ds 0 N)
 case first =>
  cases X
  case false =>
   go_wp2
   go_meet
   case rel=>exact ⟨rfl,HX.out,LP.out,LY.out⟩
  case true =>
   obtain ⟨rfl,hy0⟩:=HXW.out rfl
   subst hy0
   go_wp2
   go_meet
   case rel=>exact ⟨rfl,HX.out,LP.out,LY.out⟩
 case rest =>
  obtain ⟨rfl,g1,g2,g3⟩:=hcut
  clear HX LP LY
  have HX:=Hi g1
  have LP:=Hi g2
  have LY:=Hi g3
  clear g1 g2 g3
  have HX7:=Hi (Ext.refl wc)
  have hdl1:yn≤yc:=LY.out.can.le
  have hdl2:yc≤9223372036854775807:=LY.out.can.max
  go_wp2
  go_loopg [108] yn (fun g u108 wr=>∃ i:Nat,i + g = yn∧u108 = .int .i64 (i:Nat)∧Ext wc wr)
  case atStart=>exact ⟨0,by omega,rfl,HX7.out⟩
  case round =>
   obtain ⟨i,hi',rfl,g1⟩:=hrel
   clear HX7
   have HX7:=Hi g1
   have HXw:=Hi (HX.out.trans g1)
   have LP2:=Hi (LP.out.ext g1)
   have LY2:=Hi (LY.out.ext g1)
   clear g1
   by_cases h0:gk = 0
   case pos =>
    subst h0
    obtain rfl:i = yn:=by omega
    have hin:¬ (i:Int) < i:=by omega
    go_wp2_with fail
    refine Calls.mono (awake6_any _) ?_
    rintro e w133 ⟨x133,rfl,hE,-⟩
    replace HX7:=hE.tr HX7
    replace HXw:=hE.tr HXw
    replace LP2:=Hi (LP2.out.ext hE)
    replace LY2:=Hi (LY2.out.ext hE)
    have hs_w133:=hE.size
    clear hE
    go_wp2
    go_ret
    exact ⟨(),rfl,HXw.out,trivial⟩
   have hin:(i:Int) < yn:=by omega
   have hiy:i < yn:=by omega
   obtain ⟨ba,oa,r,hao,hbl,⟨hc1,hc2,hc3⟩,hPc⟩:=LY2.out.celx (k:=i) hiy
   obtain ⟨rneg,ea,en,ec,eb,em,ed⟩:=r
   simp only at hc1 hc2 hc3
   have HC:=Hi hPc
   have ZI:Hid (Sz 1 (ds.getD i 0)):=Hi (ZD.out.at (by omega))
   have HSi:=Hi (HSN.out (ds.getD i 0) (getD_mem (by omega)))
   clear hPc
   subst hao
   go_upto_region 15 with fail
   refine nm_alloc ?_
   intro w25 hE hB0 hz
   have hz_w25:=nle hz
   have hr_w25:=nle hz.symm
   clear hz
   replace HX7:=hE.tr HX7
   replace HXw:=hE.tr HXw
   replace LP2:=Hi (LP2.out.ext hE)
   replace LY2:=Hi (LY2.out.ext hE)
   replace HC:=Hi (HC.out.ext hE)
   have hs_w25:=hE.size
   clear hE
   have B25:=Hi hB0
   clear hB0
   obtain ⟨c_B25,f_B25,l_B25⟩:=blk3 B25.out
   clear hc1 hc2 hc3
   go_wp2_with fail
   refine Calls.mono (ssafx_any ra rn rc p 2125764 ⟨rneg,ea,en,ec,eb,em,ed⟩ (ds.getD i 0) 1 _ LP2.out.can (by omega) HTZ.out HK1.out (by decide) (HC.out.raw ZI.out (by decide)) ZI.out (by decide) (by decide)) ?_
   rintro e w115 ⟨x115,rfl,hE,-⟩
   replace HX7:=hE.tr HX7
   replace HXw:=hE.tr HXw
   replace LP2:=Hi (LP2.out.ext hE)
   replace LY2:=Hi (LY2.out.ext hE)
   replace HC:=Hi (HC.out.ext hE)
   replace B25:=hE.bl B25
   have hs_w115:=hE.size
   clear hE
   try clear c_B25 f_B25 l_B25
   obtain ⟨c_B25,f_B25,l_B25⟩:=blk3 B25.out
   obtain ⟨s,hs⟩:∃ s,s = safV (rn + 1) (splL p) (ds.getD i 0):=⟨_,rfl⟩
   rw [← hs] at HSi ⊢
   clear hs
   go_upto_region 16 with fail
   cases W
   case false =>
    go_quiet (fail)
    go_wp2
    go_roundg (gk - 1)
    case measure=>omega
    case rel=>exact ⟨i + 1,by omega,by go_num,HX7.out.trans (Ext.drewN _ _)⟩
   case true =>
    by_cases hneg:s < 0
    case neg =>
     have hnb:decide (s < 0) = false:=decide_eq_false hneg
     go_quiet (fail)
     go_wp2
     go_roundg (gk - 1)
     case measure=>omega
     case rel=>exact ⟨i + 1,by omega,by go_num,HX7.out.trans (Ext.drewN _ _)⟩
    have HNL:Hid (¬ ds.getD i 0 < ((1:Int):Rat)):=Hi (HSi.out rfl hneg)
    refine wp_region_front 14 (fun opIx=>match opIx with
     | 10=>.spec RH default RH.v (fun s w'=>CanR w' s (((1:Int):Rat)))
     | 11=>.spec Unit () (fun _=>.bool false) (fun _ _=>True)
     | _=>.quiet) (fun | 11=>[10] | _=>[]) (by kernel_rfl) (by kernel_rfl) (fun w0 he0 hz0 hc0 hf0=>?_)
    replace he0:=Hi he0
    simp only [pT]
    repeat (refine wpq fun K h=>?_; go_big_quiet_op; refine h _ ?_; clear h K; (try rw [decide_eq_true hneg]))
    refine wps he0.out rfl rfl (fun w1 hW hG=>?_) fun x60=>?_
    ·exact spc [.int .i64 1] Tryz.func56 (rof3_any 1 _ (by decide) (by decide))
    simp only [pS]
    repeat (refine wpq fun K h=>?_; go_big_quiet_op; refine h _ ?_; clear h K; (try rw [decide_eq_true hneg]))
    refine wps he0.out rfl rfl (fun w1 hW hG=>?_) fun x61=>?_
    ·have g60:=(hG 10 (by decide):Since _ _).get fun _ e g=>g.ext e
     exact spc [RH.v ⟨rneg,ea,en,ec,eb,em,ed⟩,x60.v] Tryz.func55 ((by have h:=rless3_any ⟨rneg,ea,en,ec,eb,em,ed⟩ x60 (ds.getD i 0) ((1:Int):Rat) _ ((HC.out.ext hW).raw ZI.out (by decide)) (g60.raw (Sz.int (by decide)) (by decide)); rw [decide_eq_false HNL.out] at h; exact h))
    simp only [pS]
    repeat (refine wpq fun K h=>?_; go_big_quiet_op; refine h _ ?_; clear h K; (try rw [decide_eq_true hneg]))
    refine wpF_nil ?_
    intro w26 hI
    have hE:=he0.out.trans hI.ext
    have G60:=Hi ((hI.facts 10:Since _ _).get fun _ e g=>g.ext e)
    clear hI he0 hz0 hc0 hf0
    replace HX7:=hE.tr HX7
    replace HXw:=hE.tr HXw
    replace LP2:=Hi (LP2.out.ext hE)
    replace LY2:=Hi (LY2.out.ext hE)
    replace HC:=Hi (HC.out.ext hE)
    replace B25:=hE.bl B25
    have hs_w26:=hE.size
    clear hE
    try clear c_B25 f_B25 l_B25
    obtain ⟨c_B25,f_B25,l_B25⟩:=blk3 B25.out
    simp only [pD]
    go_wp2
    go_roundg (gk - 1)
    case measure=>omega
    case rel=>exact ⟨i + 1,by omega,by go_num,HX7.out⟩
end Go.Proofs.YtcbgamclcgcodaaGreat
