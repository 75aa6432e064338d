/- BernsteinEncloses returns true. -/
import Derived.Test.YtpieblkklbilgaaGreatQEBa
import Derived.Test.YtpieblkklbilgaaGreatQEBE
import Derived.Test.YtpieblkklbilgaaGreatQELwI
set_option linter.unusedVariables false
namespace Go.Proofs.YtpieblkklbilgaaGreat
open Go.RowKit Go.Front Go.Num Stab
attribute [local go_sem] XW.cell XW.frozen
theorem frac_in7 {m:Int} (h1:0≤m) (h2:m < 101):0≤(m:Rat) / ((100:Int):Rat)∧(m:Rat) / ((100:Int):Rat)≤1:=by
 have e:(m:Rat) / ((100:Int):Rat) * ((100:Int):Rat)=(m:Rat):=by
  rw [Rat.div_def,Rat.mul_assoc,Rat.inv_mul_cancel _ (by decide),Rat.mul_one]
 have e3:((100:Int):Rat)=100:=rfl
 have e1:(0:Rat)≤(m:Rat):=by exact_mod_cast h1
 have e2:(m:Rat)≤100:=by
  have:(m:Rat)≤((100:Int):Rat):=Rat.intCast_le_intCast.2 (by omega)
  exact this
 rw [e3] at e ⊢
 generalize (m:Rat) / 100=c at *
 constructor <;> grind
theorem in_iv7 {lo hi c:Rat} (h:lo≤hi) (h1:0≤c) (h2:c≤1):lo≤lo+(hi - lo) * c∧lo+(hi - lo) * c≤hi:=by
 have k1:=Rat.mul_nonneg (a:=hi - lo) (b:=c) (by grind) h1
 have k2:=Rat.mul_nonneg (a:=hi - lo) (b:=1 - c) (by grind) (by grind)
 constructor <;> grind
theorem polyQ_f7 (xs:List Int):(polyQ xs 6).length≤7∧tz (polyQ xs 6)=polyQ xs 6∧SzL 1 (polyQ xs 6):=by
 refine ⟨?_,tz_idem _,SzL.tz (rats_sz _)⟩
 unfold polyQ
 refine Nat.le_trans (tz_len_le _) ?_
 rw [List.length_map,List.length_take]
 omega
theorem rb_facts {p:List Rat} {lo hi x:Rat} (h:lo≤hi) (h1:lo≤x) (h2:x≤hi) :
  (∀ d,loV (rbn d p lo hi) (rbx d p lo hi)=rbn d p lo hi∧hiV (rbn d p lo hi) (rbx d p lo hi)=rbx d p lo hi)∧(∀ d,rbn d p lo hi≤evV p x∧evV p x≤rbx d p lo hi) ∧
  (∀ d,decide (rbn d p lo hi≤rbn (d+1) p lo hi∧rbn (d+1) p lo hi≤rbx d p lo hi)=true∧decide (rbn d p lo hi≤rbx (d+1) p lo hi∧rbx (d+1) p lo hi≤rbx d p lo hi)=true):=by
 have hle:∀ d,rbn d p lo hi≤rbx d p lo hi:=fun d=>rb_le' d p h
 refine ⟨fun d=>⟨lo_of (hle d),hi_of (hle d)⟩,fun d=>?_,fun d=>?_⟩
 ·by_cases hp:p=[]
  ·subst hp;rw [(rb_nil d lo hi).1,(rb_nil d lo hi).2];exact ⟨Rat.le_refl,Rat.le_refl⟩
  ·exact rb_in hp d lo hi x h1 h2
 ·have hn:rbn d p lo hi≤rbn (d+1) p lo hi∧rbx (d+1) p lo hi≤rbx d p lo hi:=by
   by_cases hp:p=[]
   ·subst hp;rw [(rb_nil d lo hi).1,(rb_nil d lo hi).2,(rb_nil (d+1) lo hi).1,(rb_nil (d+1) lo hi).2];exact ⟨Rat.le_refl,Rat.le_refl⟩
   ·exact rb_nest hp d lo hi
  have:=hle (d+1)
  exact ⟨decide_eq_true ⟨hn.1,by grind⟩,decide_eq_true ⟨by grind,hn.2⟩⟩
theorem nm_drewN {w:World} {k:Nat} {F:World→Prop} (h:∀ w2,Ext w w2→F w2):F (w.drewN k):=h _ (Ext.drewN _ _)
theorem cmpR_same (q:Rat):cmpR q q=0:=by unfold cmpR;rw [if_neg (by grind),if_pos rfl]
set_option maxRecDepth 8000 in
set_option maxHeartbeats 16000000 in
theorem encl7_any (ao:Option Addr) (cap:Nat) (xs:List Int) (za zb zn:Int) (w:World) (h:IntsAt w ao xs) (hr:InR xs) (hl:xs.length≤9223372036854775807) (hc:xs.length≤cap) (hcm:cap≤9223372036854775807)
  (a1:-9223372036854775808≤za) (a2:za≤9223372036854775807) (b1:-9223372036854775808≤zb) (b2:zb≤9223372036854775807) (c1:-9223372036854775808≤zn) (c2:zn≤9223372036854775807) :
  Does 8 [.slice ao xs.length cap,.int .i64 za,.int .i64 zb,.int .i64 zn] w (fun _:Unit=>.bool true) (fun _ _=>True):=by
 have HX:=Hi (Ext.refl w)
 have HPo:Hid (Does 50 [.slice ao xs.length cap,.int .i64 ((6:Nat):Int)] w SH.v (fun s w'=>NewL w.heap.size w' s (polyQ xs 6))):=Hi (poly_any ao cap 6 xs w h hr hl (by decide) hc hcm)
 obtain ⟨f2,f3,f4⟩:=polyQ_f7 xs
 obtain ⟨n,hn⟩:∃ n,n=xs.length:=⟨_,rfl⟩
 obtain ⟨p,hp⟩:∃ p,p=polyQ xs 6:=⟨_,rfl⟩
 rw [← hn,← hp] at HPo
 rw [← hp] at f2 f3 f4
 have hpl:=f2
 have HTZ:=Hi f3
 have HZ:=Hi f4
 rw [← hn]
 clear hn hp h hr hl hc hcm f2 f3 f4
 unfold Does
 go_enter Tryz.func8,Tryz.ntmps8
 go_wp2_with fail
 refine Calls.mono (HPo.out) ?_
 rintro e w18 ⟨x18,rfl,hE,g18⟩
 have G18:=Hi g18
 clear g18
 replace HX:=hE.tr HX
 have hs_w18:=hE.size
 clear hE
 obtain ⟨pa,pn,pc⟩:=x18
 have LP:=Hi (NewL.can G18.out).lin
 clear G18
 have hpn:pn≤7:=by have e:p.length=pn:=LP.out.len;omega
 have HPL:Hid (p.length=pn):=Hi LP.out.len
 simp only [SH.v]
 go_wp2_with fail
 refine Calls.mono (on_any za zb _ a1 a2 b1 b2) ?_
 rintro e w21 ⟨x21,rfl,hE,g21⟩
 have G21:=Hi g21
 clear g21
 replace HX:=hE.tr HX
 replace LP:=Hi (LP.out.ext hE)
 have hs_w21:=hE.size
 clear hE
 obtain ⟨⟨ln,la,ll,lc,lb,lm,ld⟩,⟨hn,ha,hl,hc,hb,hm,hd⟩⟩:=x21
 have ZL:Hid (Sz 1 (loV (cosQ za) (cosQ zb))):=Hi (lo_sz (cosQ_sz za) (cosQ_sz zb))
 have ZH:Hid (Sz 1 (hiV (cosQ za) (cosQ zb))):=Hi (hi_sz (cosQ_sz za) (cosQ_sz zb))
 have hlh:=lo_hi (cosQ za) (cosQ zb)
 have HL:=Hi G21.out.1
 have HH:=Hi G21.out.2
 clear G21
 obtain ⟨lo,hlo⟩:∃ lo,lo=loV (cosQ za) (cosQ zb):=⟨_,rfl⟩
 obtain ⟨hi,hhi⟩:∃ hi,hi=hiV (cosQ za) (cosQ zb):=⟨_,rfl⟩
 rw [← hlo] at HL ZL hlh
 rw [← hhi] at HH ZH hlh
 have HLH:=Hi hlh
 clear hlo hhi hlh
 simp only at HL HH
 go_upto_region 2 with fail
 refine nm_alloc ?_
 intro w22 hE hB0 hz
 have hz_w22:=nle hz
 have hr_w22:=nle hz.symm
 clear hz
 replace HX:=hE.tr HX
 replace LP:=Hi (LP.out.ext hE)
 replace HL:=Hi (HL.out.ext hE)
 replace HH:=Hi (HH.out.ext hE)
 have hs_w22:=hE.size
 clear hE
 have B10:=Hi hB0
 clear hB0
 obtain ⟨c_B10,f_B10,l_B10⟩:=blk3 B10.out
 have e1:=Int.emod_nonneg zn (show (101:Int) ≠ 0 by decide)
 have e2:=Int.emod_lt_of_pos zn (show (0:Int) < 101 by decide)
 obtain ⟨m,hme⟩:∃ m,m=zn % 101:=⟨_,rfl⟩
 have HM:=Hi hme
 rw [← hme] at e1 e2
 clear hme
 have ZW:Hid (Sz 3 (hi - lo)):=Hi ((ZH.out.sub ZL.out).mono (by decide))
 have ZF:Hid (Sz 2 ((m:Rat) / ((100:Int):Rat))):=Hi (((Sz.int (by unfold W32;omega)).div (Sz.int (by decide))).mono (by decide))
 have HFI:=Hi (frac_in7 e1 e2)
 have ZX:Hid (Sz 8 (lo+(hi - lo) * ((m:Rat) / ((100:Int):Rat)))):=Hi ((ZL.out.add (ZW.out.mul ZF.out)).mono (by decide))
 have HIN:=Hi (in_iv7 HLH.out HFI.out.1 HFI.out.2)
 obtain ⟨x,hx⟩:∃ x,x=lo+(hi - lo) * ((m:Rat) / ((100:Int):Rat)):=⟨_,rfl⟩
 have HXE:=Hi hx
 rw [← hx] at HIN ZX
 clear hx
 refine wp_region_front 12 (fun opIx=>match opIx with
  | 4=>.spec RH default RH.v (fun s w'=>CanR w' s (hi - lo))
  | 6=>.spec Unit () (fun _=>.int .i64 m) (fun _ _=>True)
  | 7=>.spec RH default RH.v (fun s w'=>CanR w' s ((m:Rat) / ((100:Int):Rat)))
  | 8=>.spec RH default RH.v (fun s w'=>CanR w' s ((hi - lo) * ((m:Rat) / ((100:Int):Rat))))
  | 9=>.spec RH default RH.v (fun s w'=>CanR w' s (x))
  | 10=>.spec RH default RH.v (fun s w'=>CanR w' s (evV p x))
  | 11=>.alloc 30 #[.bool false,.slice none 0 0,.slice none 0 0]
  | _=>.quiet) (fun | 8=>[4,7] | 9=>[8] | 10=>[9] | _=>[]) (by kernel_rfl) (by kernel_rfl) (fun w0 he0 hz0 hc0 hf0=>?_)
 replace he0:=Hi he0
 simp only [pT]
 repeat (refine wpq fun K h=>?_;go_big_quiet_op;refine h _ ?_;clear h K)
 refine wps he0.out rfl rfl (fun w1 hW hG=>?_) fun x30=>?_
 ·exact spc [IvV (⟨ln,la,ll,lc,lb,lm,ld⟩,⟨hn,ha,hl,hc,hb,hm,hd⟩)] Tryz.func39 ((by have h:=ivwid4_any ⟨ln,la,ll,lc,lb,lm,ld⟩ ⟨hn,ha,hl,hc,hb,hm,hd⟩ lo hi 1 _ ((HL.out.ext hW).raw ZL.out (by decide)) ((HH.out.ext hW).raw ZH.out (by decide)) ZL.out ZH.out (by decide);rw [lo_of HLH.out,hi_of HLH.out] at h;exact h))
 simp only [pS]
 repeat (refine wpq fun K h=>?_;go_big_quiet_op;refine h _ ?_;clear h K)
 refine wps he0.out rfl rfl (fun w1 hW hG=>?_) fun x31=>?_
 ·exact spc [.int .i64 zn,.int .i64 101] Tryz.func29 ((by rw [HM.out];exact mod_any zn 101 _ c1 c2 (by decide) (by decide)))
 simp only [pS]
 repeat (refine wpq fun K h=>?_;go_big_quiet_op;refine h _ ?_;clear h K)
 refine wps he0.out rfl rfl (fun w1 hW hG=>?_) fun x32=>?_
 ·exact spc [.int .i64 m,.int .i64 100] Tryz.func31 (rfrac3_any m 100 _ (by omega) (by omega) (by decide) (by decide))
 simp only [pS]
 repeat (refine wpq fun K h=>?_;go_big_quiet_op;refine h _ ?_;clear h K)
 refine wps he0.out rfl rfl (fun w1 hW hG=>?_) fun x33=>?_
 ·have g30:=(hG 4 (by decide):Since _ _).get fun _ e g=>g.ext e
  have g32:=(hG 7 (by decide):Since _ _).get fun _ e g=>g.ext e
  exact spc [x30.v,x32.v] Tryz.func38 (rmul3_any x30 x32 _ _ _ (g30.raw ZW.out (by decide)) (g32.raw ZF.out (by decide)))
 simp only [pS]
 repeat (refine wpq fun K h=>?_;go_big_quiet_op;refine h _ ?_;clear h K)
 refine wps he0.out rfl rfl (fun w1 hW hG=>?_) fun x34=>?_
 ·have g33:=(hG 8 (by decide):Since _ _).get fun _ e g=>g.ext e
  exact spc [RH.v ⟨ln,la,ll,lc,lb,lm,ld⟩,x33.v] Tryz.func30 ((by rw [HXE.out];exact radd3_any _ x33 _ _ _ ((HL.out.ext hW).raw ZL.out (by decide)) (g33.raw (ZW.out.mul ZF.out) (by decide))))
 simp only [pS]
 repeat (refine wpq fun K h=>?_;go_big_quiet_op;refine h _ ?_;clear h K)
 refine wps he0.out rfl rfl (fun w1 hW hG=>?_) fun x35=>?_
 ·have g34:=(hG 9 (by decide):Since _ _).get fun _ e g=>g.ext e
  exact spc [.slice pa pn pc,x34.v] Tryz.func41 (eval5_any pa pn pc p x34 x 1 8 _ (LP.out.can.ext hW) g34 (by omega) HZ.out ZX.out (by decide) (by decide) (by decide))
 simp only [pS]
 repeat (refine wpq fun K h=>?_;go_big_quiet_op;refine h _ ?_;clear h K)
 refine wpF_alloc rfl rfl (fun w=>by simp [execOp,go_sem,ptr]) (fun b36 hb36 hl36=>?_)
 simp only [pS]
 repeat (refine wpq fun K h=>?_;go_big_quiet_op;refine h _ ?_;clear h K)
 refine wpF_nil ?_
 intro w23 hI
 have hE:=he0.out.trans hI.ext
 have G30:=Hi ((hI.facts 4:Since _ _).get fun _ e g=>g.ext e)
 have G32:=Hi ((hI.facts 7:Since _ _).get fun _ e g=>g.ext e)
 have G33:=Hi ((hI.facts 8:Since _ _).get fun _ e g=>g.ext e)
 have G34:=Hi ((hI.facts 9:Since _ _).get fun _ e g=>g.ext e)
 have G35:=Hi ((hI.facts 10:Since _ _).get fun _ e g=>g.ext e)
 have A36:Hid (w23.heap[b36]?=some (.cells #[.bool false,.slice none 0 0,.slice none 0 0] 30 (0,0))):=hI.facts 11
 rw [hz0] at hl36
 clear hI he0 hz0 hc0 hf0
 replace HX:=hE.tr HX
 replace LP:=Hi (LP.out.ext hE)
 replace HL:=Hi (HL.out.ext hE)
 replace HH:=Hi (HH.out.ext hE)
 replace B10:=hE.bl B10
 have hs_w23:=hE.size
 clear hE
 try clear c_B10 f_B10 l_B10
 obtain ⟨c_B10,f_B10,l_B10⟩:=blk3 B10.out
 obtain ⟨c_A36,f_A36,l_A36⟩:=blk3 A36.out
 simp only [pD,ptr]
 clear G30
 clear G32
 clear G33
 clear G34
 obtain ⟨tn,ta,tl,tc,tb,tm,td⟩:=x35
 go_upto_region 3 with fail
 refine nm_set3 A36.out rfl ?_
 intro w24 T
 replace HX:=Hi (T.ext HX.out (by omega))
 replace LP:=Hi (LP.out.put T (by omega))
 replace HL:=Hi (HL.out.keep T.keep)
 replace HH:=Hi (HH.out.keep T.keep)
 replace B10:=Hi (T.rest _ _ (by omega) B10.out)
 replace G35:=Hi (G35.out.keep T.keep)
 replace A36:=Hi (T.bx)
 have hs_w24:=nle T.size
 have hr_w24:=nle T.size.symm
 clear T
 try clear c_B10 f_B10 l_B10
 obtain ⟨c_B10,f_B10,l_B10⟩:=blk3 B10.out
 try clear c_A36 f_A36 l_A36
 obtain ⟨c_A36,f_A36,l_A36⟩:=blk3 A36.out
 have HY:=Hi G35.out
 clear G35
 have ZE:Hid (Sz 200 (evV p x)):=Hi ((ev_dsz HZ.out ZX.out (by decide) pn 0 (by have:=HPL.out;omega)).mono (by omega))
 have ZE1:Hid (Sz 200 (evV p lo)):=Hi ((ev_dsz HZ.out ZL.out (by decide) pn 0 (by have:=HPL.out;omega)).mono (by omega))
 have ZE2:Hid (Sz 200 (evV p hi)):=Hi ((ev_dsz HZ.out ZH.out (by decide) pn 0 (by have:=HPL.out;omega)).mono (by omega))
 have h8:(tz p).length≤8:=by rw [HTZ.out,HPL.out];omega
 have HZT:Hid (SzL 1 (tz p)):=Hi (by rw [HTZ.out];exact HZ.out)
 have ZR0:=Hi (rb_sz HZ.out (by rw [HPL.out];omega) 0 HLH.out ZL.out ZH.out (by decide))
 have ZR1:=Hi (rb_sz HZ.out (by rw [HPL.out];omega) 1 HLH.out ZL.out ZH.out (by decide))
 have ZR2:=Hi (rb_sz HZ.out (by rw [HPL.out];omega) 2 HLH.out ZL.out ZH.out (by decide))
 have HRB:=Hi (rb_facts (p:=p) HLH.out HIN.out.1 HIN.out.2)
 have HBo:Hid (∀ (d:Nat) (w1:World),d≤2→CanL w1 ⟨pa,pn,pc⟩ p→CanR w1 ⟨ln,la,ll,lc,lb,lm,ld⟩ lo→CanR w1 ⟨hn,ha,hl,hc,hb,hm,hd⟩ hi→Does 42 [.slice pa pn pc,IvV (⟨ln,la,ll,lc,lb,lm,ld⟩,⟨hn,ha,hl,hc,hb,hm,hd⟩),.int .i64 (d:Nat)] w1 IeT (fun x w'=>x.2=0∧IvC w' x.1 (rbn d p lo hi) (rbx d p lo hi))):=Hi (fun d w1 hd2 k1 k2 k3=>by
  have h:=bbound_all pa pn pc p ⟨ln,la,ll,lc,lb,lm,ld⟩ ⟨hn,ha,hl,hc,hb,hm,hd⟩ lo hi d 1 1 w1 (k1.raw HZ.out (by decide)) (k2.raw ZL.out (by decide)) (k3.raw ZH.out (by decide)) (by omega) h8 HZT.out ZL.out ZH.out (by decide) (by decide) (by omega)
  rw [HTZ.out,lo_of HLH.out,hi_of HLH.out] at h
  exact h)
 have HRa:Hid (∀ (w1:World),CanL w1 ⟨pa,pn,pc⟩ p→CanR w1 ⟨ln,la,ll,lc,lb,lm,ld⟩ lo→CanR w1 ⟨hn,ha,hl,hc,hb,hm,hd⟩ hi→Does 48 [.slice pa pn pc,IvV (⟨ln,la,ll,lc,lb,lm,ld⟩,⟨hn,ha,hl,hc,hb,hm,hd⟩)] w1 IvV (fun x w'=>IvC w' x (rbn 0 p lo hi) (rbx 0 p lo hi))):=Hi (fun w1 k1 k2 k3=>by
  have h:=brange_any pa pn pc p ⟨ln,la,ll,lc,lb,lm,ld⟩ ⟨hn,ha,hl,hc,hb,hm,hd⟩ lo hi 1 1 w1 (k1.raw HZ.out (by decide)) (k2.raw ZL.out (by decide)) (k3.raw ZH.out (by decide)) (by omega) h8 HZT.out ZL.out ZH.out (by decide) (by decide)
  rw [rg_eq,HTZ.out,lo_of HLH.out,hi_of HLH.out] at h
  exact h)
 have LPc:=Hi LP.out.can
 have hH10:w21.heap.size < w24.heap.size:=l_B10
 clear LP
 go_wp2_with fail
 refine Calls.mono (HBo.out 1 _ (by decide) LPc.out HL.out HH.out) ?_
 rintro e w36 ⟨x36,rfl,hE,g36⟩
 have G36:=Hi g36
 clear g36
 replace HX:=hE.tr HX
 replace HL:=Hi (HL.out.ext hE)
 replace HH:=Hi (HH.out.ext hE)
 replace B10:=hE.bl B10
 replace A36:=hE.bl A36
 replace HY:=Hi (HY.out.ext hE)
 replace LPc:=Hi (LPc.out.ext hE)
 have hs_w36:=hE.size
 clear hE
 try clear c_B10 f_B10 l_B10
 obtain ⟨c_B10,f_B10,l_B10⟩:=blk3 B10.out
 try clear c_A36 f_A36 l_A36
 obtain ⟨c_A36,f_A36,l_A36⟩:=blk3 A36.out
 obtain ⟨⟨⟨un,ua,ul,uc,ub,um,ud⟩,⟨vn,va,vl,vc,vb,vm,vd⟩⟩,e34⟩:=x36
 obtain ⟨he,hu⟩:=G36.out
 simp only at he hu
 have HU:=Hi hu.1
 have HV:=Hi hu.2
 subst he
 clear hu G36
 simp only at HU HV
 go_upto_region 4 with fail
 refine nm_alloc ?_
 intro w37 hE hB0 hz
 have hz_w37:=nle hz
 have hr_w37:=nle hz.symm
 clear hz
 replace HX:=hE.tr HX
 replace HL:=Hi (HL.out.ext hE)
 replace HH:=Hi (HH.out.ext hE)
 replace B10:=hE.bl B10
 replace A36:=hE.bl A36
 replace HY:=Hi (HY.out.ext hE)
 replace LPc:=Hi (LPc.out.ext hE)
 replace HU:=Hi (HU.out.ext hE)
 replace HV:=Hi (HV.out.ext hE)
 have hs_w37:=hE.size
 clear hE
 try clear c_B10 f_B10 l_B10
 obtain ⟨c_B10,f_B10,l_B10⟩:=blk3 B10.out
 try clear c_A36 f_A36 l_A36
 obtain ⟨c_A36,f_A36,l_A36⟩:=blk3 A36.out
 have B12:=Hi hB0
 clear hB0
 obtain ⟨c_B12,f_B12,l_B12⟩:=blk3 B12.out
 go_wp2_with fail
 refine Calls.mono (HBo.out 2 _ (by decide) LPc.out HL.out HH.out) ?_
 rintro e w42 ⟨x42,rfl,hE,g42⟩
 have G42:=Hi g42
 clear g42
 replace HX:=hE.tr HX
 replace HL:=Hi (HL.out.ext hE)
 replace HH:=Hi (HH.out.ext hE)
 replace B10:=hE.bl B10
 replace A36:=hE.bl A36
 replace HY:=Hi (HY.out.ext hE)
 replace LPc:=Hi (LPc.out.ext hE)
 replace HU:=Hi (HU.out.ext hE)
 replace HV:=Hi (HV.out.ext hE)
 replace B12:=hE.bl B12
 have hs_w42:=hE.size
 clear hE
 try clear c_B10 f_B10 l_B10
 obtain ⟨c_B10,f_B10,l_B10⟩:=blk3 B10.out
 try clear c_A36 f_A36 l_A36
 obtain ⟨c_A36,f_A36,l_A36⟩:=blk3 A36.out
 try clear c_B12 f_B12 l_B12
 obtain ⟨c_B12,f_B12,l_B12⟩:=blk3 B12.out
 obtain ⟨⟨⟨cn,ca,cl,cc,cb,cm,cd⟩,⟨dn,da,dl,dc,db,dm,dd⟩⟩,e34⟩:=x42
 obtain ⟨he,hu⟩:=G42.out
 simp only at he hu
 have HU2:=Hi hu.1
 have HV2:=Hi hu.2
 subst he
 clear hu G42
 simp only at HU2 HV2
 go_upto_region 5 with fail
 refine nm_alloc ?_
 intro w43 hE hB0 hz
 have hz_w43:=nle hz
 have hr_w43:=nle hz.symm
 clear hz
 replace HX:=hE.tr HX
 replace HL:=Hi (HL.out.ext hE)
 replace HH:=Hi (HH.out.ext hE)
 replace B10:=hE.bl B10
 replace A36:=hE.bl A36
 replace HY:=Hi (HY.out.ext hE)
 replace LPc:=Hi (LPc.out.ext hE)
 replace HU:=Hi (HU.out.ext hE)
 replace HV:=Hi (HV.out.ext hE)
 replace B12:=hE.bl B12
 replace HU2:=Hi (HU2.out.ext hE)
 replace HV2:=Hi (HV2.out.ext hE)
 have hs_w43:=hE.size
 clear hE
 try clear c_B10 f_B10 l_B10
 obtain ⟨c_B10,f_B10,l_B10⟩:=blk3 B10.out
 try clear c_A36 f_A36 l_A36
 obtain ⟨c_A36,f_A36,l_A36⟩:=blk3 A36.out
 try clear c_B12 f_B12 l_B12
 obtain ⟨c_B12,f_B12,l_B12⟩:=blk3 B12.out
 have B14:=Hi hB0
 clear hB0
 obtain ⟨c_B14,f_B14,l_B14⟩:=blk3 B14.out
 go_wp2_with fail
 refine Calls.mono ((by have h:=bcoef_all pa pn pc p ⟨ln,la,ll,lc,lb,lm,ld⟩ ⟨hn,ha,hl,hc,hb,hm,hd⟩ lo hi 1 1 _ (LPc.out.raw HZ.out (by decide)) (HL.out.raw ZL.out (by decide)) (HH.out.raw ZH.out (by decide)) (by omega) h8 HZT.out ZL.out ZH.out (by decide) (by decide);rw [HTZ.out,lo_of HLH.out,hi_of HLH.out] at h;exact h)) ?_
 rintro e w47 ⟨x47,rfl,hE,g47⟩
 have G47:=Hi g47
 clear g47
 replace HX:=hE.tr HX
 replace HL:=Hi (HL.out.ext hE)
 replace HH:=Hi (HH.out.ext hE)
 replace B10:=hE.bl B10
 replace A36:=hE.bl A36
 replace HY:=Hi (HY.out.ext hE)
 replace LPc:=Hi (LPc.out.ext hE)
 replace HU:=Hi (HU.out.ext hE)
 replace HV:=Hi (HV.out.ext hE)
 replace B12:=hE.bl B12
 replace HU2:=Hi (HU2.out.ext hE)
 replace HV2:=Hi (HV2.out.ext hE)
 replace B14:=hE.bl B14
 have hs_w47:=hE.size
 clear hE
 try clear c_B10 f_B10 l_B10
 obtain ⟨c_B10,f_B10,l_B10⟩:=blk3 B10.out
 try clear c_A36 f_A36 l_A36
 obtain ⟨c_A36,f_A36,l_A36⟩:=blk3 A36.out
 try clear c_B12 f_B12 l_B12
 obtain ⟨c_B12,f_B12,l_B12⟩:=blk3 B12.out
 try clear c_B14 f_B14 l_B14
 obtain ⟨c_B14,f_B14,l_B14⟩:=blk3 B14.out
 obtain ⟨qa,qn,qc⟩:=x47
 have LC:=Hi G47.out
 clear G47
 have hqn:qn=pn:=by have:=LC.out.len;rw [bcL_len,HPL.out] at this;exact this.symm
 subst hqn
 simp only [SH.v]
 by_cases h0:qn=0
 case pos =>
  subst h0
  go_upto_region 6 with fail
  go_quiet (fail)
  refine nm_drewN ?_
  intro w48 hE
  replace HX:=hE.tr HX
  replace HL:=Hi (HL.out.ext hE)
  replace HH:=Hi (HH.out.ext hE)
  replace B10:=hE.bl B10
  replace A36:=hE.bl A36
  replace HY:=Hi (HY.out.ext hE)
  replace LPc:=Hi (LPc.out.ext hE)
  replace HU:=Hi (HU.out.ext hE)
  replace HV:=Hi (HV.out.ext hE)
  replace B12:=hE.bl B12
  replace HU2:=Hi (HU2.out.ext hE)
  replace HV2:=Hi (HV2.out.ext hE)
  replace B14:=hE.bl B14
  replace LC:=Hi (LC.out.ext hE)
  have hs_w48:=hE.size
  clear hE
  try clear c_B10 f_B10 l_B10
  obtain ⟨c_B10,f_B10,l_B10⟩:=blk3 B10.out
  try clear c_A36 f_A36 l_A36
  obtain ⟨c_A36,f_A36,l_A36⟩:=blk3 A36.out
  try clear c_B12 f_B12 l_B12
  obtain ⟨c_B12,f_B12,l_B12⟩:=blk3 B12.out
  try clear c_B14 f_B14 l_B14
  obtain ⟨c_B14,f_B14,l_B14⟩:=blk3 B14.out
  go_upto_region 8 with fail
  refine wp_region_front 33 (fun opIx=>match opIx with
   | 0=>.spec Unit () (fun _=>.bool true) (fun _ _=>True)
   | 12=>.spec (RH × RH) (default) (IvV) (fun x w'=>IvC w' x (rbn 0 p lo hi) (rbx 0 p lo hi))
   | 14=>.spec Unit () (fun _=>.bool true) (fun _ _=>True)
   | 19=>.spec Unit () (fun _=>.bool true) (fun _ _=>True)
   | 24=>.spec Unit () (fun _=>.bool true) (fun _ _=>True)
   | 30=>.spec (RH × RH) (default) (IvV) (fun x w'=>IvC w' x (rbn 0 p lo hi) (rbx 0 p lo hi))
   | 31=>.spec Unit () (fun _=>.bool true) (fun _ _=>True)
   | _=>.quiet) (fun | 14=>[12] | 31=>[30] | _=>[]) (by kernel_rfl) (by kernel_rfl) (fun w0 he0 hz0 hc0 hf0=>?_)
  replace he0:=Hi he0
  simp only [pT]
  repeat (refine wpq fun K h=>?_;go_big_quiet_op;refine h _ ?_;clear h K)
  refine wps he0.out rfl rfl (fun w1 hW hG=>?_) fun x70=>?_
  ·exact spc [] Tryz.func24 (awake7_any _)
  simp only [pS]
  repeat (refine wpq fun K h=>?_;go_big_quiet_op;refine h _ ?_;clear h K)
  refine wps he0.out rfl rfl (fun w1 hW hG=>?_) fun x71=>?_
  ·exact spc [.slice pa 0 pc,IvV (⟨ln,la,ll,lc,lb,lm,ld⟩,⟨hn,ha,hl,hc,hb,hm,hd⟩)] Tryz.func48 (HRa.out _ (LPc.out.ext hW) (HL.out.ext hW) (HH.out.ext hW))
  simp only [pS]
  repeat (refine wpq fun K h=>?_;go_big_quiet_op;refine h _ ?_;clear h K)
  refine wps he0.out rfl rfl (fun w1 hW hG=>?_) fun x72=>?_
  ·have g71:=(hG 12 (by decide):Since _ _).get fun _ e g=>g.ext e
   exact spc [IvV x71,RH.v ⟨tn,ta,tl,tc,tb,tm,td⟩] Tryz.func52 ((by have h:=ivhas4_big x71.1 x71.2 ⟨tn,ta,tl,tc,tb,tm,td⟩ _ _ _ 6853 _ (g71.1.raw ZR0.out.1 (by decide)) (g71.2.raw ZR0.out.2 (by decide)) ((HY.out.ext hW).raw ZE.out (by decide)) ZR0.out.1 ZR0.out.2 (by decide);rw [(HRB.out.1 0).1,(HRB.out.1 0).2,decide_eq_true (HRB.out.2.1 0)] at h;exact h))
  simp only [pS]
  repeat (refine wpq fun K h=>?_;go_big_quiet_op;refine h _ ?_;clear h K)
  refine wps he0.out rfl rfl (fun w1 hW hG=>?_) fun x73=>?_
  ·exact spc [IvV (⟨cn,ca,cl,cc,cb,cm,cd⟩,⟨dn,da,dl,dc,db,dm,dd⟩),RH.v ⟨tn,ta,tl,tc,tb,tm,td⟩] Tryz.func52 ((by have h:=ivhas4_big ⟨cn,ca,cl,cc,cb,cm,cd⟩ ⟨dn,da,dl,dc,db,dm,dd⟩ ⟨tn,ta,tl,tc,tb,tm,td⟩ _ _ _ 6853 _ ((HU2.out.ext hW).raw ZR2.out.1 (by decide)) ((HV2.out.ext hW).raw ZR2.out.2 (by decide)) ((HY.out.ext hW).raw ZE.out (by decide)) ZR2.out.1 ZR2.out.2 (by decide);rw [(HRB.out.1 2).1,(HRB.out.1 2).2,decide_eq_true (HRB.out.2.1 2)] at h;exact h))
  simp only [pS]
  repeat (refine wpq fun K h=>?_;go_big_quiet_op;refine h _ ?_;clear h K)
  refine wps he0.out rfl rfl (fun w1 hW hG=>?_) fun x74=>?_
  ·exact spc [IvV (⟨cn,ca,cl,cc,cb,cm,cd⟩,⟨dn,da,dl,dc,db,dm,dd⟩),IvV (⟨un,ua,ul,uc,ub,um,ud⟩,⟨vn,va,vl,vc,vb,vm,vd⟩)] Tryz.func53 ((by have h:=ivin4_big ⟨cn,ca,cl,cc,cb,cm,cd⟩ ⟨dn,da,dl,dc,db,dm,dd⟩ ⟨un,ua,ul,uc,ub,um,ud⟩ ⟨vn,va,vl,vc,vb,vm,vd⟩ _ _ _ _ 6853 _ ((HU2.out.ext hW).raw ZR2.out.1 (by decide)) ((HV2.out.ext hW).raw ZR2.out.2 (by decide)) ((HU.out.ext hW).raw ZR1.out.1 (by decide)) ((HV.out.ext hW).raw ZR1.out.2 (by decide)) ZR1.out.1 ZR1.out.2 (by decide);rw [(HRB.out.1 1).1,(HRB.out.1 1).2,(HRB.out.2.2 1).1,(HRB.out.2.2 1).2] at h;exact h))
  simp only [pS]
  repeat (refine wpq fun K h=>?_;go_big_quiet_op;refine h _ ?_;clear h K)
  refine wps he0.out rfl rfl (fun w1 hW hG=>?_) fun x75=>?_
  ·exact spc [.slice pa 0 pc,IvV (⟨ln,la,ll,lc,lb,lm,ld⟩,⟨hn,ha,hl,hc,hb,hm,hd⟩)] Tryz.func48 (HRa.out _ (LPc.out.ext hW) (HL.out.ext hW) (HH.out.ext hW))
  simp only [pS]
  repeat (refine wpq fun K h=>?_;go_big_quiet_op;refine h _ ?_;clear h K)
  refine wps he0.out rfl rfl (fun w1 hW hG=>?_) fun x76=>?_
  ·have g75:=(hG 30 (by decide):Since _ _).get fun _ e g=>g.ext e
   exact spc [IvV (⟨un,ua,ul,uc,ub,um,ud⟩,⟨vn,va,vl,vc,vb,vm,vd⟩),IvV x75] Tryz.func53 ((by have h:=ivin4_big ⟨un,ua,ul,uc,ub,um,ud⟩ ⟨vn,va,vl,vc,vb,vm,vd⟩ x75.1 x75.2 _ _ _ _ 6853 _ ((HU.out.ext hW).raw ZR1.out.1 (by decide)) ((HV.out.ext hW).raw ZR1.out.2 (by decide)) (g75.1.raw ZR0.out.1 (by decide)) (g75.2.raw ZR0.out.2 (by decide)) ZR0.out.1 ZR0.out.2 (by decide);rw [(HRB.out.1 0).1,(HRB.out.1 0).2,(HRB.out.2.2 0).1,(HRB.out.2.2 0).2] at h;exact h))
  simp only [pS]
  repeat (refine wpq fun K h=>?_;go_big_quiet_op;refine h _ ?_;clear h K)
  refine wpF_nil ?_
  intro w60 hI
  have hE:=he0.out.trans hI.ext
  have G71:=Hi ((hI.facts 12:Since _ _).get fun _ e g=>g.ext e)
  have G75:=Hi ((hI.facts 30:Since _ _).get fun _ e g=>g.ext e)
  clear hI he0 hz0 hc0 hf0
  replace HX:=hE.tr HX
  replace HL:=Hi (HL.out.ext hE)
  replace HH:=Hi (HH.out.ext hE)
  replace B10:=hE.bl B10
  replace A36:=hE.bl A36
  replace HY:=Hi (HY.out.ext hE)
  replace LPc:=Hi (LPc.out.ext hE)
  replace HU:=Hi (HU.out.ext hE)
  replace HV:=Hi (HV.out.ext hE)
  replace B12:=hE.bl B12
  replace HU2:=Hi (HU2.out.ext hE)
  replace HV2:=Hi (HV2.out.ext hE)
  replace B14:=hE.bl B14
  replace LC:=Hi (LC.out.ext hE)
  have hs_w60:=hE.size
  clear hE
  try clear c_B10 f_B10 l_B10
  obtain ⟨c_B10,f_B10,l_B10⟩:=blk3 B10.out
  try clear c_A36 f_A36 l_A36
  obtain ⟨c_A36,f_A36,l_A36⟩:=blk3 A36.out
  try clear c_B12 f_B12 l_B12
  obtain ⟨c_B12,f_B12,l_B12⟩:=blk3 B12.out
  try clear c_B14 f_B14 l_B14
  obtain ⟨c_B14,f_B14,l_B14⟩:=blk3 B14.out
  simp only [pD]
  go_wp2
  go_ret
  exact ⟨(),rfl,HX.out,trivial⟩
 case neg =>
  have hq0:(0:Int) < qn:=by omega
  have hqn:decide (0 < qn)=true:=decide_eq_true (by omega)
  have hqd:decide ((0:Int) < (qn:Int))=true:=decide_eq_true hq0
  obtain ⟨q1,hq1⟩:∃ q1,qn=q1+1:=⟨qn - 1,by omega⟩
  have hqi:(qn:Int) - 1=(q1:Nat):=by omega
  have hql:(q1:Int) < qn:=by omega
  have HQ1:=Hi hq1
  have HP0:Hid (p ≠ []):=Hi (fun e=>by have:=HPL.out;rw [e] at this;exact h0 this.symm)
  have HEN:=Hi (bc_ends HP0.out lo hi)
  rw [HPL.out,hq1,Nat.add_sub_cancel] at HEN
  clear hq1
  obtain ⟨bw,off,r,hao,hbl,⟨f1,f2,f3⟩,hP⟩:=LC.out.lin.celx (k:=0) (by omega)
  obtain ⟨bw',off',r',hao',hbl',⟨d1,d2,d3⟩,hP'⟩:=LC.out.lin.celx (k:=q1) (by omega)
  subst hao
  obtain ⟨rfl,rfl⟩:bw=bw'∧off=off':=by simpa using hao'
  clear hao'
  obtain ⟨rn,ra,rl,rc,rb,rm,rd⟩:=r
  obtain ⟨r2n,r2a,r2l,r2c,r2b,r2m,r2d⟩:=r'
  simp only [Nat.zero_mul,Nat.add_zero] at f1 f2 f3 d1 d2 d3
  rw [HEN.out.1] at hP
  rw [HEN.out.2] at hP'
  have HPa:=Hi hP
  have HPb:=Hi hP'
  have ZLp:=Hi (Sz.mono ZL.out (show 1≤8 by decide))
  have ZHp:=Hi (Sz.mono ZH.out (show 1≤8 by decide))
  clear hP hP'
  go_upto_region 6 with fail
  refine wp_region_front 35 (fun opIx=>match opIx with
   | 16=>.spec RH default RH.v (fun s w'=>CanR w' s (evV p lo))
   | 17=>.spec Unit () (fun _=>.int .i64 0) (fun _ _=>True)
   | 29=>.spec RH default RH.v (fun s w'=>CanR w' s (evV p hi))
   | 30=>.spec Unit () (fun _=>.int .i64 0) (fun _ _=>True)
   | _=>.quiet) (fun | 17=>[16] | 30=>[29] | _=>[]) (by kernel_rfl) (by kernel_rfl) (fun w0 he0 hz0 hc0 hf0=>?_)
  replace he0:=Hi he0
  simp only [pT]
  repeat (refine wpq fun K h=>?_;go_big_quiet_op;refine h _ ?_;clear h K;(try simp only [hqn,hqd]))
  refine wps he0.out rfl rfl (fun w1 hW hG=>?_) fun x60=>?_
  ·exact spc [.slice pa qn pc,RH.v ⟨ln,la,ll,lc,lb,lm,ld⟩] Tryz.func41 (eval5_any pa qn pc p ⟨ln,la,ll,lc,lb,lm,ld⟩ lo 1 8 _ (LPc.out.ext hW) (HL.out.ext hW) (by omega) HZ.out ZLp.out (by decide) (by decide) (by decide))
  simp only [pS]
  repeat (refine wpq fun K h=>?_;go_big_quiet_op;refine h _ ?_;clear h K;(try simp only [hqn,hqd]))
  refine wps he0.out rfl rfl (fun w1 hW hG=>?_) fun x61=>?_
  ·have g60:=(hG 16 (by decide):Since _ _).get fun _ e g=>g.ext e
   exact spc [RH.v ⟨rn,ra,rl,rc,rb,rm,rd⟩,x60.v] Tryz.func51 ((by have h:=rcmp3_any ⟨rn,ra,rl,rc,rb,rm,rd⟩ x60 _ _ _ ((HPa.out.ext hW).raw ZE1.out (by decide)) (g60.raw ZE1.out (by decide));rw [cmpR_same] at h;exact h))
  simp only [pS]
  repeat (refine wpq fun K h=>?_;go_big_quiet_op;refine h _ ?_;clear h K;(try simp only [hqn,hqd]))
  refine wps he0.out rfl rfl (fun w1 hW hG=>?_) fun x62=>?_
  ·exact spc [.slice pa qn pc,RH.v ⟨hn,ha,hl,hc,hb,hm,hd⟩] Tryz.func41 (eval5_any pa qn pc p ⟨hn,ha,hl,hc,hb,hm,hd⟩ hi 1 8 _ (LPc.out.ext hW) (HH.out.ext hW) (by omega) HZ.out ZHp.out (by decide) (by decide) (by decide))
  simp only [pS]
  repeat (refine wpq fun K h=>?_;go_big_quiet_op;refine h _ ?_;clear h K;(try simp only [hqn,hqd]))
  refine wps he0.out rfl rfl (fun w1 hW hG=>?_) fun x63=>?_
  ·have g62:=(hG 29 (by decide):Since _ _).get fun _ e g=>g.ext e
   exact spc [RH.v ⟨r2n,r2a,r2l,r2c,r2b,r2m,r2d⟩,x62.v] Tryz.func51 ((by have h:=rcmp3_any ⟨r2n,r2a,r2l,r2c,r2b,r2m,r2d⟩ x62 _ _ _ ((HPb.out.ext hW).raw ZE2.out (by decide)) (g62.raw ZE2.out (by decide));rw [cmpR_same] at h;exact h))
  simp only [pS]
  repeat (refine wpq fun K h=>?_;go_big_quiet_op;refine h _ ?_;clear h K;(try simp only [hqn,hqd]))
  refine wpF_nil ?_
  intro w50 hI
  have hE:=he0.out.trans hI.ext
  have G60:=Hi ((hI.facts 16:Since _ _).get fun _ e g=>g.ext e)
  have G62:=Hi ((hI.facts 29:Since _ _).get fun _ e g=>g.ext e)
  clear hI he0 hz0 hc0 hf0
  replace HX:=hE.tr HX
  replace HL:=Hi (HL.out.ext hE)
  replace HH:=Hi (HH.out.ext hE)
  replace B10:=hE.bl B10
  replace A36:=hE.bl A36
  replace HY:=Hi (HY.out.ext hE)
  replace LPc:=Hi (LPc.out.ext hE)
  replace HU:=Hi (HU.out.ext hE)
  replace HV:=Hi (HV.out.ext hE)
  replace B12:=hE.bl B12
  replace HU2:=Hi (HU2.out.ext hE)
  replace HV2:=Hi (HV2.out.ext hE)
  replace B14:=hE.bl B14
  replace LC:=Hi (LC.out.ext hE)
  have hs_w50:=hE.size
  clear hE
  try clear c_B10 f_B10 l_B10
  obtain ⟨c_B10,f_B10,l_B10⟩:=blk3 B10.out
  try clear c_A36 f_A36 l_A36
  obtain ⟨c_A36,f_A36,l_A36⟩:=blk3 A36.out
  try clear c_B12 f_B12 l_B12
  obtain ⟨c_B12,f_B12,l_B12⟩:=blk3 B12.out
  try clear c_B14 f_B14 l_B14
  obtain ⟨c_B14,f_B14,l_B14⟩:=blk3 B14.out
  simp only [pD]
  clear f1 f2 f3 d1 d2 d3
  go_upto_region 8 with fail
  refine wp_region_front 33 (fun opIx=>match opIx with
   | 0=>.spec Unit () (fun _=>.bool true) (fun _ _=>True)
   | 12=>.spec (RH × RH) (default) (IvV) (fun x w'=>IvC w' x (rbn 0 p lo hi) (rbx 0 p lo hi))
   | 14=>.spec Unit () (fun _=>.bool true) (fun _ _=>True)
   | 19=>.spec Unit () (fun _=>.bool true) (fun _ _=>True)
   | 24=>.spec Unit () (fun _=>.bool true) (fun _ _=>True)
   | 30=>.spec (RH × RH) (default) (IvV) (fun x w'=>IvC w' x (rbn 0 p lo hi) (rbx 0 p lo hi))
   | 31=>.spec Unit () (fun _=>.bool true) (fun _ _=>True)
   | _=>.quiet) (fun | 14=>[12] | 31=>[30] | _=>[]) (by kernel_rfl) (by kernel_rfl) (fun w0 he0 hz0 hc0 hf0=>?_)
  replace he0:=Hi he0
  simp only [pT]
  repeat (refine wpq fun K h=>?_;go_big_quiet_op;refine h _ ?_;clear h K)
  refine wps he0.out rfl rfl (fun w1 hW hG=>?_) fun x70=>?_
  ·exact spc [] Tryz.func24 (awake7_any _)
  simp only [pS]
  repeat (refine wpq fun K h=>?_;go_big_quiet_op;refine h _ ?_;clear h K)
  refine wps he0.out rfl rfl (fun w1 hW hG=>?_) fun x71=>?_
  ·exact spc [.slice pa qn pc,IvV (⟨ln,la,ll,lc,lb,lm,ld⟩,⟨hn,ha,hl,hc,hb,hm,hd⟩)] Tryz.func48 (HRa.out _ (LPc.out.ext hW) (HL.out.ext hW) (HH.out.ext hW))
  simp only [pS]
  repeat (refine wpq fun K h=>?_;go_big_quiet_op;refine h _ ?_;clear h K)
  refine wps he0.out rfl rfl (fun w1 hW hG=>?_) fun x72=>?_
  ·have g71:=(hG 12 (by decide):Since _ _).get fun _ e g=>g.ext e
   exact spc [IvV x71,RH.v ⟨tn,ta,tl,tc,tb,tm,td⟩] Tryz.func52 ((by have h:=ivhas4_big x71.1 x71.2 ⟨tn,ta,tl,tc,tb,tm,td⟩ _ _ _ 6853 _ (g71.1.raw ZR0.out.1 (by decide)) (g71.2.raw ZR0.out.2 (by decide)) ((HY.out.ext hW).raw ZE.out (by decide)) ZR0.out.1 ZR0.out.2 (by decide);rw [(HRB.out.1 0).1,(HRB.out.1 0).2,decide_eq_true (HRB.out.2.1 0)] at h;exact h))
  simp only [pS]
  repeat (refine wpq fun K h=>?_;go_big_quiet_op;refine h _ ?_;clear h K)
  refine wps he0.out rfl rfl (fun w1 hW hG=>?_) fun x73=>?_
  ·exact spc [IvV (⟨cn,ca,cl,cc,cb,cm,cd⟩,⟨dn,da,dl,dc,db,dm,dd⟩),RH.v ⟨tn,ta,tl,tc,tb,tm,td⟩] Tryz.func52 ((by have h:=ivhas4_big ⟨cn,ca,cl,cc,cb,cm,cd⟩ ⟨dn,da,dl,dc,db,dm,dd⟩ ⟨tn,ta,tl,tc,tb,tm,td⟩ _ _ _ 6853 _ ((HU2.out.ext hW).raw ZR2.out.1 (by decide)) ((HV2.out.ext hW).raw ZR2.out.2 (by decide)) ((HY.out.ext hW).raw ZE.out (by decide)) ZR2.out.1 ZR2.out.2 (by decide);rw [(HRB.out.1 2).1,(HRB.out.1 2).2,decide_eq_true (HRB.out.2.1 2)] at h;exact h))
  simp only [pS]
  repeat (refine wpq fun K h=>?_;go_big_quiet_op;refine h _ ?_;clear h K)
  refine wps he0.out rfl rfl (fun w1 hW hG=>?_) fun x74=>?_
  ·exact spc [IvV (⟨cn,ca,cl,cc,cb,cm,cd⟩,⟨dn,da,dl,dc,db,dm,dd⟩),IvV (⟨un,ua,ul,uc,ub,um,ud⟩,⟨vn,va,vl,vc,vb,vm,vd⟩)] Tryz.func53 ((by have h:=ivin4_big ⟨cn,ca,cl,cc,cb,cm,cd⟩ ⟨dn,da,dl,dc,db,dm,dd⟩ ⟨un,ua,ul,uc,ub,um,ud⟩ ⟨vn,va,vl,vc,vb,vm,vd⟩ _ _ _ _ 6853 _ ((HU2.out.ext hW).raw ZR2.out.1 (by decide)) ((HV2.out.ext hW).raw ZR2.out.2 (by decide)) ((HU.out.ext hW).raw ZR1.out.1 (by decide)) ((HV.out.ext hW).raw ZR1.out.2 (by decide)) ZR1.out.1 ZR1.out.2 (by decide);rw [(HRB.out.1 1).1,(HRB.out.1 1).2,(HRB.out.2.2 1).1,(HRB.out.2.2 1).2] at h;exact h))
  simp only [pS]
  repeat (refine wpq fun K h=>?_;go_big_quiet_op;refine h _ ?_;clear h K)
  refine wps he0.out rfl rfl (fun w1 hW hG=>?_) fun x75=>?_
  ·exact spc [.slice pa qn pc,IvV (⟨ln,la,ll,lc,lb,lm,ld⟩,⟨hn,ha,hl,hc,hb,hm,hd⟩)] Tryz.func48 (HRa.out _ (LPc.out.ext hW) (HL.out.ext hW) (HH.out.ext hW))
  simp only [pS]
  repeat (refine wpq fun K h=>?_;go_big_quiet_op;refine h _ ?_;clear h K)
  refine wps he0.out rfl rfl (fun w1 hW hG=>?_) fun x76=>?_
  ·have g75:=(hG 30 (by decide):Since _ _).get fun _ e g=>g.ext e
   exact spc [IvV (⟨un,ua,ul,uc,ub,um,ud⟩,⟨vn,va,vl,vc,vb,vm,vd⟩),IvV x75] Tryz.func53 ((by have h:=ivin4_big ⟨un,ua,ul,uc,ub,um,ud⟩ ⟨vn,va,vl,vc,vb,vm,vd⟩ x75.1 x75.2 _ _ _ _ 6853 _ ((HU.out.ext hW).raw ZR1.out.1 (by decide)) ((HV.out.ext hW).raw ZR1.out.2 (by decide)) (g75.1.raw ZR0.out.1 (by decide)) (g75.2.raw ZR0.out.2 (by decide)) ZR0.out.1 ZR0.out.2 (by decide);rw [(HRB.out.1 0).1,(HRB.out.1 0).2,(HRB.out.2.2 0).1,(HRB.out.2.2 0).2] at h;exact h))
  simp only [pS]
  repeat (refine wpq fun K h=>?_;go_big_quiet_op;refine h _ ?_;clear h K)
  refine wpF_nil ?_
  intro w60 hI
  have hE:=he0.out.trans hI.ext
  have G71:=Hi ((hI.facts 12:Since _ _).get fun _ e g=>g.ext e)
  have G75:=Hi ((hI.facts 30:Since _ _).get fun _ e g=>g.ext e)
  clear hI he0 hz0 hc0 hf0
  replace HX:=hE.tr HX
  replace HL:=Hi (HL.out.ext hE)
  replace HH:=Hi (HH.out.ext hE)
  replace B10:=hE.bl B10
  replace A36:=hE.bl A36
  replace HY:=Hi (HY.out.ext hE)
  replace LPc:=Hi (LPc.out.ext hE)
  replace HU:=Hi (HU.out.ext hE)
  replace HV:=Hi (HV.out.ext hE)
  replace B12:=hE.bl B12
  replace HU2:=Hi (HU2.out.ext hE)
  replace HV2:=Hi (HV2.out.ext hE)
  replace B14:=hE.bl B14
  replace LC:=Hi (LC.out.ext hE)
  replace G60:=Hi (G60.out.ext hE)
  replace G62:=Hi (G62.out.ext hE)
  have hs_w60:=hE.size
  clear hE
  try clear c_B10 f_B10 l_B10
  obtain ⟨c_B10,f_B10,l_B10⟩:=blk3 B10.out
  try clear c_A36 f_A36 l_A36
  obtain ⟨c_A36,f_A36,l_A36⟩:=blk3 A36.out
  try clear c_B12 f_B12 l_B12
  obtain ⟨c_B12,f_B12,l_B12⟩:=blk3 B12.out
  try clear c_B14 f_B14 l_B14
  obtain ⟨c_B14,f_B14,l_B14⟩:=blk3 B14.out
  simp only [pD]
  go_wp2
  go_ret
  exact ⟨(),rfl,HX.out,trivial⟩
end Go.Proofs.YtpieblkklbilgaaGreat
