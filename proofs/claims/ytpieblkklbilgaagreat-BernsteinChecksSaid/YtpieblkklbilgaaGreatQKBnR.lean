/- Package bernstein: Range, Coefficients. -/
import Derived.Test.YtpieblkklbilgaaGreatQKBn9
set_option linter.unusedVariables false
set_option maxRecDepth 8000
set_option maxHeartbeats 8000000
namespace Go.Proofs.YtpieblkklbilgaaGreat
open Go.RowKit Go.Front Go.Num Stab
attribute [local go_sem] XW.cell XW.frozen
theorem lc_nil (a b:Rat):lcW [] a b=[]∧((1:Int):Rat) / lcK [] a b=1:=by
 refine ⟨rfl,?_⟩
 have:lcK [] a b=1:=by
  unfold lcK
  show (1:Rat) * grV a b ^ 0 * ((1:Nat):Rat)=1
  rw [Rat.pow_zero]
  decide +kernel
 rw [this]
 decide +kernel
theorem Does.imp {f:FuncId} {args:List Value} {w:World} {α:Type} {mk:α→Value} {φ ψ:α→World→Prop} (h:Does f args w mk φ) (hi:∀ x w',φ x w'→ψ x w'):Does f args w mk ψ:=h.weak (fun x w' _ hx=>hi x w' hx)
theorem blocal_all (ao:Option Addr) (n cap:Nat) (l:List Rat) (s t:RH) (a b:Rat) (S T:Nat) (w:World) (h:RawL w ⟨ao,n,cap⟩ l) (hs:RawR w s a) (ht:RawR w t b) (hn:n≤1000) (h8:(tz l).length≤8) (hz:SzL S (tz l)) (za:Sz T a) (zb:Sz T b) (hS:S≤1000) (hT:T≤450) :
  Does 93 [.slice ao n cap,IvV (s,t)] w LT (fun x w'=>NewL w.heap.size w' x.1 (lcW (tz l) (loV a b) (hiV a b))∧CanR w' x.2 (((1:Int):Rat) / lcK (tz l) (loV a b) (hiV a b))):=by
 by_cases h0:tz l=[]
 ·refine (blocal_nil ao n cap l s t a b w h hs ht hn h0).imp (fun x w' hx=>?_)
  obtain ⟨h1,h2⟩:=hx
  obtain ⟨x1,x2⟩:=x
  simp only at h1 h2
  subst h1
  rw [h0,(lc_nil _ _).1,(lc_nil _ _).2]
  exact ⟨NewL.nil _ _,h2⟩
 ·exact (blocal_any ao n cap l s t a b S T w h hs ht hn h0 h8 hz za zb hS hT).imp (fun x w' hx=>⟨hx.1.new (by rw [lc_len];omega),hx.2⟩)
theorem lcK_inv_sz {p:List Rat} {a b:Rat} {S T:Nat} (hp:SzL S p) (h8:p.length≤8) (za:Sz T a) (zb:Sz T b):Sz (8 * S+32 * T+40) (((1:Int):Rat) / lcK p a b):=by
 obtain ⟨g1,g2,g3⟩:=lc_gr za zb
 have h1:=(lc_p hp h8 g1).1
 have h2:Wz (32 * T+25) (grV a b ^ (p.length - 1)):=(g1.pow (p.length - 1)).mono (by have:=Nat.mul_le_mul_right (4 * T+3) (show p.length - 1≤8 by omega);omega)
 have h3:Wz (8 * S+32 * T+27) (lcK p a b):=by
  unfold lcK
  exact ((h1.mul h2).mul (fc_wz (by omega))).mono (by omega)
 exact ((Sz.int (z:=1) (by decide)).div (h3.sz (by omega))).mono (by omega)
def rgV (p:List Rat) (a b:Rat):Rat × Rat:=(mnL (lcW p a b) * (((1:Int):Rat) / lcK p a b),mxL (lcW p a b) * (((1:Int):Rat) / lcK p a b))
theorem mL_sz {l:List Rat} {S:Nat} (h:SzL S l) (hS:1≤S):Sz S (mnL l)∧Sz S (mxL l):=by
 by_cases h0:l=[]
 ·subst h0;exact ⟨Sz.zero hS,Sz.zero hS⟩
 ·have:=mnL_mem h0
  exact ⟨h _ this.1,h _ this.2⟩
theorem brange_any (ao:Option Addr) (n cap:Nat) (l:List Rat) (s t:RH) (a b:Rat) (S T:Nat) (w:World) (h:RawL w ⟨ao,n,cap⟩ l) (hs:RawR w s a) (ht:RawR w t b) (hn:n≤1000) (h8:(tz l).length≤8) (hz:SzL S (tz l)) (za:Sz T a) (zb:Sz T b) (hS:S≤1000) (hT:T≤450) :
  Does 48 [.slice ao n cap,IvV (s,t)] w IvV (fun x w'=>IvC w' x (rgV (tz l) (loV a b) (hiV a b)).1 (rgV (tz l) (loV a b) (hiV a b)).2):=by
 have HX:=Hi (Ext.refl w)
 have HS:=Hi hs
 have HT:=Hi ht
 have LA:=Hi h
 have hAB:=lo_hi a b
 have ZA:=Hi za
 have ZB:=Hi zb
 have ZA':Sz T (loV a b):=by rcases lo_or a b with e | e <;> rw [e] <;> assumption
 have ZB':Sz T (hiV a b):=by rcases hi_or a b with e | e <;> rw [e] <;> assumption
 have HZ:=Hi hz
 have HWZ:Hid (SzL (9 * S+80 * T+76) (lcW (tz l) (loV a b) (hiV a b))):=Hi (fun x hx=>(lcW_wz hz h8 ZA' ZB' hAB x hx).sz (by omega))
 have HKZ:=Hi (lcK_inv_sz hz h8 ZA' ZB')
 have HMZ:=Hi (mL_sz HWZ.out (by omega))
 clear h hs ht za zb hz ZA' ZB' hAB
 obtain ⟨sn,sa,sl,sc,sb,sm,sd⟩:=s
 obtain ⟨tn,ta,tl,tc,tb,tm,td⟩:=t
 unfold Does
 go_enter Tryz.func48,Tryz.ntmps48
 go_upto_region 1 with fail
 refine nm_alloc2 ?_
 intro w1 hE hB0 hB1 hz
 have hz_w1:=nle hz
 have hr_w1:=nle hz.symm
 clear hz
 replace HX:=hE.tr HX
 replace HS:=Hi (HS.out.ext hE)
 replace HT:=Hi (HT.out.ext hE)
 replace LA:=Hi (LA.out.ext hE)
 have hs_w1:=hE.size
 clear hE
 have B3:=Hi hB0
 clear hB0
 obtain ⟨c_B3,f_B3,l_B3⟩:=blk3 B3.out
 have B4:=Hi hB1
 clear hB1
 obtain ⟨c_B4,f_B4,l_B4⟩:=blk3 B4.out
 go_wp2_with fail
 refine Calls.mono (blocal_all ao n cap l ⟨sn,sa,sl,sc,sb,sm,sd⟩ ⟨tn,ta,tl,tc,tb,tm,td⟩ a b S T _ LA.out HS.out HT.out hn h8 HZ.out ZA.out ZB.out hS hT) ?_
 rintro e w12 ⟨x12,rfl,hE,g12⟩
 have G12:=Hi g12
 clear g12
 replace HX:=hE.tr HX
 replace HS:=Hi (HS.out.ext hE)
 replace HT:=Hi (HT.out.ext hE)
 replace LA:=Hi (LA.out.ext hE)
 replace B3:=hE.bl B3
 replace B4:=hE.bl B4
 have hs_w12:=hE.size
 clear hE
 try clear c_B3 f_B3 l_B3
 obtain ⟨c_B3,f_B3,l_B3⟩:=blk3 B3.out
 try clear c_B4 f_B4 l_B4
 obtain ⟨c_B4,f_B4,l_B4⟩:=blk3 B4.out
 obtain ⟨⟨xa,xn,xc⟩,⟨zn,za,zl,zc,zb,zm,zd⟩⟩:=x12
 have HW:=Hi G12.out.1
 have HK:=Hi G12.out.2
 have HWl:=Hi G12.out.1.len
 clear G12
 simp only at HW HK HWl
 have hxn:xn≤8:=by have:=HWl.out;rw [lc_len] at this;omega
 clear LA
 clear HS
 clear HT
 go_upto_region 2 with fail
 refine nm_alloc ?_
 intro w13 hE hB0 hz
 have hz_w13:=nle hz
 have hr_w13:=nle hz.symm
 clear hz
 replace HX:=hE.tr HX
 replace B3:=hE.bl B3
 replace B4:=hE.bl B4
 replace HW:=Hi (HW.out.ext hE)
 replace HK:=Hi (HK.out.ext hE)
 have hs_w13:=hE.size
 clear hE
 try clear c_B3 f_B3 l_B3
 obtain ⟨c_B3,f_B3,l_B3⟩:=blk3 B3.out
 try clear c_B4 f_B4 l_B4
 obtain ⟨c_B4,f_B4,l_B4⟩:=blk3 B4.out
 have B6:=Hi hB0
 clear hB0
 obtain ⟨c_B6,f_B6,l_B6⟩:=blk3 B6.out
 go_wp2_with fail
 refine Calls.mono (bext_any xa xn xc _ (9 * S+80 * T+76) _ HW.out.can (by omega) HWZ.out (by omega)) ?_
 rintro e w17 ⟨x17,rfl,hE,g17⟩
 have G17:=Hi g17
 clear g17
 replace HX:=hE.tr HX
 replace B3:=hE.bl B3
 replace B4:=hE.bl B4
 replace HW:=Hi (HW.out.ext hE)
 replace HK:=Hi (HK.out.ext hE)
 replace B6:=hE.bl B6
 have hs_w17:=hE.size
 clear hE
 try clear c_B3 f_B3 l_B3
 obtain ⟨c_B3,f_B3,l_B3⟩:=blk3 B3.out
 try clear c_B4 f_B4 l_B4
 obtain ⟨c_B4,f_B4,l_B4⟩:=blk3 B4.out
 try clear c_B6 f_B6 l_B6
 obtain ⟨c_B6,f_B6,l_B6⟩:=blk3 B6.out
 obtain ⟨⟨ln,la,ll,lc,lb,lm,ld⟩,⟨hn',ha,hl,hcc,hb,hm,hd⟩⟩:=x17
 have HL:=Hi G17.out.1
 have HH:=Hi G17.out.2
 clear G17
 simp only at HL HH
 go_upto_region 3 with fail
 refine nm_alloc2 ?_
 intro w18 hE hB0 hB1 hz
 have hz_w18:=nle hz
 have hr_w18:=nle hz.symm
 clear hz
 replace HX:=hE.tr HX
 replace B3:=hE.bl B3
 replace B4:=hE.bl B4
 replace HW:=Hi (HW.out.ext hE)
 replace HK:=Hi (HK.out.ext hE)
 replace B6:=hE.bl B6
 replace HL:=Hi (HL.out.ext hE)
 replace HH:=Hi (HH.out.ext hE)
 have hs_w18:=hE.size
 clear hE
 try clear c_B3 f_B3 l_B3
 obtain ⟨c_B3,f_B3,l_B3⟩:=blk3 B3.out
 try clear c_B4 f_B4 l_B4
 obtain ⟨c_B4,f_B4,l_B4⟩:=blk3 B4.out
 try clear c_B6 f_B6 l_B6
 obtain ⟨c_B6,f_B6,l_B6⟩:=blk3 B6.out
 have B7:=Hi hB0
 clear hB0
 obtain ⟨c_B7,f_B7,l_B7⟩:=blk3 B7.out
 have B8:=Hi hB1
 clear hB1
 obtain ⟨c_B8,f_B8,l_B8⟩:=blk3 B8.out
 refine wp_region_front 6 (fun opIx=>match opIx with
  | 2=>.spec RH default RH.v (fun s w'=>CanR w' s (mnL (lcW (tz l) (loV a b) (hiV a b)) * (((1:Int):Rat) / lcK (tz l) (loV a b) (hiV a b))))
  | 5=>.spec RH default RH.v (fun s w'=>CanR w' s (mxL (lcW (tz l) (loV a b) (hiV a b)) * (((1:Int):Rat) / lcK (tz l) (loV a b) (hiV a b))))
  | _=>.quiet) (fun _=>[]) (by kernel_rfl) (by kernel_rfl) (fun w0 he0 hz0 hc0 hf0=>?_)
 replace he0:=Hi he0
 simp only [pT]
 repeat (refine wpq fun K h=>?_;go_big_quiet_op;refine h _ ?_;clear h K)
 refine wps he0.out rfl rfl (fun w1 hW hG=>?_) fun x30=>?_
 ·exact spc [RH.v ⟨ln,la,ll,lc,lb,lm,ld⟩,RH.v ⟨zn,za,zl,zc,zb,zm,zd⟩] Tryz.func114 (rmul_any _ _ _ _ _ ((HL.out.ext hW).raw HMZ.out.1 (by omega)) ((HK.out.ext hW).raw HKZ.out (by omega)))
 simp only [pS]
 repeat (refine wpq fun K h=>?_;go_big_quiet_op;refine h _ ?_;clear h K)
 refine wps he0.out rfl rfl (fun w1 hW hG=>?_) fun x31=>?_
 ·exact spc [RH.v ⟨hn',ha,hl,hcc,hb,hm,hd⟩,RH.v ⟨zn,za,zl,zc,zb,zm,zd⟩] Tryz.func114 (rmul_any _ _ _ _ _ ((HH.out.ext hW).raw HMZ.out.2 (by omega)) ((HK.out.ext hW).raw HKZ.out (by omega)))
 simp only [pS]
 repeat (refine wpq fun K h=>?_;go_big_quiet_op;refine h _ ?_;clear h K)
 refine wpF_nil ?_
 intro w20 hI
 have hE:=he0.out.trans hI.ext
 have G30:=Hi ((hI.facts 2:Since _ _).get fun _ e g=>g.ext e)
 have G31:=Hi ((hI.facts 5:Since _ _).get fun _ e g=>g.ext e)
 clear hI he0 hz0 hc0 hf0
 replace HX:=hE.tr HX
 replace B3:=hE.bl B3
 replace B4:=hE.bl B4
 replace HW:=Hi (HW.out.ext hE)
 replace HK:=Hi (HK.out.ext hE)
 replace B6:=hE.bl B6
 replace HL:=Hi (HL.out.ext hE)
 replace HH:=Hi (HH.out.ext hE)
 replace B7:=hE.bl B7
 replace B8:=hE.bl B8
 have hs_w20:=hE.size
 clear hE
 try clear c_B3 f_B3 l_B3
 obtain ⟨c_B3,f_B3,l_B3⟩:=blk3 B3.out
 try clear c_B4 f_B4 l_B4
 obtain ⟨c_B4,f_B4,l_B4⟩:=blk3 B4.out
 try clear c_B6 f_B6 l_B6
 obtain ⟨c_B6,f_B6,l_B6⟩:=blk3 B6.out
 try clear c_B7 f_B7 l_B7
 obtain ⟨c_B7,f_B7,l_B7⟩:=blk3 B7.out
 try clear c_B8 f_B8 l_B8
 obtain ⟨c_B8,f_B8,l_B8⟩:=blk3 B8.out
 simp only [pD]
 go_wp2
 refine nm_set6 B4.out rfl ?_
 intro w30 T
 replace HX:=Hi (T.ext HX.out (by omega))
 replace B3:=Hi (T.rest _ _ (by omega) B3.out)
 replace B4:=Hi (T.bx)
 replace HW:=Hi (HW.out.put T (by omega))
 replace HK:=Hi (HK.out.keep T.keep)
 replace B6:=Hi (T.rest _ _ (by omega) B6.out)
 replace HL:=Hi (HL.out.keep T.keep)
 replace HH:=Hi (HH.out.keep T.keep)
 replace B7:=Hi (T.rest _ _ (by omega) B7.out)
 replace B8:=Hi (T.rest _ _ (by omega) B8.out)
 replace G30:=Hi (G30.out.keep T.keep)
 replace G31:=Hi (G31.out.keep T.keep)
 have hs_w30:=nle T.size
 have hr_w30:=nle T.size.symm
 clear T
 try clear c_B3 f_B3 l_B3
 obtain ⟨c_B3,f_B3,l_B3⟩:=blk3 B3.out
 try clear c_B4 f_B4 l_B4
 obtain ⟨c_B4,f_B4,l_B4⟩:=blk3 B4.out
 try clear c_B6 f_B6 l_B6
 obtain ⟨c_B6,f_B6,l_B6⟩:=blk3 B6.out
 try clear c_B7 f_B7 l_B7
 obtain ⟨c_B7,f_B7,l_B7⟩:=blk3 B7.out
 try clear c_B8 f_B8 l_B8
 obtain ⟨c_B8,f_B8,l_B8⟩:=blk3 B8.out
 exact bodyPost_ret (v:=IvV (x30,x31)) (by simp [results,Tryz.results48,go_sem,c_B4]) rfl ⟨(x30,x31),rfl,HX.out,G30.out,G31.out⟩
def cfV (p:List Rat) (a b:Rat):List Rat:=(lcW p a b).map (· * (((1:Int):Rat) / lcK p a b))
theorem bcoef_any (ao:Option Addr) (n cap:Nat) (l:List Rat) (s t:RH) (a b:Rat) (S T:Nat) (w:World) (h:RawL w ⟨ao,n,cap⟩ l) (hs:RawR w s a) (ht:RawR w t b) (hn:n≤1000) (h0:tz l ≠ []) (h8:(tz l).length≤8) (hz:SzL S (tz l)) (za:Sz T a) (zb:Sz T b) (hS:S≤1000) (hT:T≤450) :
  Does 46 [.slice ao n cap,IvV (s,t)] w SH.v (fun x w'=>NewL w.heap.size w' x (cfV (tz l) (loV a b) (hiV a b))):=by
 have HX:=Hi (Ext.refl w)
 have HS:=Hi hs
 have HT:=Hi ht
 have LA:=Hi h
 have hAB:=lo_hi a b
 have ZA:=Hi za
 have ZB:=Hi zb
 have ZA':Sz T (loV a b):=by rcases lo_or a b with e | e <;> rw [e] <;> assumption
 have ZB':Sz T (hiV a b):=by rcases hi_or a b with e | e <;> rw [e] <;> assumption
 have HZ:=Hi hz
 have HWZ:Hid (SzL (9 * S+80 * T+76) (lcW (tz l) (loV a b) (hiV a b))):=Hi (fun x hx=>(lcW_wz hz h8 ZA' ZB' hAB x hx).sz (by omega))
 have HKZ:=Hi (lcK_inv_sz hz h8 ZA' ZB')
 have H0:=Hi h0
 have HCF:Hid (cfV (tz l) (loV a b) (hiV a b)=(lcW (tz l) (loV a b) (hiV a b)).map (· * (((1:Int):Rat) / lcK (tz l) (loV a b) (hiV a b)))):=Hi rfl
 have HLN:=Hi (lc_len (tz l) (loV a b) (hiV a b))
 clear h hs ht za zb hz ZA' ZB' hAB h0
 obtain ⟨sn,sa,sl,sc,sb,sm,sd⟩:=s
 obtain ⟨tn,ta,tl,tc,tb,tm,td⟩:=t
 obtain ⟨N,hN⟩:∃ N,N=(tz l).length:=⟨_,rfl⟩
 have HN:=Hi hN
 have hN8:N≤8:=by omega
 unfold Does
 go_enter Tryz.func46,Tryz.ntmps46
 go_upto_region 1 with fail
 refine nm_alloc ?_
 intro w1 hE hB0 hz
 have hz_w1:=nle hz
 have hr_w1:=nle hz.symm
 clear hz
 replace HX:=hE.tr HX
 replace HS:=Hi (HS.out.ext hE)
 replace HT:=Hi (HT.out.ext hE)
 replace LA:=Hi (LA.out.ext hE)
 have hs_w1:=hE.size
 clear hE
 have B3:=Hi hB0
 clear hB0
 obtain ⟨c_B3,f_B3,l_B3⟩:=blk3 B3.out
 go_wp2_with fail
 refine Calls.mono (blocal_any ao n cap l ⟨sn,sa,sl,sc,sb,sm,sd⟩ ⟨tn,ta,tl,tc,tb,tm,td⟩ a b S T _ LA.out HS.out HT.out hn H0.out h8 HZ.out ZA.out ZB.out hS hT) ?_
 rintro e w12 ⟨x12,rfl,hE,g12⟩
 have G12:=Hi g12
 clear g12
 replace HX:=hE.tr HX
 replace HS:=Hi (HS.out.ext hE)
 replace HT:=Hi (HT.out.ext hE)
 replace LA:=Hi (LA.out.ext hE)
 replace B3:=hE.bl B3
 have hs_w12:=hE.size
 clear hE
 try clear c_B3 f_B3 l_B3
 obtain ⟨c_B3,f_B3,l_B3⟩:=blk3 B3.out
 obtain ⟨⟨xa,xn,xc⟩,⟨zn,za,zl,zc,zb,zm,zd⟩⟩:=x12
 obtain ⟨⟨L,hLw,hxw,hRw⟩,hk12⟩:=G12.out
 simp only at hxw hk12
 obtain ⟨os,hos⟩:∃ os,os=lcW (tz l) (loV a b) (hiV a b):=⟨_,rfl⟩
 obtain ⟨q,hq⟩:∃ q,q=((1:Int):Rat) / lcK (tz l) (loV a b) (hiV a b):=⟨_,rfl⟩
 rw [← hos] at hxw hRw HWZ HCF HLN
 rw [← hq] at hk12 HKZ HCF
 rw [HLN.out,← hN] at hxw
 obtain ⟨e1,e2,e3⟩:xa=some ⟨L,0,none⟩∧xn=N∧xc=N:=by simpa using hxw
 have e2':=e2.symm
 have e3':=e3.symm
 subst e1
 clear e2 e3
 subst e2' e3'
 have HR0:=Hi hRw
 have HK:=Hi hk12
 have hLlt:L < w12.heap.size:=RowC.lt hRw
 have hLw':w1.heap.size≤L:=hLw
 have HOL:Hid (os.length=N):=Hi (by rw [HLN.out,hN])
 clear G12 hos hq hxw hRw hk12 hN
 clear LA
 clear HS
 clear HT
 go_upto_region 2 with fail
 refine nm_alloc ?_
 intro w13 hE hB0 hz
 have hz_w13:=nle hz
 have hr_w13:=nle hz.symm
 clear hz
 replace HX:=hE.tr HX
 replace B3:=hE.bl B3
 replace HR0:=Hi (HR0.out.ext hE)
 replace HK:=Hi (HK.out.ext hE)
 have hs_w13:=hE.size
 clear hE
 try clear c_B3 f_B3 l_B3
 obtain ⟨c_B3,f_B3,l_B3⟩:=blk3 B3.out
 have B6:=Hi hB0
 clear hB0
 obtain ⟨c_B6,f_B6,l_B6⟩:=blk3 B6.out
 simp only [SH.v]
 obtain ⟨b6,hb6⟩:∃ b,b=w12.heap.size:=⟨_,rfl⟩
 have q6:w.heap.size≤b6:=by omega
 have n6:L < b6:=by omega
 rw [← hb6] at B6 ⊢
 have HR:Hid (RowC w13 L (mulR os 0 q)):=Hi (by simpa [mulR] using HR0.out)
 clear hb6 HR0 c_B3 f_B3 l_B3 B3 c_B6 f_B6 l_B6
 go_wp2
 go_loopg [17] N (fun g v wr=>∃ (i:Nat),i+g=N∧v=.int .i64 (i:Nat)∧Ext w wr∧CanR wr ⟨zn,za,zl,zc,zb,zm,zd⟩ q∧wr.heap[b6]?=some (.cells #[.bool zn,.slice za zl zc,.slice zb zm zd] 30 (0,0))∧RowC wr L (mulR os i q))
 case atStart=>exact ⟨0,by omega,rfl,HX.out,HK.out,B6.out,HR.out⟩
 case round =>
  obtain ⟨i,hi,rfl,g1,g2,g3,g4⟩:=hrel
  clear HX HK B6 HR
  have HX:=Hi g1
  have HK:=Hi g2
  have B6:=Hi g3
  have HR:=Hi g4
  clear g1 g2 g3 g4
  try clear c_B6 f_B6 l_B6
  obtain ⟨c_B6,f_B6,l_B6⟩:=blk3 B6.out
  by_cases h0:gk=0
  case neg =>
   have hin:(i:Int) < N:=by omega
   have HL:Hid ((mulR os i q).length=os.length):=Hi (by unfold mulR;have:=HOL.out;rw [List.length_append,List.length_map,List.length_take,List.length_drop];omega)
   have HV:Hid ((mulR os i q).getD i 0=os.getD i 0):=Hi (by
    unfold mulR
    have:=HOL.out
    have h1:((os.take i).map (· * q)).length=i:=by rw [List.length_map,List.length_take];omega
    rw [List.getD_eq_getElem?_getD,List.getElem?_append_right (by omega),h1,Nat.sub_self,List.getElem?_drop,Nat.add_zero,← List.getD_eq_getElem?_getD])
   obtain ⟨r,⟨f1,f2,f3⟩,hrc⟩:=RowC.cells HR.out (k:=i) (by rw [HL.out,HOL.out];omega)
   rw [HV.out] at hrc
   have HRC:=Hi hrc
   clear hrc
   have hfz:=RowC.frozen HR.out
   have hLl:=RowC.lt HR.out
   have Zi:Hid (Sz (9 * S+80 * T+76) (os.getD i 0)):=Hi (HWZ.out.at (by rw [HOL.out];omega))
   obtain ⟨rn,ra,rl,rc,rb,rm,rd⟩:=r
   simp only at f1 f2 f3
   go_upto_region 5 with fail
   clear f1 f2 f3 hfz hLl
   have hLr:L < wr.heap.size:=RowC.lt HR.out
   refine nm_alloc ?_
   intro w20 hE hB0 hz
   have hz_w20:=nle hz
   have hr_w20:=nle hz.symm
   clear hz
   replace HX:=hE.tr HX
   replace HK:=Hi (HK.out.ext hE)
   replace B6:=hE.bl B6
   replace HR:=Hi (HR.out.ext hE)
   replace HRC:=Hi (HRC.out.ext hE)
   have hs_w20:=hE.size
   clear hE
   try clear c_B6 f_B6 l_B6
   obtain ⟨c_B6,f_B6,l_B6⟩:=blk3 B6.out
   have B8:=Hi hB0
   clear hB0
   obtain ⟨c_B8,f_B8,l_B8⟩:=blk3 B8.out
   go_wp2_with fail
   refine Calls.mono (rmul_any ⟨rn,ra,rl,rc,rb,rm,rd⟩ ⟨zn,za,zl,zc,zb,zm,zd⟩ _ _ _ (HRC.out.raw Zi.out (by omega)) (HK.out.raw HKZ.out (by omega))) ?_
   rintro e w26 ⟨x26,rfl,hE,g26⟩
   have G26:=Hi g26
   clear g26
   replace HX:=hE.tr HX
   replace HK:=Hi (HK.out.ext hE)
   replace B6:=hE.bl B6
   replace HR:=Hi (HR.out.ext hE)
   replace HRC:=Hi (HRC.out.ext hE)
   replace B8:=hE.bl B8
   have hs_w26:=hE.size
   clear hE
   try clear c_B6 f_B6 l_B6
   obtain ⟨c_B6,f_B6,l_B6⟩:=blk3 B6.out
   try clear c_B8 f_B8 l_B8
   obtain ⟨c_B8,f_B8,l_B8⟩:=blk3 B8.out
   obtain ⟨r2,⟨f1,f2,f3⟩,-⟩:=RowC.cells HR.out (k:=i) (by rw [HL.out,HOL.out];omega)
   have hfz:=RowC.frozen HR.out
   have hLl:=RowC.lt HR.out
   go_upto_region 6 with fail
   refine nm_row (k:=i) HR.out (by rw [HL.out,HOL.out];omega) G26.out ?_
   rintro y6 ⟨cs,T⟩ TN
   rw [mul_step (by rw [HOL.out];omega)] at TN
   clear f1 f2 f3 hfz hLl HL HV
   clear HR
   replace HX:=Hi (T.ext HX.out (by omega))
   replace HK:=Hi (HK.out.keep T.keep)
   replace B6:=Hi (T.rest _ _ (by omega) B6.out)
   replace HRC:=Hi (HRC.out.keep T.keep)
   replace B8:=Hi (T.rest _ _ (by omega) B8.out)
   replace G26:=Hi (G26.out.keep T.keep)
   have hs_y6:=nle T.size
   have hr_y6:=nle T.size.symm
   clear T
   try clear c_B6 f_B6 l_B6
   obtain ⟨c_B6,f_B6,l_B6⟩:=blk3 B6.out
   try clear c_B8 f_B8 l_B8
   obtain ⟨c_B8,f_B8,l_B8⟩:=blk3 B8.out
   have HR:=Hi TN
   clear TN
   go_wp2
   go_roundg (gk - 1)
   case measure=>omega
   case rel=>exact ⟨i+1,by omega,by go_num,HX.out,HK.out,B6.out,HR.out⟩
  subst h0
  obtain rfl:i=N:=by omega
  have hin:¬ (i:Int) < (i:Int):=by omega
  have HRF:Hid (RowC wr L (cfV (tz l) (loV a b) (hiV a b))):=Hi (by
   rw [HCF.out,show os.map (· * q)=mulR os i q by unfold mulR;rw [List.take_of_length_le (by rw [HOL.out];exact Nat.le_refl _),List.drop_eq_nil_of_le (by rw [HOL.out];exact Nat.le_refl _),List.append_nil]]
   exact HR.out)
  have HLC:Hid ((cfV (tz l) (loV a b) (hiV a b)).length=i):=Hi (by rw [HCF.out,List.length_map,HOL.out])
  go_wp2
  go_ret
  exact ⟨⟨some ⟨L,0,none⟩,i,i⟩,rfl,HX.out,NewRow.new ⟨L,by omega,by rw [HLC.out],HRF.out⟩ (by rw [HLC.out];omega)⟩
end Go.Proofs.YtpieblkklbilgaaGreat
