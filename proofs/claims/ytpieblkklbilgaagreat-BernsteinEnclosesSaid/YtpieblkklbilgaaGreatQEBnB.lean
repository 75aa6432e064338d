/- Package bernstein: Bound. -/
import Derived.Test.YtpieblkklbilgaaGreatQEBnA
import Derived.Test.YtpieblkklbilgaaGreatQEPow
import Derived.Laws.EntriesVeiled
set_option linter.unusedVariables false
namespace Go.Proofs.YtpieblkklbilgaaGreat
open Go.RowKit Go.Front Go.Num Stab
attribute [local go_sem] XW.cell XW.frozen
abbrev BdT (x:RH × RH):Value:=.tuple #[IvV x,.int .i64 0]
def scV (p:List Rat) (a b:Rat) (j:Nat):Rat:=((1:Int):Rat) / lcK p a b * (hf ^ (p.length - 1)) ^ j
theorem scV_step (p:List Rat) (a b:Rat) (j:Nat):scV p a b j * hf ^ (p.length - 1)=scV p a b (j+1):=by unfold scV;rw [Rat.pow_succ];grind
def bdV (d:Nat) (p:List Rat) (a b:Rat):Rat × Rat:=if p=[] then rgV p a b else (bmn d (lcW p a b) * scV p a b d,bmx d (lcW p a b) * scV p a b d)
theorem hf_sz {k:Nat} (h:k≤8):Sz 1 (hf ^ k):=by
 have:∀ k:Nat,k≤8→(hf ^ k).num.natAbs < W32∧(hf ^ k).den < W32:=by decide +kernel
 exact ⟨by rw [Nat.pow_one];exact (this k h).1,by rw [Nat.pow_one];exact (this k h).2⟩
theorem scV_sz {p:List Rat} {a b:Rat} {S T:Nat} (hp:SzL S p) (h8:p.length≤8) (za:Sz T a) (zb:Sz T b) (j:Nat):Sz (8 * S+32 * T+40+j) (scV p a b j):=by
 induction j with
 | zero =>
  unfold scV
  rw [Rat.pow_zero,Rat.mul_one]
  exact lcK_inv_sz hp h8 za zb
 | succ j ih =>
  rw [← scV_step]
  exact (ih.mul (hf_sz (by omega))).mono (by omega)
set_option maxRecDepth 8000 in
set_option maxHeartbeats 16000000 in
theorem bbound_any (ao:Option Addr) (n cap:Nat) (l:List Rat) (s t:RH) (a b:Rat) (d S T:Nat) (w:World) (h:RawL w ⟨ao,n,cap⟩ l) (hs:RawR w s a) (ht:RawR w t b) (hn:n≤1000) (h8:(tz l).length≤8) (hz:SzL S (tz l)) (za:Sz T a) (zb:Sz T b) (hS:S≤1000) (hT:T≤450) (hd:d≤12) :
  Does 42 [.slice ao n cap,IvV (s,t),.int .i64 (d:Nat)] w BdT (fun x w'=>IvC w' x (bdV d (tz l) (loV a b) (hiV a b)).1 (bdV d (tz l) (loV a b) (hiV a b)).2):=by
 have HX:=Hi (Ext.refl w)
 have HS:=Hi hs
 have HT:=Hi ht
 have LA:=Hi h
 have hAB:=lo_hi a b
 have ZA:=Hi za
 have ZB:=Hi zb
 have ZA':Sz T (loV a b):=by rcases lo_or a b with e | e <;> rw [e] <;> assumption
 have ZB':Sz T (hiV a b):=by rcases hi_or a b with e | e <;> rw [e] <;> assumption
 have HZ:=Hi hz
 have HWZ:=Hi (lcW_wz hz h8 ZA' ZB' hAB)
 have HSC:=Hi (scV_sz hz h8 ZA' ZB')
 have HLN:=Hi (lc_len (tz l) (loV a b) (hiV a b))
 clear h hs ht za zb hz ZA' ZB' hAB
 obtain ⟨sn,sa,sl,sc,sb,sm,sd⟩:=s
 obtain ⟨tn,ta,tl,tc,tb,tm,td⟩:=t
 obtain ⟨N,hN⟩:∃ N,N=(tz l).length:=⟨_,rfl⟩
 have HN:=Hi hN
 have hd0:¬ (d:Int) < 0:=by omega
 have hd1:¬ (12:Int) < (d:Int):=by omega
 unfold Does
 go_enter Tryz.func42,Tryz.ntmps42
 go_upto_region 1 with fail
 refine nm_alloc2 ?_
 intro w1 hE hB0 hB1 hz
 have hz_w1:=nle hz
 have hr_w1:=nle hz.symm
 clear hz
 replace HX:=hE.tr HX
 replace HS:=Hi (HS.out.ext hE)
 replace HT:=Hi (HT.out.ext hE)
 replace LA:=Hi (LA.out.ext hE)
 have hs_w1:=hE.size
 clear hE
 have B4:=Hi hB0
 clear hB0
 obtain ⟨c_B4,f_B4,l_B4⟩:=blk3 B4.out
 have B6:=Hi hB1
 clear hB1
 obtain ⟨c_B6,f_B6,l_B6⟩:=blk3 B6.out
 go_wp2_with fail
 refine Calls.mono (pdegree_any ao n cap l _ LA.out) ?_
 rintro e w25 ⟨x25,rfl,hE,-⟩
 replace HX:=hE.tr HX
 replace HS:=Hi (HS.out.ext hE)
 replace HT:=Hi (HT.out.ext hE)
 replace LA:=Hi (LA.out.ext hE)
 replace B4:=hE.bl B4
 replace B6:=hE.bl B6
 have hs_w25:=hE.size
 clear hE
 try clear c_B4 f_B4 l_B4
 obtain ⟨c_B4,f_B4,l_B4⟩:=blk3 B4.out
 try clear c_B6 f_B6 l_B6
 obtain ⟨c_B6,f_B6,l_B6⟩:=blk3 B6.out
 rw [← hN]
 have hN8:N≤8:=by omega
 clear hN
 have hg1:¬ (48:Int) < (N:Int) - 1:=by omega
 by_cases h0:N=0
 case pos =>
  subst h0
  have hg2:((0:Nat):Int) - 1 < 0:=by decide
  have HV:Hid (bdV d (tz l) (loV a b) (hiV a b)=rgV (tz l) (loV a b) (hiV a b)):=Hi (if_pos (List.length_eq_zero_iff.1 HN.out.symm))
  go_wp2_with fail
  refine Calls.mono (brange_any ao n cap l ⟨sn,sa,sl,sc,sb,sm,sd⟩ ⟨tn,ta,tl,tc,tb,tm,td⟩ a b S T _ LA.out HS.out HT.out hn h8 HZ.out ZA.out ZB.out hS hT) ?_
  rintro e w33 ⟨x33,rfl,hE,g33⟩
  have G33:=Hi g33
  clear g33
  replace HX:=hE.tr HX
  replace HS:=Hi (HS.out.ext hE)
  replace HT:=Hi (HT.out.ext hE)
  replace LA:=Hi (LA.out.ext hE)
  replace B4:=hE.bl B4
  replace B6:=hE.bl B6
  have hs_w33:=hE.size
  clear hE
  try clear c_B4 f_B4 l_B4
  obtain ⟨c_B4,f_B4,l_B4⟩:=blk3 B4.out
  try clear c_B6 f_B6 l_B6
  obtain ⟨c_B6,f_B6,l_B6⟩:=blk3 B6.out
  have HL:=Hi G33.out.1
  have HH:=Hi G33.out.2
  clear G33
  clear LA
  clear HS
  clear HT
  go_wp2
  refine nm_set6 B6.out rfl ?_
  intro w40 T
  replace HX:=Hi (T.ext HX.out (by omega))
  replace B4:=Hi (T.rest _ _ (by omega) B4.out)
  replace B6:=Hi (T.bx)
  replace HL:=Hi (HL.out.keep T.keep)
  replace HH:=Hi (HH.out.keep T.keep)
  have hs_w40:=nle T.size
  have hr_w40:=nle T.size.symm
  clear T
  try clear c_B4 f_B4 l_B4
  obtain ⟨c_B4,f_B4,l_B4⟩:=blk3 B4.out
  try clear c_B6 f_B6 l_B6
  obtain ⟨c_B6,f_B6,l_B6⟩:=blk3 B6.out
  exact bodyPost_ret (v:=BdT x33) (by simp [results,Tryz.results42,go_sem,BdT,blk_cell B6.out]) rfl ⟨x33,rfl,HX.out,by rw [HV.out];exact HL.out,by rw [HV.out];exact HH.out⟩
 have hg2:¬ (N:Int) - 1 < 0:=by omega
 have HP0:Hid (tz l ≠ []):=Hi (fun h=>h0 (by rw [HN.out,h];rfl))
 have HV:Hid (bdV d (tz l) (loV a b) (hiV a b)=(bmn d (lcW (tz l) (loV a b) (hiV a b)) * scV (tz l) (loV a b) (hiV a b) d,bmx d (lcW (tz l) (loV a b) (hiV a b)) * scV (tz l) (loV a b) (hiV a b) d)):=Hi (if_neg HP0.out)
 obtain ⟨N1,hN1⟩:∃ N1,N=N1+1:=⟨N - 1,by omega⟩
 have HN1:=Hi hN1
 have HSS:Hid (∀ j,scV (tz l) (loV a b) (hiV a b) j * hf ^ N1=scV (tz l) (loV a b) (hiV a b) (j+1)):=Hi (fun j=>by have:=scV_step (tz l) (loV a b) (hiV a b) j;rwa [← HN.out,hN1,Nat.add_sub_cancel] at this)
 clear hN1
 have HBZ:=Hi (bm_sz (d:=d) (l:=lcW (tz l) (loV a b) (hiV a b)) (S:=9 * S+80 * T+76) (by rw [HLN.out,← HN.out];omega) (by rw [HLN.out,← HN.out];omega) HWZ.out (by omega))
 have HMZ:=Hi (mL_sz (wz_sz HWZ.out (by omega)) (by omega))
 have HSC0:Hid (((1:Int):Rat) / lcK (tz l) (loV a b) (hiV a b)=scV (tz l) (loV a b) (hiV a b) 0):=Hi (by unfold scV;rw [Rat.pow_zero,Rat.mul_one])
 go_wp2_with fail
 refine Calls.mono (blocal_any ao n cap l ⟨sn,sa,sl,sc,sb,sm,sd⟩ ⟨tn,ta,tl,tc,tb,tm,td⟩ a b S T _ LA.out HS.out HT.out hn HP0.out h8 HZ.out ZA.out ZB.out hS hT) ?_
 rintro e w37 ⟨x37,rfl,hE,g37⟩
 have G37:=Hi g37
 clear g37
 replace HX:=hE.tr HX
 replace HS:=Hi (HS.out.ext hE)
 replace HT:=Hi (HT.out.ext hE)
 replace LA:=Hi (LA.out.ext hE)
 replace B4:=hE.bl B4
 replace B6:=hE.bl B6
 have hs_w37:=hE.size
 clear hE
 try clear c_B4 f_B4 l_B4
 obtain ⟨c_B4,f_B4,l_B4⟩:=blk3 B4.out
 try clear c_B6 f_B6 l_B6
 obtain ⟨c_B6,f_B6,l_B6⟩:=blk3 B6.out
 obtain ⟨⟨xa,xn,xc⟩,⟨zn,za,zl,zc,zb,zm,zd⟩⟩:=x37
 obtain ⟨⟨L,hLw,hxw,hRw⟩,hk⟩:=G37.out
 simp only at hxw hk
 obtain ⟨os,hos⟩:∃ os,os=lcW (tz l) (loV a b) (hiV a b):=⟨_,rfl⟩
 obtain ⟨sv,hsv⟩:∃ sv,sv=scV (tz l) (loV a b) (hiV a b):=⟨_,rfl⟩
 rw [HSC0.out,← hsv] at hk
 rw [← hos] at hxw hRw HWZ HLN HBZ HMZ HV
 rw [← hsv] at HSC HSS HV
 rw [HLN.out,← HN.out] at hxw
 obtain ⟨e1,e2,e3⟩:xa=some ⟨L,0,none⟩∧xn=N∧xc=N:=by simpa using hxw
 have e2':=e2.symm
 have e3':=e3.symm
 subst e1
 clear e2 e3
 subst e2' e3'
 have HR:=Hi hRw
 have hLlt:L < w37.heap.size:=RowC.lt hRw
 have GS:=Hi hk
 have HOL:Hid (os.length=N):=Hi (by rw [HLN.out,HN.out])
 clear G37 hLw hxw hRw hk
 clear LA
 clear HS
 clear HT
 go_upto_region 9 with fail
 simp only [SH.v]
 refine nm_alloc ?_
 intro w38 hE hB0 hz
 have hz_w38:=nle hz
 have hr_w38:=nle hz.symm
 clear hz
 replace HX:=hE.tr HX
 replace B4:=hE.bl B4
 replace B6:=hE.bl B6
 replace HR:=Hi (HR.out.ext hE)
 replace GS:=Hi (GS.out.ext hE)
 have hs_w38:=hE.size
 clear hE
 try clear c_B4 f_B4 l_B4
 obtain ⟨c_B4,f_B4,l_B4⟩:=blk3 B4.out
 try clear c_B6 f_B6 l_B6
 obtain ⟨c_B6,f_B6,l_B6⟩:=blk3 B6.out
 have B10:=Hi hB0
 clear hB0
 obtain ⟨c_B10,f_B10,l_B10⟩:=blk3 B10.out
 go_wp2_with fail
 refine Calls.mono (bext_any (some ⟨L,0,none⟩) N N os (9 * S+80 * T+76) _ (RowC.can HR.out HOL.out (Nat.le_refl _) (by omega)) (by omega) (wz_sz HWZ.out (by omega)) (by omega)) ?_
 rintro e w42 ⟨x42,rfl,hE,g42⟩
 have G42:=Hi g42
 clear g42
 replace HX:=hE.tr HX
 replace B4:=hE.bl B4
 replace B6:=hE.bl B6
 replace HR:=Hi (HR.out.ext hE)
 replace GS:=Hi (GS.out.ext hE)
 replace B10:=hE.bl B10
 have hs_w42:=hE.size
 clear hE
 try clear c_B4 f_B4 l_B4
 obtain ⟨c_B4,f_B4,l_B4⟩:=blk3 B4.out
 try clear c_B6 f_B6 l_B6
 obtain ⟨c_B6,f_B6,l_B6⟩:=blk3 B6.out
 try clear c_B10 f_B10 l_B10
 obtain ⟨c_B10,f_B10,l_B10⟩:=blk3 B10.out
 obtain ⟨⟨un,ua,ul,uc,ub,um,ud⟩,⟨vn,va,vl',vc,vb,vm,vd⟩⟩:=x42
 have HU:=Hi G42.out.1
 have HVV:=Hi G42.out.2
 clear G42
 simp only at HU HVV
 go_upto_region 10 with fail
 refine nm_alloc2 ?_
 intro w43 hE hB0 hB1 hz
 have hz_w43:=nle hz
 have hr_w43:=nle hz.symm
 clear hz
 replace HX:=hE.tr HX
 replace B4:=hE.bl B4
 replace B6:=hE.bl B6
 replace HR:=Hi (HR.out.ext hE)
 replace GS:=Hi (GS.out.ext hE)
 replace B10:=hE.bl B10
 replace HU:=Hi (HU.out.ext hE)
 replace HVV:=Hi (HVV.out.ext hE)
 have hs_w43:=hE.size
 clear hE
 try clear c_B4 f_B4 l_B4
 obtain ⟨c_B4,f_B4,l_B4⟩:=blk3 B4.out
 try clear c_B6 f_B6 l_B6
 obtain ⟨c_B6,f_B6,l_B6⟩:=blk3 B6.out
 try clear c_B10 f_B10 l_B10
 obtain ⟨c_B10,f_B10,l_B10⟩:=blk3 B10.out
 have B11:=Hi hB0
 clear hB0
 obtain ⟨c_B11,f_B11,l_B11⟩:=blk3 B11.out
 have B12:=Hi hB1
 clear hB1
 obtain ⟨c_B12,f_B12,l_B12⟩:=blk3 B12.out
 go_upto_region 12 with fail
 refine nm_alloc2 ?_
 intro w44 hE hB0 hB1 hz
 have hz_w44:=nle hz
 have hr_w44:=nle hz.symm
 clear hz
 replace HX:=hE.tr HX
 replace B4:=hE.bl B4
 replace B6:=hE.bl B6
 replace HR:=Hi (HR.out.ext hE)
 replace GS:=Hi (GS.out.ext hE)
 replace B10:=hE.bl B10
 replace HU:=Hi (HU.out.ext hE)
 replace HVV:=Hi (HVV.out.ext hE)
 replace B11:=hE.bl B11
 replace B12:=hE.bl B12
 have hs_w44:=hE.size
 clear hE
 try clear c_B4 f_B4 l_B4
 obtain ⟨c_B4,f_B4,l_B4⟩:=blk3 B4.out
 try clear c_B6 f_B6 l_B6
 obtain ⟨c_B6,f_B6,l_B6⟩:=blk3 B6.out
 try clear c_B10 f_B10 l_B10
 obtain ⟨c_B10,f_B10,l_B10⟩:=blk3 B10.out
 try clear c_B11 f_B11 l_B11
 obtain ⟨c_B11,f_B11,l_B11⟩:=blk3 B11.out
 try clear c_B12 f_B12 l_B12
 obtain ⟨c_B12,f_B12,l_B12⟩:=blk3 B12.out
 have B13:=Hi hB0
 clear hB0
 obtain ⟨c_B13,f_B13,l_B13⟩:=blk3 B13.out
 have B14:=Hi hB1
 clear hB1
 obtain ⟨c_B14,f_B14,l_B14⟩:=blk3 B14.out
 go_upto_region 13 with fail
 refine nm_set1 B14.out rfl ?_
 intro w45 T
 replace HX:=Hi (T.ext HX.out (by omega))
 replace B4:=Hi (T.rest _ _ (by omega) B4.out)
 replace B6:=Hi (T.rest _ _ (by omega) B6.out)
 replace HR:=Hi (HR.out.put T (by omega))
 replace GS:=Hi (GS.out.keep T.keep)
 replace B10:=Hi (T.rest _ _ (by omega) B10.out)
 replace HU:=Hi (HU.out.keep T.keep)
 replace HVV:=Hi (HVV.out.keep T.keep)
 replace B11:=Hi (T.rest _ _ (by omega) B11.out)
 replace B12:=Hi (T.rest _ _ (by omega) B12.out)
 replace B13:=Hi (T.rest _ _ (by omega) B13.out)
 replace B14:=Hi (T.bx)
 have hs_w45:=nle T.size
 have hr_w45:=nle T.size.symm
 clear T
 try clear c_B4 f_B4 l_B4
 obtain ⟨c_B4,f_B4,l_B4⟩:=blk3 B4.out
 try clear c_B6 f_B6 l_B6
 obtain ⟨c_B6,f_B6,l_B6⟩:=blk3 B6.out
 try clear c_B10 f_B10 l_B10
 obtain ⟨c_B10,f_B10,l_B10⟩:=blk3 B10.out
 try clear c_B11 f_B11 l_B11
 obtain ⟨c_B11,f_B11,l_B11⟩:=blk3 B11.out
 try clear c_B12 f_B12 l_B12
 obtain ⟨c_B12,f_B12,l_B12⟩:=blk3 B12.out
 try clear c_B13 f_B13 l_B13
 obtain ⟨c_B13,f_B13,l_B13⟩:=blk3 B13.out
 try clear c_B14 f_B14 l_B14
 obtain ⟨c_B14,f_B14,l_B14⟩:=blk3 B14.out
 obtain ⟨b6,hb6⟩:∃ b,b=w.heap.size+1:=⟨_,rfl⟩
 obtain ⟨b10,hb10⟩:∃ b,b=w37.heap.size:=⟨_,rfl⟩
 obtain ⟨bl,hbl⟩:∃ b,b=w42.heap.size:=⟨_,rfl⟩
 obtain ⟨bh,hbh⟩:∃ b,b=w42.heap.size+1:=⟨_,rfl⟩
 obtain ⟨bf,hbf⟩:∃ b,b=w43.heap.size:=⟨_,rfl⟩
 obtain ⟨bv,hbv⟩:∃ b,b=w43.heap.size+1:=⟨_,rfl⟩
 have hDs:Ds4 bv bf bl bh:=⟨by omega,by omega,by omega,by omega,by omega,by omega⟩
 have q6:w.heap.size≤b6:=by omega
 have q10:w.heap.size≤b10:=by omega
 have ql:w.heap.size≤bl:=by omega
 have qh:w.heap.size≤bh:=by omega
 have qf:w.heap.size≤bf:=by omega
 have qv:w.heap.size≤bv:=by omega
 have n610:b6 ≠ b10:=by omega
 have n6l:b6 ≠ bl:=by omega
 have n6h:b6 ≠ bh:=by omega
 have n6f:b6 ≠ bf:=by omega
 have n10l:b10 ≠ bl:=by omega
 have n10h:b10 ≠ bh:=by omega
 have n10f:b10 ≠ bf:=by omega
 have nlh:bl ≠ bh:=by omega
 rw [← hb6] at B6
 rw [← hb10] at B10
 rw [← hbl] at B11
 rw [← hbh] at B12
 rw [← hbf] at B13
 rw [← hbv,← hbh,← hbl,← hbf] at B14
 rw [← hb6,← hb10,← hbh,← hbl,← hbv,← hbf]
 have LB:=Hi (RowC.lt HR.out)
 have hL6:L ≠ bl:=by omega
 clear hb6 hb10 hbl hbh hbf hbv hos
 try clear c_B4 f_B4 l_B4
 obtain ⟨c_B4,f_B4,l_B4⟩:=blk3 B4.out
 try clear c_B6 f_B6 l_B6
 obtain ⟨c_B6,f_B6,l_B6⟩:=blk3 B6.out
 try clear c_B10 f_B10 l_B10
 obtain ⟨c_B10,f_B10,l_B10⟩:=blk3 B10.out
 try clear c_B11 f_B11 l_B11
 obtain ⟨c_B11,f_B11,l_B11⟩:=blk3 B11.out
 try clear c_B12 f_B12 l_B12
 obtain ⟨c_B12,f_B12,l_B12⟩:=blk3 B12.out
 try clear c_B13 f_B13 l_B13
 obtain ⟨c_B13,f_B13,l_B13⟩:=blk3 B13.out
 try clear c_B14 f_B14 l_B14
 obtain ⟨c_B14,f_B14,l_B14⟩:=blk3 B14.out
 have hVS:VsI w45 bv bf bl bh true ⟨un,ua,ul,uc,ub,um,ud⟩ ⟨vn,va,vl',vc,vb,vm,vd⟩ (mnL os) (mxL os):=⟨B14.out,B13.out,B11.out,B12.out,HU.out,HVV.out⟩
 go_wp2_with fail
 refine Calls.mono (visit_any bv bf bl bh N hDs (by omega) (by omega) d hd (some ⟨L,0,none⟩) N os (9 * S+80 * T+76) true _ _ _ _ _ (RowC.can HR.out HOL.out (Nat.le_refl _) (by omega)) HWZ.out (by omega) (by omega) hVS (HMZ.out.1.mono (by omega)) (HMZ.out.2.mono (by omega))) ?_
 rintro r5 w46 ⟨rfl,m1,k1,x1,y1,vs1⟩
 have hE46:∀ k,k ≠ bf→k ≠ bl→k ≠ bh→¬ (k=bf ∨ k=bl ∨ k=bh):=fun k h1 h2 h3 h=>h.elim h1 (fun h=>h.elim h2 h3)
 replace HX:=Hi (Ext.mods HX.out m1 (fun k h=>h.elim (fun h=>by omega) (fun h=>h.elim (fun h=>by omega) (fun h=>by omega))))
 replace B6:=Hi (m1.blk (hE46 _ (by omega) (by omega) (by omega)) B6.out)
 replace B10:=Hi (m1.blk (hE46 _ (by omega) (by omega) (by omega)) B10.out)
 replace GS:=Hi (GS.out.keep k1)
 have BL:=Hi vs1.2.2.1
 have BH:=Hi vs1.2.2.2.1
 have GL:=Hi vs1.2.2.2.2.1
 have GH:=Hi vs1.2.2.2.2.2
 rw [show vsN true (mnL os) (bmn d os)=bmn d os from rfl] at GL
 rw [show vsX true (mxL os) (bmx d os)=bmx d os from rfl] at GH
 have hsz46:=m1.size
 obtain ⟨x1n,x1a,x1l,x1c,x1b,x1m,x1d⟩:=x1
 obtain ⟨y1n,y1a,y1l,y1c,y1b,y1m,y1d⟩:=y1
 simp only at BL BH
 clear m1 k1 vs1 hVS hE46 HR HU HVV B11 B12 B13 B14 LB hL6 c_B6 f_B6 l_B6 c_B10 f_B10 l_B10 c_B11 f_B11 l_B11 c_B12 f_B12 l_B12 c_B13 f_B13 l_B13 c_B14 f_B14 l_B14 B4 c_B4 f_B4 l_B4
 try clear c_B6 f_B6 l_B6
 obtain ⟨c_B6,f_B6,l_B6⟩:=blk3 B6.out
 try clear c_B10 f_B10 l_B10
 obtain ⟨c_B10,f_B10,l_B10⟩:=blk3 B10.out
 try clear c_BL f_BL l_BL
 obtain ⟨c_BL,f_BL,l_BL⟩:=blk3 BL.out
 try clear c_BH f_BH l_BH
 obtain ⟨c_BH,f_BH,l_BH⟩:=blk3 BH.out
 go_wp2_with fail
 refine Calls.mono (rfrac_any 1 2 _ (by decide) (by decide) (by decide) (by decide) (by decide)) ?_
 rintro e w51 ⟨x51,rfl,hE,g51⟩
 have G51:=Hi g51
 clear g51
 replace HX:=hE.tr HX
 replace B6:=hE.bl B6
 replace B10:=hE.bl B10
 replace BL:=hE.bl BL
 replace BH:=hE.bl BH
 replace GS:=Hi (GS.out.ext hE)
 replace GL:=Hi (GL.out.ext hE)
 replace GH:=Hi (GH.out.ext hE)
 have hs_w51:=hE.size
 clear hE
 try clear c_B6 f_B6 l_B6
 obtain ⟨c_B6,f_B6,l_B6⟩:=blk3 B6.out
 try clear c_B10 f_B10 l_B10
 obtain ⟨c_B10,f_B10,l_B10⟩:=blk3 B10.out
 try clear c_BL f_BL l_BL
 obtain ⟨c_BL,f_BL,l_BL⟩:=blk3 BL.out
 try clear c_BH f_BH l_BH
 obtain ⟨c_BH,f_BH,l_BH⟩:=blk3 BH.out
 obtain ⟨fn,fa,fl,fc',fb,fm,fd⟩:=x51
 have hN1c:(N:Int) - 1=(N1:Nat):=by have:=HN1.out;omega
 rw [hN1c]
 have ZH:Hid (Sz 1 hf):=Hi ⟨by decide +kernel,by decide +kernel⟩
 have G51':Hid (CanR w51 ⟨fn,fa,fl,fc',fb,fm,fd⟩ hf):=G51
 go_wp2_with fail
 refine Calls.mono (rpow_any ⟨fn,fa,fl,fc',fb,fm,fd⟩ hf 1 N1 _ (G51'.out.raw ZH.out (by decide)) ZH.out (by decide) (by decide) (by have:=HN1.out;omega)) ?_
 rintro e w53 ⟨x53,rfl,hE,g53⟩
 have G53:=Hi g53
 clear g53
 replace HX:=hE.tr HX
 replace B6:=hE.bl B6
 replace B10:=hE.bl B10
 replace BL:=hE.bl BL
 replace BH:=hE.bl BH
 replace GS:=Hi (GS.out.ext hE)
 replace GL:=Hi (GL.out.ext hE)
 replace GH:=Hi (GH.out.ext hE)
 replace G51:=Hi (G51.out.ext hE)
 have hs_w53:=hE.size
 clear hE
 try clear c_B6 f_B6 l_B6
 obtain ⟨c_B6,f_B6,l_B6⟩:=blk3 B6.out
 try clear c_B10 f_B10 l_B10
 obtain ⟨c_B10,f_B10,l_B10⟩:=blk3 B10.out
 try clear c_BL f_BL l_BL
 obtain ⟨c_BL,f_BL,l_BL⟩:=blk3 BL.out
 try clear c_BH f_BH l_BH
 obtain ⟨c_BH,f_BH,l_BH⟩:=blk3 BH.out
 obtain ⟨en,ea,el,ec,eb,em,ed⟩:=x53
 clear G51
 have p10:b10 < w53.heap.size:=l_B10
 have p6:b6 < w53.heap.size:=l_B6
 have pl:bl < w53.heap.size:=l_BL
 have ph:bh < w53.heap.size:=l_BH
 go_upto_region 15 with fail
 refine nm_alloc ?_
 intro w54 hE hB0 hz
 have hz_w54:=nle hz
 have hr_w54:=nle hz.symm
 clear hz
 replace HX:=hE.tr HX
 replace B6:=hE.bl B6
 replace B10:=hE.bl B10
 replace BL:=hE.bl BL
 replace BH:=hE.bl BH
 replace GS:=Hi (GS.out.ext hE)
 replace GL:=Hi (GL.out.ext hE)
 replace GH:=Hi (GH.out.ext hE)
 replace G53:=Hi (G53.out.ext hE)
 have hs_w54:=hE.size
 clear hE
 try clear c_B6 f_B6 l_B6
 obtain ⟨c_B6,f_B6,l_B6⟩:=blk3 B6.out
 try clear c_B10 f_B10 l_B10
 obtain ⟨c_B10,f_B10,l_B10⟩:=blk3 B10.out
 try clear c_BL f_BL l_BL
 obtain ⟨c_BL,f_BL,l_BL⟩:=blk3 BL.out
 try clear c_BH f_BH l_BH
 obtain ⟨c_BH,f_BH,l_BH⟩:=blk3 BH.out
 have B15:=Hi hB0
 clear hB0
 obtain ⟨c_B15,f_B15,l_B15⟩:=blk3 B15.out
 obtain ⟨b15,hb15⟩:∃ b,b=w53.heap.size:=⟨_,rfl⟩
 have q15:w.heap.size≤b15:=by omega
 have n15:b10 ≠ b15:=by omega
 have n15':b6 ≠ b15:=by omega
 have n15l:bl ≠ b15:=by omega
 have n15h:bh ≠ b15:=by omega
 rw [← hb15] at B15
 rw [← hb15]
 have ZF:Hid (Sz 1 (hf ^ N1)):=Hi (hf_sz (by have:=HN1.out;omega))
 have GS0:Hid (CanR w54 ⟨zn,za,zl,zc,zb,zm,zd⟩ (sv 0)):=GS
 clear hb15 GS hsv c_B15 f_B15 l_B15 c_B6 f_B6 l_B6 c_B10 f_B10 l_B10 c_BL f_BL l_BL c_BH f_BH l_BH
 go_wp2
 go_loopg [57] d (fun g y wr=>∃ (j:Nat) (x:RH),j+g=d∧y=.int .i64 (j:Nat)∧Ext w wr∧wr.heap[b6]?=some (.cells #[.bool false,.slice none 0 0,.slice none 0 0,.bool false,.slice none 0 0,.slice none 0 0] 44 (0,0))∧wr.heap[b10]?=some (.cells #[.bool x.neg,.slice x.a x.n x.c,.slice x.b x.m x.d] 30 (0,0))∧wr.heap[b15]?=some (.cells #[.bool en,.slice ea el ec,.slice eb em ed] 30 (0,0))∧wr.heap[bl]?=some (.cells #[.bool x1n,.slice x1a x1l x1c,.slice x1b x1m x1d] 30 (0,0))∧wr.heap[bh]?=some (.cells #[.bool y1n,.slice y1a y1l y1c,.slice y1b y1m y1d] 30 (0,0))∧CanR wr x (sv j)∧CanR wr ⟨en,ea,el,ec,eb,em,ed⟩ (hf ^ N1)∧CanR wr ⟨x1n,x1a,x1l,x1c,x1b,x1m,x1d⟩ (bmn d os)∧CanR wr ⟨y1n,y1a,y1l,y1c,y1b,y1m,y1d⟩ (bmx d os))
 case atStart=>exact ⟨0,⟨zn,za,zl,zc,zb,zm,zd⟩,by omega,rfl,HX.out,B6.out,B10.out,B15.out,BL.out,BH.out,GS0.out,G53.out,GL.out,GH.out⟩
 case round =>
  obtain ⟨j,⟨xn,xa,xl,xc,xb,xm,xd⟩,hj,rfl,g1,g2,g3,g4,g5,g6,g7,g8,g9,g10⟩:=hrel
  clear HX B6 B10 B15 BL BH GS0 G53 GL GH
  have HX:=Hi g1
  have B6:=Hi g2
  have B10:=Hi g3
  have B15:=Hi g4
  have BL:=Hi g5
  have BH:=Hi g6
  have GS:=Hi g7
  have GF:=Hi g8
  have GL:=Hi g9
  have GH:=Hi g10
  clear g1 g2 g3 g4 g5 g6 g7 g8 g9 g10
  simp only at B10
  try clear c_B6 f_B6 l_B6
  obtain ⟨c_B6,f_B6,l_B6⟩:=blk3 B6.out
  try clear c_B10 f_B10 l_B10
  obtain ⟨c_B10,f_B10,l_B10⟩:=blk3 B10.out
  try clear c_B15 f_B15 l_B15
  obtain ⟨c_B15,f_B15,l_B15⟩:=blk3 B15.out
  try clear c_BL f_BL l_BL
  obtain ⟨c_BL,f_BL,l_BL⟩:=blk3 BL.out
  try clear c_BH f_BH l_BH
  obtain ⟨c_BH,f_BH,l_BH⟩:=blk3 BH.out
  have ZS:=Hi (HSC.out j)
  by_cases h1:gk=0
  case neg =>
   have hin:(j:Int) < d:=by omega
   go_wp2_with fail
   refine Calls.mono (rmul_any ⟨xn,xa,xl,xc,xb,xm,xd⟩ ⟨en,ea,el,ec,eb,em,ed⟩ _ _ _ (GS.out.raw ZS.out (by omega)) (GF.out.raw ZF.out (by decide))) ?_
   rintro e w61 ⟨x61,rfl,hE,g61⟩
   have G61:=Hi g61
   clear g61
   replace HX:=hE.tr HX
   replace B6:=hE.bl B6
   replace B10:=hE.bl B10
   replace B15:=hE.bl B15
   replace BL:=hE.bl BL
   replace BH:=hE.bl BH
   replace GS:=Hi (GS.out.ext hE)
   replace GF:=Hi (GF.out.ext hE)
   replace GL:=Hi (GL.out.ext hE)
   replace GH:=Hi (GH.out.ext hE)
   have hs_w61:=hE.size
   clear hE
   try clear c_B6 f_B6 l_B6
   obtain ⟨c_B6,f_B6,l_B6⟩:=blk3 B6.out
   try clear c_B10 f_B10 l_B10
   obtain ⟨c_B10,f_B10,l_B10⟩:=blk3 B10.out
   try clear c_B15 f_B15 l_B15
   obtain ⟨c_B15,f_B15,l_B15⟩:=blk3 B15.out
   try clear c_BL f_BL l_BL
   obtain ⟨c_BL,f_BL,l_BL⟩:=blk3 BL.out
   try clear c_BH f_BH l_BH
   obtain ⟨c_BH,f_BH,l_BH⟩:=blk3 BH.out
   rw [HSS.out j] at G61
   go_upto_region 18 with fail
   refine nm_set3 B10.out rfl ?_
   intro w62 T
   replace HX:=Hi (T.ext HX.out (by omega))
   replace B6:=Hi (T.rest _ _ (by omega) B6.out)
   replace B10:=Hi (T.bx)
   replace B15:=Hi (T.rest _ _ (by omega) B15.out)
   replace BL:=Hi (T.rest _ _ (by omega) BL.out)
   replace BH:=Hi (T.rest _ _ (by omega) BH.out)
   replace GS:=Hi (GS.out.keep T.keep)
   replace GF:=Hi (GF.out.keep T.keep)
   replace GL:=Hi (GL.out.keep T.keep)
   replace GH:=Hi (GH.out.keep T.keep)
   replace G61:=Hi (G61.out.keep T.keep)
   have hs_w62:=nle T.size
   have hr_w62:=nle T.size.symm
   clear T
   try clear c_B6 f_B6 l_B6
   obtain ⟨c_B6,f_B6,l_B6⟩:=blk3 B6.out
   try clear c_B10 f_B10 l_B10
   obtain ⟨c_B10,f_B10,l_B10⟩:=blk3 B10.out
   try clear c_B15 f_B15 l_B15
   obtain ⟨c_B15,f_B15,l_B15⟩:=blk3 B15.out
   try clear c_BL f_BL l_BL
   obtain ⟨c_BL,f_BL,l_BL⟩:=blk3 BL.out
   try clear c_BH f_BH l_BH
   obtain ⟨c_BH,f_BH,l_BH⟩:=blk3 BH.out
   go_wp2
   go_roundg (gk - 1)
   case measure=>omega
   case rel=>exact ⟨j+1,x61,by omega,by go_num,HX.out,B6.out,B10.out,B15.out,BL.out,BH.out,G61.out,GF.out,GL.out,GH.out⟩
  subst h1
  obtain rfl:j=d:=by omega
  have hin:¬ (j:Int) < (j:Int):=by omega
  go_upto_region 19 with fail
  refine wp_region_front 6 (fun opIx=>match opIx with
   | 2=>.spec RH default RH.v (fun s w'=>CanR w' s (bmn j os * sv j))
   | 5=>.spec RH default RH.v (fun s w'=>CanR w' s (bmx j os * sv j))
   | _=>.quiet) (fun _=>[]) (by kernel_rfl) (by kernel_rfl) (fun w0 he0 hz0 hc0 hf0=>?_)
  replace he0:=Hi he0
  simp only [pT]
  repeat (refine wpq fun K h=>?_;go_big_quiet_op;refine h _ ?_;clear h K)
  refine wps he0.out rfl rfl (fun w1 hW hG=>?_) fun x30=>?_
  ·exact spc [RH.v ⟨x1n,x1a,x1l,x1c,x1b,x1m,x1d⟩,RH.v ⟨xn,xa,xl,xc,xb,xm,xd⟩] Tryz.func114 (rmul_any _ _ _ _ _ ((GL.out.ext hW).raw HBZ.out.1 (by omega)) ((GS.out.ext hW).raw ZS.out (by omega)))
  simp only [pS]
  repeat (refine wpq fun K h=>?_;go_big_quiet_op;refine h _ ?_;clear h K)
  refine wps he0.out rfl rfl (fun w1 hW hG=>?_) fun x31=>?_
  ·exact spc [RH.v ⟨y1n,y1a,y1l,y1c,y1b,y1m,y1d⟩,RH.v ⟨xn,xa,xl,xc,xb,xm,xd⟩] Tryz.func114 (rmul_any _ _ _ _ _ ((GH.out.ext hW).raw HBZ.out.2 (by omega)) ((GS.out.ext hW).raw ZS.out (by omega)))
  simp only [pS]
  repeat (refine wpq fun K h=>?_;go_big_quiet_op;refine h _ ?_;clear h K)
  refine wpF_nil ?_
  intro w70 hI
  have hE:=he0.out.trans hI.ext
  have G30:=Hi ((hI.facts 2:Since _ _).get fun _ e g=>g.ext e)
  have G31:=Hi ((hI.facts 5:Since _ _).get fun _ e g=>g.ext e)
  clear hI he0 hz0 hc0 hf0
  replace HX:=hE.tr HX
  replace B6:=hE.bl B6
  replace B10:=hE.bl B10
  replace B15:=hE.bl B15
  replace BL:=hE.bl BL
  replace BH:=hE.bl BH
  replace GS:=Hi (GS.out.ext hE)
  replace GF:=Hi (GF.out.ext hE)
  replace GL:=Hi (GL.out.ext hE)
  replace GH:=Hi (GH.out.ext hE)
  have hs_w70:=hE.size
  clear hE
  try clear c_B6 f_B6 l_B6
  obtain ⟨c_B6,f_B6,l_B6⟩:=blk3 B6.out
  try clear c_B10 f_B10 l_B10
  obtain ⟨c_B10,f_B10,l_B10⟩:=blk3 B10.out
  try clear c_B15 f_B15 l_B15
  obtain ⟨c_B15,f_B15,l_B15⟩:=blk3 B15.out
  try clear c_BL f_BL l_BL
  obtain ⟨c_BL,f_BL,l_BL⟩:=blk3 BL.out
  try clear c_BH f_BH l_BH
  obtain ⟨c_BH,f_BH,l_BH⟩:=blk3 BH.out
  simp only [pD]
  go_wp2
  refine nm_set6 B6.out rfl ?_
  intro w80 T
  replace HX:=Hi (T.ext HX.out (by omega))
  replace B6:=Hi (T.bx)
  replace B10:=Hi (T.rest _ _ (by omega) B10.out)
  replace B15:=Hi (T.rest _ _ (by omega) B15.out)
  replace BL:=Hi (T.rest _ _ (by omega) BL.out)
  replace BH:=Hi (T.rest _ _ (by omega) BH.out)
  replace GS:=Hi (GS.out.keep T.keep)
  replace GF:=Hi (GF.out.keep T.keep)
  replace GL:=Hi (GL.out.keep T.keep)
  replace GH:=Hi (GH.out.keep T.keep)
  replace G30:=Hi (G30.out.keep T.keep)
  replace G31:=Hi (G31.out.keep T.keep)
  have hs_w80:=nle T.size
  have hr_w80:=nle T.size.symm
  clear T
  try clear c_B6 f_B6 l_B6
  obtain ⟨c_B6,f_B6,l_B6⟩:=blk3 B6.out
  try clear c_B10 f_B10 l_B10
  obtain ⟨c_B10,f_B10,l_B10⟩:=blk3 B10.out
  try clear c_B15 f_B15 l_B15
  obtain ⟨c_B15,f_B15,l_B15⟩:=blk3 B15.out
  try clear c_BL f_BL l_BL
  obtain ⟨c_BL,f_BL,l_BL⟩:=blk3 BL.out
  try clear c_BH f_BH l_BH
  obtain ⟨c_BH,f_BH,l_BH⟩:=blk3 BH.out
  exact bodyPost_ret (v:=BdT (x30,x31)) (by simp [results,Tryz.results42,go_sem,BdT,blk_cell B6.out]) rfl ⟨(x30,x31),rfl,HX.out,by rw [HV.out];exact G30.out,by rw [HV.out];exact G31.out⟩
end Go.Proofs.YtpieblkklbilgaaGreat
