/- Eval of package poly. -/
import Derived.Test.YtpieblkklbilgaaGreatQPM28
import Derived.Test.YtpieblkklbilgaaGreatQPPx12
set_option linter.unusedVariables false
namespace Go.Proofs.YtpieblkklbilgaaGreat
open Go.RowKit Go.Front Go.Num Stab
attribute [local go_sem] XW.cell XW.frozen
set_option maxRecDepth 8000 in
set_option maxHeartbeats 8000000 in
theorem peval_any (ao:Option Addr) (n c:Nat) (p:List Rat) (t:RH) (x:Rat) (S T:Nat) (w:World) (h:RawL w ⟨ao,n,c⟩ p) (ht:RawR w t x) (hn:n≤1000) (hp:FrB S p) (hx:Sz T x) (hT:1≤T) (hS3:S≤30000000) (hT3:T≤1000) :
  Does 141 [.slice ao n c,t.v] w RH.v (fun y w'=>CanR w' y (evV p x)):=by
 obtain ⟨hS,D,hD,hD2,hpf⟩:=hp
 have H:=Hi h
 have HT:=Hi ht
 have HX:=Hi (Ext.refl w)
 have HPF:=Hi hpf
 have ZX:=Hi hx
 have hn2:(tz p).length≤n:=by have:=h.len;have h2:=tz_len_le p;simp only at this;omega
 obtain ⟨tn,ta,tl,tc,tb,tm,td⟩:=t
 clear h ht hpf hx
 unfold Does
 go_enter Tryz.func141,Tryz.ntmps141
 go_upto_region 1 with fail
 refine nm_alloc2 ?_
 intro w1 hE hB0 hB1 hz
 have hz_w1:=nle hz
 have hr_w1:=nle hz.symm
 clear hz
 replace HX:=hE.tr HX
 have hs_w1:=hE.size
 clear hE
 have B3:=Hi hB0
 clear hB0
 obtain ⟨c_B3,f_B3,l_B3⟩:=blk3 B3.out
 have B4:=Hi hB1
 clear hB1
 obtain ⟨c_B4,f_B4,l_B4⟩:=blk3 B4.out
 go_wp2_with fail
 refine Calls.mono (psplit_raw ao n c p S D _ (H.out.ext HX.out) (by omega) hS (by omega) hD hD2 HPF.out) ?_
 rintro e w2 ⟨x2,rfl,hE,g2⟩
 have G2:=Hi g2
 clear g2
 replace HX:=hE.tr HX
 replace B3:=hE.bl B3
 replace B4:=hE.bl B4
 have hs_w2:=hE.size
 clear hE
 try clear c_B3 f_B3 l_B3
 obtain ⟨c_B3,f_B3,l_B3⟩:=blk3 B3.out
 try clear c_B4 f_B4 l_B4
 obtain ⟨c_B4,f_B4,l_B4⟩:=blk3 B4.out
 obtain ⟨xs,xa⟩:=x2
 have HXS:=Hi G2.out.1
 obtain ⟨La,hLa,hxa,hra⟩:=G2.out.2
 simp only at hxa hLa
 subst hxa
 have HXA:=Hi hra
 clear G2 hra
 simp only [MT] at *
 go_upto_region 2 with fail
 refine nm_alloc ?_
 intro w3 hE hB0 hz
 have hz_w3:=nle hz
 have hr_w3:=nle hz.symm
 clear hz
 replace HX:=hE.tr HX
 replace B3:=hE.bl B3
 replace B4:=hE.bl B4
 replace HXS:=Hi (HXS.out.ext hE)
 replace HXA:=Hi (HXA.out.ext hE)
 have hs_w3:=hE.size
 clear hE
 try clear c_B3 f_B3 l_B3
 obtain ⟨c_B3,f_B3,l_B3⟩:=blk3 B3.out
 try clear c_B4 f_B4 l_B4
 obtain ⟨c_B4,f_B4,l_B4⟩:=blk3 B4.out
 have B5:=Hi hB0
 clear hB0
 obtain ⟨c_B5,f_B5,l_B5⟩:=blk3 B5.out
 go_wp2_with fail
 refine Calls.mono (rtrim_any ⟨tn,ta,tl,tc,tb,tm,td⟩ x _ (HT.out.ext HX.out)) ?_
 rintro e w4 ⟨x4,rfl,hE,g4⟩
 have G4:=Hi g4
 clear g4
 replace HX:=hE.tr HX
 replace B3:=hE.bl B3
 replace B4:=hE.bl B4
 replace HXS:=Hi (HXS.out.ext hE)
 replace HXA:=Hi (HXA.out.ext hE)
 replace B5:=hE.bl B5
 have hs_w4:=hE.size
 clear hE
 try clear c_B3 f_B3 l_B3
 obtain ⟨c_B3,f_B3,l_B3⟩:=blk3 B3.out
 try clear c_B4 f_B4 l_B4
 obtain ⟨c_B4,f_B4,l_B4⟩:=blk3 B4.out
 try clear c_B5 f_B5 l_B5
 obtain ⟨c_B5,f_B5,l_B5⟩:=blk3 B5.out
 go_upto_region 3 with fail
 refine nm_set3 B3.out rfl ?_
 intro w5 T
 replace HX:=Hi (T.ext HX.out (by omega))
 replace B3:=Hi (T.bx)
 replace B4:=Hi (T.rest _ _ (by omega) B4.out)
 replace HXS:=Hi (HXS.out.keep T.keep)
 replace HXA:=Hi (HXA.out.put T (by omega))
 replace B5:=Hi (T.rest _ _ (by omega) B5.out)
 replace G4:=Hi (G4.out.keep T.keep)
 have hs_w5:=nle T.size
 have hr_w5:=nle T.size.symm
 clear T
 try clear c_B3 f_B3 l_B3
 obtain ⟨c_B3,f_B3,l_B3⟩:=blk3 B3.out
 try clear c_B4 f_B4 l_B4
 obtain ⟨c_B4,f_B4,l_B4⟩:=blk3 B4.out
 try clear c_B5 f_B5 l_B5
 obtain ⟨c_B5,f_B5,l_B5⟩:=blk3 B5.out
 go_wp2_with fail
 refine Calls.mono (pparts_any x4 x _ G4.out) ?_
 rintro e w6 ⟨x6,rfl,hE,g6⟩
 have G6:=Hi g6
 clear g6
 replace HX:=hE.tr HX
 replace B3:=hE.bl B3
 replace B4:=hE.bl B4
 replace HXS:=Hi (HXS.out.ext hE)
 replace HXA:=Hi (HXA.out.ext hE)
 replace B5:=hE.bl B5
 replace G4:=Hi (G4.out.ext hE)
 have hs_w6:=hE.size
 clear hE
 try clear c_B3 f_B3 l_B3
 obtain ⟨c_B3,f_B3,l_B3⟩:=blk3 B3.out
 try clear c_B4 f_B4 l_B4
 obtain ⟨c_B4,f_B4,l_B4⟩:=blk3 B4.out
 try clear c_B5 f_B5 l_B5
 obtain ⟨c_B5,f_B5,l_B5⟩:=blk3 B5.out
 obtain ⟨xn,xd⟩:=x6
 have HN:=Hi G6.out.1
 have HD:=Hi G6.out.2
 clear G6
 simp only [PT] at *
 clear G4
 go_upto_region 4 with fail
 refine nm_alloc2 ?_
 intro w7 hE hB0 hB1 hz
 have hz_w7:=nle hz
 have hr_w7:=nle hz.symm
 clear hz
 replace HX:=hE.tr HX
 replace B3:=hE.bl B3
 replace B4:=hE.bl B4
 replace HXS:=Hi (HXS.out.ext hE)
 replace HXA:=Hi (HXA.out.ext hE)
 replace B5:=hE.bl B5
 replace HN:=Hi (HN.out.ext hE)
 replace HD:=Hi (HD.out.ext hE)
 have hs_w7:=hE.size
 clear hE
 try clear c_B3 f_B3 l_B3
 obtain ⟨c_B3,f_B3,l_B3⟩:=blk3 B3.out
 try clear c_B4 f_B4 l_B4
 obtain ⟨c_B4,f_B4,l_B4⟩:=blk3 B4.out
 try clear c_B5 f_B5 l_B5
 obtain ⟨c_B5,f_B5,l_B5⟩:=blk3 B5.out
 have B7:=Hi hB0
 clear hB0
 obtain ⟨c_B7,f_B7,l_B7⟩:=blk3 B7.out
 have B8:=Hi hB1
 clear hB1
 obtain ⟨c_B8,f_B8,l_B8⟩:=blk3 B8.out
 obtain ⟨P,hP⟩:∃ P,(splL p).length=P:=⟨_,rfl⟩
 have hPn:P≤n:=by rw [← hP,spl_len];exact hn2
 rw [hP]
 have LA:=Hi (HXA.out.can hP (Nat.le_refl _) (by omega))
 have WA:Hid (∀ x ∈ splL p,Wz S x):=Hi (spl_wz (fun x hx=>HPF.out.tz x hx) hD)
 have ZA:Hid (SzL S (splL p)):=Hi (fun y hy=>(WA.out y hy).sz hS)
 have ZS:Hid (Sz S (splM p)):=Hi ((meas_fr (fun x hx=>HPF.out.tz x hx)).sz hS hD hD2)
 have HV:Hid (evV p x=splM p * evV (splL p) x):=Hi (ev_spl p x).symm
 obtain ⟨a,ha⟩:∃ a,a=splL p:=⟨_,rfl⟩
 rw [← ha] at LA WA HV ZA hP
 have HPl:=Hi hP
 clear hLa ha hP HPF
 clear HXA
 obtain ⟨aa,haa⟩:∃ aa,aa=some (⟨La,0,none⟩:Addr):=⟨_,rfl⟩
 rw [← haa] at LA ⊢
 obtain ⟨b4,hb4⟩:∃ b4,b4=w.heap.size+1:=⟨_,rfl⟩
 obtain ⟨b5,hb5⟩:∃ b5,b5=w2.heap.size:=⟨_,rfl⟩
 obtain ⟨b7,hb7⟩:∃ b7,b7=w6.heap.size:=⟨_,rfl⟩
 obtain ⟨b8,hb8⟩:∃ b8,b8=w6.heap.size+1:=⟨_,rfl⟩
 have hw4:w.heap.size≤b4:=by omega
 have hb7w:b7 < w7.heap.size:=by omega
 have hb8w:b8 < w7.heap.size:=by omega
 rw [← hb4] at B4 ⊢
 rw [← hb5] at B5 ⊢
 rw [← hb8] at B8 ⊢
 rw [← hb7] at B7 ⊢
 clear hb4 hb5 hb7 hb8 haa
 have LA7:=LA
 have XS7:=HXS
 have HN7:=HN
 have HD7:=HD
 have B47:=B4
 have B57:=B5
 have B77:=B7
 have B87:=B8
 have HX0:=HX
 have HX7:=Hi (Ext.refl w7)
 simp only [SH.v]
 have hw7:w.heap.size≤w7.heap.size:=by omega
 clear LA
 clear HXS
 clear HN
 clear HD
 (try clear c_B3 f_B3 l_B3);clear B3
 (try clear c_B4 f_B4 l_B4);clear B4
 (try clear c_B5 f_B5 l_B5);clear B5
 (try clear c_B7 f_B7 l_B7);clear B7
 (try clear c_B8 f_B8 l_B8);clear B8
 clear HX
 go_wp2_with fail
 refine Calls.mono (rof_any 0 _ (by decide) (by decide)) ?_
 rintro e w8 ⟨x8,rfl,hE,g8⟩
 have G8:=Hi g8
 clear g8
 replace HX7:=hE.tr HX7
 have hs_w8:=hE.size
 clear hE
 go_wp2_with fail
 refine Calls.mono (rof_any 1 _ (by decide) (by decide)) ?_
 rintro e w9 ⟨x9,rfl,hE,g9⟩
 have G9:=Hi g9
 clear g9
 replace HX7:=hE.tr HX7
 replace G8:=Hi (G8.out.ext hE)
 have hs_w9:=hE.size
 clear hE
 go_upto_region 5 with fail
 refine nm_alloc2 ?_
 intro w10 hE hB0 hB1 hz
 have hz_w10:=nle hz
 have hr_w10:=nle hz.symm
 clear hz
 replace HX7:=hE.tr HX7
 replace G8:=Hi (G8.out.ext hE)
 replace G9:=Hi (G9.out.ext hE)
 have hs_w10:=hE.size
 clear hE
 have B9:=Hi hB0
 clear hB0
 obtain ⟨c_B9,f_B9,l_B9⟩:=blk3 B9.out
 have B10:=Hi hB1
 clear hB1
 obtain ⟨c_B10,f_B10,l_B10⟩:=blk3 B10.out
 have HS0:Hid (CanR w10 x8 (ehS a x 0)):=Hi (by unfold ehS;rw [if_pos rfl];exact G8.out)
 have HP0:Hid (CanR w10 x9 (ehP x 0)):=Hi (by unfold ehP;rw [Nat.zero_sub,Rat.pow_zero];exact G9.out)
 obtain ⟨b9,hb9⟩:∃ b9,b9=w9.heap.size:=⟨_,rfl⟩
 obtain ⟨b10,hb10⟩:∃ b10,b10=w9.heap.size+1:=⟨_,rfl⟩
 have hw9:w7.heap.size≤b9:=by omega
 have hw10:w7.heap.size≤b10:=by omega
 have h910:b9 ≠ b10:=by omega
 rw [← hb10] at B10 ⊢
 rw [← hb9] at B9 ⊢
 clear hb9 hb10 c_B9 f_B9 l_B9 c_B10 f_B10 l_B10
 go_wp2
 go_loopg [31] P (fun g v wr=>∃ (i:Nat) (u y:RH),i+g=P∧v=.int .i64 (i:Nat)∧Ext w7 wr∧wr.heap[b9]?=some (.cells #[.bool u.neg,.slice u.a u.n u.c,.slice u.b u.m u.d] 30 (0,0))∧wr.heap[b10]?=some (.cells #[.bool y.neg,.slice y.a y.n y.c,.slice y.b y.m y.d] 30 (0,0))∧CanR wr u (ehS a x i)∧CanR wr y (ehP x i))
 case atStart=>exact ⟨0,x8,x9,by omega,rfl,HX7.out,B9.out,B10.out,HS0.out,HP0.out⟩
 case round =>
  obtain ⟨i,⟨un,ua,ul,uc,ub,um,ud⟩,⟨yn,ya,yl,yc,yb,ym,yd⟩,hi,rfl,g1,g2,g3,g4,g5⟩:=hrel
  clear HX7 B9 B10 HS0 HP0 G8 G9
  have HX7:=Hi g1
  have B9:=Hi g2
  have B10:=Hi g3
  have HU:=Hi g4
  have HY:=Hi g5
  have hw7r:=g1.size
  clear g1 g2 g3 g4 g5
  have hTi:T * i≤1000 * 1000:=Nat.mul_le_mul hT3 (by omega)
  have hTi2:(T+1) * i=T * i+i:=Nat.succ_mul T i
  have hTi3:T * (i+1)=T * i+T:=Nat.mul_succ T i
  have ZU:Hid (Sz 32000000 (ehS a x i)):=Hi (((ehS_wz WA.out ZX.out i (by rw [HPl.out];omega)).mono (by omega)).sz (by decide))
  have ZY:Hid (Sz 2000000 (ehP x i)):=Hi (((ehP_wz ZX.out).mono (by omega)).sz (by decide))
  try clear c_B9 f_B9 l_B9
  obtain ⟨c_B9,f_B9,l_B9⟩:=blk3 B9.out
  try clear c_B10 f_B10 l_B10
  obtain ⟨c_B10,f_B10,l_B10⟩:=blk3 B10.out
  by_cases h0:gk=0
  case pos =>
   subst h0
   obtain rfl:i=P:=by omega
   have hin:¬ (i:Int) < i:=by omega
   have HXw:=Hi (HX0.out.trans HX7.out)
   have B4:=Hi (HX7.out.block B47.out)
   have B5:=Hi (HX7.out.block B57.out)
   have HE:Hid (ehS a x i / ehP x i=evV a x):=Hi (by have:=eh_end a x;rw [HPl.out] at this;exact this)
   have ZE:Hid (Sz 34000000 (evV a x)):=Hi (by rw [← HE.out];exact (ZU.out.div ZY.out).mono (by decide))
   try clear c_B9 f_B9 l_B9
   obtain ⟨c_B9,f_B9,l_B9⟩:=blk3 B9.out
   try clear c_B10 f_B10 l_B10
   obtain ⟨c_B10,f_B10,l_B10⟩:=blk3 B10.out
   try clear c_B4 f_B4 l_B4
   obtain ⟨c_B4,f_B4,l_B4⟩:=blk3 B4.out
   try clear c_B5 f_B5 l_B5
   obtain ⟨c_B5,f_B5,l_B5⟩:=blk3 B5.out
   go_wp2_with fail
   refine Calls.mono (rdiv_any ⟨un,ua,ul,uc,ub,um,ud⟩ ⟨yn,ya,yl,yc,yb,ym,yd⟩ (ehS a x i) (ehP x i) _ (HU.out.raw ZU.out (by omega)) (HY.out.raw ZY.out (by omega)) (pow_ne (den_ne x) _)) ?_
   rintro e w20 ⟨x20,rfl,hE,g20⟩
   have G20:=Hi g20
   clear g20
   replace HX7:=hE.tr HX7
   replace HU:=Hi (HU.out.ext hE)
   replace HY:=Hi (HY.out.ext hE)
   replace B9:=hE.bl B9
   replace B10:=hE.bl B10
   replace HXw:=hE.tr HXw
   replace B4:=hE.bl B4
   replace B5:=hE.bl B5
   have hs_w20:=hE.size
   clear hE
   try clear c_B9 f_B9 l_B9
   obtain ⟨c_B9,f_B9,l_B9⟩:=blk3 B9.out
   try clear c_B10 f_B10 l_B10
   obtain ⟨c_B10,f_B10,l_B10⟩:=blk3 B10.out
   try clear c_B4 f_B4 l_B4
   obtain ⟨c_B4,f_B4,l_B4⟩:=blk3 B4.out
   try clear c_B5 f_B5 l_B5
   obtain ⟨c_B5,f_B5,l_B5⟩:=blk3 B5.out
   rw [HE.out] at G20
   go_upto_region 14 with fail
   refine nm_alloc ?_
   intro w21 hE hB0 hz
   have hz_w21:=nle hz
   have hr_w21:=nle hz.symm
   clear hz
   replace HX7:=hE.tr HX7
   replace HU:=Hi (HU.out.ext hE)
   replace HY:=Hi (HY.out.ext hE)
   replace B9:=hE.bl B9
   replace B10:=hE.bl B10
   replace HXw:=hE.tr HXw
   replace B4:=hE.bl B4
   replace B5:=hE.bl B5
   replace G20:=Hi (G20.out.ext hE)
   have hs_w21:=hE.size
   clear hE
   try clear c_B9 f_B9 l_B9
   obtain ⟨c_B9,f_B9,l_B9⟩:=blk3 B9.out
   try clear c_B10 f_B10 l_B10
   obtain ⟨c_B10,f_B10,l_B10⟩:=blk3 B10.out
   try clear c_B4 f_B4 l_B4
   obtain ⟨c_B4,f_B4,l_B4⟩:=blk3 B4.out
   try clear c_B5 f_B5 l_B5
   obtain ⟨c_B5,f_B5,l_B5⟩:=blk3 B5.out
   have B13:=Hi hB0
   clear hB0
   obtain ⟨c_B13,f_B13,l_B13⟩:=blk3 B13.out
   go_wp2_with fail
   refine Calls.mono (rmul_any xs x20 (splM p) (evV a x) _ ((XS7.out.ext HX7.out).raw ZS.out (by omega)) (G20.out.raw ZE.out (by omega))) ?_
   rintro e w22 ⟨x22,rfl,hE,g22⟩
   have G22:=Hi g22
   clear g22
   replace HX7:=hE.tr HX7
   replace HU:=Hi (HU.out.ext hE)
   replace HY:=Hi (HY.out.ext hE)
   replace B9:=hE.bl B9
   replace B10:=hE.bl B10
   replace HXw:=hE.tr HXw
   replace B4:=hE.bl B4
   replace B5:=hE.bl B5
   replace G20:=Hi (G20.out.ext hE)
   replace B13:=hE.bl B13
   have hs_w22:=hE.size
   clear hE
   try clear c_B9 f_B9 l_B9
   obtain ⟨c_B9,f_B9,l_B9⟩:=blk3 B9.out
   try clear c_B10 f_B10 l_B10
   obtain ⟨c_B10,f_B10,l_B10⟩:=blk3 B10.out
   try clear c_B4 f_B4 l_B4
   obtain ⟨c_B4,f_B4,l_B4⟩:=blk3 B4.out
   try clear c_B5 f_B5 l_B5
   obtain ⟨c_B5,f_B5,l_B5⟩:=blk3 B5.out
   try clear c_B13 f_B13 l_B13
   obtain ⟨c_B13,f_B13,l_B13⟩:=blk3 B13.out
   go_wp2
   have hF:=((((Fin.start (L:=b4) HXw.out (noU_block B4.out rfl)).set (by omega) (i:=0) (v:=.bool x22.neg) rfl).set (by omega) (i:=1) (v:=.slice x22.a x22.n x22.c) rfl).set (by omega) (i:=2) (v:=.slice x22.b x22.m x22.d) rfl)
   exact bodyPost_ret (v:=x22.v) (by simp [results,Tryz.results141,go_sem,blk_cell B4.out]) rfl ⟨x22,rfl,hF.ext,(by rw [HV.out];exact G22.out.keep hF.keep)⟩
  have hin:(i:Int) < P:=by omega
  have B7:=Hi (HX7.out.block B77.out)
  have B8:=Hi (HX7.out.block B87.out)
  try clear c_B9 f_B9 l_B9
  obtain ⟨c_B9,f_B9,l_B9⟩:=blk3 B9.out
  try clear c_B10 f_B10 l_B10
  obtain ⟨c_B10,f_B10,l_B10⟩:=blk3 B10.out
  try clear c_B7 f_B7 l_B7
  obtain ⟨c_B7,f_B7,l_B7⟩:=blk3 B7.out
  try clear c_B8 f_B8 l_B8
  obtain ⟨c_B8,f_B8,l_B8⟩:=blk3 B8.out
  obtain ⟨k,hk⟩:∃ k,k=P - 1 - i:=⟨_,rfl⟩
  have hkP:k < P:=by omega
  have hki:(P:Int) - 1 - i=k:=by omega
  have HST:Hid (ehS a x i * (x.num:Rat)+a.getD k 0 * ehP x (i+1)=ehS a x (i+1)):=Hi (by rw [hk,← HPl.out];exact eh_step x (by rw [HPl.out];omega))
  have ZY1:Hid (Sz 2003000 (ehP x (i+1))):=Hi (((ehP_wz ZX.out).mono (by omega)).sz (by decide))
  have ZK:Hid (Sz S (a.getD k 0)):=Hi (ZA.out.at (by rw [HPl.out];exact hkP))
  clear hk
  by_cases hi0:i=0
  case pos =>
   subst hi0
   have hk0:(P:Int) - 1=k:=by omega
   clear hki
   have HY1:Hid (CanR wr ⟨yn,ya,yl,yc,yb,ym,yd⟩ (ehP x (0+1))):=HY
   clear HY
   obtain ⟨ba,oa,r,hao,hbl,⟨hc1,hc2,hc3⟩,hPc⟩:=(LA7.out.ext HX7.out).celx (k:=k) hkP
   obtain ⟨rneg,ra,rn,rc,rb,rm,rd⟩:=r
   simp only at hc1 hc2 hc3
   have HC:=Hi hPc
   clear hPc
   subst hao
   go_upto_region 11 with fail
   clear hc1 hc2 hc3
   refine nm_alloc ?_
   intro w13 hE hB0 hz
   have hz_w13:=nle hz
   have hr_w13:=nle hz.symm
   clear hz
   replace HX7:=hE.tr HX7
   replace HU:=Hi (HU.out.ext hE)
   replace B9:=hE.bl B9
   replace B10:=hE.bl B10
   replace B7:=hE.bl B7
   replace B8:=hE.bl B8
   replace HY1:=Hi (HY1.out.ext hE)
   replace HC:=Hi (HC.out.ext hE)
   have hs_w13:=hE.size
   clear hE
   try clear c_B9 f_B9 l_B9
   obtain ⟨c_B9,f_B9,l_B9⟩:=blk3 B9.out
   try clear c_B10 f_B10 l_B10
   obtain ⟨c_B10,f_B10,l_B10⟩:=blk3 B10.out
   try clear c_B7 f_B7 l_B7
   obtain ⟨c_B7,f_B7,l_B7⟩:=blk3 B7.out
   try clear c_B8 f_B8 l_B8
   obtain ⟨c_B8,f_B8,l_B8⟩:=blk3 B8.out
   have B12:=Hi hB0
   clear hB0
   obtain ⟨c_B12,f_B12,l_B12⟩:=blk3 B12.out
   refine wp_region_front 7 (fun opIx=>match opIx with
    | 2=>.spec RH default RH.v (fun s w'=>CanR w' s (ehS a x 0 * (x.num:Rat)))
    | 5=>.spec RH default RH.v (fun s w'=>CanR w' s (a.getD k 0 * ehP x (0+1)))
    | 6=>.spec RH default RH.v (fun s w'=>CanR w' s (ehS a x 0 * (x.num:Rat)+a.getD k 0 * ehP x (0+1)))
    | _=>.quiet) (fun | 6=>[2,5] | _=>[]) (by kernel_rfl) (by kernel_rfl) (fun w0 he0 hz0 hc0 hf0=>?_)
   replace he0:=Hi he0
   simp only [pT]
   repeat (refine wpq fun K h=>?_;go_big_quiet_op;refine h _ ?_;clear h K)
   refine wps he0.out rfl rfl (fun w1 hW hG=>?_) fun x30=>?_
   ·exact spc [RH.v ⟨un,ua,ul,uc,ub,um,ud⟩,xn.v] Tryz.func114 (rmul_any _ xn _ _ _ ((HU.out.ext hW).raw ZU.out (by omega)) (((HN7.out.ext HX7.out).ext hW).raw (num_sz ZX.out hT) (by omega)))
   simp only [pS]
   repeat (refine wpq fun K h=>?_;go_big_quiet_op;refine h _ ?_;clear h K)
   refine wps he0.out rfl rfl (fun w1 hW hG=>?_) fun x31=>?_
   ·exact spc [RH.v ⟨rneg,ra,rn,rc,rb,rm,rd⟩,RH.v ⟨yn,ya,yl,yc,yb,ym,yd⟩] Tryz.func114 (rmul_any _ _ _ _ _ ((HC.out.ext hW).raw ZK.out (by omega)) ((HY1.out.ext hW).raw ZY1.out (by omega)))
   simp only [pS]
   repeat (refine wpq fun K h=>?_;go_big_quiet_op;refine h _ ?_;clear h K)
   refine wps he0.out rfl rfl (fun w1 hW hG=>?_) fun x32=>?_
   ·have g30:=(hG 2 (by decide):Since _ _).get fun _ e g=>g.ext e
    have g31:=(hG 5 (by decide):Since _ _).get fun _ e g=>g.ext e
    exact spc [x30.v,x31.v] Tryz.func129 (radd_any x30 x31 _ _ _ (g30.raw (ZU.out.mul (num_sz ZX.out hT)) (by omega)) (g31.raw (ZK.out.mul ZY1.out) (by omega)))
   simp only [pS]
   repeat (refine wpq fun K h=>?_;go_big_quiet_op;refine h _ ?_;clear h K)
   refine wpF_nil ?_
   intro w14 hI
   have hE:=he0.out.trans hI.ext
   have G30:=Hi ((hI.facts 2:Since _ _).get fun _ e g=>g.ext e)
   have G31:=Hi ((hI.facts 5:Since _ _).get fun _ e g=>g.ext e)
   have G32:=Hi ((hI.facts 6:Since _ _).get fun _ e g=>g.ext e)
   clear hI he0 hz0 hc0 hf0
   replace HX7:=hE.tr HX7
   replace HU:=Hi (HU.out.ext hE)
   replace B9:=hE.bl B9
   replace B10:=hE.bl B10
   replace B7:=hE.bl B7
   replace B8:=hE.bl B8
   replace HY1:=Hi (HY1.out.ext hE)
   replace HC:=Hi (HC.out.ext hE)
   replace B12:=hE.bl B12
   have hs_w14:=hE.size
   clear hE
   try clear c_B9 f_B9 l_B9
   obtain ⟨c_B9,f_B9,l_B9⟩:=blk3 B9.out
   try clear c_B10 f_B10 l_B10
   obtain ⟨c_B10,f_B10,l_B10⟩:=blk3 B10.out
   try clear c_B7 f_B7 l_B7
   obtain ⟨c_B7,f_B7,l_B7⟩:=blk3 B7.out
   try clear c_B8 f_B8 l_B8
   obtain ⟨c_B8,f_B8,l_B8⟩:=blk3 B8.out
   try clear c_B12 f_B12 l_B12
   obtain ⟨c_B12,f_B12,l_B12⟩:=blk3 B12.out
   simp only [pD]
   rw [HST.out] at G32
   go_upto_region 12 with fail
   (try clear c_B12 f_B12 l_B12);clear B12
   refine nm_set3 B9.out rfl ?_
   intro w15 T
   replace HX7:=Hi (T.ext HX7.out (by omega))
   replace HU:=Hi (HU.out.keep T.keep)
   replace B9:=Hi (T.bx)
   replace B10:=Hi (T.rest _ _ (by omega) B10.out)
   replace B7:=Hi (T.rest _ _ (by omega) B7.out)
   replace B8:=Hi (T.rest _ _ (by omega) B8.out)
   replace HY1:=Hi (HY1.out.keep T.keep)
   replace HC:=Hi (HC.out.keep T.keep)
   replace G30:=Hi (G30.out.keep T.keep)
   replace G31:=Hi (G31.out.keep T.keep)
   replace G32:=Hi (G32.out.keep T.keep)
   have hs_w15:=nle T.size
   have hr_w15:=nle T.size.symm
   clear T
   try clear c_B9 f_B9 l_B9
   obtain ⟨c_B9,f_B9,l_B9⟩:=blk3 B9.out
   try clear c_B10 f_B10 l_B10
   obtain ⟨c_B10,f_B10,l_B10⟩:=blk3 B10.out
   try clear c_B7 f_B7 l_B7
   obtain ⟨c_B7,f_B7,l_B7⟩:=blk3 B7.out
   try clear c_B8 f_B8 l_B8
   obtain ⟨c_B8,f_B8,l_B8⟩:=blk3 B8.out
   go_wp2
   go_roundg (gk - 1)
   case measure=>omega
   case rel=>exact ⟨0+1,x32,⟨yn,ya,yl,yc,yb,ym,yd⟩,by omega,by go_num,HX7.out,B9.out,B10.out,G32.out,HY1.out⟩
  have hi0':(0:Int) < i:=by omega
  go_wp2_with fail
  refine Calls.mono (rmul_any ⟨yn,ya,yl,yc,yb,ym,yd⟩ xd (ehP x i) ((x.den:Int):Rat) _ (HY.out.raw ZY.out (by omega)) ((HD7.out.ext HX7.out).raw (den_sz ZX.out hT) (by omega))) ?_
  rintro e w11 ⟨x11,rfl,hE,g11⟩
  have G11:=Hi g11
  clear g11
  replace HX7:=hE.tr HX7
  replace HU:=Hi (HU.out.ext hE)
  replace HY:=Hi (HY.out.ext hE)
  replace B9:=hE.bl B9
  replace B10:=hE.bl B10
  replace B7:=hE.bl B7
  replace B8:=hE.bl B8
  have hs_w11:=hE.size
  clear hE
  try clear c_B9 f_B9 l_B9
  obtain ⟨c_B9,f_B9,l_B9⟩:=blk3 B9.out
  try clear c_B10 f_B10 l_B10
  obtain ⟨c_B10,f_B10,l_B10⟩:=blk3 B10.out
  try clear c_B7 f_B7 l_B7
  obtain ⟨c_B7,f_B7,l_B7⟩:=blk3 B7.out
  try clear c_B8 f_B8 l_B8
  obtain ⟨c_B8,f_B8,l_B8⟩:=blk3 B8.out
  go_upto_region 10 with fail
  refine nm_set3 B10.out rfl ?_
  intro w12 T
  replace HX7:=Hi (T.ext HX7.out (by omega))
  replace HU:=Hi (HU.out.keep T.keep)
  replace HY:=Hi (HY.out.keep T.keep)
  replace B9:=Hi (T.rest _ _ (by omega) B9.out)
  replace B10:=Hi (T.bx)
  replace B7:=Hi (T.rest _ _ (by omega) B7.out)
  replace B8:=Hi (T.rest _ _ (by omega) B8.out)
  replace G11:=Hi (G11.out.keep T.keep)
  have hs_w12:=nle T.size
  have hr_w12:=nle T.size.symm
  clear T
  try clear c_B9 f_B9 l_B9
  obtain ⟨c_B9,f_B9,l_B9⟩:=blk3 B9.out
  try clear c_B10 f_B10 l_B10
  obtain ⟨c_B10,f_B10,l_B10⟩:=blk3 B10.out
  try clear c_B7 f_B7 l_B7
  obtain ⟨c_B7,f_B7,l_B7⟩:=blk3 B7.out
  try clear c_B8 f_B8 l_B8
  obtain ⟨c_B8,f_B8,l_B8⟩:=blk3 B8.out
  have HY1:Hid (CanR w12 x11 (ehP x (i+1))):=Hi (by rw [← ehP_step x (by omega)];exact G11.out)
  obtain ⟨zn,za,zl,zc,zb,zm,zd⟩:=x11
  clear HY
  clear G11
  obtain ⟨ba,oa,r,hao,hbl,⟨hc1,hc2,hc3⟩,hPc⟩:=(LA7.out.ext HX7.out).celx (k:=k) hkP
  obtain ⟨rneg,ra,rn,rc,rb,rm,rd⟩:=r
  simp only at hc1 hc2 hc3
  have HC:=Hi hPc
  clear hPc
  subst hao
  go_upto_region 11 with fail
  clear hc1 hc2 hc3
  refine nm_alloc ?_
  intro w13 hE hB0 hz
  have hz_w13:=nle hz
  have hr_w13:=nle hz.symm
  clear hz
  replace HX7:=hE.tr HX7
  replace HU:=Hi (HU.out.ext hE)
  replace B9:=hE.bl B9
  replace B10:=hE.bl B10
  replace B7:=hE.bl B7
  replace B8:=hE.bl B8
  replace HY1:=Hi (HY1.out.ext hE)
  replace HC:=Hi (HC.out.ext hE)
  have hs_w13:=hE.size
  clear hE
  try clear c_B9 f_B9 l_B9
  obtain ⟨c_B9,f_B9,l_B9⟩:=blk3 B9.out
  try clear c_B10 f_B10 l_B10
  obtain ⟨c_B10,f_B10,l_B10⟩:=blk3 B10.out
  try clear c_B7 f_B7 l_B7
  obtain ⟨c_B7,f_B7,l_B7⟩:=blk3 B7.out
  try clear c_B8 f_B8 l_B8
  obtain ⟨c_B8,f_B8,l_B8⟩:=blk3 B8.out
  have B12:=Hi hB0
  clear hB0
  obtain ⟨c_B12,f_B12,l_B12⟩:=blk3 B12.out
  refine wp_region_front 7 (fun opIx=>match opIx with
   | 2=>.spec RH default RH.v (fun s w'=>CanR w' s (ehS a x i * (x.num:Rat)))
   | 5=>.spec RH default RH.v (fun s w'=>CanR w' s (a.getD k 0 * ehP x (i+1)))
   | 6=>.spec RH default RH.v (fun s w'=>CanR w' s (ehS a x i * (x.num:Rat)+a.getD k 0 * ehP x (i+1)))
   | _=>.quiet) (fun | 6=>[2,5] | _=>[]) (by kernel_rfl) (by kernel_rfl) (fun w0 he0 hz0 hc0 hf0=>?_)
  replace he0:=Hi he0
  simp only [pT]
  repeat (refine wpq fun K h=>?_;go_big_quiet_op;refine h _ ?_;clear h K)
  refine wps he0.out rfl rfl (fun w1 hW hG=>?_) fun x30=>?_
  ·exact spc [RH.v ⟨un,ua,ul,uc,ub,um,ud⟩,xn.v] Tryz.func114 (rmul_any _ xn _ _ _ ((HU.out.ext hW).raw ZU.out (by omega)) (((HN7.out.ext HX7.out).ext hW).raw (num_sz ZX.out hT) (by omega)))
  simp only [pS]
  repeat (refine wpq fun K h=>?_;go_big_quiet_op;refine h _ ?_;clear h K)
  refine wps he0.out rfl rfl (fun w1 hW hG=>?_) fun x31=>?_
  ·exact spc [RH.v ⟨rneg,ra,rn,rc,rb,rm,rd⟩,RH.v ⟨zn,za,zl,zc,zb,zm,zd⟩] Tryz.func114 (rmul_any _ _ _ _ _ ((HC.out.ext hW).raw ZK.out (by omega)) ((HY1.out.ext hW).raw ZY1.out (by omega)))
  simp only [pS]
  repeat (refine wpq fun K h=>?_;go_big_quiet_op;refine h _ ?_;clear h K)
  refine wps he0.out rfl rfl (fun w1 hW hG=>?_) fun x32=>?_
  ·have g30:=(hG 2 (by decide):Since _ _).get fun _ e g=>g.ext e
   have g31:=(hG 5 (by decide):Since _ _).get fun _ e g=>g.ext e
   exact spc [x30.v,x31.v] Tryz.func129 (radd_any x30 x31 _ _ _ (g30.raw (ZU.out.mul (num_sz ZX.out hT)) (by omega)) (g31.raw (ZK.out.mul ZY1.out) (by omega)))
  simp only [pS]
  repeat (refine wpq fun K h=>?_;go_big_quiet_op;refine h _ ?_;clear h K)
  refine wpF_nil ?_
  intro w14 hI
  have hE:=he0.out.trans hI.ext
  have G30:=Hi ((hI.facts 2:Since _ _).get fun _ e g=>g.ext e)
  have G31:=Hi ((hI.facts 5:Since _ _).get fun _ e g=>g.ext e)
  have G32:=Hi ((hI.facts 6:Since _ _).get fun _ e g=>g.ext e)
  clear hI he0 hz0 hc0 hf0
  replace HX7:=hE.tr HX7
  replace HU:=Hi (HU.out.ext hE)
  replace B9:=hE.bl B9
  replace B10:=hE.bl B10
  replace B7:=hE.bl B7
  replace B8:=hE.bl B8
  replace HY1:=Hi (HY1.out.ext hE)
  replace HC:=Hi (HC.out.ext hE)
  replace B12:=hE.bl B12
  have hs_w14:=hE.size
  clear hE
  try clear c_B9 f_B9 l_B9
  obtain ⟨c_B9,f_B9,l_B9⟩:=blk3 B9.out
  try clear c_B10 f_B10 l_B10
  obtain ⟨c_B10,f_B10,l_B10⟩:=blk3 B10.out
  try clear c_B7 f_B7 l_B7
  obtain ⟨c_B7,f_B7,l_B7⟩:=blk3 B7.out
  try clear c_B8 f_B8 l_B8
  obtain ⟨c_B8,f_B8,l_B8⟩:=blk3 B8.out
  try clear c_B12 f_B12 l_B12
  obtain ⟨c_B12,f_B12,l_B12⟩:=blk3 B12.out
  simp only [pD]
  rw [HST.out] at G32
  go_upto_region 12 with fail
  (try clear c_B12 f_B12 l_B12);clear B12
  refine nm_set3 B9.out rfl ?_
  intro w15 T
  replace HX7:=Hi (T.ext HX7.out (by omega))
  replace HU:=Hi (HU.out.keep T.keep)
  replace B9:=Hi (T.bx)
  replace B10:=Hi (T.rest _ _ (by omega) B10.out)
  replace B7:=Hi (T.rest _ _ (by omega) B7.out)
  replace B8:=Hi (T.rest _ _ (by omega) B8.out)
  replace HY1:=Hi (HY1.out.keep T.keep)
  replace HC:=Hi (HC.out.keep T.keep)
  replace G30:=Hi (G30.out.keep T.keep)
  replace G31:=Hi (G31.out.keep T.keep)
  replace G32:=Hi (G32.out.keep T.keep)
  have hs_w15:=nle T.size
  have hr_w15:=nle T.size.symm
  clear T
  try clear c_B9 f_B9 l_B9
  obtain ⟨c_B9,f_B9,l_B9⟩:=blk3 B9.out
  try clear c_B10 f_B10 l_B10
  obtain ⟨c_B10,f_B10,l_B10⟩:=blk3 B10.out
  try clear c_B7 f_B7 l_B7
  obtain ⟨c_B7,f_B7,l_B7⟩:=blk3 B7.out
  try clear c_B8 f_B8 l_B8
  obtain ⟨c_B8,f_B8,l_B8⟩:=blk3 B8.out
  go_wp2
  go_roundg (gk - 1)
  case measure=>omega
  case rel=>exact ⟨i+1,x32,⟨zn,za,zl,zc,zb,zm,zd⟩,by omega,by go_num,HX7.out,B9.out,B10.out,G32.out,HY1.out⟩
end Go.Proofs.YtpieblkklbilgaaGreat
