/- Run of package response. -/
import Derived.Test.YtpieblkklbilgaaGreatQPRp1
set_option linter.unusedVariables false
namespace Go.Proofs.YtpieblkklbilgaaGreat
open Go.RowKit Go.Front Go.Num Stab
attribute [local go_sem] XW.cell XW.frozen
def runV (b a x:List Rat):Int × List Rat:=if VF b a then (0,runL b a (seq x) x.length) else (2,[])
theorem sm_min1 (f:Nat→Rat) {k n:Nat} (h:k≤n):sm (min k (n+1)) f+f k=sm (min (k+1) (n+1)) f:=by
 rw [show min k (n+1)=k by omega,show min (k+1) (n+1)=k+1 by omega];rfl
theorem sm_min2 (f:Nat→Rat) {k n:Nat} (h:n < k):sm (min k (n+1)) f=sm (min (k+1) (n+1)) f:=by
 rw [show min k (n+1)=n+1 by omega,show min (k+1) (n+1)=n+1 by omega]
theorem sm_min3 (A:Rat) (f:Nat→Rat) {k n:Nat} (h0:1≤k) (h:k≤n):A - sm (min (k - 1) n) f - f (k - 1)=A - sm (min (k+1 - 1) n) f:=by
 obtain ⟨j,rfl⟩:∃ j,k=j+1:=⟨k - 1,by omega⟩
 rw [show min (j+1 - 1) n=j by omega,show min (j+1+1 - 1) n=j+1 by omega,show j+1 - 1=j by omega]
 show _=A - (sm j f+f j)
 grind
theorem sm_min4 (f:Nat→Rat) {k n:Nat} (h:k=0 ∨ n < k):sm (min (k - 1) n) f=sm (min (k+1 - 1) n) f:=by
 congr 1;omega
set_option maxRecDepth 8000 in
set_option maxHeartbeats 16000000 in
theorem run20_any (f:FH) (xo:Option Addr) (N xc:Nat) (b a x:List Rat) (sb sa sx:Nat) (w:World) (h:RawF w f b a) (k:RawL w ⟨xo,N,xc⟩ x) (hfb:f.b.n≤1000) (hfa:f.a.n≤1000) (hN:N≤200)
  (zb:SzL sb b) (za:SzL sa a) (zx:SzL sx x) (h1b:1≤sb) (h1a:1≤sa) (h1x:1≤sx) (h2b:sb≤60000000) (h2a:sa≤60000000) (h2x:sx≤60000000) (hK:runK sb sa sx (tz b).length (tz a).length * 2 ^ N≤60000000) :
  Does 57 [f.v,.slice xo N xc] w RF (fun r w'=>r.2=(runV b a x).1∧CanL w' r.1 (runV b a x).2):=by
 obtain ⟨i0,hi0,hz0,hz1,hz2⟩:=info_parts infoR
 obtain ⟨⟨ba,bn,bc⟩,⟨aa,an,ac⟩⟩:=f
 have H:=Hi h
 have K:=Hi k
 have HX:=Hi (Ext.refl w)
 have kle:=k.le
 have kmx:=k.max
 have Hx:=Hi k.len
 simp only at kle kmx Hx hfb hfa
 have ZB:=Hi zb.tz
 have ZA:=Hi za.tz
 have ZX:Hid (∀ i,Sz sx (seq x i)):=Hi (fun i=>zx.getD h1x i)
 have hbl:(tz b).length≤1000:=by have:=h.1.len;have h4:=tz_len_le b;simp only at this;omega
 have hal:(tz a).length≤1000:=by have:=h.2.len;have h4:=tz_len_le a;simp only at this;omega
 clear h k zb za zx
 unfold Does
 simp only [FH.v,SH.v]
 go_enter Tryz.func57,Tryz.ntmps57
 go_upto_region 1 with fail
 refine nm_alloc ?_
 intro w1 hE hB0 hz
 have hz_w1:=nle hz
 have hr_w1:=nle hz.symm
 clear hz
 replace HX:=hE.tr HX
 have hs_w1:=hE.size
 clear hE
 have B2:=Hi hB0
 clear hB0
 obtain ⟨c_B2,f_B2,l_B2⟩:=blk3 B2.out
 go_wp2_with fail
 refine Calls.mono (valid20_any ⟨⟨ba,bn,bc⟩,⟨aa,an,ac⟩⟩ b a _ (H.out.ext HX.out)) ?_
 rintro e w2 ⟨x2,rfl,hE,-⟩
 replace HX:=hE.tr HX
 replace B2:=hE.bl B2
 have hs_w2:=hE.size
 clear hE
 try clear c_B2 f_B2 l_B2
 obtain ⟨c_B2,f_B2,l_B2⟩:=blk3 B2.out
 by_cases hv:VF b a
 case neg =>
  have hv1:decide (VF b a)=false:=decide_eq_false hv
  have HV:Hid (runV b a x=(2,[])):=Hi (by unfold runV;rw [if_neg hv])
  rw [hv1]
  go_wp2
  exact bodyPost_ret (v:=RF (⟨none,0,0⟩,2)) (by simp [results,Tryz.results57,go_sem,RF]) rfl ⟨(⟨none,0,0⟩,2),rfl,HX.out,by rw [HV.out],by rw [HV.out];exact (NewL.nil 0 _).can⟩
 have hv1:decide (VF b a)=true:=decide_eq_true hv
 have HV:Hid (runV b a x=(0,runL b a (seq x) N)):=Hi (by unfold runV;rw [if_pos hv,Hx.out])
 rw [hv1]
 have hN2:¬ (200:Int) < N:=by omega
 go_wp2_with fail
 refine Calls.mono (of20_any ⟨⟨ba,bn,bc⟩,⟨aa,an,ac⟩⟩ b a _ (H.out.ext HX.out) (by simp only;omega) (by simp only;omega)) ?_
 rintro e w3 ⟨x3,rfl,hE,g3⟩
 have G3:=Hi g3
 clear g3
 replace HX:=hE.tr HX
 replace B2:=hE.bl B2
 have hs_w3:=hE.size
 clear hE
 try clear c_B2 f_B2 l_B2
 obtain ⟨c_B2,f_B2,l_B2⟩:=blk3 B2.out
 obtain ⟨⟨pa,P,pc⟩,⟨qa,Q,qc⟩⟩:=x3
 have LP:=Hi G3.out.1
 have LQ:=Hi G3.out.2
 clear G3
 simp only at LP LQ
 have HPl:=Hi LP.out.len
 have HQl:=Hi LQ.out.len
 simp only at HPl HQl
 rw [HPl.out] at hbl hK
 rw [HQl.out] at hal hK
 obtain ⟨p,hp⟩:∃ p,p=tz b:=⟨_,rfl⟩
 obtain ⟨q,hq⟩:∃ q,q=tz a:=⟨_,rfl⟩
 have HR:Hid (∀ n,runL b a (seq x) n=runL p q (seq x) n):=Hi (fun n=>by rw [hp,hq];exact (run_tz b a (seq x) n).symm)
 rw [← hp] at LP ZB HPl
 rw [← hq] at LQ ZA HQl
 clear hp hq
 simp only [qdV,SH.v]
 go_upto_region 6 with fail
 refine nm_alloc ?_
 intro w4 hE hB0 hz
 have hz_w4:=nle hz
 have hr_w4:=nle hz.symm
 clear hz
 replace HX:=hE.tr HX
 replace B2:=hE.bl B2
 replace LP:=Hi (LP.out.ext hE)
 replace LQ:=Hi (LQ.out.ext hE)
 have hs_w4:=hE.size
 clear hE
 try clear c_B2 f_B2 l_B2
 obtain ⟨c_B2,f_B2,l_B2⟩:=blk3 B2.out
 have B6:=Hi hB0
 clear hB0
 obtain ⟨c_B6,f_B6,l_B6⟩:=blk3 B6.out
 obtain ⟨b6,hb6⟩:∃ b6,b6=w3.heap.size:=⟨_,rfl⟩
 rw [← hb6] at B6 ⊢
 have hw4:w.heap.size≤w4.heap.size:=by omega
 clear hb6 c_B6 f_B6 l_B6
 have LP4:=LP
 have LQ4:=LQ
 have B64:=B6
 have X4:Hid (RawL w4 ⟨xo,N,xc⟩ x):=Hi (K.out.ext HX.out)
 have HX0:=HX
 have HX4:=Hi (Ext.refl w4)
 clear LP
 clear LQ
 (try clear c_B6 f_B6 l_B6);clear B6
 (try clear c_B2 f_B2 l_B2);clear B2
 clear HX
 go_upto_region 7 with (refine wpList_make rfl (.tmp 23) (.tmp 23) 22 rfl 30 i0 (RH.v default) 3 Tryz.underlying22 hi0 hz0 hz1 _ _ N rfl rfl (by omega) (by omega) (by rw [hz2];omega) (by omega) ?_;intro w5 hnew hE)
 have KB:=Hi (RBk.make rfl hnew)
 clear hnew
 replace HX4:=hE.tr HX4
 have hs_w5:=hE.size
 clear hE
 obtain ⟨L,hL⟩:∃ L,L=w4.heap.size:=⟨_,rfl⟩
 have hL4:w4.heap.size≤L:=by omega
 rw [← hL] at KB ⊢
 clear hL
 obtain ⟨Z,hZ⟩:∃ Z,Z=runK sb sa sx P Q:=⟨_,rfl⟩
 have HZ:=Hi hZ
 rw [← hZ] at hK
 clear hZ
 have hZ1:Z≤60000000:=Nat.le_trans (Nat.le_mul_of_pos_right _ (Nat.pow_pos (by decide))) hK
 have hZ2:1+P * (sb+sx+1)≤Z:=by have:=HZ.out;unfold runK at this;omega
 have HYS:Hid (∀ n,n < N→Sz (Z * 2 ^ n) ((runL p q (seq x) N).getD n 0)):=Hi (by
  rw [HZ.out]
  exact run_sz ZB.out ZA.out h1b h1a ZX.out (by rw [HPl.out];exact Nat.le_refl _) (by rw [HQl.out];exact Nat.le_refl _) N)
 have hpow:∀ i,i≤N→Z * 2 ^ i≤60000000:=fun i hi=>Nat.le_trans (Nat.mul_le_mul_left _ (Nat.pow_le_pow_right (by decide) hi)) hK
 have HPW:=Hi hpow
 clear hpow
 have HF1:Hid (∀ i k,k≤P→Sz 60000000 (sm (min k (i+1)) (fun k=>p.getD k 0 * seq x (i - k)))):=Hi (fun i k hk=>(run_part1 ZB.out h1b ZX.out k).mono (by
  have:=Nat.mul_le_mul_right (sb+sx+1) hk
  omega))
 have HF2:Hid (∀ i k,i < N→k≤Q→Sz 60000000 (sm (min P (i+1)) (fun k=>p.getD k 0 * seq x (i - k)) - sm (min k i) (fun k=>q.getD (k+1) 0 * (runL p q (seq x) N).getD (i - 1 - k) 0))):=Hi (fun i k hi hk=>(by
  have h1:=run_sz1 (b:=p) (a:=q) (y:=runL p q (seq x) N) (x:=seq x) (sb:=sb) (sa:=sa) (sx:=sx) (lb:=P) (la:=Q) (n:=i) ZB.out ZA.out h1b h1a ZX.out (by rw [HPl.out];exact Nat.le_refl _) (by rw [HQl.out];exact Nat.le_refl _) (fun j hj=>by rw [← HZ.out];exact HYS.out j (by omega)) P k (Nat.le_refl _) hk
  rw [← HZ.out] at h1
  exact h1.mono (HPW.out i (by omega))))
 go_wp2
 go_loopg [27] N (fun g v wr=>∃ (i:Nat) (rs:List RH),i+g=N∧v=.int .i64 (i:Nat)∧Ext w4 wr∧RBk wr L rs #[]∧rs.length=N∧PreC wr rs (runL p q (seq x) i))
 case atStart=>exact ⟨0,_,by omega,rfl,HX4.out,KB.out,by simp,fun j hj=>by simp [runL] at hj⟩
 case round =>
  obtain ⟨i,rs,hi,rfl,g1,g2,g3,g4⟩:=hrel
  clear HX4 KB
  have HX4:=Hi g1
  have KB:=Hi g2
  have HRl:=Hi g3
  have PC:=Hi g4
  have hw4r:=g1.size
  clear g1 g2 g3 g4
  try clear f_KB l_KB
  have f_KB:=blk_frozen KB.out
  have l_KB:=(Array.getElem?_eq_some_iff.1 KB.out).1
  by_cases h0:gk=0
  case pos =>
   subst h0
   obtain rfl:i=N:=by omega
   have hin:¬ (i:Int) < i:=by omega
   have HXw:=Hi (HX0.out.trans HX4.out)
   have LL:Hid (NewL w.heap.size wr ⟨some ⟨L,0,none⟩,i,i⟩ (runL p q (seq x) i)):=Hi (PreC.list PC.out KB.out HRl.out (runL_len _ _ _ _) (by omega) (by omega))
   go_wp2
   exact bodyPost_ret (v:=RF (⟨some ⟨L,0,none⟩,i,i⟩,0)) (by simp [results,Tryz.results57,go_sem,RF]) rfl ⟨(⟨some ⟨L,0,none⟩,i,i⟩,0),rfl,HXw.out,by rw [HV.out],by rw [HV.out,HR.out];exact LL.out.can⟩
  obtain ⟨g0,rfl⟩:∃ g0,gk=g0+1:=⟨gk - 1,by omega⟩
  have hin:(i:Int) < N:=by omega
  have B6:=Hi (HX4.out.block B64.out)
  try clear f_KB l_KB
  have f_KB:=blk_frozen KB.out
  have l_KB:=(Array.getElem?_eq_some_iff.1 KB.out).1
  try clear c_B6 f_B6 l_B6
  obtain ⟨c_B6,f_B6,l_B6⟩:=blk3 B6.out
  have hLr:L < wr.heap.size:=l_KB
  go_wp2_with fail
  refine Calls.mono (rof_any 0 _ (by decide) (by decide)) ?_
  rintro e w10 ⟨x10,rfl,hE,g10⟩
  have G10:=Hi g10
  clear g10
  replace HX4:=hE.tr HX4
  replace PC:=Hi (PC.out.ext hE)
  replace KB:=hE.bl KB
  replace B6:=hE.bl B6
  have hs_w10:=hE.size
  clear hE
  try clear f_KB l_KB
  have f_KB:=blk_frozen KB.out
  have l_KB:=(Array.getElem?_eq_some_iff.1 KB.out).1
  try clear c_B6 f_B6 l_B6
  obtain ⟨c_B6,f_B6,l_B6⟩:=blk3 B6.out
  go_upto_region 11 with fail
  refine nm_alloc ?_
  intro w11 hE hB0 hz
  have hz_w11:=nle hz
  have hr_w11:=nle hz.symm
  clear hz
  replace HX4:=hE.tr HX4
  replace PC:=Hi (PC.out.ext hE)
  replace KB:=hE.bl KB
  replace B6:=hE.bl B6
  replace G10:=Hi (G10.out.ext hE)
  have hs_w11:=hE.size
  clear hE
  try clear f_KB l_KB
  have f_KB:=blk_frozen KB.out
  have l_KB:=(Array.getElem?_eq_some_iff.1 KB.out).1
  try clear c_B6 f_B6 l_B6
  obtain ⟨c_B6,f_B6,l_B6⟩:=blk3 B6.out
  have B9:=Hi hB0
  clear hB0
  obtain ⟨c_B9,f_B9,l_B9⟩:=blk3 B9.out
  obtain ⟨b9,hb9⟩:∃ b9,b9=w10.heap.size:=⟨_,rfl⟩
  have hb9L:b9 ≠ L:=by omega
  have hb94:w4.heap.size≤b9:=by omega
  rw [← hb9] at B9 ⊢
  have HS0:Hid (CanR w11 x10 (sm (min 0 (i+1)) (fun k=>p.getD k 0 * seq x (i - k)))):=Hi (by rw [Nat.zero_min];exact G10.out)
  clear hb9 c_B9 f_B9 l_B9
  clear G10
  go_wp2
  go_loopg [35] P (fun g v wr=>∃ (k:Nat) (s:RH),k+g=P∧v=.int .i64 (k:Nat)∧Ext w4 wr∧RBk wr L rs #[]∧PreC wr rs (runL p q (seq x) i)∧wr.heap[b9]?=some (.cells #[.bool s.neg,.slice s.a s.n s.c,.slice s.b s.m s.d] 30 (0,0))∧CanR wr s (sm (min k (i+1)) (fun k=>p.getD k 0 * seq x (i - k))))
  case atStart=>exact ⟨0,x10,by omega,rfl,HX4.out,KB.out,PC.out,B9.out,HS0.out⟩
  case round =>
   obtain ⟨k,⟨sn,sa',sl,sc,sb',sm',sd⟩,hk,rfl,g1,g2,g3,g4,g5⟩:=hrel
   clear HX4 KB PC B9 HS0
   have HX4:=Hi g1
   have KB:=Hi g2
   have PC:=Hi g3
   have B9:=Hi g4
   have HS:=Hi g5
   have hw4r:=g1.size
   clear g1 g2 g3 g4 g5
   try clear f_KB l_KB
   have f_KB:=blk_frozen KB.out
   have l_KB:=(Array.getElem?_eq_some_iff.1 KB.out).1
   try clear c_B9 f_B9 l_B9
   obtain ⟨c_B9,f_B9,l_B9⟩:=blk3 B9.out
   by_cases h1:gk=0
   case neg =>
    have hkP:(k:Int) < P:=by omega
    obtain ⟨bx,ox,r,hao,hbl,⟨hc1,hc2,hc3⟩,hPc⟩:=(LP4.out.ext HX4.out).celx (k:=k) (by omega)
    obtain ⟨rneg,ra,rn,rc,rb,rm,rd⟩:=r
    simp only at hc1 hc2 hc3
    have HC:=Hi hPc
    have HAO:=Hi hao
    clear hPc
    subst hao
    have hLr:L < wr.heap.size:=l_KB
    have hb9r:b9 < wr.heap.size:=l_B9
    go_upto_region 14 with fail
    clear hc1 hc2 hc3
    refine nm_alloc ?_
    intro w13 hE hB0 hz
    have hz_w13:=nle hz
    have hr_w13:=nle hz.symm
    clear hz
    replace HX4:=hE.tr HX4
    replace PC:=Hi (PC.out.ext hE)
    replace HS:=Hi (HS.out.ext hE)
    replace KB:=hE.bl KB
    replace B9:=hE.bl B9
    replace HC:=Hi (HC.out.ext hE)
    have hs_w13:=hE.size
    clear hE
    try clear f_KB l_KB
    have f_KB:=blk_frozen KB.out
    have l_KB:=(Array.getElem?_eq_some_iff.1 KB.out).1
    try clear c_B9 f_B9 l_B9
    obtain ⟨c_B9,f_B9,l_B9⟩:=blk3 B9.out
    have B11:=Hi hB0
    clear hB0
    obtain ⟨c_B11,f_B11,l_B11⟩:=blk3 B11.out
    by_cases hki:k≤i
    case pos =>
     have hki':(k:Int)≤i:=by omega
     obtain ⟨j,hj⟩:∃ j,j=i - k:=⟨_,rfl⟩
     have hji:(i:Int) - k=j:=by omega
     obtain ⟨by',oy,r2,hbo,hbl2,⟨kc1,kc2,kc3⟩,hQc⟩:=(X4.out.ext HX4.out).cells' (k:=j) (by omega)
     obtain ⟨yneg,ya,yn,yc,yb,ym,yd⟩:=r2
     simp only at kc1 kc2 kc3
     have HQc:=Hi hQc
     clear hQc
     subst hbo
     have ZP:Hid (Sz sb (p.getD k 0)):=Hi (ZB.out.getD h1b k)
     have HST:Hid (sm (min k (i+1)) (fun k=>p.getD k 0 * seq x (i - k))+p.getD k 0 * x.getD j 0=sm (min (k+1) (i+1)) (fun k=>p.getD k 0 * seq x (i - k))):=Hi (by rw [hj];exact sm_min1 (fun k=>p.getD k 0 * seq x (i - k)) hki)
     have ZSm:Hid (Sz 60000000 (sm (min k (i+1)) (fun k=>p.getD k 0 * seq x (i - k)))):=Hi (HF1.out i k (by omega))
     have ZXj:Hid (Sz sx (x.getD j 0)):=Hi (ZX.out j)
     obtain ⟨u,hu⟩:∃ u,u=sm (min k (i+1)) (fun k=>p.getD k 0 * seq x (i - k)):=⟨_,rfl⟩
     rw [← hu] at HS HST ZSm
     clear hu hj
     go_upto_region 15 with fail
     refine wp_region_front 10 (fun opIx=>match opIx with
      | 8=>.spec RH default RH.v (fun s w'=>CanR w' s (p.getD k 0 * x.getD j 0))
      | 9=>.spec RH default RH.v (fun s w'=>CanR w' s (u+p.getD k 0 * x.getD j 0))
      | _=>.quiet) (fun | 9=>[8] | _=>[]) (by kernel_rfl) (by kernel_rfl) (fun w0 he0 hz0 hc0 hf0=>?_)
     replace he0:=Hi he0
     simp only [pT]
     repeat (refine wpq fun K h=>?_;go_big_quiet_op;refine h _ ?_;clear h K)
     refine wps he0.out rfl rfl (fun w1 hW hG=>?_) fun x20=>?_
     ·exact spc [RH.v ⟨rneg,ra,rn,rc,rb,rm,rd⟩,RH.v ⟨yneg,ya,yn,yc,yb,ym,yd⟩] Tryz.func114 (rmul_any _ _ _ _ _ ((HC.out.ext hW).raw ZP.out (by omega)) (HQc.out.ext hW))
     simp only [pS]
     repeat (refine wpq fun K h=>?_;go_big_quiet_op;refine h _ ?_;clear h K)
     refine wps he0.out rfl rfl (fun w1 hW hG=>?_) fun x21=>?_
     ·have g20:=(hG 8 (by decide):Since _ _).get fun _ e g=>g.ext e
      exact spc [RH.v ⟨sn,sa',sl,sc,sb',sm',sd⟩,x20.v] Tryz.func129 (radd_any _ x20 _ _ _ ((HS.out.ext hW).raw ZSm.out (by omega)) (g20.raw (ZP.out.mul ZXj.out) (by omega)))
     simp only [pS]
     repeat (refine wpq fun K h=>?_;go_big_quiet_op;refine h _ ?_;clear h K)
     refine wpF_nil ?_
     intro w15 hI
     have hE:=he0.out.trans hI.ext
     have G20:=Hi ((hI.facts 8:Since _ _).get fun _ e g=>g.ext e)
     have G21:=Hi ((hI.facts 9:Since _ _).get fun _ e g=>g.ext e)
     clear hI he0 hz0 hc0 hf0
     replace HX4:=hE.tr HX4
     replace PC:=Hi (PC.out.ext hE)
     replace HS:=Hi (HS.out.ext hE)
     replace KB:=hE.bl KB
     replace B9:=hE.bl B9
     replace HC:=Hi (HC.out.ext hE)
     replace B11:=hE.bl B11
     have hs_w15:=hE.size
     clear hE
     try clear f_KB l_KB
     have f_KB:=blk_frozen KB.out
     have l_KB:=(Array.getElem?_eq_some_iff.1 KB.out).1
     try clear c_B9 f_B9 l_B9
     obtain ⟨c_B9,f_B9,l_B9⟩:=blk3 B9.out
     try clear c_B11 f_B11 l_B11
     obtain ⟨c_B11,f_B11,l_B11⟩:=blk3 B11.out
     simp only [pD]
     rw [HST.out] at G21
     clear kc1 kc2 kc3
     go_upto_region 16 with fail
     refine nm_set3 B9.out rfl ?_
     intro w16 T
     replace HX4:=Hi (T.ext HX4.out (by omega))
     replace PC:=Hi (PC.out.keep T.keep)
     replace HS:=Hi (HS.out.keep T.keep)
     replace KB:=Hi (T.rest _ _ (by omega) KB.out)
     replace B9:=Hi (T.bx)
     replace HC:=Hi (HC.out.keep T.keep)
     replace B11:=Hi (T.rest _ _ (by omega) B11.out)
     replace G20:=Hi (G20.out.keep T.keep)
     replace G21:=Hi (G21.out.keep T.keep)
     have hs_w16:=nle T.size
     have hr_w16:=nle T.size.symm
     clear T
     try clear f_KB l_KB
     have f_KB:=blk_frozen KB.out
     have l_KB:=(Array.getElem?_eq_some_iff.1 KB.out).1
     try clear c_B9 f_B9 l_B9
     obtain ⟨c_B9,f_B9,l_B9⟩:=blk3 B9.out
     try clear c_B11 f_B11 l_B11
     obtain ⟨c_B11,f_B11,l_B11⟩:=blk3 B11.out
     go_wp2
     go_roundg (gk - 1)
     case measure=>omega
     case rel=>exact ⟨k+1,x21,by omega,by go_num,HX4.out,KB.out,PC.out,B9.out,G21.out⟩
    have hki':¬ (k:Int)≤i:=by omega
    have HST:=Hi (sm_min2 (fun k=>p.getD k 0 * seq x (i - k)) (show i < k by omega))
    rw [HST.out] at HS
    go_wp2
    go_roundg (gk - 1)
    case measure=>omega
    case rel=>exact ⟨k+1,⟨sn,sa',sl,sc,sb',sm',sd⟩,by omega,by go_num,HX4.out,KB.out,PC.out,B9.out,HS.out⟩
   subst h1
   obtain rfl:k=P:=by omega
   have hkn:¬ (k:Int) < k:=by omega
   obtain ⟨A,hA⟩:∃ A,A=sm (min k (i+1)) (fun k=>p.getD k 0 * seq x (i - k)):=⟨_,rfl⟩
   have HA:=Hi hA
   have HS0:Hid (CanR wr ⟨sn,sa',sl,sc,sb',sm',sd⟩ (A - sm (min (0 - 1) i) (fun k=>q.getD (k+1) 0 * (runL p q (seq x) N).getD (i - 1 - k) 0))):=Hi (by
    have:A - sm (min (0 - 1) i) (fun k=>q.getD (k+1) 0 * (runL p q (seq x) N).getD (i - 1 - k) 0)=A:=by rw [Nat.zero_sub,Nat.zero_min];show A - 0=A;grind
    rw [this,hA];exact HS.out)
   have B6:=Hi (HX4.out.block B64.out)
   clear HS
   try clear f_KB l_KB
   have f_KB:=blk_frozen KB.out
   have l_KB:=(Array.getElem?_eq_some_iff.1 KB.out).1
   try clear c_B9 f_B9 l_B9
   obtain ⟨c_B9,f_B9,l_B9⟩:=blk3 B9.out
   try clear c_B6 f_B6 l_B6
   obtain ⟨c_B6,f_B6,l_B6⟩:=blk3 B6.out
   clear hA
   go_wp2
   go_loopg [58] Q (fun g v wr=>∃ (k:Nat) (s:RH),k+g=Q∧v=.int .i64 (k:Nat)∧Ext w4 wr∧RBk wr L rs #[]∧PreC wr rs (runL p q (seq x) i)∧wr.heap[b9]?=some (.cells #[.bool s.neg,.slice s.a s.n s.c,.slice s.b s.m s.d] 30 (0,0))∧CanR wr s (A - sm (min (k - 1) i) (fun k=>q.getD (k+1) 0 * (runL p q (seq x) N).getD (i - 1 - k) 0)))
   case atStart=>exact ⟨0,_,by omega,rfl,HX4.out,KB.out,PC.out,B9.out,HS0.out⟩
   case round =>
    obtain ⟨t,⟨zn,za,zl,zc,zb,zm,zd⟩,ht,rfl,g1,g2,g3,g4,g5⟩:=hrel
    clear HX4 KB PC B9 HS0 B6 c_B6 f_B6 l_B6
    have HX4:=Hi g1
    have KB:=Hi g2
    have PC:=Hi g3
    have B9:=Hi g4
    have HS:=Hi g5
    have hw4r:=g1.size
    clear g1 g2 g3 g4 g5
    try clear f_KB l_KB
    have f_KB:=blk_frozen KB.out
    have l_KB:=(Array.getElem?_eq_some_iff.1 KB.out).1
    try clear c_B9 f_B9 l_B9
    obtain ⟨c_B9,f_B9,l_B9⟩:=blk3 B9.out
    have hLr:L < wr.heap.size:=l_KB
    have hb9r:b9 < wr.heap.size:=l_B9
    by_cases h2:gk=0
    case pos =>
     subst h2
     obtain rfl:t=Q:=by omega
     have htn:¬ (t:Int) < t:=by omega
     have HFu:Hid (A - sm (min (t - 1) i) (fun k=>q.getD (k+1) 0 * (runL p q (seq x) N).getD (i - 1 - k) 0)=runN p q (seq x) (runL p q (seq x) i)):=Hi (by
      rw [HA.out,← run_full (runL_len p q (seq x) i) (by rw [HPl.out];exact Nat.le_refl _) (show q.length≤t - 1+1 by rw [HQl.out];omega)]
      congr 1
      refine sm_congr (fun j hj=>?_)
      rw [runL_pre p q (seq x) (k:=i - 1 - j) (m:=N) (n:=i) (by omega) (by omega)])
     rw [HFu.out] at HS
     obtain ⟨f1,f2,f3⟩:=RBk.at (re:=#[]) KB.out (k:=i) (by rw [HRl.out];omega)
     go_upto_region 24 with fail
     refine nm_rat (k:=i) KB.out rfl (by rw [HRl.out];omega) ?_
     intro y6 T
     clear f1 f2 f3
     replace HX4:=Hi (T.ext HX4.out (by omega))
     replace PC:=Hi (PC.out.keep T.keep)
     replace HS:=Hi (HS.out.keep T.keep)
     replace KB:=Hi (T.bx)
     replace B9:=Hi (T.rest _ _ (by omega) B9.out)
     have hs_y6:=nle T.size
     have hr_y6:=nle T.size.symm
     clear T
     try clear f_KB l_KB
     have f_KB:=blk_frozen KB.out
     have l_KB:=(Array.getElem?_eq_some_iff.1 KB.out).1
     try clear c_B9 f_B9 l_B9
     obtain ⟨c_B9,f_B9,l_B9⟩:=blk3 B9.out
     have PCn:Hid (PreC y6 (rs.set i ⟨zn,za,zl,zc,zb,zm,zd⟩) (runL p q (seq x) (i+1))):=Hi (PC.out.snoc (runL_len _ _ _ _) (by rw [HRl.out];omega) HS.out)
     go_wp2
     go_roundg g0
     case measure=>omega
     case rel=>exact ⟨i+1,_,by omega,by go_num,HX4.out,KB.out,by rw [List.length_set];exact HRl.out,PCn.out⟩
    have htQ:(t:Int) < Q:=by omega
    obtain ⟨bx,ox,r,hao,hbl,⟨hc1,hc2,hc3⟩,hPc⟩:=(LQ4.out.ext HX4.out).celx (k:=t) (by omega)
    obtain ⟨rneg,ra,rn,rc,rb,rm,rd⟩:=r
    simp only at hc1 hc2 hc3
    have HC:=Hi hPc
    clear hPc
    subst hao
    go_upto_region 20 with fail
    clear hc1 hc2 hc3
    refine nm_alloc ?_
    intro w19 hE hB0 hz
    have hz_w19:=nle hz
    have hr_w19:=nle hz.symm
    clear hz
    replace HX4:=hE.tr HX4
    replace PC:=Hi (PC.out.ext hE)
    replace HS:=Hi (HS.out.ext hE)
    replace KB:=hE.bl KB
    replace B9:=hE.bl B9
    replace HC:=Hi (HC.out.ext hE)
    have hs_w19:=hE.size
    clear hE
    try clear f_KB l_KB
    have f_KB:=blk_frozen KB.out
    have l_KB:=(Array.getElem?_eq_some_iff.1 KB.out).1
    try clear c_B9 f_B9 l_B9
    obtain ⟨c_B9,f_B9,l_B9⟩:=blk3 B9.out
    have B13:=Hi hB0
    clear hB0
    obtain ⟨c_B13,f_B13,l_B13⟩:=blk3 B13.out
    by_cases ht1:t=0 ∨ i < t
    case pos =>
     have HST:=Hi (sm_min4 (fun k=>q.getD (k+1) 0 * (runL p q (seq x) N).getD (i - 1 - k) 0) ht1)
     rw [HST.out] at HS
     by_cases ht0:t=0
     case pos =>
      subst ht0
      go_wp2
      go_roundg (gk - 1)
      case measure=>omega
      case rel=>exact ⟨0+1,⟨zn,za,zl,zc,zb,zm,zd⟩,by omega,by go_num,HX4.out,KB.out,PC.out,B9.out,HS.out⟩
     have ht3:(1:Int)≤t:=by omega
     have ht4:¬ (t:Int)≤i:=by omega
     go_wp2
     go_roundg (gk - 1)
     case measure=>omega
     case rel=>exact ⟨t+1,⟨zn,za,zl,zc,zb,zm,zd⟩,by omega,by go_num,HX4.out,KB.out,PC.out,B9.out,HS.out⟩
    have ht3:(1:Int)≤t:=by omega
    have ht4:(t:Int)≤i:=by omega
    obtain ⟨j,hj⟩:∃ j,j=i - t:=⟨_,rfl⟩
    have hji:(i:Int) - t=j:=by omega
    obtain ⟨kc1,kc2,kc3⟩:=RBk.at (re:=#[]) KB.out (k:=j) (by rw [HRl.out];omega)
    have hyc:=PC.out j (by rw [runL_len];omega)
    rw [runL_pre p q (seq x) (k:=j) (m:=i) (n:=N) (by omega) (by omega)] at hyc
    obtain ⟨r2,hr2⟩:∃ r2,r2=rs.getD j default:=⟨_,rfl⟩
    rw [← hr2] at kc1 kc2 kc3 hyc
    obtain ⟨yneg,ya,yn,yc,yb,ym,yd⟩:=r2
    simp only at kc1 kc2 kc3
    have HYc:=Hi hyc
    clear hyc hr2
    have ZQ:Hid (Sz sa (q.getD t 0)):=Hi (ZA.out.getD h1a t)
    have ZYj:Hid (Sz 60000000 ((runL p q (seq x) N).getD j 0)):=Hi ((HYS.out j (by omega)).mono (HPW.out j (by omega)))
    have ZSm:Hid (Sz 60000000 (A - sm (min (t - 1) i) (fun k=>q.getD (k+1) 0 * (runL p q (seq x) N).getD (i - 1 - k) 0))):=Hi (by rw [HA.out];exact HF2.out i (t - 1) (by omega) (by omega))
    have HST:Hid (A - sm (min (t - 1) i) (fun k=>q.getD (k+1) 0 * (runL p q (seq x) N).getD (i - 1 - k) 0) - q.getD t 0 * (runL p q (seq x) N).getD j 0=A - sm (min (t+1 - 1) i) (fun k=>q.getD (k+1) 0 * (runL p q (seq x) N).getD (i - 1 - k) 0)):=Hi (by
     have h5:=sm_min3 A (fun k=>q.getD (k+1) 0 * (runL p q (seq x) N).getD (i - 1 - k) 0) (k:=t) (n:=i) (by omega) (by omega)
     simp only [show t - 1+1=t by omega,show i - 1 - (t - 1)=j by omega] at h5
     exact h5)
    obtain ⟨u,hu⟩:∃ u,u=A - sm (min (t - 1) i) (fun k=>q.getD (k+1) 0 * (runL p q (seq x) N).getD (i - 1 - k) 0):=⟨_,rfl⟩
    obtain ⟨yj,hyj⟩:∃ yj,yj=(runL p q (seq x) N).getD j 0:=⟨_,rfl⟩
    rw [← hu,← hyj] at HST
    rw [← hu] at HS ZSm
    rw [← hyj] at HYc ZYj
    clear hu hj hyj
    go_upto_region 21 with fail
    refine wp_region_front 10 (fun opIx=>match opIx with
     | 8=>.spec RH default RH.v (fun s w'=>CanR w' s (q.getD t 0 * yj))
     | 9=>.spec RH default RH.v (fun s w'=>CanR w' s (u - q.getD t 0 * yj))
     | _=>.quiet) (fun | 9=>[8] | _=>[]) (by kernel_rfl) (by kernel_rfl) (fun w0 he0 hz0 hc0 hf0=>?_)
    replace he0:=Hi he0
    simp only [pT]
    repeat (refine wpq fun K h=>?_;go_big_quiet_op;refine h _ ?_;clear h K)
    refine wps he0.out rfl rfl (fun w1 hW hG=>?_) fun x20=>?_
    ·exact spc [RH.v ⟨rneg,ra,rn,rc,rb,rm,rd⟩,RH.v ⟨yneg,ya,yn,yc,yb,ym,yd⟩] Tryz.func114 (rmul_any _ _ _ _ _ ((HC.out.ext hW).raw ZQ.out (by omega)) ((HYc.out.ext hW).raw ZYj.out (by omega)))
    simp only [pS]
    repeat (refine wpq fun K h=>?_;go_big_quiet_op;refine h _ ?_;clear h K)
    refine wps he0.out rfl rfl (fun w1 hW hG=>?_) fun x21=>?_
    ·have g20:=(hG 8 (by decide):Since _ _).get fun _ e g=>g.ext e
     exact spc [RH.v ⟨zn,za,zl,zc,zb,zm,zd⟩,x20.v] Tryz.func130 (rsub_any _ x20 _ _ _ ((HS.out.ext hW).raw ZSm.out (by omega)) (g20.raw (ZQ.out.mul ZYj.out) (by omega)))
    simp only [pS]
    repeat (refine wpq fun K h=>?_;go_big_quiet_op;refine h _ ?_;clear h K)
    refine wpF_nil ?_
    intro w21 hI
    have hE:=he0.out.trans hI.ext
    have G20:=Hi ((hI.facts 8:Since _ _).get fun _ e g=>g.ext e)
    have G21:=Hi ((hI.facts 9:Since _ _).get fun _ e g=>g.ext e)
    clear hI he0 hz0 hc0 hf0
    replace HX4:=hE.tr HX4
    replace PC:=Hi (PC.out.ext hE)
    replace HS:=Hi (HS.out.ext hE)
    replace KB:=hE.bl KB
    replace B9:=hE.bl B9
    replace HC:=Hi (HC.out.ext hE)
    replace B13:=hE.bl B13
    have hs_w21:=hE.size
    clear hE
    try clear f_KB l_KB
    have f_KB:=blk_frozen KB.out
    have l_KB:=(Array.getElem?_eq_some_iff.1 KB.out).1
    try clear c_B9 f_B9 l_B9
    obtain ⟨c_B9,f_B9,l_B9⟩:=blk3 B9.out
    try clear c_B13 f_B13 l_B13
    obtain ⟨c_B13,f_B13,l_B13⟩:=blk3 B13.out
    simp only [pD]
    rw [HST.out] at G21
    clear kc1 kc2 kc3
    go_upto_region 22 with fail
    refine nm_set3 B9.out rfl ?_
    intro w22 T
    replace HX4:=Hi (T.ext HX4.out (by omega))
    replace PC:=Hi (PC.out.keep T.keep)
    replace HS:=Hi (HS.out.keep T.keep)
    replace KB:=Hi (T.rest _ _ (by omega) KB.out)
    replace B9:=Hi (T.bx)
    replace HC:=Hi (HC.out.keep T.keep)
    replace B13:=Hi (T.rest _ _ (by omega) B13.out)
    replace G20:=Hi (G20.out.keep T.keep)
    replace G21:=Hi (G21.out.keep T.keep)
    have hs_w22:=nle T.size
    have hr_w22:=nle T.size.symm
    clear T
    try clear f_KB l_KB
    have f_KB:=blk_frozen KB.out
    have l_KB:=(Array.getElem?_eq_some_iff.1 KB.out).1
    try clear c_B9 f_B9 l_B9
    obtain ⟨c_B9,f_B9,l_B9⟩:=blk3 B9.out
    try clear c_B13 f_B13 l_B13
    obtain ⟨c_B13,f_B13,l_B13⟩:=blk3 B13.out
    go_wp2
    go_roundg (gk - 1)
    case measure=>omega
    case rel=>exact ⟨t+1,x21,by omega,by go_num,HX4.out,KB.out,PC.out,B9.out,G21.out⟩
end Go.Proofs.YtpieblkklbilgaaGreat
