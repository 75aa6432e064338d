/- run, Run, Impulse of the reference 20. -/
import Derived.Test.YtdchjfcklppmgaaGreatQXR20c
import Derived.Test.YtdchjfcklppmgaaGreatQXRp4
set_option linter.unusedVariables false
namespace Go.Proofs.YtdchjfcklppmgaaGreat
open Go.RowKit Go.Front Go.Num Stab
attribute [local go_sem] XW.cell XW.frozen
set_option maxRecDepth 8000 in
set_option maxHeartbeats 16000000 in
theorem rrun_any (f:FH) (xo:Option Addr) (N xc:Nat) (b a x:List Rat) (sb sa sx:Nat) (w:World) (h:RawF w f b a) (k:RawL w ⟨xo,N,xc⟩ x) (hfb:f.b.n≤1000) (hfa:f.a.n≤1000) (hN:N≤200)
  (zb:SzL sb b) (za:SzL sa a) (zx:SzL sx x) (h1b:1≤sb) (h1a:1≤sa) (h1x:1≤sx) (h2b:sb≤60000000) (h2a:sa≤60000000) (h2x:sx≤60000000) (hK:runK sb sa sx b.length a.length * 2 ^ N≤60000000) :
  Does 269 [f.v,.slice xo N xc] w SH.v (fun s w'=>CanL w' s (runL b a (seq x) N)):=by
 obtain ⟨⟨ba,bn,bc⟩,⟨aa,an,ac⟩⟩:=f
 have HB:=Hi h.1
 have HA:=Hi h.2
 have K:=Hi k
 have HX:=Hi (Ext.refl w)
 have HBl:=Hi h.1.len
 have HAl:=Hi h.2.len
 have ZB:=Hi zb
 have ZA:=Hi za
 have ZX:Hid (∀ i,Sz sx (seq x i)):=Hi (fun i=>zx.getD h1x i)
 have hb1:=h.1.le
 have hb2:=h.1.max
 have ha1:=h.2.le
 have ha2:=h.2.max
 have hx1:=k.le
 have hx2:=k.max
 simp only at HBl HAl hfb hfa hb1 hb2 ha1 ha2 hx1 hx2
 rw [HBl.out,HAl.out] at hK
 clear h k zb za zx
 obtain ⟨Z,hZ⟩:∃ Z,Z = runK sb sa sx bn an:=⟨_,rfl⟩
 have HZ:=Hi hZ
 rw [← hZ] at hK
 clear hZ
 have hZ1:Z≤60000000:=Nat.le_trans (Nat.le_mul_of_pos_right _ (Nat.pow_pos (by decide))) hK
 have hZ2:1 + bn * (sb + sx + 1)≤Z:=by have:=HZ.out; unfold runK at this; omega
 have HYS:Hid (∀ M n,n < M→M≤N→Sz 60000000 ((runL b a (seq x) M).getD n 0)):=Hi (fun M n hn hM=>by
  have h1:=run_sz ZB.out ZA.out h1b h1a ZX.out (show b.length≤bn by rw [HBl.out]; exact Nat.le_refl _) (show a.length≤an by rw [HAl.out]; exact Nat.le_refl _) M n hn
  rw [← HZ.out] at h1
  exact h1.mono (Nat.le_trans (Nat.mul_le_mul_left _ (Nat.pow_le_pow_right (by decide) (by omega))) hK))
 have HF1:Hid (∀ i k,k≤bn→Sz 60000000 (sm (min k (i + 1)) (fun k=>b.getD k 0 * seq x (i - k)))):=Hi (fun i k hk=>(run_part1 ZB.out h1b ZX.out k).mono (by
  have:=Nat.mul_le_mul_right (sb + sx + 1) hk
  omega))
 have HF2:Hid (∀ i k,i < N→k≤an→Sz 60000000 (sm (min bn (i + 1)) (fun k=>b.getD k 0 * seq x (i - k)) - sm (min k i) (fun k=>a.getD (k + 1) 0 * (runL b a (seq x) i).getD (i - 1 - k) 0))):=Hi (fun i k hi hk=>(by
  have h1:=run_sz1 (b:=b) (a:=a) (y:=runL b a (seq x) i) (x:=seq x) (sb:=sb) (sa:=sa) (sx:=sx) (lb:=bn) (la:=an) (n:=i) ZB.out ZA.out h1b h1a ZX.out (by rw [HBl.out]; exact Nat.le_refl _) (by rw [HAl.out]; exact Nat.le_refl _) (fun j hj=>run_sz ZB.out ZA.out h1b h1a ZX.out (show b.length≤bn by rw [HBl.out]; exact Nat.le_refl _) (show a.length≤an by rw [HAl.out]; exact Nat.le_refl _) i j hj) bn k (Nat.le_refl _) hk
  rw [← HZ.out] at h1
  exact h1.mono (Nat.le_trans (Nat.mul_le_mul_left _ (Nat.pow_le_pow_right (by decide) (by omega))) hK)))
 clear hK
 unfold Does
 simp only [FH.v,SH.v]
 go_enter Tryz.func269,Tryz.ntmps269
 go_upto_region 1 with fail
 refine nm_alloc ?_
 intro w1 hE hB0 hz
 have hz_w1:=nle hz
 have hr_w1:=nle hz.symm
 clear hz
 replace HX:=hE.tr HX
 have hs_w1:=hE.size
 clear hE
 have B2:=Hi hB0
 clear hB0
 obtain ⟨c_B2,f_B2,l_B2⟩:=blk3 B2.out
 obtain ⟨b2,hbe⟩:∃ b2,b2 = w.heap.size:=⟨_,rfl⟩
 have hb2w:w.heap.size≤b2:=by omega
 have hb21:b2 < w1.heap.size:=by omega
 rw [← hbe] at B2 ⊢
 clear hbe c_B2 f_B2 l_B2
 go_wp2
 go_loopg [5,12] N (fun g v i wr=>∃ (j:Nat) (s:SH),v = s.v∧j + g = N∧i = .int .i64 (j:Nat)∧Ext w wr∧w1.heap.size≤wr.heap.size∧wr.heap[b2]? = some (.cells #[.slice ba bn bc,.slice aa an ac] 85 (0,0))∧OwnQ wr (w1.heap.size≤·) s.v (runL b a (seq x) j))
 case atStart=>exact ⟨0,⟨none,0,0⟩,rfl,by omega,rfl,HX.out,Nat.le_refl _,B2.out,OwnQ.nil _ _⟩
 case round =>
  obtain ⟨j,⟨ya,yn,yc⟩,rfl,hj,rfl,g1,hszr,g3,g4⟩:=hrel
  clear HX B2
  have HX:=Hi g1
  have B2:=Hi g3
  have HO0:=Hi g4
  clear g1 g3 g4
  simp only [SH.v]
  try clear c_B2 f_B2 l_B2
  obtain ⟨c_B2,f_B2,l_B2⟩:=blk3 B2.out
  by_cases h0:gk = 0
  case pos =>
   subst h0
   obtain rfl:j = N:=by omega
   have hjn:¬ (j:Int) < j:=by omega
   have LL:Hid (CanL wr ⟨ya,yn,yc⟩ (runL b a (seq x) j)):=Hi (OwnQ.can (s:=⟨ya,yn,yc⟩) HO0.out)
   go_wp2
   go_ret
   exact ⟨⟨ya,yn,yc⟩,rfl,HX.out,LL.out⟩
  obtain ⟨g0,rfl⟩:∃ g0,gk = g0 + 1:=⟨gk - 1,by omega⟩
  have hjn:(j:Int) < N:=by omega
  obtain ⟨B0,hB0⟩:∃ B0,B0 = wr.heap.size:=⟨_,rfl⟩
  have HO:Hid (OwnQ wr (fun i=>w1.heap.size≤i∧i < B0) (.slice ya yn yc) (runL b a (seq x) j)):=Hi (HO0.out.mono (fun i hi h=>⟨h,by omega⟩))
  have hyn:yn = j:=by have:=OwnQ.len (s:=⟨ya,yn,yc⟩) HO0.out; rw [runL_len] at this; simp only at this; omega
  subst hyn
  have hB0r:B0≤wr.heap.size:=by omega
  have hB0w:w1.heap.size≤B0:=by omega
  have hwB:w.heap.size≤B0:=by omega
  have hb2B:b2 < B0:=by omega
  clear HO0 hB0
  go_wp2_with fail
  refine Calls.mono (rof3_any 0 _ (by decide) (by decide)) ?_
  rintro e w10 ⟨x10,rfl,hE,g10⟩
  have G10:=Hi g10
  clear g10
  replace HX:=hE.tr HX
  replace B2:=hE.bl B2
  replace HO:=Hi (HO.out.ext hE)
  have hs_w10:=hE.size
  clear hE
  try clear c_B2 f_B2 l_B2
  obtain ⟨c_B2,f_B2,l_B2⟩:=blk3 B2.out
  go_upto_region 6 with fail
  refine nm_alloc ?_
  intro w11 hE hB0 hz
  have hz_w11:=nle hz
  have hr_w11:=nle hz.symm
  clear hz
  replace HX:=hE.tr HX
  replace B2:=hE.bl B2
  replace HO:=Hi (HO.out.ext hE)
  replace G10:=Hi (G10.out.ext hE)
  have hs_w11:=hE.size
  clear hE
  try clear c_B2 f_B2 l_B2
  obtain ⟨c_B2,f_B2,l_B2⟩:=blk3 B2.out
  have B7:=Hi hB0
  clear hB0
  obtain ⟨c_B7,f_B7,l_B7⟩:=blk3 B7.out
  obtain ⟨b7,hb7⟩:∃ b7,b7 = w10.heap.size:=⟨_,rfl⟩
  have hb7B:B0≤b7:=by omega
  rw [← hb7] at B7 ⊢
  have HS0:Hid (CanR w11 x10 (sm (min 0 (yn + 1)) (fun k=>b.getD k 0 * seq x (yn - k)))):=Hi (by rw [Nat.zero_min]; exact G10.out)
  clear hb7 c_B7 f_B7 l_B7 c_B2 f_B2 l_B2
  clear G10
  have hw11:w1.heap.size≤w11.heap.size:=by omega
  go_wp2
  go_loopg [8] (min (yn + 1) bn) (fun g v wr=>∃ (k:Nat) (s:RH),k + g = min (yn + 1) bn∧v = .int .i64 (k:Nat)∧Ext w wr∧w1.heap.size≤wr.heap.size∧wr.heap[b2]? = some (.cells #[.slice ba bn bc,.slice aa an ac] 85 (0,0))∧OwnQ wr (fun i=>w1.heap.size≤i∧i < B0) (.slice ya yn yc) (runL b a (seq x) yn)∧wr.heap[b7]? = some (.cells #[.bool s.neg,.slice s.a s.n s.c,.slice s.b s.m s.d] 30 (0,0))∧CanR wr s (sm (min k (yn + 1)) (fun k=>b.getD k 0 * seq x (yn - k))))
  case atStart=>exact ⟨0,x10,by omega,rfl,HX.out,hw11,B2.out,HO.out,B7.out,HS0.out⟩
  case round =>
   obtain ⟨k,⟨sn,sa',sl,sc,sb',sm',sd⟩,hk,rfl,g1,hw1r,g2,g3,g4,g5⟩:=hrel
   clear HX B2 HO B7 HS0
   have HX:=Hi g1
   have B2:=Hi g2
   have HO:=Hi g3
   have B7:=Hi g4
   have HS:=Hi g5
   clear g1 g2 g3 g4 g5
   try clear c_B2 f_B2 l_B2
   obtain ⟨c_B2,f_B2,l_B2⟩:=blk3 B2.out
   try clear c_B7 f_B7 l_B7
   obtain ⟨c_B7,f_B7,l_B7⟩:=blk3 B7.out
   have hb7r:b7 < wr.heap.size:=l_B7
   have hb2r:b2 < wr.heap.size:=l_B2
   by_cases h1:gk = 0
   case neg =>
    have hky:(k:Int)≤yn:=by omega
    have hkb:(k:Int) < bn:=by omega
    obtain ⟨jj,hjj⟩:∃ jj,jj = yn - k:=⟨_,rfl⟩
    have hji:(yn:Int) - k = jj:=by omega
    obtain ⟨y1,f1,r1,q1,hl1,⟨a1,a2,a3⟩,hP1⟩:=(HB.out.ext HX.out).cells' (k:=k) (by omega)
    obtain ⟨y2,f2,r2,q2,hl2,⟨a4,a5,a6⟩,hP2⟩:=(K.out.ext HX.out).cells' (k:=jj) (by omega)
    obtain ⟨r1neg,r1a,r1n,r1c,r1b,r1m,r1d⟩:=r1
    obtain ⟨r2neg,r2a,r2n,r2c,r2b,r2m,r2d⟩:=r2
    simp only at q1 q2 a1 a2 a3 a4 a5 a6
    have Q1:=Hi hP1
    have Q2:=Hi hP2
    clear hP1 hP2
    subst q1 q2
    have ZP:Hid (Sz sb (b.getD k 0)):=Hi (ZB.out.getD h1b k)
    have ZXj:Hid (Sz sx (x.getD jj 0)):=Hi (ZX.out jj)
    have HST:Hid (sm (min k (yn + 1)) (fun k=>b.getD k 0 * seq x (yn - k)) + b.getD k 0 * x.getD jj 0 = sm (min (k + 1) (yn + 1)) (fun k=>b.getD k 0 * seq x (yn - k))):=Hi (by rw [hjj]; exact sm_min1 (fun k=>b.getD k 0 * seq x (yn - k)) (by omega))
    have ZSm:Hid (Sz 60000000 (sm (min k (yn + 1)) (fun k=>b.getD k 0 * seq x (yn - k)))):=Hi (HF1.out yn k (by omega))
    obtain ⟨u,hu⟩:∃ u,u = sm (min k (yn + 1)) (fun k=>b.getD k 0 * seq x (yn - k)):=⟨_,rfl⟩
    rw [← hu] at HS HST ZSm
    clear hu hjj
    go_upto_region 9 with fail
    refine wp_region_front 14 (fun opIx=>match opIx with
     | 12=>.spec RH default RH.v (fun s w'=>CanR w' s (b.getD k 0 * x.getD jj 0))
     | 13=>.spec RH default RH.v (fun s w'=>CanR w' s (u + b.getD k 0 * x.getD jj 0))
     | _=>.quiet) (fun | 13=>[12] | _=>[]) (by kernel_rfl) (by kernel_rfl) (fun w0 he0 hz0 hc0 hf0=>?_)
    replace he0:=Hi he0
    simp only [pT]
    repeat (refine wpq fun K h=>?_; go_big_quiet_op; refine h _ ?_; clear h K)
    refine wps he0.out rfl rfl (fun w1 hW hG=>?_) fun x20=>?_
    ·exact spc [RH.v ⟨r1neg,r1a,r1n,r1c,r1b,r1m,r1d⟩,RH.v ⟨r2neg,r2a,r2n,r2c,r2b,r2m,r2d⟩] Tryz.func52 (rmul3_any _ _ _ _ _ (Q1.out.ext hW) (Q2.out.ext hW))
    simp only [pS]
    repeat (refine wpq fun K h=>?_; go_big_quiet_op; refine h _ ?_; clear h K)
    refine wps he0.out rfl rfl (fun w1 hW hG=>?_) fun x21=>?_
    ·have g20:=(hG 12 (by decide):Since _ _).get fun _ e g=>g.ext e
     exact spc [RH.v ⟨sn,sa',sl,sc,sb',sm',sd⟩,x20.v] Tryz.func40 (radd3_any _ x20 _ _ _ ((HS.out.ext hW).raw ZSm.out (by omega)) (g20.raw (ZP.out.mul ZXj.out) (by omega)))
    simp only [pS]
    repeat (refine wpq fun K h=>?_; go_big_quiet_op; refine h _ ?_; clear h K)
    refine wpF_nil ?_
    intro w15 hI
    have hE:=he0.out.trans hI.ext
    have G20:=Hi ((hI.facts 12:Since _ _).get fun _ e g=>g.ext e)
    have G21:=Hi ((hI.facts 13:Since _ _).get fun _ e g=>g.ext e)
    clear hI he0 hz0 hc0 hf0
    replace HX:=hE.tr HX
    replace HO:=Hi (HO.out.ext hE)
    replace HS:=Hi (HS.out.ext hE)
    replace B2:=hE.bl B2
    replace B7:=hE.bl B7
    have hs_w15:=hE.size
    clear hE
    try clear c_B2 f_B2 l_B2
    obtain ⟨c_B2,f_B2,l_B2⟩:=blk3 B2.out
    try clear c_B7 f_B7 l_B7
    obtain ⟨c_B7,f_B7,l_B7⟩:=blk3 B7.out
    simp only [pD]
    rw [HST.out] at G21
    clear a1 a2 a3 a4 a5 a6
    go_upto_region 8 with fail
    refine nm_set3 B7.out rfl ?_
    intro w16 T
    replace HX:=Hi (T.ext HX.out (by omega))
    replace HO:=Hi (HO.out.put T (by intro h; (try dsimp only at h); omega))
    replace HS:=Hi (HS.out.keep T.keep)
    replace B2:=Hi (T.rest _ _ (by omega) B2.out)
    replace B7:=Hi (T.bx)
    replace G20:=Hi (G20.out.keep T.keep)
    replace G21:=Hi (G21.out.keep T.keep)
    have hs_w16:=nle T.size
    have hr_w16:=nle T.size.symm
    clear T
    try clear c_B2 f_B2 l_B2
    obtain ⟨c_B2,f_B2,l_B2⟩:=blk3 B2.out
    try clear c_B7 f_B7 l_B7
    obtain ⟨c_B7,f_B7,l_B7⟩:=blk3 B7.out
    go_wp2
    go_roundg (gk - 1)
    case measure=>omega
    case rel=>exact ⟨k + 1,x21,by omega,by go_num,HX.out,by omega,B2.out,HO.out,B7.out,G21.out⟩
   subst h1
   have hkM:k = min (yn + 1) bn:=by omega
   have hkk:¬ ((k:Int)≤yn∧(k:Int) < bn):=by omega
   have HA0:Hid (sm (min k (yn + 1)) (fun k=>b.getD k 0 * seq x (yn - k)) = sm (min bn (yn + 1)) (fun k=>b.getD k 0 * seq x (yn - k))):=Hi (by congr 1; omega)
   rw [HA0.out] at HS
   obtain ⟨A,hA⟩:∃ A,A = sm (min bn (yn + 1)) (fun k=>b.getD k 0 * seq x (yn - k)):=⟨_,rfl⟩
   have HAe:=Hi hA
   have HS0:Hid (CanR wr ⟨sn,sa',sl,sc,sb',sm',sd⟩ (A - sm (min 0 yn) (fun k=>a.getD (k + 1) 0 * (runL b a (seq x) yn).getD (yn - 1 - k) 0))):=Hi (by
    have:A - sm (min 0 yn) (fun k=>a.getD (k + 1) 0 * (runL b a (seq x) yn).getD (yn - 1 - k) 0) = A:=by rw [Nat.zero_min]; show A - 0 = A; grind
    rw [this,hA]; exact HS.out)
   clear HS
   clear hA HA0
   have HRN:Hid (∀ t,t = min yn (an - 1)→A - sm (min t yn) (fun k=>a.getD (k + 1) 0 * (runL b a (seq x) yn).getD (yn - 1 - k) 0) = runN b a (seq x) (runL b a (seq x) yn)):=Hi (fun t ht=>by
    rw [← run_full (runL_len b a (seq x) yn) (show b.length≤bn by rw [HBl.out]; exact Nat.le_refl _) (show a.length≤an - 1 + 1 by rw [HAl.out]; omega),← HAe.out]
    congr 2
    omega)
   have hAA:(k:Int)≤yn→¬ (k:Int) < bn:=fun h=>by omega
   by_cases hky:(k:Int)≤yn
   all_goals (
    have hkb:=hAA
    (try replace hkb:=hAA hky)
    clear hAA hkk
    go_wp2
    go_loopg [9] (min yn (an - 1)) (fun g v wr=>∃ (t:Nat) (s:RH),t + g = min yn (an - 1)∧v = .int .i64 ((t + 1:Nat):Int)∧Ext w wr∧w1.heap.size≤wr.heap.size∧wr.heap[b2]? = some (.cells #[.slice ba bn bc,.slice aa an ac] 85 (0,0))∧OwnQ wr (fun i=>w1.heap.size≤i∧i < B0) (.slice ya yn yc) (runL b a (seq x) yn)∧wr.heap[b7]? = some (.cells #[.bool s.neg,.slice s.a s.n s.c,.slice s.b s.m s.d] 30 (0,0))∧CanR wr s (A - sm (min t yn) (fun k=>a.getD (k + 1) 0 * (runL b a (seq x) yn).getD (yn - 1 - k) 0)))
    case atStart=>exact ⟨0,_,by omega,rfl,HX.out,hw1r,B2.out,HO.out,B7.out,HS0.out⟩
    case round =>
     obtain ⟨t,⟨zn,za,zl,zc,zb,zm,zd⟩,ht,rfl,g1,hw1r',g2,g3,g4,g5⟩:=hrel
     clear HX B2 HO B7 HS0 c_B2 f_B2 l_B2 c_B7 f_B7 l_B7
     have HX:=Hi g1
     have B2:=Hi g2
     have HO:=Hi g3
     have B7:=Hi g4
     have HS:=Hi g5
     clear g1 g2 g3 g4 g5
     try clear c_B2 f_B2 l_B2
     obtain ⟨c_B2,f_B2,l_B2⟩:=blk3 B2.out
     try clear c_B7 f_B7 l_B7
     obtain ⟨c_B7,f_B7,l_B7⟩:=blk3 B7.out
     have hb7s:b7 < wr.heap.size:=l_B7
     have hb2s:b2 < wr.heap.size:=l_B2
     obtain ⟨t1,ht1⟩:∃ t1,t1 = t + 1:=⟨_,rfl⟩
     rw [← ht1]
     have HT1:=Hi ht1
     have ht1a:t1≤t + 1:=by omega
     have ht1b:t + 1≤t1:=by omega
     clear ht1
     by_cases h2:gk = 0
     case neg =>
      have hty:(t1:Int)≤yn:=by omega
      have hta:(t1:Int) < an:=by omega
      obtain ⟨jj,hjj⟩:∃ jj,jj = yn - 1 - t:=⟨_,rfl⟩
      have hji:(yn:Int) - (t1:Int) = jj:=by omega
      obtain ⟨y1,f1,r1,q1,hl1,⟨a1,a2,a3⟩,hP1⟩:=(HA.out.ext HX.out).cells' (k:=t1) (by omega)
      obtain ⟨y2,f2,r2,q2,hl2,⟨a4,a5,a6⟩,hP2⟩:=(OwnQ.can (s:=⟨ya,yn,yc⟩) HO.out).celx (k:=jj) (by omega)
      obtain ⟨r1neg,r1a,r1n,r1c,r1b,r1m,r1d⟩:=r1
      obtain ⟨r2neg,r2a,r2n,r2c,r2b,r2m,r2d⟩:=r2
      simp only at q1 q2 a1 a2 a3 a4 a5 a6
      have Q1:=Hi hP1
      have Q2:=Hi hP2
      clear hP1 hP2
      subst q1
      have HQ2:=Hi q2
      subst q2
      have ZP:Hid (Sz sa (a.getD t1 0)):=Hi (ZA.out.getD h1a t1)
      have ZYj:Hid (Sz 60000000 ((runL b a (seq x) yn).getD jj 0)):=Hi (HYS.out yn jj (by omega) (by omega))
      have HST:Hid (A - sm (min t yn) (fun k=>a.getD (k + 1) 0 * (runL b a (seq x) yn).getD (yn - 1 - k) 0) - a.getD t1 0 * (runL b a (seq x) yn).getD jj 0 = A - sm (min (t + 1) yn) (fun k=>a.getD (k + 1) 0 * (runL b a (seq x) yn).getD (yn - 1 - k) 0)):=Hi (by
       rw [hjj,HT1.out]
       exact sm_min3 A (fun k=>a.getD (k + 1) 0 * (runL b a (seq x) yn).getD (yn - 1 - k) 0) (k:=t + 1) (n:=yn) (by omega) (by omega))
      have ZSm:Hid (Sz 60000000 (A - sm (min t yn) (fun k=>a.getD (k + 1) 0 * (runL b a (seq x) yn).getD (yn - 1 - k) 0))):=Hi (by rw [HAe.out]; exact HF2.out yn t (by omega) (by omega))
      obtain ⟨u,hu⟩:∃ u,u = A - sm (min t yn) (fun k=>a.getD (k + 1) 0 * (runL b a (seq x) yn).getD (yn - 1 - k) 0):=⟨_,rfl⟩
      rw [← hu] at HS HST ZSm
      clear hu hjj
      go_upto_region 13 with fail
      refine wp_region_front 14 (fun opIx=>match opIx with
       | 12=>.spec RH default RH.v (fun s w'=>CanR w' s (a.getD t1 0 * (runL b a (seq x) yn).getD jj 0))
       | 13=>.spec RH default RH.v (fun s w'=>CanR w' s (u - a.getD t1 0 * (runL b a (seq x) yn).getD jj 0))
       | _=>.quiet) (fun | 13=>[12] | _=>[]) (by kernel_rfl) (by kernel_rfl) (fun w0 he0 hz0 hc0 hf0=>?_)
      replace he0:=Hi he0
      simp only [pT]
      repeat (refine wpq fun K h=>?_; go_big_quiet_op; refine h _ ?_; clear h K)
      refine wps he0.out rfl rfl (fun w1 hW hG=>?_) fun x30=>?_
      ·exact spc [RH.v ⟨r1neg,r1a,r1n,r1c,r1b,r1m,r1d⟩,RH.v ⟨r2neg,r2a,r2n,r2c,r2b,r2m,r2d⟩] Tryz.func52 (rmul3_any _ _ _ _ _ (Q1.out.ext hW) ((Q2.out.ext hW).raw ZYj.out (by omega)))
      simp only [pS]
      repeat (refine wpq fun K h=>?_; go_big_quiet_op; refine h _ ?_; clear h K)
      refine wps he0.out rfl rfl (fun w1 hW hG=>?_) fun x31=>?_
      ·have g30:=(hG 12 (by decide):Since _ _).get fun _ e g=>g.ext e
       exact spc [RH.v ⟨zn,za,zl,zc,zb,zm,zd⟩,x30.v] Tryz.func135 (rsub3_any _ x30 _ _ _ ((HS.out.ext hW).raw ZSm.out (by omega)) (g30.raw (ZP.out.mul ZYj.out) (by omega)))
      simp only [pS]
      repeat (refine wpq fun K h=>?_; go_big_quiet_op; refine h _ ?_; clear h K)
      refine wpF_nil ?_
      intro w25 hI
      have hE:=he0.out.trans hI.ext
      have G30:=Hi ((hI.facts 12:Since _ _).get fun _ e g=>g.ext e)
      have G31:=Hi ((hI.facts 13:Since _ _).get fun _ e g=>g.ext e)
      clear hI he0 hz0 hc0 hf0
      replace HX:=hE.tr HX
      replace HO:=Hi (HO.out.ext hE)
      replace HS:=Hi (HS.out.ext hE)
      replace B2:=hE.bl B2
      replace B7:=hE.bl B7
      have hs_w25:=hE.size
      clear hE
      try clear c_B2 f_B2 l_B2
      obtain ⟨c_B2,f_B2,l_B2⟩:=blk3 B2.out
      try clear c_B7 f_B7 l_B7
      obtain ⟨c_B7,f_B7,l_B7⟩:=blk3 B7.out
      simp only [pD]
      rw [HST.out] at G31
      clear a1 a2 a3 a4 a5 a6
      go_upto_region 12 with fail
      refine nm_set3 B7.out rfl ?_
      intro w26 T
      replace HX:=Hi (T.ext HX.out (by omega))
      replace HO:=Hi (HO.out.put T (by intro h; (try dsimp only at h); omega))
      replace HS:=Hi (HS.out.keep T.keep)
      replace B2:=Hi (T.rest _ _ (by omega) B2.out)
      replace B7:=Hi (T.bx)
      replace G30:=Hi (G30.out.keep T.keep)
      replace G31:=Hi (G31.out.keep T.keep)
      have hs_w26:=nle T.size
      have hr_w26:=nle T.size.symm
      clear T
      try clear c_B2 f_B2 l_B2
      obtain ⟨c_B2,f_B2,l_B2⟩:=blk3 B2.out
      try clear c_B7 f_B7 l_B7
      obtain ⟨c_B7,f_B7,l_B7⟩:=blk3 B7.out
      go_wp2
      go_roundg (gk - 1)
      case measure=>omega
      case rel=>exact ⟨t + 1,x31,by omega,by rw [HT1.out]; go_num,HX.out,by omega,B2.out,HO.out,B7.out,G31.out⟩
     subst h2
     rw [HRN.out t (by omega)] at HS
     have HOw:Hid (OwnQ wr (w1.heap.size≤·) (.slice ya yn yc) (runL b a (seq x) yn)):=Hi (HO.out.mono (fun i hi h=>h.1))
     have hlen:(runL b a (seq x) yn).length≤1073741824:=by rw [runL_len]; omega
     have HLE:=Hi hlen
     have hBB:(t1:Int)≤yn→¬ (t1:Int) < an:=fun h=>by omega
     clear hlen
     by_cases hty:(t1:Int)≤yn
     all_goals (
      have hta:=hBB
      (try replace hta:=hBB hty)
      clear hBB
      go_wp2_with (at_builtin; refine wpList_append_n rfl (.tmp 68) (.tmp 70) 22 Tryz.underlying22 rfl (w1.heap.size≤·) _ _ ⟨zn,za,zl,zc,zb,zm,zd⟩ _ rfl HOw.out rfl HS.out HLE.out (fun k hk=>by omega) ?_; intro s' y3 q1 q2 q3)
      have HX3:=Hi (Ext.mods HX.out q2 (fun k h=>by omega))
      have HO3:Hid (OwnQ y3 (w1.heap.size≤·) s'.v (runL b a (seq x) (yn + 1))):=Hi q1
      have B23:=Hi (Mods.blk' q2 (by omega) B2.out)
      have hsz3:=q2.size
      clear q1 q2 q3
      go_wp2
      go_roundg g0
      case measure=>omega
      case rel=>exact ⟨yn + 1,s',rfl,by omega,by go_num,HX3.out,by omega,B23.out,HO3.out⟩))
end Go.Proofs.YtdchjfcklppmgaaGreat
