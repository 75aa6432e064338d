/- Run of package response. -/
import Derived.Test.YtohahgiidooijaaGreatQDK7
set_option linter.unusedVariables false
set_option maxHeartbeats 16000000
set_option maxRecDepth 8000
namespace Go.Proofs.YtohahgiidooijaaGreat
open Go.RowKit Go.Front Go.Num Stab
attribute [local go_sem] XW.cell XW.frozen
def tx(b a x:List Rat):Int×List Rat:=if VF b a then (0,fi b a (seq x) x.length) else (2,[])
theorem Bi(f:Nat→Rat){k n:Nat}(h:k≤n):sm (min k (n+1)) f+f k=sm (min (k+1) (n+1)) f:=by
 rw [show min k (n+1)=k by omega,show min (k+1) (n+1)=k+1 by omega];rfl
theorem Bh(f:Nat→Rat){k n:Nat}(h:n<k):sm (min k (n+1)) f=sm (min (k+1) (n+1)) f:=by
 rw [show min k (n+1)=n+1 by omega,show min (k+1) (n+1)=n+1 by omega]
theorem Bg(A:Rat)(f:Nat→Rat){k n:Nat}(h0:1≤k)(h:k≤n):A-sm (min (k-1) n) f-f (k-1)=A-sm (min (k+1-1) n) f:=by
 obtain ⟨j,rfl⟩:∃ j,k=j+1:=⟨k-1,by omega⟩;rw [show min (j+1-1) n=j by omega,show min (j+1+1-1) n=j+1 by omega,show j+1-1=j by omega];show _=A-(sm j f+f j);grind
theorem Bf(f:Nat→Rat){k n:Nat}(h:k=0∨n<k):sm (min (k-1) n) f=sm (min (k+1-1) n) f:=by
 congr 1;omega
theorem n8(f:FH)(xo:Option Addr)(N xc:Nat)(b a x:List Rat)(sb sa sx:Nat)(w:World)(h:pe w f b a)(k:bX w ⟨xo,N,xc⟩ x)(hfb:f.b.n≤1000)(hfa:f.a.n≤1000)(hN:N≤200)
 (zb:SzL sb b)(za:SzL sa a)(zx:SzL sx x)(h1b:1≤sb)(h1a:1≤sa)(h1x:1≤sx)(h2b:sb≤60000000)(h2a:sa≤60000000)(h2x:sx≤60000000)(hK:xG sb sa sx (tz b).length (tz a).length*2 ^ N≤60000000) :
  au 117 [f.v,.slice xo N xc] w RF (fun r w'=>r.2=(tx b a x).1∧aJ w' r.1 (tx b a x).2):=by
 obtain ⟨i0,hi0,hz0,hz1,hz2⟩:=info_parts fk;obtain ⟨⟨ba,bn,bc⟩,⟨aa,an,ac⟩⟩:=f;have H:=Hi h;have K:=Hi k;have HX:=Hi (Ext.refl w);have kle:=k.le;have kmx:=k.max;have Hx:=Hi k.len;simp only at kle kmx Hx hfb hfa;have ZB:=Hi zb.tz;have ZA:=Hi za.tz;have ZX:Hid (∀ i,Sz sx (seq x i)):=Hi (fun i=>zx.getD h1x i);have hbl:(tz b).length≤1000:=by have:=h.1.len;have h4:=af b;simp only at this;omega
 have hal:(tz a).length≤1000:=by have:=h.2.len;have h4:=af a;simp only at this;omega
 clear h k zb za zx;unfold au;simp only [FH.v,SH.v];go_enter Tryz.func117,Tryz.ntmps117
 go_upto_region 1 with fail
 refine nmA ?_;intro w1 hE B2 hz_w1 hr_w1;replace HX:=hE.tr HX;have hs_w1:=hE.size;clear hE;replace b_B2:=bX3 B2
 go_wp2_with fail
 refine cM (dE ⟨⟨ba,bn,bc⟩,⟨aa,an,ac⟩⟩ b a _ (H.out.ext HX.out)) fun x2 w2 hE _=>?_
 refine mV2 hE ?_ B2 HX;clear B2 HX;intro B2 HX;have hs_w2:=hE.size;clear hE;replace b_B2:=bX3 B2;by_cases hv:VF b a
 case neg =>
  have hv1:decide (VF b a)=false:=decide_eq_false hv;have HV:Hid (tx b a x=(2,[])):=Hi (by unfold tx;rw [if_neg hv]);rw [hv1];go_wp2;exact bodyPost_ret (v:=RF (⟨none,0,0⟩,2)) (by simp [results,Tryz.results117,go_sem,RF]) rfl ⟨(⟨none,0,0⟩,2),rfl,HX.out,by rw [HV.out],by rw [HV.out];exact (bj.nil 0 _).can⟩
 have hv1:decide (VF b a)=true:=decide_eq_true hv;have HV:Hid (tx b a x=(0,fi b a (seq x) N)):=Hi (by unfold tx;rw [if_pos hv,Hx.out]);rw [hv1];have hN2:¬ (200:Int)<N:=by omega
 go_wp2_with fail
 refine cM (rG ⟨⟨ba,bn,bc⟩,⟨aa,an,ac⟩⟩ b a _ (H.out.ext HX.out) (by simp only;omega) (by simp only;omega)) fun x3 w3 hE G3=>?_
 refine mV2 hE ?_ B2 HX;clear B2 HX;intro B2 HX;have hs_w3:=hE.size;clear hE;replace b_B2:=bX3 B2;obtain ⟨⟨pa,P,pc⟩,⟨qa,Q,qc⟩⟩:=x3;have LP:=Hi G3.out.1;have LQ:=Hi G3.out.2;clear G3;simp only at LP LQ;have HPl:=Hi LP.out.len;have HQl:=Hi LQ.out.len;simp only at HPl HQl;rw [HPl.out] at hbl hK;rw [HQl.out] at hal hK;obtain ⟨p,hp⟩:∃ p,p=tz b:=⟨_,rfl⟩;obtain ⟨q,hq⟩:∃ q,q=tz a:=⟨_,rfl⟩;have HR:Hid (∀ n,fi b a (seq x) n=fi p q (seq x) n):=Hi (fun n=>by rw [hp,hq];exact (DA b a (seq x) n).symm);rw [←hp] at LP ZB HPl;rw [←hq] at LQ ZA HQl;clear hp hq;simp only [qdV,SH.v]
 go_upto_region 6 with fail
 refine nmA ?_;intro w4 hE B6 hz_w4 hr_w4;refine mV4 hE ?_ B2 HX LP LQ;clear B2 HX LP LQ;intro B2 HX LP LQ;have hs_w4:=hE.size;clear hE;replace b_B2:=bX3 B2;replace b_B6:=bX3 B6;obtain ⟨b6,hb6⟩:∃ b6,b6=w3.heap.size:=⟨_,rfl⟩;rw [←hb6] at B6 ⊢;have hw4:w.heap.size≤w4.heap.size:=by omega
 clear hb6 b_B6;have LP4:=LP;have LQ4:=LQ;have B64:=B6;have X4:Hid (bX w4 ⟨xo,N,xc⟩ x):=Hi (K.out.ext HX.out);have HX0:=HX;have HX4:=Hi (Ext.refl w4);clear LP;clear LQ
 (try clear b_B6);clear B6
 (try clear b_B2);clear B2
 clear HX
 go_upto_region 7 with (refine aA rfl (.tmp 23) (.tmp 23) 22 rfl 30 i0 (RH.v default) 3 Tryz.underlying22 hi0 hz0 hz1 _ _ N rfl rfl (by omega) (by omega) (by rw [hz2];omega) (by omega) ?_;intro w5 hnew hE)
 have KB:=Hi (RBk.make rfl hnew);clear hnew;replace HX4:=hE.tr HX4;have hs_w5:=hE.size;clear hE;obtain ⟨L,hL⟩:∃ L,L=w4.heap.size:=⟨_,rfl⟩;have hL4:w4.heap.size≤L:=by omega
 rw [←hL] at KB ⊢;clear hL;obtain ⟨Z,hZ⟩:∃ Z,Z=xG sb sa sx P Q:=⟨_,rfl⟩;have HZ:=Hi hZ;rw [←hZ] at hK;clear hZ;have hZ1:Z≤60000000:=nXe (Nat.le_mul_of_pos_right _ (nYl (by decide))) hK;have hZ2:1+P*(sb+sx+1)≤Z:=by have:=HZ.out;unfold xG at this;omega
 have HYS:Hid (∀ n,n<N→Sz (Z*2 ^ n) ((fi p q (seq x) N).getD n 0)):=Hi (by
  rw [HZ.out];exact DC ZB.out ZA.out h1b h1a ZX.out (by rw [HPl.out];exact nXd _) (by rw [HQl.out];exact nXd _) N)
 have hpow:∀ i,i≤N→Z*2 ^ i≤60000000:=fun i hi=>nXe (nXf _ (nXo (by decide) hi)) hK
 have HPW:=Hi hpow;clear hpow;have HF1:Hid (∀ i k,k≤P→Sz 60000000 (sm (min k (i+1)) (fun k=>p.getD k 0*seq x (i-k)))):=Hi (fun i k hk=>(n6 ZB.out h1b ZX.out k).mono (by
  have:=nXg (sb+sx+1) hk;omega))
 have HF2:Hid (∀ i k,i<N→k≤Q→Sz 60000000 (sm (min P (i+1)) (fun k=>p.getD k 0*seq x (i-k))-sm (min k i) (fun k=>q.getD (k+1) 0*(fi p q (seq x) N).getD (i-1-k) 0))):=Hi (fun i k hi hk=>(by
  have h1:=uo (b:=p) (a:=q) (y:=fi p q (seq x) N) (x:=seq x) (sb:=sb) (sa:=sa) (sx:=sx) (lb:=P) (la:=Q) (n:=i) ZB.out ZA.out h1b h1a ZX.out (by rw [HPl.out];exact nXd _) (by rw [HQl.out];exact nXd _) (fun j hj=>by rw [←HZ.out];exact HYS.out j (by omega)) P k (nXd _) hk;rw [←HZ.out] at h1;exact h1.mono (HPW.out i (by omega))))
 go_wp2
 go_loopg [27] N (fun g v wr=>∃ (i:Nat) (rs:List RH),i+g=N∧v=.int .i64 (i:Nat)∧Ext w4 wr∧RBk wr L rs #[]∧rs.length=N∧fo wr rs (fi p q (seq x) i))
 case atStart=>exact ⟨0,_,by omega,rfl,HX4.out,KB.out,by simp,fun j hj=>by simp [fi] at hj⟩
 case round =>
  obtain ⟨i,rs,hi,rfl,g1,g2,g3,g4⟩:=hrel;clear HX4 KB;have HX4:=Hi g1;have KB:=Hi g2;have HRl:=Hi g3;have PC:=Hi g4;have hw4r:=g1.size;clear g1 g2 g3 g4
  try clear f_KB l_KB
  have f_KB:=ab KB.out;have l_KB:=(nXa.1 KB.out).1;by_cases h0:gk=0
  case pos =>
   subst h0;obtain rfl:i=N:=by omega
   have hin:¬ (i:Int)<i:=by omega
   have HXw:=Hi (HX0.out.trans HX4.out);have LL:Hid (bj w.heap.size wr ⟨some ⟨L,0,none⟩,i,i⟩ (fi p q (seq x) i)):=Hi (fo.list PC.out KB.out HRl.out (fN _ _ _ _) (by omega) (by omega));go_wp2;exact bodyPost_ret (v:=RF (⟨some ⟨L,0,none⟩,i,i⟩,0)) (by simp [results,Tryz.results117,go_sem,RF]) rfl ⟨(⟨some ⟨L,0,none⟩,i,i⟩,0),rfl,HXw.out,by rw [HV.out],by rw [HV.out,HR.out];exact LL.out.can⟩
  obtain ⟨g0,rfl⟩:∃ g0,gk=g0+1:=⟨gk-1,by omega⟩;have hin:(i:Int)<N:=by omega
  have B6:=Hi (HX4.out.block B64.out)
  try clear f_KB l_KB
  have f_KB:=ab KB.out;have l_KB:=(nXa.1 KB.out).1;replace b_B6:=bX3 B6;have hLr:L<wr.heap.size:=l_KB
  go_wp2_with fail
  refine cM (bM 0 _ (by decide) (by decide)) fun x10 w10 hE G10=>?_
  refine mV4 hE ?_ HX4 KB PC B6;clear HX4 KB PC B6;intro HX4 KB PC B6;have hs_w10:=hE.size;clear hE
  try clear f_KB l_KB
  have f_KB:=ab KB.out;have l_KB:=(nXa.1 KB.out).1;replace b_B6:=bX3 B6
  go_upto_region 11 with fail
  refine nmA ?_;intro w11 hE B9 hz_w11 hr_w11;refine mV5 hE ?_ G10 HX4 KB PC B6;clear G10 HX4 KB PC B6;intro G10 HX4 KB PC B6;have hs_w11:=hE.size;clear hE
  try clear f_KB l_KB
  have f_KB:=ab KB.out;have l_KB:=(nXa.1 KB.out).1;replace b_B6:=bX3 B6;replace b_B9:=bX3 B9;obtain ⟨b9,hb9⟩:∃ b9,b9=w10.heap.size:=⟨_,rfl⟩;have hb9L:b9≠L:=by omega
  have hb94:w4.heap.size≤b9:=by omega
  rw [←hb9] at B9 ⊢;have HS0:Hid (ay w11 x10 (sm (min 0 (i+1)) (fun k=>p.getD k 0*seq x (i-k)))):=Hi (by rw [Nat.zero_min];exact G10.out);clear hb9 b_B9;clear G10;go_wp2
  go_loopg [35] P (fun g v wr=>∃ (k:Nat) (s:RH),k+g=P∧v=.int .i64 (k:Nat)∧Ext w4 wr∧RBk wr L rs #[]∧fo wr rs (fi p q (seq x) i)∧wr.heap[b9]?=some (.cells #[.bool s.neg,.slice s.a s.n s.c,.slice s.b s.m s.d] 30 (0,0))∧ay wr s (sm (min k (i+1)) (fun k=>p.getD k 0*seq x (i-k))))
  case atStart=>exact ⟨0,x10,by omega,rfl,HX4.out,KB.out,PC.out,B9.out,HS0.out⟩
  case round =>
   obtain ⟨k,⟨sn,sa',sl,sc,sb',sm',sd⟩,hk,rfl,g1,g2,g3,g4,g5⟩:=hrel;clear HX4 KB PC B9 HS0;have HX4:=Hi g1;have KB:=Hi g2;have PC:=Hi g3;have B9:=Hi g4;have HS:=Hi g5;have hw4r:=g1.size;clear g1 g2 g3 g4 g5
   try clear f_KB l_KB
   have f_KB:=ab KB.out;have l_KB:=(nXa.1 KB.out).1;replace b_B9:=bX3 B9;by_cases h1:gk=0
   case neg =>
    have hkP:(k:Int)<P:=by omega
    obtain ⟨bx,ox,r,hao,hbl,⟨hc1,hc2,hc3⟩,hPc⟩:=(LP4.out.ext HX4.out).celx (k:=k) (by omega);obtain ⟨rneg,ra,rn,rc,rb,rm,rd⟩:=r;simp only at hc1 hc2 hc3;have HC:=Hi hPc;have HAO:=Hi hao;clear hPc;subst hao;have hLr:L<wr.heap.size:=l_KB;have hb9r:b9<wr.heap.size:=b_B9.2.2
    go_upto_region 14 with fail
    clear hc1 hc2 hc3;refine nmA ?_;intro w13 hE B11 hz_w13 hr_w13;refine mV6 hE ?_ HX4 KB PC B9 HS HC;clear HX4 KB PC B9 HS HC;intro HX4 KB PC B9 HS HC;have hs_w13:=hE.size;clear hE
    try clear f_KB l_KB
    have f_KB:=ab KB.out;have l_KB:=(nXa.1 KB.out).1;replace b_B9:=bX3 B9;replace b_B11:=bX3 B11;by_cases hki:k≤i
    case pos =>
     have hki':(k:Int)≤i:=by omega
     obtain ⟨j,hj⟩:∃ j,j=i-k:=⟨_,rfl⟩;have hji:(i:Int)-k=j:=by omega
     obtain ⟨by',oy,r2,hbo,hbl2,⟨kc1,kc2,kc3⟩,hQc⟩:=(X4.out.ext HX4.out).cells' (k:=j) (by omega);obtain ⟨yneg,ya,yn,yc,yb,ym,yd⟩:=r2;simp only at kc1 kc2 kc3;have HQc:=Hi hQc;clear hQc;subst hbo;have ZP:Hid (Sz sb (p.getD k 0)):=Hi (ZB.out.getD h1b k);have HST:Hid (sm (min k (i+1)) (fun k=>p.getD k 0*seq x (i-k))+p.getD k 0*x.getD j 0=sm (min (k+1) (i+1)) (fun k=>p.getD k 0*seq x (i-k))):=Hi (by rw [hj];exact Bi (fun k=>p.getD k 0*seq x (i-k)) hki);have ZSm:Hid (Sz 60000000 (sm (min k (i+1)) (fun k=>p.getD k 0*seq x (i-k)))):=Hi (HF1.out i k (by omega));have ZXj:Hid (Sz sx (x.getD j 0)):=Hi (ZX.out j);obtain ⟨u,hu⟩:∃ u,u=sm (min k (i+1)) (fun k=>p.getD k 0*seq x (i-k)):=⟨_,rfl⟩;rw [←hu] at HS HST ZSm;clear hu hj
     go_upto_region 15 with fail
     refine wpG 10 (fun opIx=>match opIx with
      | 8=>.spec RH default RH.v (fun s w'=>ay w' s (p.getD k 0*x.getD j 0))
      | 9=>.spec RH default RH.v (fun s w'=>ay w' s (u+p.getD k 0*x.getD j 0))
      | _=>.quiet) (fun|9=>[8]|_=>[]) fun w0 he0 hz0 hc0 hf0=>?_
     refine wps he0.out rfl rfl (fun w1 hW hG=>?_) fun x20=>?_
     ·exact spc [RH.v ⟨rneg,ra,rn,rc,rb,rm,rd⟩,RH.v ⟨yneg,ya,yn,yc,yb,ym,yd⟩] Tryz.func100 (aY _ _ _ _ _ ((HC.out.ext hW).raw ZP.out (by omega)) (HQc.out.ext hW))
     refine qZ ?_;refine wps he0.out rfl rfl (fun w1 hW hG=>?_) fun x21=>?_
     ·have g20:=(hG 8 (by decide):aD _ _).get fun _ e g=>g.ext e
      exact spc [RH.v ⟨sn,sa',sl,sc,sb',sm',sd⟩,x20.v] Tryz.func102 (dp _ x20 _ _ _ ((HS.out.ext hW).raw ZSm.out (by omega)) (g20.raw (ZP.out.mul ZXj.out) (by omega)))
     refine qZ ?_;refine aq ?_;intro w15 hI;have hE:=he0.out.trans hI.ext;have G20:=gT (hI.facts 8);have G21:=gT (hI.facts 9);clear hI he0 hz0 hc0 hf0;refine mV7 hE ?_ B11 HX4 KB PC B9 HC HS;clear B11 HX4 KB PC B9 HC HS;intro B11 HX4 KB PC B9 HC HS;have hs_w15:=hE.size;clear hE
     try clear f_KB l_KB
     have f_KB:=ab KB.out;have l_KB:=(nXa.1 KB.out).1;replace b_B9:=bX3 B9;replace b_B11:=bX3 B11;simp only [pD];rw [HST.out] at G21;clear kc1 kc2 kc3
     go_upto_region 16 with fail
     refine aV B9.out rfl ?_;intro w16 T;replace HX4:=Hi (T.ext HX4.out (by omega));replace PC:=Hi (PC.out.keep T.keep);replace HS:=Hi (HS.out.keep T.keep);replace KB:=Hi (T.rest _ _ (by omega) KB.out);replace B9:=Hi (T.bx);replace HC:=Hi (HC.out.keep T.keep);replace B11:=Hi (T.rest _ _ (by omega) B11.out);replace G20:=Hi (G20.out.keep T.keep);replace G21:=Hi (G21.out.keep T.keep);have hs_w16:=nle T.size;have hr_w16:=nle T.size.symm;clear T
     try clear f_KB l_KB
     have f_KB:=ab KB.out;have l_KB:=(nXa.1 KB.out).1;replace b_B9:=bX3 B9;replace b_B11:=bX3 B11;go_wp2
     go_roundg (gk-1)
     case measure=>omega
     case rel=>exact ⟨k+1,x21,by omega,by go_num,HX4.out,KB.out,PC.out,B9.out,G21.out⟩
    have hki':¬ (k:Int)≤i:=by omega
    have HST:=Hi (Bh (fun k=>p.getD k 0*seq x (i-k)) (show i<k by omega));rw [HST.out] at HS;go_wp2
    go_roundg (gk-1)
    case measure=>omega
    case rel=>exact ⟨k+1,⟨sn,sa',sl,sc,sb',sm',sd⟩,by omega,by go_num,HX4.out,KB.out,PC.out,B9.out,HS.out⟩
   subst h1;obtain rfl:k=P:=by omega
   have hkn:¬ (k:Int)<k:=by omega
   obtain ⟨A,hA⟩:∃ A,A=sm (min k (i+1)) (fun k=>p.getD k 0*seq x (i-k)):=⟨_,rfl⟩;have HA:=Hi hA;have HS0:Hid (ay wr ⟨sn,sa',sl,sc,sb',sm',sd⟩ (A-sm (min (0-1) i) (fun k=>q.getD (k+1) 0*(fi p q (seq x) N).getD (i-1-k) 0))):=Hi (by
    have:A-sm (min (0-1) i) (fun k=>q.getD (k+1) 0*(fi p q (seq x) N).getD (i-1-k) 0)=A:=by rw [Nat.zero_sub,Nat.zero_min];show A-0=A;grind
    rw [this,hA];exact HS.out)
   have B6:=Hi (HX4.out.block B64.out);clear HS
   try clear f_KB l_KB
   have f_KB:=ab KB.out;have l_KB:=(nXa.1 KB.out).1;replace b_B9:=bX3 B9;replace b_B6:=bX3 B6;clear hA;go_wp2
   go_loopg [58] Q (fun g v wr=>∃ (k:Nat) (s:RH),k+g=Q∧v=.int .i64 (k:Nat)∧Ext w4 wr∧RBk wr L rs #[]∧fo wr rs (fi p q (seq x) i)∧wr.heap[b9]?=some (.cells #[.bool s.neg,.slice s.a s.n s.c,.slice s.b s.m s.d] 30 (0,0))∧ay wr s (A-sm (min (k-1) i) (fun k=>q.getD (k+1) 0*(fi p q (seq x) N).getD (i-1-k) 0)))
   case atStart=>exact ⟨0,_,by omega,rfl,HX4.out,KB.out,PC.out,B9.out,HS0.out⟩
   case round =>
    obtain ⟨t,⟨zn,za,zl,zc,zb,zm,zd⟩,ht,rfl,g1,g2,g3,g4,g5⟩:=hrel;clear HX4 KB PC B9 HS0 B6 b_B6;have HX4:=Hi g1;have KB:=Hi g2;have PC:=Hi g3;have B9:=Hi g4;have HS:=Hi g5;have hw4r:=g1.size;clear g1 g2 g3 g4 g5
    try clear f_KB l_KB
    have f_KB:=ab KB.out;have l_KB:=(nXa.1 KB.out).1;replace b_B9:=bX3 B9;have hLr:L<wr.heap.size:=l_KB;have hb9r:b9<wr.heap.size:=b_B9.2.2;by_cases h2:gk=0
    case pos =>
     subst h2;obtain rfl:t=Q:=by omega
     have htn:¬ (t:Int)<t:=by omega
     have HFu:Hid (A-sm (min (t-1) i) (fun k=>q.getD (k+1) 0*(fi p q (seq x) N).getD (i-1-k) 0)=Ak p q (seq x) (fi p q (seq x) i)):=Hi (by
      rw [HA.out,←qV (fN p q (seq x) i) (by rw [HPl.out];exact nXd _) (show q.length≤t-1+1 by rw [HQl.out];omega)]
      congr 1
      refine sm_congr (fun j hj=>?_);rw [mO p q (seq x) (k:=i-1-j) (m:=N) (n:=i) (by omega) (by omega)])
     rw [HFu.out] at HS;obtain ⟨f1,f2,f3⟩:=RBk.at (re:=#[]) KB.out (k:=i) (by rw [HRl.out];omega)
     go_upto_region 24 with fail
     refine cl (k:=i) KB.out rfl (by rw [HRl.out];omega) ?_;intro y6 T;clear f1 f2 f3;replace HX4:=Hi (T.ext HX4.out (by omega));replace PC:=Hi (PC.out.keep T.keep);replace HS:=Hi (HS.out.keep T.keep);replace KB:=Hi (T.bx);replace B9:=Hi (T.rest _ _ (by omega) B9.out);have hs_y6:=nle T.size;have hr_y6:=nle T.size.symm;clear T
     try clear f_KB l_KB
     have f_KB:=ab KB.out;have l_KB:=(nXa.1 KB.out).1;replace b_B9:=bX3 B9;have PCn:Hid (fo y6 (rs.set i ⟨zn,za,zl,zc,zb,zm,zd⟩) (fi p q (seq x) (i+1))):=Hi (PC.out.snoc (fN _ _ _ _) (by rw [HRl.out];omega) HS.out);go_wp2
     go_roundg g0
     case measure=>omega
     case rel=>exact ⟨i+1,_,by omega,by go_num,HX4.out,KB.out,by rw [nXn];exact HRl.out,PCn.out⟩
    have htQ:(t:Int)<Q:=by omega
    obtain ⟨bx,ox,r,hao,hbl,⟨hc1,hc2,hc3⟩,hPc⟩:=(LQ4.out.ext HX4.out).celx (k:=t) (by omega);obtain ⟨rneg,ra,rn,rc,rb,rm,rd⟩:=r;simp only at hc1 hc2 hc3;have HC:=Hi hPc;clear hPc;subst hao
    go_upto_region 20 with fail
    clear hc1 hc2 hc3;refine nmA ?_;intro w19 hE B13 hz_w19 hr_w19;refine mV6 hE ?_ HX4 PC HS KB B9 HC;clear HX4 PC HS KB B9 HC;intro HX4 PC HS KB B9 HC;have hs_w19:=hE.size;clear hE
    try clear f_KB l_KB
    have f_KB:=ab KB.out;have l_KB:=(nXa.1 KB.out).1;replace b_B9:=bX3 B9;replace b_B13:=bX3 B13;by_cases ht1:t=0∨i<t
    case pos =>
     have HST:=Hi (Bf (fun k=>q.getD (k+1) 0*(fi p q (seq x) N).getD (i-1-k) 0) ht1);rw [HST.out] at HS;by_cases ht0:t=0
     case pos =>
      subst ht0;go_wp2
      go_roundg (gk-1)
      case measure=>omega
      case rel=>exact ⟨0+1,⟨zn,za,zl,zc,zb,zm,zd⟩,by omega,by go_num,HX4.out,KB.out,PC.out,B9.out,HS.out⟩
     have ht3:(1:Int)≤t:=by omega
     have ht4:¬ (t:Int)≤i:=by omega
     go_wp2
     go_roundg (gk-1)
     case measure=>omega
     case rel=>exact ⟨t+1,⟨zn,za,zl,zc,zb,zm,zd⟩,by omega,by go_num,HX4.out,KB.out,PC.out,B9.out,HS.out⟩
    have ht3:(1:Int)≤t:=by omega
    have ht4:(t:Int)≤i:=by omega
    obtain ⟨j,hj⟩:∃ j,j=i-t:=⟨_,rfl⟩;have hji:(i:Int)-t=j:=by omega
    obtain ⟨kc1,kc2,kc3⟩:=RBk.at (re:=#[]) KB.out (k:=j) (by rw [HRl.out];omega);have hyc:=PC.out j (by rw [fN];omega);rw [mO p q (seq x) (k:=j) (m:=i) (n:=N) (by omega) (by omega)] at hyc;obtain ⟨r2,hr2⟩:∃ r2,r2=rs.getD j default:=⟨_,rfl⟩;rw [←hr2] at kc1 kc2 kc3 hyc;obtain ⟨yneg,ya,yn,yc,yb,ym,yd⟩:=r2;simp only at kc1 kc2 kc3;have HYc:=Hi hyc;clear hyc hr2;have ZQ:Hid (Sz sa (q.getD t 0)):=Hi (ZA.out.getD h1a t);have ZYj:Hid (Sz 60000000 ((fi p q (seq x) N).getD j 0)):=Hi ((HYS.out j (by omega)).mono (HPW.out j (by omega)));have ZSm:Hid (Sz 60000000 (A-sm (min (t-1) i) (fun k=>q.getD (k+1) 0*(fi p q (seq x) N).getD (i-1-k) 0))):=Hi (by rw [HA.out];exact HF2.out i (t-1) (by omega) (by omega));have HST:Hid (A-sm (min (t-1) i) (fun k=>q.getD (k+1) 0*(fi p q (seq x) N).getD (i-1-k) 0)-q.getD t 0*(fi p q (seq x) N).getD j 0=A-sm (min (t+1-1) i) (fun k=>q.getD (k+1) 0*(fi p q (seq x) N).getD (i-1-k) 0)):=Hi (by
     have h5:=Bg A (fun k=>q.getD (k+1) 0*(fi p q (seq x) N).getD (i-1-k) 0) (k:=t) (n:=i) (by omega) (by omega);simp only [show t-1+1=t by omega,show i-1-(t-1)=j by omega] at h5;exact h5)
    obtain ⟨u,hu⟩:∃ u,u=A-sm (min (t-1) i) (fun k=>q.getD (k+1) 0*(fi p q (seq x) N).getD (i-1-k) 0):=⟨_,rfl⟩;obtain ⟨yj,hyj⟩:∃ yj,yj=(fi p q (seq x) N).getD j 0:=⟨_,rfl⟩;rw [←hu,←hyj] at HST;rw [←hu] at HS ZSm;rw [←hyj] at HYc ZYj;clear hu hj hyj
    go_upto_region 21 with fail
    refine wpG 10 (fun opIx=>match opIx with
     | 8=>.spec RH default RH.v (fun s w'=>ay w' s (q.getD t 0*yj))
     | 9=>.spec RH default RH.v (fun s w'=>ay w' s (u-q.getD t 0*yj))
     | _=>.quiet) (fun|9=>[8]|_=>[]) fun w0 he0 hz0 hc0 hf0=>?_
    refine wps he0.out rfl rfl (fun w1 hW hG=>?_) fun x20=>?_
    ·exact spc [RH.v ⟨rneg,ra,rn,rc,rb,rm,rd⟩,RH.v ⟨yneg,ya,yn,yc,yb,ym,yd⟩] Tryz.func100 (aY _ _ _ _ _ ((HC.out.ext hW).raw ZQ.out (by omega)) ((HYc.out.ext hW).raw ZYj.out (by omega)))
    refine qZ ?_;refine wps he0.out rfl rfl (fun w1 hW hG=>?_) fun x21=>?_
    ·have g20:=(hG 8 (by decide):aD _ _).get fun _ e g=>g.ext e
     exact spc [RH.v ⟨zn,za,zl,zc,zb,zm,zd⟩,x20.v] Tryz.func151 (gJ _ x20 _ _ _ ((HS.out.ext hW).raw ZSm.out (by omega)) (g20.raw (ZQ.out.mul ZYj.out) (by omega)))
    refine qZ ?_;refine aq ?_;intro w21 hI;have hE:=he0.out.trans hI.ext;have G20:=gT (hI.facts 8);have G21:=gT (hI.facts 9);clear hI he0 hz0 hc0 hf0;refine mV7 hE ?_ B13 HX4 PC KB B9 HC HS;clear B13 HX4 PC KB B9 HC HS;intro B13 HX4 PC KB B9 HC HS;have hs_w21:=hE.size;clear hE
    try clear f_KB l_KB
    have f_KB:=ab KB.out;have l_KB:=(nXa.1 KB.out).1;replace b_B9:=bX3 B9;replace b_B13:=bX3 B13;simp only [pD];rw [HST.out] at G21;clear kc1 kc2 kc3
    go_upto_region 22 with fail
    refine aV B9.out rfl ?_;intro w22 T;replace HX4:=Hi (T.ext HX4.out (by omega));replace PC:=Hi (PC.out.keep T.keep);replace HS:=Hi (HS.out.keep T.keep);replace KB:=Hi (T.rest _ _ (by omega) KB.out);replace B9:=Hi (T.bx);replace HC:=Hi (HC.out.keep T.keep);replace B13:=Hi (T.rest _ _ (by omega) B13.out);replace G20:=Hi (G20.out.keep T.keep);replace G21:=Hi (G21.out.keep T.keep);have hs_w22:=nle T.size;have hr_w22:=nle T.size.symm;clear T
    try clear f_KB l_KB
    have f_KB:=ab KB.out;have l_KB:=(nXa.1 KB.out).1;replace b_B9:=bX3 B9;replace b_B13:=bX3 B13;go_wp2
    go_roundg (gk-1)
    case measure=>omega
    case rel=>exact ⟨t+1,x21,by omega,by go_num,HX4.out,KB.out,PC.out,B9.out,G21.out⟩
def nJ(n:Nat):List Rat:=(List.replicate n (0:Rat)).set 0 1
theorem rT(n:Nat):(nJ n).length=n:=by unfold nJ;simp
theorem nt(n:Nat):SzL 1 (nJ n):=by
 intro x hx;unfold nJ at hx;rcases List.mem_or_eq_of_mem_set hx with h|h
 ·rw [List.eq_of_mem_replicate h];exact Sz.zero (by decide)
 ·rw [h];exact Sz.one
def vE(b a:List Rat)(n:Int):Int×List Rat:=if VF b a then (if n<0∨200<n then (1,[]) else tx b a (nJ n.toNat)) else (2,[])
theorem ns(f:FH)(b a:List Rat)(n:Int)(sb sa:Nat)(w:World)(h:pe w f b a)(hfb:f.b.n≤1000)(hfa:f.a.n≤1000)(hn1:-9223372036854775808≤n)(hn2:n≤9223372036854775807)
 (zb:SzL sb b)(za:SzL sa a)(h1b:1≤sb)(h1a:1≤sa)(h2b:sb≤60000000)(h2a:sa≤60000000)(hK:0≤n→n≤200→xG sb sa 1 (tz b).length (tz a).length*2 ^ n.toNat≤60000000) :
  au 60 [f.v,.int .i64 n] w RF (fun r w'=>r.2=(vE b a n).1∧aJ w' r.1 (vE b a n).2):=by
 obtain ⟨i0,hi0,hz0,hz1,hz2⟩:=info_parts fk;obtain ⟨⟨ba,bn,bc⟩,⟨aa,an,ac⟩⟩:=f;have H:=Hi h;have HX:=Hi (Ext.refl w);have ZB:=Hi zb;have ZA:=Hi za;simp only at hfb hfa;clear h zb za;unfold au;simp only [FH.v,SH.v];go_enter Tryz.func60,Tryz.ntmps60
 go_upto_region 1 with fail
 refine nmA ?_;intro w1 hE B2 hz_w1 hr_w1;replace HX:=hE.tr HX;have hs_w1:=hE.size;clear hE;replace b_B2:=bX3 B2
 go_wp2_with fail
 refine cM (dE ⟨⟨ba,bn,bc⟩,⟨aa,an,ac⟩⟩ b a _ (H.out.ext HX.out)) fun x2 w2 hE _=>?_
 refine mV2 hE ?_ B2 HX;clear B2 HX;intro B2 HX;have hs_w2:=hE.size;clear hE;replace b_B2:=bX3 B2;by_cases hv:VF b a
 case neg =>
  have hv1:decide (VF b a)=false:=decide_eq_false hv;have HV:Hid (vE b a n=(2,[])):=Hi (by unfold vE;rw [if_neg hv]);rw [hv1];go_wp2;exact bodyPost_ret (v:=RF (⟨none,0,0⟩,2)) (by simp [results,Tryz.results60,go_sem,RF]) rfl ⟨(⟨none,0,0⟩,2),rfl,HX.out,by rw [HV.out],by rw [HV.out];exact (bj.nil 0 _).can⟩
 have hv1:decide (VF b a)=true:=decide_eq_true hv;rw [hv1];by_cases hneg:n<0
 case pos =>
  have HV:Hid (vE b a n=(1,[])):=Hi (by unfold vE;rw [if_pos hv,if_pos (Or.inl hneg)]);go_wp2;exact bodyPost_ret (v:=RF (⟨none,0,0⟩,1)) (by simp [results,Tryz.results60,go_sem,RF]) rfl ⟨(⟨none,0,0⟩,1),rfl,HX.out,by rw [HV.out],by rw [HV.out];exact (bj.nil 0 _).can⟩
 by_cases hbig:200<n
 case pos =>
  have HV:Hid (vE b a n=(1,[])):=Hi (by unfold vE;rw [if_pos hv,if_pos (Or.inr hbig)]);go_wp2;exact bodyPost_ret (v:=RF (⟨none,0,0⟩,1)) (by simp [results,Tryz.results60,go_sem,RF]) rfl ⟨(⟨none,0,0⟩,1),rfl,HX.out,by rw [HV.out],by rw [HV.out];exact (bj.nil 0 _).can⟩
 obtain ⟨N,rfl⟩:∃ N:Nat,n=(N:Int):=⟨n.toNat,by omega⟩;have hN:N≤200:=by omega
 have hKN:=hK (by omega) (by omega);rw [Int.toNat_natCast] at hKN;have HV:Hid (vE b a (N:Int)=tx b a (nJ N)):=Hi (by unfold vE;rw [if_pos hv,if_neg (by omega),Int.toNat_natCast]);clear hK
 go_upto_region 6 with (refine aA rfl (.tmp 17) (.tmp 17) 22 rfl 30 i0 (RH.v default) 3 Tryz.underlying22 hi0 hz0 hz1 _ _ N rfl rfl (by omega) (by omega) (by rw [hz2];omega) (by omega) ?_;intro w5 hnew hE)
 have KB:=Hi (RBk.make rfl hnew);clear hnew;refine mV2 hE ?_ B2 HX;clear B2 HX;intro B2 HX;have hs_w5:=hE.size;clear hE;replace b_B2:=bX3 B2;obtain ⟨L,hL⟩:∃ L,L=w2.heap.size:=⟨_,rfl⟩;have hLw:w.heap.size<L:=by omega
 obtain ⟨b2,hb2⟩:∃ b2,b2=w.heap.size:=⟨_,rfl⟩;have hb2L:b2≠L:=by omega
 rw [←hL] at KB ⊢;rw [←hb2] at B2 ⊢;have hb2w:w.heap.size≤b2:=by omega
 clear hL hb2 b_B2;go_wp2
 go_loopg [21] N (fun g v wr=>∃ (i:Nat) (rs:List RH),i+g=N∧v=.int .i64 (i:Nat)∧Ext w wr∧RBk wr L rs #[]∧rs.length=N∧fo wr rs (List.replicate i 0)∧wr.heap[b2]?=some (.cells #[.slice ba bn bc,.slice aa an ac] 43 (0,0)))
 case atStart=>exact ⟨0,_,by omega,rfl,HX.out,KB.out,by simp,(fun j hj=>by simp at hj),B2.out⟩
 case round =>
  obtain ⟨i,rs,hi,rfl,g1,g2,g3,g4,g5⟩:=hrel;clear HX KB B2;have HX:=Hi g1;have KB:=Hi g2;have HRl:=Hi g3;have PC:=Hi g4;have B2:=Hi g5;have hszr:=g1.size;clear g1 g2 g3 g4 g5
  try clear f_KB l_KB
  have f_KB:=ab KB.out;have l_KB:=(nXa.1 KB.out).1;replace b_B2:=bX3 B2;have hLr:L<wr.heap.size:=l_KB;by_cases h0:gk=0
  case neg =>
   have hin:(i:Int)<N:=by omega
   go_wp2_with fail
   refine cM (bM 0 _ (by decide) (by decide)) fun x4 w4 hE G4=>?_
   refine mV4 hE ?_ HX KB PC B2;clear HX KB PC B2;intro HX KB PC B2;have hs_w4:=hE.size;clear hE
   try clear f_KB l_KB
   have f_KB:=ab KB.out;have l_KB:=(nXa.1 KB.out).1;replace b_B2:=bX3 B2;obtain ⟨f1,f2,f3⟩:=RBk.at (re:=#[]) KB.out (k:=i) (by rw [HRl.out];omega)
   go_upto_region 10 with fail
   refine cl (k:=i) KB.out rfl (by rw [HRl.out];omega) ?_;intro y6 T;clear f1 f2 f3;replace HX:=Hi (T.ext HX.out (by omega));replace PC:=Hi (PC.out.keep T.keep);replace KB:=Hi (T.bx);replace B2:=Hi (T.rest _ _ (by omega) B2.out);replace G4:=Hi (G4.out.keep T.keep);have hs_y6:=nle T.size;have hr_y6:=nle T.size.symm;clear T
   try clear f_KB l_KB
   have f_KB:=ab KB.out;have l_KB:=(nXa.1 KB.out).1;replace b_B2:=bX3 B2;replace PC:=Hi (PC.out.snoc (x:=x4) (i:=i) (by simp) (by rw [HRl.out];omega) G4.out);have HMp:Hid (List.replicate i (0:Rat)++[((0:Int):Rat)]=List.replicate (i+1) 0):=Hi (by rw [List.replicate_succ'];rfl);rw [HMp.out] at PC;go_wp2
   go_roundg (gk-1)
   case measure=>omega
   case rel=>exact ⟨i+1,_,by omega,by go_num,HX.out,KB.out,by rw [nXn];exact HRl.out,PC.out,B2.out⟩
  subst h0;obtain rfl:i=N:=by omega
  have hin:¬ (i:Int)<i:=by omega
  by_cases hi0:i=0
  case pos =>
   subst hi0;have LL:Hid (aJ wr ⟨some ⟨L,0,none⟩,0,0⟩ (nJ 0)):=Hi (bj.can (fo.list (B:=0) PC.out KB.out HRl.out rfl (by omega) (by omega)))
   go_wp2_with fail
   refine cM (n8 ⟨⟨ba,bn,bc⟩,⟨aa,an,ac⟩⟩ (some ⟨L,0,none⟩) 0 0 b a (nJ 0) sb sa 1 _ (H.out.ext HX.out) (LL.out.raw (nt 0) (by decide)) hfb hfa (by decide) ZB.out ZA.out (nt 0) h1b h1a (by decide) h2b h2a (by decide) hKN) fun x5 w5 hE G5=>?_
   refine mV4 hE ?_ HX KB B2 PC;clear HX KB B2 PC;intro HX KB B2 PC;have hs_w5:=hE.size;clear hE
   try clear f_KB l_KB
   have f_KB:=ab KB.out;have l_KB:=(nXa.1 KB.out).1;replace b_B2:=bX3 B2;obtain ⟨⟨ra,rn,rc⟩,re⟩:=x5;obtain ⟨he,hl⟩:=G5.out;simp only at he hl;subst he;have HL:=Hi hl;clear hl G5;simp only [RF,SH.v];go_wp2;exact bodyPost_ret (v:=RF (⟨ra,rn,rc⟩,(tx b a (nJ 0)).1)) (by simp [results,Tryz.results60,go_sem,RF]) rfl ⟨(⟨ra,rn,rc⟩,(tx b a (nJ 0)).1),rfl,HX.out,by rw [HV.out],by rw [HV.out];exact HL.out⟩
  have hi1:(0:Int)<i:=by omega
  go_wp2_with fail
  refine cM (bM 1 _ (by decide) (by decide)) fun x6 w6 hE G6=>?_
  refine mV4 hE ?_ HX KB B2 PC;clear HX KB B2 PC;intro HX KB B2 PC;have hs_w6:=hE.size;clear hE
  try clear f_KB l_KB
  have f_KB:=ab KB.out;have l_KB:=(nXa.1 KB.out).1;replace b_B2:=bX3 B2;obtain ⟨f1,f2,f3⟩:=RBk.at (re:=#[]) KB.out (k:=0) (by rw [HRl.out];omega);simp only [Nat.zero_mul] at f1 f2 f3
  go_upto_region 13 with fail
  refine cl (k:=0) KB.out rfl (by rw [HRl.out];omega) ?_;intro y7 T;clear f1 f2 f3;replace HX:=Hi (T.ext HX.out (by omega));replace PC:=Hi (PC.out.keep T.keep);replace KB:=Hi (T.bx);replace B2:=Hi (T.rest _ _ (by omega) B2.out);replace G6:=Hi (G6.out.keep T.keep);have hs_y7:=nle T.size;have hr_y7:=nle T.size.symm;clear T
  try clear f_KB l_KB
  have f_KB:=ab KB.out;have l_KB:=(nXa.1 KB.out).1;replace b_B2:=bX3 B2;have LL:Hid (aJ y7 ⟨some ⟨L,0,none⟩,i,i⟩ (nJ i)):=Hi (bj.can (fo.list (B:=0) (rs:=rs.set 0 x6) (fun j hj=>by
   by_cases hj0:j=0
   ·subst hj0;rw [dw (by rw [HRl.out];omega),show (nJ i).getD 0 0=((1:Int):Rat) by unfold nJ;simp [show 0<i by omega]];exact G6.out
   ·have h1:=PC.out j (by rw [rT] at hj;simpa using hj);rw [show (rs.set 0 x6).getD j default=rs.getD j default by simp [Ne.symm hj0],show (nJ i).getD j 0=(List.replicate i (0:Rat)).getD j 0 by unfold nJ;simp [Ne.symm hj0]];exact h1) KB.out (by rw [nXn];exact HRl.out) (rT i) (by omega) (by omega)))
  go_wp2_with fail
  refine cM (n8 ⟨⟨ba,bn,bc⟩,⟨aa,an,ac⟩⟩ (some ⟨L,0,none⟩) i i b a (nJ i) sb sa 1 _ (H.out.ext HX.out) (LL.out.raw (nt i) (by decide)) hfb hfa hN ZB.out ZA.out (nt i) h1b h1a (by decide) h2b h2a (by decide) hKN) fun x8 w8 hE G8=>?_
  refine mV5 hE ?_ HX PC KB B2 G6;clear HX PC KB B2 G6;intro HX PC KB B2 G6;have hs_w8:=hE.size;clear hE
  try clear f_KB l_KB
  have f_KB:=ab KB.out;have l_KB:=(nXa.1 KB.out).1;replace b_B2:=bX3 B2;obtain ⟨⟨ra,rn,rc⟩,re⟩:=x8;obtain ⟨he,hl⟩:=G8.out;simp only at he hl;subst he;have HL:=Hi hl;clear hl G8;simp only [RF,SH.v];go_wp2;exact bodyPost_ret (v:=RF (⟨ra,rn,rc⟩,(tx b a (nJ i)).1)) (by simp [results,Tryz.results60,go_sem,RF]) rfl ⟨(⟨ra,rn,rc⟩,(tx b a (nJ i)).1),rfl,HX.out,by rw [HV.out],by rw [HV.out];exact HL.out⟩
end Go.Proofs.YtohahgiidooijaaGreat
