/- Run and Impulse of the reference 20. -/
import Derived.Test.YtdchjfcklppmgaaGreatQXR20d
set_option linter.unusedVariables false
set_option maxRecDepth 8000
set_option maxHeartbeats 4000000
namespace Go.Proofs.YtdchjfcklppmgaaGreat
open Go.RowKit Go.Front Go.Num Stab
attribute [local go_sem] XW.cell XW.frozen
theorem made_imp {w:World} {L N:Nat} {x:RH} (hN:0 < N) (hN2:N≤200) (h:RBk w L ((List.replicate N default).set 0 x) #[]) (hx:CanR w x ((1:Int):Rat)):RawL w ⟨some ⟨L,0,none⟩,N,N⟩ (impL N) :=
 ⟨_,h.rs (by simp) (Nat.le_refl _) (by omega),by simp [impL_len],fun k hk=>by
  rw [impL_len] at hk
  by_cases hk0:k = 0
  ·subst hk0
   rw [getD_set_self (by simpa using hN),show (impL N).getD 0 0 = ((1:Int):Rat) by unfold impL; simp [hN]]
   exact hx.raw (Sz.int (by decide)) (by decide)
  ·rw [show ((List.replicate N (default:RH)).set 0 x).getD k default = default by simp [Ne.symm hk0,hk],show (impL N).getD k 0 = 0 by unfold impL; simp [Ne.symm hk0,hk]]
   exact rawR_default w⟩
theorem made_nil (w:World) (L:Nat):CanL w ⟨some ⟨L,0,none⟩,0,0⟩ (impL 0):=⟨[],⟨rfl,Nat.le_refl _,Nat.zero_le _,Or.inr ⟨L,0,rfl,fun k hk=>by simp at hk⟩⟩,rfl,fun k hk=>by simp [impL] at hk⟩
theorem rRun_any (f:FH) (xo:Option Addr) (N xc:Nat) (b a x:List Rat) (sb sa sx:Nat) (w:World) (h:RawF w f b a) (k:RawL w ⟨xo,N,xc⟩ x) (hfb:f.b.n≤1000) (hfa:f.a.n≤1000) (hN:N≤200)
  (zb:SzL sb b) (za:SzL sa a) (zx:SzL sx x) (h1b:1≤sb) (h1a:1≤sa) (h1x:1≤sx) (h2b:sb≤400) (h2a:sa≤400) (h2x:sx≤60000000) (hK:runK sb sa sx b.length a.length * 2 ^ N≤60000000) :
  Does 182 [f.v,.slice xo N xc] w RF (fun r w'=>r.2 = (runV b a x).1∧CanL w' r.1 (runV b a x).2):=by
 obtain ⟨⟨ba,bn,bc⟩,⟨aa,an,ac⟩⟩:=f
 have H:=Hi h
 have K:=Hi k
 have HX:=Hi (Ext.refl w)
 have ZB:=Hi zb
 have ZA:=Hi za
 have ZX:=Hi zx
 have HK:=Hi hK
 have Hx:Hid (x.length = N):=Hi k.len
 clear h k zb za zx hK
 unfold Does
 simp only [FH.v,SH.v]
 go_enter Tryz.func182,Tryz.ntmps182
 go_upto_region 1 with fail
 refine nm_alloc ?_
 intro w1 hE hB0 hz
 have hz_w1:=nle hz
 have hr_w1:=nle hz.symm
 clear hz
 replace HX:=hE.tr HX
 have hs_w1:=hE.size
 clear hE
 have B2:=Hi hB0
 clear hB0
 obtain ⟨c_B2,f_B2,l_B2⟩:=blk3 B2.out
 go_wp2_with fail
 refine Calls.mono (rvalid_any ⟨⟨ba,bn,bc⟩,⟨aa,an,ac⟩⟩ b a _ (H.out.ext HX.out) hfb hfa (ZB.out.mono (show sb≤400 by omega)) (ZA.out.mono (show sa≤400 by omega)) (by decide)) ?_
 rintro e w2 ⟨x2,rfl,hE,-⟩
 replace HX:=hE.tr HX
 replace B2:=hE.bl B2
 have hs_w2:=hE.size
 clear hE
 try clear c_B2 f_B2 l_B2
 obtain ⟨c_B2,f_B2,l_B2⟩:=blk3 B2.out
 by_cases hv:VF b a
 case neg =>
  have hv1:decide (VF b a) = false:=decide_eq_false hv
  have HV:Hid (runV b a x = (2,[])):=Hi (by unfold runV; rw [if_neg hv])
  rw [hv1]
  go_wp2
  exact bodyPost_ret (v:=RF (⟨none,0,0⟩,2)) (by simp [results,Tryz.results182,go_sem,RF]) rfl ⟨(⟨none,0,0⟩,2),rfl,HX.out,by rw [HV.out],by rw [HV.out]; exact (NewL.nil 0 _).can⟩
 have hv1:decide (VF b a) = true:=decide_eq_true hv
 have HV:Hid (runV b a x = (0,runL b a (seq x) N)):=Hi (by unfold runV; rw [if_pos hv,Hx.out])
 rw [hv1]
 have hN2:¬ (200:Int) < N:=by omega
 go_wp2_with fail
 refine Calls.mono (rrun_any ⟨⟨ba,bn,bc⟩,⟨aa,an,ac⟩⟩ xo N xc b a x sb sa sx _ (H.out.ext HX.out) (K.out.ext HX.out) hfb hfa hN ZB.out ZA.out ZX.out h1b h1a h1x (by omega) (by omega) h2x HK.out) ?_
 rintro e w3 ⟨x3,rfl,hE,g3⟩
 have G3:=Hi g3
 clear g3
 replace HX:=hE.tr HX
 replace B2:=hE.bl B2
 have hs_w3:=hE.size
 clear hE
 try clear c_B2 f_B2 l_B2
 obtain ⟨c_B2,f_B2,l_B2⟩:=blk3 B2.out
 obtain ⟨ra,rn,rc⟩:=x3
 have HL:=Hi G3.out
 clear G3
 simp only [SH.v]
 go_wp2
 exact bodyPost_ret (v:=RF (⟨ra,rn,rc⟩,0)) (by simp [results,Tryz.results182,go_sem,RF]) rfl ⟨(⟨ra,rn,rc⟩,0),rfl,HX.out,by rw [HV.out],by rw [HV.out]; exact HL.out⟩
theorem rImpulse_any (f:FH) (b a:List Rat) (n:Int) (sb sa:Nat) (w:World) (h:RawF w f b a) (hfb:f.b.n≤1000) (hfa:f.a.n≤1000) (hn1:-9223372036854775808≤n) (hn2:n≤9223372036854775807)
  (zb:SzL sb b) (za:SzL sa a) (h1b:1≤sb) (h1a:1≤sa) (h2b:sb≤400) (h2a:sa≤400) (hK:0≤n→n≤200→runK sb sa 1 b.length a.length * 2 ^ n.toNat≤60000000) :
  Does 181 [f.v,.int .i64 n] w RF (fun r w'=>r.2 = (impV b a n).1∧CanL w' r.1 (impV b a n).2):=by
 obtain ⟨i0,hi0,hz0,hz1,hz2⟩:=info_parts infoR
 obtain ⟨⟨ba,bn,bc⟩,⟨aa,an,ac⟩⟩:=f
 have H:=Hi h
 have HX:=Hi (Ext.refl w)
 have ZB:=Hi zb
 have ZA:=Hi za
 simp only at hfb hfa
 clear h zb za
 unfold Does
 simp only [FH.v,SH.v]
 go_enter Tryz.func181,Tryz.ntmps181
 go_upto_region 1 with fail
 refine nm_alloc ?_
 intro w1 hE hB0 hz
 have hz_w1:=nle hz
 have hr_w1:=nle hz.symm
 clear hz
 replace HX:=hE.tr HX
 have hs_w1:=hE.size
 clear hE
 have B2:=Hi hB0
 clear hB0
 obtain ⟨c_B2,f_B2,l_B2⟩:=blk3 B2.out
 go_wp2_with fail
 refine Calls.mono (rvalid_any ⟨⟨ba,bn,bc⟩,⟨aa,an,ac⟩⟩ b a _ (H.out.ext HX.out) hfb hfa (ZB.out.mono (show sb≤400 by omega)) (ZA.out.mono (show sa≤400 by omega)) (by decide)) ?_
 rintro e w2 ⟨x2,rfl,hE,-⟩
 replace HX:=hE.tr HX
 replace B2:=hE.bl B2
 have hs_w2:=hE.size
 clear hE
 try clear c_B2 f_B2 l_B2
 obtain ⟨c_B2,f_B2,l_B2⟩:=blk3 B2.out
 by_cases hv:VF b a
 case neg =>
  have hv1:decide (VF b a) = false:=decide_eq_false hv
  have HV:Hid (impV b a n = (2,[])):=Hi (by unfold impV; rw [if_neg hv])
  rw [hv1]
  go_wp2
  exact bodyPost_ret (v:=RF (⟨none,0,0⟩,2)) (by simp [results,Tryz.results181,go_sem,RF]) rfl ⟨(⟨none,0,0⟩,2),rfl,HX.out,by rw [HV.out],by rw [HV.out]; exact (NewL.nil 0 _).can⟩
 have hv1:decide (VF b a) = true:=decide_eq_true hv
 rw [hv1]
 by_cases hneg:n < 0
 case pos =>
  have HV:Hid (impV b a n = (1,[])):=Hi (by unfold impV; rw [if_pos hv,if_pos (Or.inl hneg)])
  go_wp2
  exact bodyPost_ret (v:=RF (⟨none,0,0⟩,1)) (by simp [results,Tryz.results181,go_sem,RF]) rfl ⟨(⟨none,0,0⟩,1),rfl,HX.out,by rw [HV.out],by rw [HV.out]; exact (NewL.nil 0 _).can⟩
 by_cases hbig:200 < n
 case pos =>
  have HV:Hid (impV b a n = (1,[])):=Hi (by unfold impV; rw [if_pos hv,if_pos (Or.inr hbig)])
  go_wp2
  exact bodyPost_ret (v:=RF (⟨none,0,0⟩,1)) (by simp [results,Tryz.results181,go_sem,RF]) rfl ⟨(⟨none,0,0⟩,1),rfl,HX.out,by rw [HV.out],by rw [HV.out]; exact (NewL.nil 0 _).can⟩
 obtain ⟨N,rfl⟩:∃ N:Nat,n = (N:Int):=⟨n.toNat,by omega⟩
 have hN:N≤200:=by omega
 have hKN:=hK (by omega) (by omega)
 rw [Int.toNat_natCast] at hKN
 have HKN:=Hi hKN
 have HV:Hid (impV b a (N:Int) = (0,runL b a (seq (impL N)) N)):=Hi (by unfold impV; rw [if_pos hv,if_neg (by omega),Int.toNat_natCast]; unfold runV; rw [if_pos hv,impL_len])
 clear hK hKN
 go_upto_region 6 with (refine wpList_make rfl (.tmp 18) (.tmp 18) 22 rfl 30 i0 (RH.v default) 3 Tryz.underlying22 hi0 hz0 hz1 _ _ N rfl rfl (by omega) (by omega) (by rw [hz2]; omega) (by omega) ?_; intro w5 hnew hE)
 have KB:=Hi (RBk.make rfl hnew)
 clear hnew
 replace HX:=hE.tr HX
 replace B2:=hE.bl B2
 have hs_w5:=hE.size
 clear hE
 try clear c_B2 f_B2 l_B2
 obtain ⟨c_B2,f_B2,l_B2⟩:=blk3 B2.out
 obtain ⟨L,hL⟩:∃ L,L = w2.heap.size:=⟨_,rfl⟩
 have hLw:w.heap.size < L:=by omega
 obtain ⟨b2,hb2⟩:∃ b2,b2 = w.heap.size:=⟨_,rfl⟩
 have hb2L:b2 ≠ L:=by omega
 rw [← hL] at KB ⊢
 rw [← hb2] at B2 ⊢
 have hb2w:w.heap.size≤b2:=by omega
 clear hL hb2 c_B2 f_B2 l_B2
 try clear c_B2 f_B2 l_B2
 obtain ⟨c_B2,f_B2,l_B2⟩:=blk3 B2.out
 by_cases hi0:N = 0
 case pos =>
  subst hi0
  have LL:Hid (CanL w5 ⟨some ⟨L,0,none⟩,0,0⟩ (impL 0)):=Hi (made_nil _ _)
  go_wp2_with fail
  refine Calls.mono (rrun_any ⟨⟨ba,bn,bc⟩,⟨aa,an,ac⟩⟩ (some ⟨L,0,none⟩) 0 0 b a (impL 0) sb sa 1 _ (H.out.ext HX.out) (LL.out.raw (impL_sz 0) (by decide)) hfb hfa hN ZB.out ZA.out (impL_sz 0) h1b h1a (by decide) (by omega) (by omega) (by decide) HKN.out) ?_
  rintro e w6 ⟨x6,rfl,hE,g6⟩
  have G6:=Hi g6
  clear g6
  replace HX:=hE.tr HX
  replace B2:=hE.bl B2
  have hs_w6:=hE.size
  clear hE
  try clear c_B2 f_B2 l_B2
  obtain ⟨c_B2,f_B2,l_B2⟩:=blk3 B2.out
  obtain ⟨ra,rn,rc⟩:=x6
  have HL:=Hi G6.out
  clear G6
  simp only [SH.v]
  go_wp2
  exact bodyPost_ret (v:=RF (⟨ra,rn,rc⟩,0)) (by simp [results,Tryz.results181,go_sem,RF]) rfl ⟨(⟨ra,rn,rc⟩,0),rfl,HX.out,by rw [HV.out],by rw [HV.out]; exact HL.out⟩
 have hi1:(0:Int) < N:=by omega
 have hi2:0 < N:=by omega
 try clear c_B2 f_B2 l_B2
 obtain ⟨c_B2,f_B2,l_B2⟩:=blk3 B2.out
 try clear f_KB l_KB
 have f_KB:=blk_frozen KB.out
 have l_KB:=(Array.getElem?_eq_some_iff.1 KB.out).1
 go_wp2_with fail
 refine Calls.mono (rof3_any 1 _ (by decide) (by decide)) ?_
 rintro e w6 ⟨x6,rfl,hE,g6⟩
 have G6:=Hi g6
 clear g6
 replace HX:=hE.tr HX
 replace B2:=hE.bl B2
 replace KB:=hE.bl KB
 have hs_w6:=hE.size
 clear hE
 try clear c_B2 f_B2 l_B2
 obtain ⟨c_B2,f_B2,l_B2⟩:=blk3 B2.out
 try clear f_KB l_KB
 have f_KB:=blk_frozen KB.out
 have l_KB:=(Array.getElem?_eq_some_iff.1 KB.out).1
 obtain ⟨f1,f2,f3⟩:=RBk.at (re:=#[]) KB.out (k:=0) (by simpa using hi2)
 simp only [Nat.zero_mul] at f1 f2 f3
 go_upto_region 8 with fail
 refine nm_rat (k:=0) KB.out rfl (by simpa using hi2) ?_
 intro y7 T
 clear f1 f2 f3
 replace HX:=Hi (T.ext HX.out (by omega))
 replace B2:=Hi (T.rest _ _ (by omega) B2.out)
 replace KB:=Hi (T.bx)
 replace G6:=Hi (G6.out.keep T.keep)
 have hs_y7:=nle T.size
 have hr_y7:=nle T.size.symm
 clear T
 try clear c_B2 f_B2 l_B2
 obtain ⟨c_B2,f_B2,l_B2⟩:=blk3 B2.out
 try clear f_KB l_KB
 have f_KB:=blk_frozen KB.out
 have l_KB:=(Array.getElem?_eq_some_iff.1 KB.out).1
 have LL:Hid (RawL y7 ⟨some ⟨L,0,none⟩,N,N⟩ (impL N)):=Hi (made_imp hi2 hN KB.out G6.out)
 go_wp2_with fail
 refine Calls.mono (rrun_any ⟨⟨ba,bn,bc⟩,⟨aa,an,ac⟩⟩ (some ⟨L,0,none⟩) N N b a (impL N) sb sa 1 _ (H.out.ext HX.out) LL.out hfb hfa hN ZB.out ZA.out (impL_sz N) h1b h1a (by decide) (by omega) (by omega) (by decide) HKN.out) ?_
 rintro e w8 ⟨x8,rfl,hE,g8⟩
 have G8:=Hi g8
 clear g8
 replace HX:=hE.tr HX
 replace B2:=hE.bl B2
 replace KB:=hE.bl KB
 replace G6:=Hi (G6.out.ext hE)
 have hs_w8:=hE.size
 clear hE
 try clear c_B2 f_B2 l_B2
 obtain ⟨c_B2,f_B2,l_B2⟩:=blk3 B2.out
 try clear f_KB l_KB
 have f_KB:=blk_frozen KB.out
 have l_KB:=(Array.getElem?_eq_some_iff.1 KB.out).1
 obtain ⟨ra,rn,rc⟩:=x8
 have HL:=Hi G8.out
 clear G8
 simp only [SH.v]
 go_wp2
 exact bodyPost_ret (v:=RF (⟨ra,rn,rc⟩,0)) (by simp [results,Tryz.results181,go_sem,RF]) rfl ⟨(⟨ra,rn,rc⟩,0),rfl,HX.out,by rw [HV.out],by rw [HV.out]; exact HL.out⟩
end Go.Proofs.YtdchjfcklppmgaaGreat
