/- Impulse of package response. -/
import Derived.Test.YtpieblkklbilgaaGreatQPRp3
set_option linter.unusedVariables false
namespace Go.Proofs.YtpieblkklbilgaaGreat
open Go.RowKit Go.Front Go.Num Stab
attribute [local go_sem] XW.cell XW.frozen
def impL (n:Nat):List Rat:=(List.replicate n (0:Rat)).set 0 1
theorem impL_len (n:Nat):(impL n).length=n:=by unfold impL;simp
theorem impL_sz (n:Nat):SzL 1 (impL n):=by
 intro x hx
 unfold impL at hx
 rcases List.mem_or_eq_of_mem_set hx with h | h
 ·rw [List.eq_of_mem_replicate h];exact Sz.zero (by decide)
 ·rw [h];exact Sz.one
def impV (b a:List Rat) (n:Int):Int × List Rat:=if VF b a then (if n < 0 ∨ 200 < n then (1,[]) else runV b a (impL n.toNat)) else (2,[])
set_option maxRecDepth 8000 in
set_option maxHeartbeats 8000000 in
theorem impulse20_any (f:FH) (b a:List Rat) (n:Int) (sb sa:Nat) (w:World) (h:RawF w f b a) (hfb:f.b.n≤1000) (hfa:f.a.n≤1000) (hn1:-9223372036854775808≤n) (hn2:n≤9223372036854775807)
  (zb:SzL sb b) (za:SzL sa a) (h1b:1≤sb) (h1a:1≤sa) (h2b:sb≤60000000) (h2a:sa≤60000000) (hK:0≤n→n≤200→runK sb sa 1 (tz b).length (tz a).length * 2 ^ n.toNat≤60000000) :
  Does 123 [f.v,.int .i64 n] w RF (fun r w'=>r.2=(impV b a n).1∧CanL w' r.1 (impV b a n).2):=by
 obtain ⟨i0,hi0,hz0,hz1,hz2⟩:=info_parts infoR
 obtain ⟨⟨ba,bn,bc⟩,⟨aa,an,ac⟩⟩:=f
 have H:=Hi h
 have HX:=Hi (Ext.refl w)
 have ZB:=Hi zb
 have ZA:=Hi za
 simp only at hfb hfa
 clear h zb za
 unfold Does
 simp only [FH.v,SH.v]
 go_enter Tryz.func123,Tryz.ntmps123
 go_upto_region 1 with fail
 refine nm_alloc ?_
 intro w1 hE hB0 hz
 have hz_w1:=nle hz
 have hr_w1:=nle hz.symm
 clear hz
 replace HX:=hE.tr HX
 have hs_w1:=hE.size
 clear hE
 have B2:=Hi hB0
 clear hB0
 obtain ⟨c_B2,f_B2,l_B2⟩:=blk3 B2.out
 go_wp2_with fail
 refine Calls.mono (valid20_any ⟨⟨ba,bn,bc⟩,⟨aa,an,ac⟩⟩ b a _ (H.out.ext HX.out)) ?_
 rintro e w2 ⟨x2,rfl,hE,-⟩
 replace HX:=hE.tr HX
 replace B2:=hE.bl B2
 have hs_w2:=hE.size
 clear hE
 try clear c_B2 f_B2 l_B2
 obtain ⟨c_B2,f_B2,l_B2⟩:=blk3 B2.out
 by_cases hv:VF b a
 case neg =>
  have hv1:decide (VF b a)=false:=decide_eq_false hv
  have HV:Hid (impV b a n=(2,[])):=Hi (by unfold impV;rw [if_neg hv])
  rw [hv1]
  go_wp2
  exact bodyPost_ret (v:=RF (⟨none,0,0⟩,2)) (by simp [results,Tryz.results123,go_sem,RF]) rfl ⟨(⟨none,0,0⟩,2),rfl,HX.out,by rw [HV.out],by rw [HV.out];exact (NewL.nil 0 _).can⟩
 have hv1:decide (VF b a)=true:=decide_eq_true hv
 rw [hv1]
 by_cases hneg:n < 0
 case pos =>
  have HV:Hid (impV b a n=(1,[])):=Hi (by unfold impV;rw [if_pos hv,if_pos (Or.inl hneg)])
  go_wp2
  exact bodyPost_ret (v:=RF (⟨none,0,0⟩,1)) (by simp [results,Tryz.results123,go_sem,RF]) rfl ⟨(⟨none,0,0⟩,1),rfl,HX.out,by rw [HV.out],by rw [HV.out];exact (NewL.nil 0 _).can⟩
 by_cases hbig:200 < n
 case pos =>
  have HV:Hid (impV b a n=(1,[])):=Hi (by unfold impV;rw [if_pos hv,if_pos (Or.inr hbig)])
  go_wp2
  exact bodyPost_ret (v:=RF (⟨none,0,0⟩,1)) (by simp [results,Tryz.results123,go_sem,RF]) rfl ⟨(⟨none,0,0⟩,1),rfl,HX.out,by rw [HV.out],by rw [HV.out];exact (NewL.nil 0 _).can⟩
 obtain ⟨N,rfl⟩:∃ N:Nat,n=(N:Int):=⟨n.toNat,by omega⟩
 have hN:N≤200:=by omega
 have hKN:=hK (by omega) (by omega)
 rw [Int.toNat_natCast] at hKN
 have HV:Hid (impV b a (N:Int)=runV b a (impL N)):=Hi (by unfold impV;rw [if_pos hv,if_neg (by omega),Int.toNat_natCast])
 clear hK
 go_upto_region 6 with (refine wpList_make rfl (.tmp 17) (.tmp 17) 22 rfl 30 i0 (RH.v default) 3 Tryz.underlying22 hi0 hz0 hz1 _ _ N rfl rfl (by omega) (by omega) (by rw [hz2];omega) (by omega) ?_;intro w5 hnew hE)
 have KB:=Hi (RBk.make rfl hnew)
 clear hnew
 replace HX:=hE.tr HX
 replace B2:=hE.bl B2
 have hs_w5:=hE.size
 clear hE
 try clear c_B2 f_B2 l_B2
 obtain ⟨c_B2,f_B2,l_B2⟩:=blk3 B2.out
 obtain ⟨L,hL⟩:∃ L,L=w2.heap.size:=⟨_,rfl⟩
 have hLw:w.heap.size < L:=by omega
 obtain ⟨b2,hb2⟩:∃ b2,b2=w.heap.size:=⟨_,rfl⟩
 have hb2L:b2 ≠ L:=by omega
 rw [← hL] at KB ⊢
 rw [← hb2] at B2 ⊢
 have hb2w:w.heap.size≤b2:=by omega
 clear hL hb2 c_B2 f_B2 l_B2
 go_wp2
 go_loopg [21] N (fun g v wr=>∃ (i:Nat) (rs:List RH),i+g=N∧v=.int .i64 (i:Nat)∧Ext w wr∧RBk wr L rs #[]∧rs.length=N∧PreC wr rs (List.replicate i 0)∧wr.heap[b2]?=some (.cells #[.slice ba bn bc,.slice aa an ac] 80 (0,0)))
 case atStart=>exact ⟨0,_,by omega,rfl,HX.out,KB.out,by simp,(fun j hj=>by simp at hj),B2.out⟩
 case round =>
  obtain ⟨i,rs,hi,rfl,g1,g2,g3,g4,g5⟩:=hrel
  clear HX KB B2
  have HX:=Hi g1
  have KB:=Hi g2
  have HRl:=Hi g3
  have PC:=Hi g4
  have B2:=Hi g5
  have hszr:=g1.size
  clear g1 g2 g3 g4 g5
  try clear f_KB l_KB
  have f_KB:=blk_frozen KB.out
  have l_KB:=(Array.getElem?_eq_some_iff.1 KB.out).1
  try clear c_B2 f_B2 l_B2
  obtain ⟨c_B2,f_B2,l_B2⟩:=blk3 B2.out
  have hLr:L < wr.heap.size:=l_KB
  by_cases h0:gk=0
  case neg =>
   have hin:(i:Int) < N:=by omega
   go_wp2_with fail
   refine Calls.mono (rof_any 0 _ (by decide) (by decide)) ?_
   rintro e w4 ⟨x4,rfl,hE,g4⟩
   have G4:=Hi g4
   clear g4
   replace HX:=hE.tr HX
   replace PC:=Hi (PC.out.ext hE)
   replace KB:=hE.bl KB
   replace B2:=hE.bl B2
   have hs_w4:=hE.size
   clear hE
   try clear f_KB l_KB
   have f_KB:=blk_frozen KB.out
   have l_KB:=(Array.getElem?_eq_some_iff.1 KB.out).1
   try clear c_B2 f_B2 l_B2
   obtain ⟨c_B2,f_B2,l_B2⟩:=blk3 B2.out
   obtain ⟨f1,f2,f3⟩:=RBk.at (re:=#[]) KB.out (k:=i) (by rw [HRl.out];omega)
   go_upto_region 10 with fail
   refine nm_rat (k:=i) KB.out rfl (by rw [HRl.out];omega) ?_
   intro y6 T
   clear f1 f2 f3
   replace HX:=Hi (T.ext HX.out (by omega))
   replace PC:=Hi (PC.out.keep T.keep)
   replace KB:=Hi (T.bx)
   replace B2:=Hi (T.rest _ _ (by omega) B2.out)
   replace G4:=Hi (G4.out.keep T.keep)
   have hs_y6:=nle T.size
   have hr_y6:=nle T.size.symm
   clear T
   try clear f_KB l_KB
   have f_KB:=blk_frozen KB.out
   have l_KB:=(Array.getElem?_eq_some_iff.1 KB.out).1
   try clear c_B2 f_B2 l_B2
   obtain ⟨c_B2,f_B2,l_B2⟩:=blk3 B2.out
   replace PC:=Hi (PC.out.snoc (x:=x4) (i:=i) (by simp) (by rw [HRl.out];omega) G4.out)
   have HMp:Hid (List.replicate i (0:Rat) ++ [((0:Int):Rat)]=List.replicate (i+1) 0):=Hi (by rw [List.replicate_succ'];rfl)
   rw [HMp.out] at PC
   go_wp2
   go_roundg (gk - 1)
   case measure=>omega
   case rel=>exact ⟨i+1,_,by omega,by go_num,HX.out,KB.out,by rw [List.length_set];exact HRl.out,PC.out,B2.out⟩
  subst h0
  obtain rfl:i=N:=by omega
  have hin:¬ (i:Int) < i:=by omega
  by_cases hi0:i=0
  case pos =>
   subst hi0
   have LL:Hid (CanL wr ⟨some ⟨L,0,none⟩,0,0⟩ (impL 0)):=Hi (NewL.can (PreC.list (B:=0) PC.out KB.out HRl.out rfl (by omega) (by omega)))
   go_wp2_with fail
   refine Calls.mono (run20_any ⟨⟨ba,bn,bc⟩,⟨aa,an,ac⟩⟩ (some ⟨L,0,none⟩) 0 0 b a (impL 0) sb sa 1 _ (H.out.ext HX.out) (LL.out.raw (impL_sz 0) (by decide)) hfb hfa (by decide) ZB.out ZA.out (impL_sz 0) h1b h1a (by decide) h2b h2a (by decide) hKN) ?_
   rintro e w5 ⟨x5,rfl,hE,g5⟩
   have G5:=Hi g5
   clear g5
   replace HX:=hE.tr HX
   replace PC:=Hi (PC.out.ext hE)
   replace KB:=hE.bl KB
   replace B2:=hE.bl B2
   have hs_w5:=hE.size
   clear hE
   try clear f_KB l_KB
   have f_KB:=blk_frozen KB.out
   have l_KB:=(Array.getElem?_eq_some_iff.1 KB.out).1
   try clear c_B2 f_B2 l_B2
   obtain ⟨c_B2,f_B2,l_B2⟩:=blk3 B2.out
   obtain ⟨⟨ra,rn,rc⟩,re⟩:=x5
   obtain ⟨he,hl⟩:=G5.out
   simp only at he hl
   subst he
   have HL:=Hi hl
   clear hl G5
   simp only [RF,SH.v]
   go_wp2
   exact bodyPost_ret (v:=RF (⟨ra,rn,rc⟩,(runV b a (impL 0)).1)) (by simp [results,Tryz.results123,go_sem,RF]) rfl ⟨(⟨ra,rn,rc⟩,(runV b a (impL 0)).1),rfl,HX.out,by rw [HV.out],by rw [HV.out];exact HL.out⟩
  have hi1:(0:Int) < i:=by omega
  go_wp2_with fail
  refine Calls.mono (rof_any 1 _ (by decide) (by decide)) ?_
  rintro e w6 ⟨x6,rfl,hE,g6⟩
  have G6:=Hi g6
  clear g6
  replace HX:=hE.tr HX
  replace PC:=Hi (PC.out.ext hE)
  replace KB:=hE.bl KB
  replace B2:=hE.bl B2
  have hs_w6:=hE.size
  clear hE
  try clear f_KB l_KB
  have f_KB:=blk_frozen KB.out
  have l_KB:=(Array.getElem?_eq_some_iff.1 KB.out).1
  try clear c_B2 f_B2 l_B2
  obtain ⟨c_B2,f_B2,l_B2⟩:=blk3 B2.out
  obtain ⟨f1,f2,f3⟩:=RBk.at (re:=#[]) KB.out (k:=0) (by rw [HRl.out];omega)
  simp only [Nat.zero_mul] at f1 f2 f3
  go_upto_region 13 with fail
  refine nm_rat (k:=0) KB.out rfl (by rw [HRl.out];omega) ?_
  intro y7 T
  clear f1 f2 f3
  replace HX:=Hi (T.ext HX.out (by omega))
  replace PC:=Hi (PC.out.keep T.keep)
  replace KB:=Hi (T.bx)
  replace B2:=Hi (T.rest _ _ (by omega) B2.out)
  replace G6:=Hi (G6.out.keep T.keep)
  have hs_y7:=nle T.size
  have hr_y7:=nle T.size.symm
  clear T
  try clear f_KB l_KB
  have f_KB:=blk_frozen KB.out
  have l_KB:=(Array.getElem?_eq_some_iff.1 KB.out).1
  try clear c_B2 f_B2 l_B2
  obtain ⟨c_B2,f_B2,l_B2⟩:=blk3 B2.out
  have LL:Hid (CanL y7 ⟨some ⟨L,0,none⟩,i,i⟩ (impL i)):=Hi (NewL.can (PreC.list (B:=0) (rs:=rs.set 0 x6) (fun j hj=>by
   by_cases hj0:j=0
   ·subst hj0
    rw [getD_set_self (by rw [HRl.out];omega),show (impL i).getD 0 0=((1:Int):Rat) by unfold impL;simp [show 0 < i by omega]]
    exact G6.out
   ·have h1:=PC.out j (by rw [impL_len] at hj;simpa using hj)
    rw [show (rs.set 0 x6).getD j default=rs.getD j default by simp [Ne.symm hj0],show (impL i).getD j 0=(List.replicate i (0:Rat)).getD j 0 by unfold impL;simp [Ne.symm hj0]]
    exact h1) KB.out (by rw [List.length_set];exact HRl.out) (impL_len i) (by omega) (by omega)))
  go_wp2_with fail
  refine Calls.mono (run20_any ⟨⟨ba,bn,bc⟩,⟨aa,an,ac⟩⟩ (some ⟨L,0,none⟩) i i b a (impL i) sb sa 1 _ (H.out.ext HX.out) (LL.out.raw (impL_sz i) (by decide)) hfb hfa hN ZB.out ZA.out (impL_sz i) h1b h1a (by decide) h2b h2a (by decide) hKN) ?_
  rintro e w8 ⟨x8,rfl,hE,g8⟩
  have G8:=Hi g8
  clear g8
  replace HX:=hE.tr HX
  replace PC:=Hi (PC.out.ext hE)
  replace KB:=hE.bl KB
  replace B2:=hE.bl B2
  replace G6:=Hi (G6.out.ext hE)
  have hs_w8:=hE.size
  clear hE
  try clear f_KB l_KB
  have f_KB:=blk_frozen KB.out
  have l_KB:=(Array.getElem?_eq_some_iff.1 KB.out).1
  try clear c_B2 f_B2 l_B2
  obtain ⟨c_B2,f_B2,l_B2⟩:=blk3 B2.out
  obtain ⟨⟨ra,rn,rc⟩,re⟩:=x8
  obtain ⟨he,hl⟩:=G8.out
  simp only at he hl
  subst he
  have HL:=Hi hl
  clear hl G8
  simp only [RF,SH.v]
  go_wp2
  exact bodyPost_ret (v:=RF (⟨ra,rn,rc⟩,(runV b a (impL i)).1)) (by simp [results,Tryz.results123,go_sem,RF]) rfl ⟨(⟨ra,rn,rc⟩,(runV b a (impL i)).1),rfl,HX.out,by rw [HV.out],by rw [HV.out];exact HL.out⟩
end Go.Proofs.YtpieblkklbilgaaGreat
