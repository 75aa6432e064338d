/- turn, Magnitude of package response. -/
import Derived.Test.YtpieblkklbilgaaGreatQPRp1
set_option linter.unusedVariables false
set_option maxRecDepth 8000
set_option maxHeartbeats 8000000
namespace Go.Proofs.YtpieblkklbilgaaGreat
open Go.RowKit Go.Front Go.Num Stab
attribute [local go_sem] XW.cell XW.frozen
theorem CanL.put2 {w1 w2:World} {s:SH} {qs:List Rat} {B:Nat} {T T':TypeId} {a a':Option Addr} {n c n' c':Nat} {cs:Array Value} (h:CanL w1 s qs) (hB:w1.heap[B]?=some (.cells #[.slice a n c,.slice a' n' c'] T' (0,0))) (T2:PutB w1 B T cs w2):CanL w2 s qs:=by
 obtain ⟨rs,h1,h2⟩:=h
 refine ⟨rs,⟨h1.len,h1.le,h1.max,?_⟩,h2.keep T2.keep⟩
 rcases h1.at' with h0 | ⟨b,off,e,hc⟩
 ·exact Or.inl h0
 ·rcases Nat.eq_zero_or_pos s.n with h0 | h0
  ·exact Or.inl h0
  ·have hb:b ≠ B:=by
    intro hb
    subst hb
    have h3:=(hc 0 h0).1
    rw [Nat.zero_mul,Nat.add_zero,blk_cell hB] at h3
    rcases off with _ | _ | off <;> simp at h3
   exact Or.inr ⟨b,off,e,fun k hk=>⟨T2.cell hb (hc k hk).1,T2.cell hb (hc k hk).2.1,T2.cell hb (hc k hk).2.2⟩⟩
def trnV (p:List Rat):List Rat:=(List.range p.length).map (fun k=>(((k:Nat):Int):Rat) * p.getD k 0)
theorem trn_len (p:List Rat):(trnV p).length=p.length:=by unfold trnV;simp
theorem trn_frb {S:Nat} {p:List Rat} (h:FrB S p) (hl:p.length≤1000):FrB (S+1) (trnV p) :=
 h.range fun i hi=>⟨_,Wz.int (by
  rw [Int.natAbs_natCast,Nat.pow_one]
  exact Nat.lt_of_lt_of_le hi (Nat.le_trans hl (by decide))),rfl⟩
theorem turn_any (ao:Option Addr) (n cap:Nat) (p:List Rat) (s:Nat) (w:World) (h:CanL w ⟨ao,n,cap⟩ p) (hn:n≤12) (hz:SzL s p) (hs1:1≤s) (hs:s≤398) :
  Does 137 [sdV ⟨ao,n,cap⟩] w SH.v (fun x w'=>CanL w' x (crossV (trnV p) p)):=by
 obtain ⟨i0,hi0,hz0,hz1,hz2⟩:=info_parts infoR
 have H:=Hi h
 have HX:=Hi (Ext.refl w)
 have hle:=h.le
 have hmx:=h.max
 have Hn:=Hi h.len
 simp only at hle hmx Hn
 have HZ:=Hi hz
 clear h hz
 unfold Does
 simp only [sdV,SH.v]
 go_enter Tryz.func137,Tryz.ntmps137
 go_upto_region 1 with fail
 refine nm_alloc ?_
 intro w1 hE hB0 hz
 have hz_w1:=nle hz
 have hr_w1:=nle hz.symm
 clear hz
 replace HX:=hE.tr HX
 have hs_w1:=hE.size
 clear hE
 have B1:=Hi hB0
 clear hB0
 obtain ⟨c_B1,f_B1,l_B1⟩:=blk3 B1.out
 have HA1:Hid (CanL w1 ⟨ao,n,cap⟩ p):=Hi (H.out.ext HX.out)
 have B11:=B1
 have HX0:=HX
 have HX1:=Hi (Ext.refl w1)
 have hw1:w.heap.size≤w1.heap.size:=by omega
 clear HX
 go_upto_region 2 with (refine wpList_make rfl (.tmp 10) (.tmp 10) 41 rfl 30 i0 (RH.v default) 3 Tryz.underlying41 hi0 hz0 hz1 _ _ n rfl rfl (by omega) (by omega) (by rw [hz2];omega) (by omega) ?_;intro w2 hnew hE)
 have KB:=Hi (RBk.make rfl hnew)
 clear hnew
 replace B1:=hE.bl B1
 replace HX1:=hE.tr HX1
 have hs_w2:=hE.size
 clear hE
 try clear c_B1 f_B1 l_B1
 obtain ⟨c_B1,f_B1,l_B1⟩:=blk3 B1.out
 obtain ⟨L,hL⟩:∃ L,L=w1.heap.size:=⟨_,rfl⟩
 have hL1:w1.heap.size≤L:=by omega
 rw [← hL] at KB ⊢
 clear hL
 obtain ⟨b1,hb1⟩:∃ b1,b1=w.heap.size:=⟨_,rfl⟩
 have hb1L:b1 < L:=by omega
 rw [← hb1] at B1 B11 ⊢
 have hb1w:w.heap.size≤b1:=by omega
 clear hb1 c_B1 f_B1 l_B1
 try clear c_B1 f_B1 l_B1
 obtain ⟨c_B1,f_B1,l_B1⟩:=blk3 B1.out
 go_wp2
 go_loopg [15] n (fun g v wr=>∃ (i:Nat) (rs:List RH),i+g=n∧v=.int .i64 (i:Nat)∧Ext w1 wr∧RBk wr L rs #[]∧rs.length=n∧PreC wr rs ((List.range i).map (fun k=>(((k:Nat):Int):Rat) * p.getD k 0)))
 case atStart=>exact ⟨0,_,by omega,rfl,HX1.out,KB.out,by simp,fun j hj=>by simp at hj⟩
 case round =>
  obtain ⟨i,rs,hi,rfl,g1,g4,g5,g6⟩:=hrel
  clear HX1 KB B1 c_B1 f_B1 l_B1
  have HX1:=Hi g1
  have KB:=Hi g4
  have HRl:=Hi g5
  have PC:=Hi g6
  have hw1r:=g1.size
  clear g1 g4 g5 g6
  have HTl:Hid (((List.range i).map (fun k=>(((k:Nat):Int):Rat) * p.getD k 0)).length=i):=Hi (by simp)
  try clear f_KB l_KB
  have f_KB:=blk_frozen KB.out
  have l_KB:=(Array.getElem?_eq_some_iff.1 KB.out).1
  have hLr:L < wr.heap.size:=l_KB
  by_cases h0:gk=0
  case pos =>
   subst h0
   obtain rfl:i=n:=by omega
   have hin:¬ (i:Int) < i:=by omega
   have HXw:=Hi (HX0.out.trans HX1.out)
   have B1:=Hi (HX1.out.block B11.out)
   have HV:Hid (trnV p=(List.range i).map (fun k=>(((k:Nat):Int):Rat) * p.getD k 0)):=Hi (by unfold trnV;rw [Hn.out])
   rw [← HV.out] at PC HTl
   have LL:Hid (CanL wr ⟨some ⟨L,0,none⟩,i,i⟩ (trnV p)):=Hi (NewL.can (PreC.list (B:=0) PC.out KB.out HRl.out HTl.out (by omega) (by omega)))
   have ZT:Hid (SzL (s+2) (trnV p)):=Hi (by
    intro y hy
    rw [HV.out] at hy
    obtain ⟨k,hk,rfl⟩:=List.mem_map.1 hy
    exact ((Sz.int (z:=((k:Nat):Int)) (by have:=List.mem_range.1 hk;rw [Int.natAbs_natCast];unfold W32;omega)).mul (HZ.out.getD hs1 k)).mono (by omega))
   try clear f_KB l_KB
   have f_KB:=blk_frozen KB.out
   have l_KB:=(Array.getElem?_eq_some_iff.1 KB.out).1
   try clear c_B1 f_B1 l_B1
   obtain ⟨c_B1,f_B1,l_B1⟩:=blk3 B1.out
   go_wp2_with fail
   refine Calls.mono (cross_any (some ⟨L,0,none⟩) ao i i i cap (s+2) (trnV p) p _ (LL.out.raw ZT.out (by omega)) ((HA1.out.ext HX1.out).raw HZ.out (by omega)) hn hn ZT.out (HZ.out.mono (by omega)) (by omega) (by omega)) ?_
   rintro e w20 ⟨x20,rfl,hE,g20⟩
   have G20:=Hi g20
   clear g20
   replace HX1:=hE.tr HX1
   replace PC:=Hi (PC.out.ext hE)
   replace KB:=hE.bl KB
   replace HXw:=hE.tr HXw
   replace B1:=hE.bl B1
   have hs_w20:=hE.size
   clear hE
   try clear f_KB l_KB
   have f_KB:=blk_frozen KB.out
   have l_KB:=(Array.getElem?_eq_some_iff.1 KB.out).1
   try clear c_B1 f_B1 l_B1
   obtain ⟨c_B1,f_B1,l_B1⟩:=blk3 B1.out
   obtain ⟨⟨ra,rn,rc⟩,re⟩:=x20
   obtain ⟨he,hl⟩:=G20.out
   simp only at he hl
   subst he
   have HL:=Hi hl
   clear hl G20
   simp only [RF,SH.v]
   go_wp2
   go_ret
   exact ⟨⟨ra,rn,rc⟩,rfl,HXw.out,HL.out⟩
  have hin:(i:Int) < n:=by omega
  obtain ⟨bx,off,r,hao,hbl,⟨hc1,hc2,hc3⟩,hP⟩:=(HA1.out.ext HX1.out).celx (k:=i) (by omega)
  obtain ⟨rneg,ra,rn,rc,rb,rm,rd⟩:=r
  simp only at hc1 hc2 hc3
  subst hao
  have RP:=Hi hP
  have ZP:Hid (Sz s (p.getD i 0)):=Hi (HZ.out.getD hs1 i)
  clear hP
  go_upto_region 5 with fail
  clear hc1 hc2 hc3
  refine nm_alloc ?_
  intro w5 hE hB0 hz
  have hz_w5:=nle hz
  have hr_w5:=nle hz.symm
  clear hz
  replace HX1:=hE.tr HX1
  replace PC:=Hi (PC.out.ext hE)
  replace KB:=hE.bl KB
  replace RP:=Hi (RP.out.ext hE)
  have hs_w5:=hE.size
  clear hE
  try clear f_KB l_KB
  have f_KB:=blk_frozen KB.out
  have l_KB:=(Array.getElem?_eq_some_iff.1 KB.out).1
  have B5:=Hi hB0
  clear hB0
  obtain ⟨c_B5,f_B5,l_B5⟩:=blk3 B5.out
  refine wp_region_front 7 (fun opIx=>match opIx with
   | 3=>.spec RH default RH.v (fun s w'=>CanR w' s ((((i:Nat):Int):Rat)))
   | 5=>.spec RH default RH.v (fun s w'=>CanR w' s ((((i:Nat):Int):Rat) * p.getD i 0))
   | _=>.quiet) (fun | 5=>[3] | _=>[]) (by kernel_rfl) (by kernel_rfl) (fun w0 he0 hz0 hc0 hf0=>?_)
  replace he0:=Hi he0
  simp only [pT]
  repeat (refine wpq fun K h=>?_;go_big_quiet_op;refine h _ ?_;clear h K)
  refine wps he0.out rfl rfl (fun w1 hW hG=>?_) fun x20=>?_
  ·exact spc [.int .i64 ((i:Nat):Int)] Tryz.func128 (rof_any ((i:Nat):Int) _ (by omega) (by omega))
  simp only [pS]
  repeat (refine wpq fun K h=>?_;go_big_quiet_op;refine h _ ?_;clear h K)
  refine wps he0.out rfl rfl (fun w1 hW hG=>?_) fun x21=>?_
  ·have g20:=(hG 3 (by decide):Since _ _).get fun _ e g=>g.ext e
   exact spc [x20.v,RH.v ⟨rneg,ra,rn,rc,rb,rm,rd⟩] Tryz.func114 (rmul_any x20 _ _ _ _ (g20.raw (Sz.int (z:=((i:Nat):Int)) (by rw [Int.natAbs_natCast];unfold W32;omega)) (by decide)) ((RP.out.ext hW).raw ZP.out (by omega)))
  simp only [pS]
  repeat (refine wpq fun K h=>?_;go_big_quiet_op;refine h _ ?_;clear h K)
  refine wpF_nil ?_
  intro w6 hI
  have hE:=he0.out.trans hI.ext
  have G20:=Hi ((hI.facts 3:Since _ _).get fun _ e g=>g.ext e)
  have G21:=Hi ((hI.facts 5:Since _ _).get fun _ e g=>g.ext e)
  clear hI he0 hz0 hc0 hf0
  replace HX1:=hE.tr HX1
  replace PC:=Hi (PC.out.ext hE)
  replace KB:=hE.bl KB
  replace RP:=Hi (RP.out.ext hE)
  replace B5:=hE.bl B5
  have hs_w6:=hE.size
  clear hE
  try clear f_KB l_KB
  have f_KB:=blk_frozen KB.out
  have l_KB:=(Array.getElem?_eq_some_iff.1 KB.out).1
  try clear c_B5 f_B5 l_B5
  obtain ⟨c_B5,f_B5,l_B5⟩:=blk3 B5.out
  simp only [pD]
  obtain ⟨f1,f2,f3⟩:=RBk.at (re:=#[]) KB.out (k:=i) (by rw [HRl.out];omega)
  go_upto_region 6 with fail
  refine nm_rat (k:=i) KB.out rfl (by rw [HRl.out];omega) ?_
  intro y6 T
  clear f1 f2 f3
  replace HX1:=Hi (T.ext HX1.out (by omega))
  replace PC:=Hi (PC.out.keep T.keep)
  replace KB:=Hi (T.bx)
  replace RP:=Hi (RP.out.keep T.keep)
  replace B5:=Hi (T.rest _ _ (by omega) B5.out)
  replace G20:=Hi (G20.out.keep T.keep)
  replace G21:=Hi (G21.out.keep T.keep)
  have hs_y6:=nle T.size
  have hr_y6:=nle T.size.symm
  clear T
  try clear f_KB l_KB
  have f_KB:=blk_frozen KB.out
  have l_KB:=(Array.getElem?_eq_some_iff.1 KB.out).1
  try clear c_B5 f_B5 l_B5
  obtain ⟨c_B5,f_B5,l_B5⟩:=blk3 B5.out
  replace PC:=Hi (PC.out.snoc (x:=x21) (i:=i) HTl.out (by rw [HRl.out];omega) G21.out)
  have HMp:Hid ((List.range i).map (fun k=>(((k:Nat):Int):Rat) * p.getD k 0) ++ [(((i:Nat):Int):Rat) * p.getD i 0]=(List.range (i+1)).map (fun k=>(((k:Nat):Int):Rat) * p.getD k 0)):=Hi (range_snoc' (fun k=>(((k:Nat):Int):Rat) * p.getD k 0) i).symm
  rw [HMp.out] at PC
  go_wp2
  go_roundg (gk - 1)
  case measure=>omega
  case rel=>exact ⟨i+1,_,by omega,by go_num,HX1.out,KB.out,by rw [List.length_set];exact HRl.out,PC.out⟩
theorem cross_tz (p q:List Rat):crossV (tz p) (tz q)=crossV p q:=by unfold crossV;rw [tz_idem,tz_idem]
def magV (b a:List Rat):Int × List Rat × List Rat:=if VF b a then (0,crossV b b,crossV a a) else (2,[],[])
theorem magnitude20_any (f:FH) (b a:List Rat) (s:Nat) (w:World) (h:RawF w f b a) (hf:f.b.n≤12∧f.a.n≤12) (zb:SzL s b) (za:SzL s a) (hs1:1≤s) (hs:s≤400) :
  Does 59 [f.v] w FE (FEP (magV b a)):=by
 obtain ⟨⟨ba,bn,bc⟩,⟨aa,an,ac⟩⟩:=f
 have H:=Hi h
 have HX:=Hi (Ext.refl w)
 have ZB:=Hi zb.tz
 have ZA:=Hi za.tz
 have hbl:(tz b).length≤12:=by have:=h.1.len;have h4:=tz_len_le b;have:=hf.1;simp only at *;omega
 have hal:(tz a).length≤12:=by have:=h.2.len;have h4:=tz_len_le a;have:=hf.2;simp only at *;omega
 simp only at hf
 clear h zb za
 unfold Does
 simp only [FH.v,SH.v]
 go_enter Tryz.func59,Tryz.ntmps59
 go_upto_region 1 with fail
 refine nm_alloc2 ?_
 intro w1 hE hB0 hB1 hz
 have hz_w1:=nle hz
 have hr_w1:=nle hz.symm
 clear hz
 replace HX:=hE.tr HX
 have hs_w1:=hE.size
 clear hE
 have B1:=Hi hB0
 clear hB0
 obtain ⟨c_B1,f_B1,l_B1⟩:=blk3 B1.out
 have B2:=Hi hB1
 clear hB1
 obtain ⟨c_B2,f_B2,l_B2⟩:=blk3 B2.out
 go_wp2_with fail
 refine Calls.mono (valid20_any ⟨⟨ba,bn,bc⟩,⟨aa,an,ac⟩⟩ b a _ (H.out.ext HX.out)) ?_
 rintro e w2 ⟨x2,rfl,hE,-⟩
 replace HX:=hE.tr HX
 replace B1:=hE.bl B1
 replace B2:=hE.bl B2
 have hs_w2:=hE.size
 clear hE
 try clear c_B1 f_B1 l_B1
 obtain ⟨c_B1,f_B1,l_B1⟩:=blk3 B1.out
 try clear c_B2 f_B2 l_B2
 obtain ⟨c_B2,f_B2,l_B2⟩:=blk3 B2.out
 by_cases hv:VF b a
 case neg =>
  have hv1:decide (VF b a)=false:=decide_eq_false hv
  have HV:Hid (magV b a=(2,[],[])):=Hi (by unfold magV;rw [if_neg hv])
  rw [hv1]
  go_wp2
  refine nm_setF (F:=fun W=>bodyPost _ _ _ _ _ W) B2.out rfl ?_
  intro w3 T
  replace HX:=Hi (T.ext HX.out (by omega))
  replace B1:=Hi (T.rest _ _ (by omega) B1.out)
  replace B2:=Hi (T.bx)
  have hs_w3:=nle T.size
  have hr_w3:=nle T.size.symm
  clear T
  try clear c_B1 f_B1 l_B1
  obtain ⟨c_B1,f_B1,l_B1⟩:=blk3 B1.out
  try clear c_B2 f_B2 l_B2
  obtain ⟨c_B2,f_B2,l_B2⟩:=blk3 B2.out
  exact bodyPost_ret (v:=FE (⟨⟨none,0,0⟩,⟨none,0,0⟩⟩,2)) (by simp [results,Tryz.results59,go_sem,c_B2,FE]) rfl ⟨(⟨⟨none,0,0⟩,⟨none,0,0⟩⟩,2),rfl,HX.out,by rw [HV.out];exact ⟨rfl,canF_nil _⟩⟩
 have hv1:decide (VF b a)=true:=decide_eq_true hv
 have HV:Hid (magV b a=(0,crossV b b,crossV a a)):=Hi (by unfold magV;rw [if_pos hv])
 rw [hv1]
 go_wp2_with fail
 refine Calls.mono (of20_any ⟨⟨ba,bn,bc⟩,⟨aa,an,ac⟩⟩ b a _ (H.out.ext HX.out) (by simp only;omega) (by simp only;omega)) ?_
 rintro e w3 ⟨x3,rfl,hE,g3⟩
 have G3:=Hi g3
 clear g3
 replace HX:=hE.tr HX
 replace B1:=hE.bl B1
 replace B2:=hE.bl B2
 have hs_w3:=hE.size
 clear hE
 try clear c_B1 f_B1 l_B1
 obtain ⟨c_B1,f_B1,l_B1⟩:=blk3 B1.out
 try clear c_B2 f_B2 l_B2
 obtain ⟨c_B2,f_B2,l_B2⟩:=blk3 B2.out
 obtain ⟨⟨pa,P,pc⟩,⟨qa,Q,qc⟩⟩:=x3
 have LP:=Hi G3.out.1
 have LQ:=Hi G3.out.2
 clear G3
 simp only at LP LQ
 have HPl:=LP.out.len
 have HQl:=LQ.out.len
 simp only at HPl HQl
 rw [HPl] at hbl
 rw [HQl] at hal
 simp only [qdV,SH.v]
 go_upto_region 4 with fail
 refine nm_alloc ?_
 intro w4 hE hB0 hz
 have hz_w4:=nle hz
 have hr_w4:=nle hz.symm
 clear hz
 replace HX:=hE.tr HX
 replace B1:=hE.bl B1
 replace B2:=hE.bl B2
 replace LP:=Hi (LP.out.ext hE)
 replace LQ:=Hi (LQ.out.ext hE)
 have hs_w4:=hE.size
 clear hE
 try clear c_B1 f_B1 l_B1
 obtain ⟨c_B1,f_B1,l_B1⟩:=blk3 B1.out
 try clear c_B2 f_B2 l_B2
 obtain ⟨c_B2,f_B2,l_B2⟩:=blk3 B2.out
 have B4:=Hi hB0
 clear hB0
 obtain ⟨c_B4,f_B4,l_B4⟩:=blk3 B4.out
 refine wp_region_front 6 (fun opIx=>match opIx with
  | 2=>.spec (SH) (default) (SH.v) (fun x w'=>CanL w' x (crossV (tz b) (tz b)))
  | 5=>.spec (SH) (default) (SH.v) (fun x w'=>CanL w' x (crossV (tz a) (tz a)))
  | _=>.quiet) (fun _=>[]) (by kernel_rfl) (by kernel_rfl) (fun w0 he0 hz0 hc0 hf0=>?_)
 replace he0:=Hi he0
 simp only [pT]
 repeat (refine wpq fun K h=>?_;go_big_quiet_op;refine h _ ?_;clear h K)
 refine wps he0.out rfl rfl (fun w1 hW hG=>?_) fun x20=>?_
 ·exact spc [sdV ⟨pa,P,pc⟩] Tryz.func131 (square_any ⟨pa,P,pc⟩ (tz b) s _ ((LP.out.ext hW).raw ZB.out (by omega)) (by simp only;omega) ZB.out hs1 hs)
 simp only [pS]
 repeat (refine wpq fun K h=>?_;go_big_quiet_op;refine h _ ?_;clear h K)
 refine wps he0.out rfl rfl (fun w1 hW hG=>?_) fun x21=>?_
 ·exact spc [sdV ⟨qa,Q,qc⟩] Tryz.func131 (square_any ⟨qa,Q,qc⟩ (tz a) s _ ((LQ.out.ext hW).raw ZA.out (by omega)) (by simp only;omega) ZA.out hs1 hs)
 simp only [pS]
 repeat (refine wpq fun K h=>?_;go_big_quiet_op;refine h _ ?_;clear h K)
 refine wpF_nil ?_
 intro w5 hI
 have hE:=he0.out.trans hI.ext
 have G20:=Hi ((hI.facts 2:Since _ _).get fun _ e g=>g.ext e)
 have G21:=Hi ((hI.facts 5:Since _ _).get fun _ e g=>g.ext e)
 clear hI he0 hz0 hc0 hf0
 replace HX:=hE.tr HX
 replace B1:=hE.bl B1
 replace B2:=hE.bl B2
 replace LP:=Hi (LP.out.ext hE)
 replace LQ:=Hi (LQ.out.ext hE)
 replace B4:=hE.bl B4
 have hs_w5:=hE.size
 clear hE
 try clear c_B1 f_B1 l_B1
 obtain ⟨c_B1,f_B1,l_B1⟩:=blk3 B1.out
 try clear c_B2 f_B2 l_B2
 obtain ⟨c_B2,f_B2,l_B2⟩:=blk3 B2.out
 try clear c_B4 f_B4 l_B4
 obtain ⟨c_B4,f_B4,l_B4⟩:=blk3 B4.out
 simp only [pD]
 rw [cross_tz] at G20 G21
 clear LP
 clear LQ
 go_wp2
 refine nm_setF (F:=fun W=>bodyPost _ _ _ _ _ W) B2.out rfl ?_
 intro w6 T
 have L1:=Hi (G20.out.put2 B2.out T)
 have L2:=Hi (G21.out.put2 B2.out T)
 clear G20 G21
 replace HX:=Hi (T.ext HX.out (by omega))
 replace B1:=Hi (T.rest _ _ (by omega) B1.out)
 replace B2:=Hi (T.bx)
 replace B4:=Hi (T.rest _ _ (by omega) B4.out)
 have hs_w6:=nle T.size
 have hr_w6:=nle T.size.symm
 clear T
 try clear c_B1 f_B1 l_B1
 obtain ⟨c_B1,f_B1,l_B1⟩:=blk3 B1.out
 try clear c_B2 f_B2 l_B2
 obtain ⟨c_B2,f_B2,l_B2⟩:=blk3 B2.out
 try clear c_B4 f_B4 l_B4
 obtain ⟨c_B4,f_B4,l_B4⟩:=blk3 B4.out
 exact bodyPost_ret (v:=FE (⟨x20,x21⟩,0)) (by simp [results,Tryz.results59,go_sem,c_B2,FE]) rfl ⟨(⟨x20,x21⟩,0),rfl,HX.out,by rw [HV.out];exact ⟨rfl,L1.out,L2.out⟩⟩
end Go.Proofs.YtpieblkklbilgaaGreat
