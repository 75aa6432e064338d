/- Package bernstein: denominator, common, positive; interval.Width, Mid. -/
import Derived.Test.YtpieblkklbilgaaGreatQKBn2
import Derived.Test.YtpieblkklbilgaaGreatQKM24
import Derived.Test.YtpieblkklbilgaaGreatQKM21
import Derived.Test.YtpieblkklbilgaaGreatQKSI
import Derived.Test.YtpieblkklbilgaaGreatQKM10
set_option linter.unusedVariables false
set_option maxRecDepth 8000
set_option maxHeartbeats 4000000
namespace Go.Proofs.YtpieblkklbilgaaGreat
open Go.RowKit Go.Front Go.Num Stab
attribute [local go_sem] XW.cell XW.frozen
theorem bden_any (t:RH) (q:Rat) (w:World) (h:CanR w t q):Does 217 [t.v] w RH.v (fun x w'=>CanR w' x ((q.den:Int):Rat)):=by
 obtain ⟨neg,a,n,c,b,m,d⟩:=t
 have H:=Hi h
 have HX:=Hi (Ext.refl w)
 clear h
 unfold Does
 go_enter Tryz.func217,Tryz.ntmps217
 go_upto_region 1 with fail
 refine nm_alloc2 ?_
 intro w1 hE hB0 hB1 hz
 have hz_w1:=nle hz
 have hr_w1:=nle hz.symm
 clear hz
 replace HX:=hE.tr HX
 replace H:=Hi (H.out.ext hE)
 have hs_w1:=hE.size
 clear hE
 have B1:=Hi hB0
 clear hB0
 obtain ⟨c_B1,f_B1,l_B1⟩:=blk3 B1.out
 have B2:=Hi hB1
 clear hB1
 obtain ⟨c_B2,f_B2,l_B2⟩:=blk3 B2.out
 go_wp2
 refine nm_set3 (F:=fun W=>bodyPost _ _ _ _ _ (W.alloc _)) B2.out rfl ?_
 intro w2 T
 have hz2:=T.size
 replace HX:=Hi (T.ext HX.out (by omega))
 replace H:=Hi (H.out.keep T.keep)
 replace B1:=Hi (T.rest _ _ (by omega) B1.out)
 replace B2:=Hi (T.bx)
 have hs_w2:=nle T.size
 have hr_w2:=nle T.size.symm
 clear T
 try clear c_B1 f_B1 l_B1
 obtain ⟨c_B1,f_B1,l_B1⟩:=blk3 B1.out
 try clear c_B2 f_B2 l_B2
 obtain ⟨c_B2,f_B2,l_B2⟩:=blk3 B2.out
 rw [← hz2]
 clear hz2
 refine nm_alloc ?_
 intro w3 hE hB0 hz
 clear hz
 have HO:=Hi (pu32_one hB0)
 clear hB0
 replace HX:=hE.tr HX
 replace H:=Hi (H.out.ext hE)
 replace B1:=hE.bl B1
 replace B2:=hE.bl B2
 have hs_w3:=hE.size
 clear hE
 try clear c_B1 f_B1 l_B1
 obtain ⟨c_B1,f_B1,l_B1⟩:=blk3 B1.out
 try clear c_B2 f_B2 l_B2
 obtain ⟨c_B2,f_B2,l_B2⟩:=blk3 B2.out
 exact bodyPost_ret (v:=RH.v ⟨false,b,m,d,some ⟨w2.heap.size,0,none⟩,1,1⟩) (by simp [results,Tryz.results217,go_sem,blk_cell B2.out]) rfl
  ⟨⟨false,b,m,d,some ⟨w2.heap.size,0,none⟩,1,1⟩,rfl,HX.out,
   ⟨by rw [Rat.num_intCast];exact (decide_eq_false (by omega)).symm,by rw [Rat.num_intCast];exact H.out.2.2,by rw [Rat.den_intCast];exact HO.out⟩⟩
theorem bcommon_any (ao:Option Addr) (n cap:Nat) (l:List Rat) (s:Nat) (w:World) (h:CanL w ⟨ao,n,cap⟩ l) (hn:n≤1000) (hz:SzL s l) (hs:s≤1000) :
  Does 163 [.slice ao n cap] w RH.v (fun x w'=>CanR w' x (comV l)):=by
 have H:=Hi h
 have HX:=Hi (Ext.refl w)
 have hle:=h.le
 have hmx:=h.max
 have Hlen:=Hi h.len
 simp only at hle hmx Hlen
 have HZ:=Hi hz
 have hns:n * s≤1000 * 1000:=Nat.mul_le_mul hn hs
 have HS:Hid (∀ j,j≤n→Sz 4194304 (comV (l.take j))):=Hi (fun j hj=>(com_sz hz j (by rw [Hlen.out];exact hj)).mono (Nat.le_trans (cg_mono hj) (by unfold cg;omega)))
 clear h hz
 unfold Does
 go_enter Tryz.func163,Tryz.ntmps163
 go_upto_region 1 with fail
 refine nm_alloc ?_
 intro w1 hE hB0 hz
 have hz_w1:=nle hz
 have hr_w1:=nle hz.symm
 clear hz
 replace HX:=hE.tr HX
 have hs_w1:=hE.size
 clear hE
 have B2:=Hi hB0
 clear hB0
 obtain ⟨c_B2,f_B2,l_B2⟩:=blk3 B2.out
 go_wp2_with fail
 refine Calls.mono (rof_any 1 _ (by decide) (by decide)) ?_
 rintro e w2 ⟨x2,rfl,hE,g2⟩
 have G2:=Hi g2
 clear g2
 replace HX:=hE.tr HX
 replace B2:=hE.bl B2
 have hs_w2:=hE.size
 clear hE
 try clear c_B2 f_B2 l_B2
 obtain ⟨c_B2,f_B2,l_B2⟩:=blk3 B2.out
 go_upto_region 2 with fail
 refine nm_alloc ?_
 intro y3 hE hB0 hz
 have hz_y3:=nle hz
 have hr_y3:=nle hz.symm
 clear hz
 replace HX:=hE.tr HX
 replace B2:=hE.bl B2
 replace G2:=Hi (G2.out.ext hE)
 have hs_y3:=hE.size
 clear hE
 try clear c_B2 f_B2 l_B2
 obtain ⟨c_B2,f_B2,l_B2⟩:=blk3 B2.out
 have B3:=Hi hB0
 clear hB0
 obtain ⟨c_B3,f_B3,l_B3⟩:=blk3 B3.out
 obtain ⟨b2,hb2⟩:∃ b2,b2=w.heap.size:=⟨_,rfl⟩
 obtain ⟨b3,hb3⟩:∃ b3,b3=w2.heap.size:=⟨_,rfl⟩
 have hw2:w.heap.size≤b2:=by omega
 have hw3:w.heap.size≤b3:=by omega
 have hne:b2 ≠ b3:=by omega
 rw [← hb2] at B2 ⊢
 rw [← hb3] at B3 ⊢
 clear hb2 hb3 c_B2 f_B2 l_B2 c_B3 f_B3 l_B3
 go_wp2
 go_loopg [9] n (fun g i wr=>∃ (j:Nat) (x:RH),j+g=n∧i=.int .i64 (j:Nat)∧Ext w wr∧wr.heap[b2]?=some (.cells #[.bool false,.slice none 0 0,.slice none 0 0] 30 (0,0))∧wr.heap[b3]?=some (.cells #[.bool x.neg,.slice x.a x.n x.c,.slice x.b x.m x.d] 30 (0,0))∧CanR wr x (comV (l.take j)))
 case atStart=>exact ⟨0,x2,by omega,rfl,HX.out,B2.out,B3.out,G2.out⟩
 case round =>
  obtain ⟨j,x,hj,rfl,g1,g2,g3,g4⟩:=hrel
  clear HX B2 B3 G2
  have HX:=Hi g1
  have B2:=Hi g2
  have B3:=Hi g3
  have GM:=Hi g4
  clear g1 g2 g3 g4
  try clear c_B2 f_B2 l_B2
  obtain ⟨c_B2,f_B2,l_B2⟩:=blk3 B2.out
  try clear c_B3 f_B3 l_B3
  obtain ⟨c_B3,f_B3,l_B3⟩:=blk3 B3.out
  have hb2r:=l_B2
  have hb3r:=l_B3
  by_cases h0:gk=0
  ·subst h0
   obtain rfl:j=n:=by omega
   have HE:Hid (l.take j=l):=Hi (List.take_of_length_le (by rw [Hlen.out];exact Nat.le_refl _))
   rw [HE.out] at GM
   go_wp2
   have hF:=((((Fin.start (L:=b2) HX.out (noU_block B2.out rfl)).set (by omega) (i:=0) (v:=.bool x.neg) rfl).set (by omega) (i:=1) (v:=.slice x.a x.n x.c) rfl).set (by omega) (i:=2) (v:=.slice x.b x.m x.d) rfl)
   exact bodyPost_ret (v:=x.v) (by simp [results,Tryz.results163,go_sem,blk_cell B2.out]) rfl ⟨x,rfl,hF.ext,GM.out.keep hF.keep⟩
  ·obtain ⟨b,off,r,hao,hbl,⟨hc1,hc2,hc3⟩,hP⟩:=(H.out.ext HX.out).lin.celx (k:=j) (by omega)
   obtain ⟨rneg,ra,rn,rc,rb,rm,rd⟩:=r
   simp only at hc1 hc2 hc3
   subst hao
   have RP:=Hi hP
   clear hP
   have hjn:(j:Int) < n:=by omega
   have ZM:=Hi (HS.out j (by omega))
   have ZX:=Hi (HZ.out.at (i:=j) (by rw [Hlen.out];omega))
   obtain ⟨m,hm⟩:∃ m,m=comV (l.take j):=⟨_,rfl⟩
   obtain ⟨v,hv⟩:∃ v,v=l.getD j 0:=⟨_,rfl⟩
   rw [← hm] at GM ZM
   rw [← hv] at RP ZX
   have HMv:Hid (comV (l.take (j+1))=comS m v):=Hi (by rw [← take_snoc (by rw [Hlen.out];omega),comV_snoc,hm,hv])
   clear hm hv
   go_upto_region 5 with fail
   refine nm_alloc ?_
   intro y1 hE hB0 hz
   have hz_y1:=nle hz
   have hr_y1:=nle hz.symm
   clear hz
   replace HX:=hE.tr HX
   replace B2:=hE.bl B2
   replace B3:=hE.bl B3
   replace GM:=Hi (GM.out.ext hE)
   replace RP:=Hi (RP.out.ext hE)
   have hs_y1:=hE.size
   clear hE
   try clear c_B2 f_B2 l_B2
   obtain ⟨c_B2,f_B2,l_B2⟩:=blk3 B2.out
   try clear c_B3 f_B3 l_B3
   obtain ⟨c_B3,f_B3,l_B3⟩:=blk3 B3.out
   have B5:=Hi hB0
   clear hB0
   obtain ⟨c_B5,f_B5,l_B5⟩:=blk3 B5.out
   obtain ⟨xneg,xa,xn,xc,xb,xm,xd⟩:=x
   refine wp_region_front 6 (fun opIx=>match opIx with
    | 3=>.spec RH default RH.v (fun s w'=>CanR w' s (m * v))
    | 4=>.spec RH default RH.v (fun s w'=>CanR w' s ((((m * v).den:Int):Rat)))
    | 5=>.spec RH default RH.v (fun s w'=>CanR w' s (m * (((m * v).den:Int):Rat)))
    | _=>.quiet) (fun | 4=>[3] | 5=>[4] | _=>[]) (by kernel_rfl) (by kernel_rfl) (fun w0 he0 hz0 hc0 hf0=>?_)
   replace he0:=Hi he0
   simp only [pT]
   repeat (refine wpq fun K h=>?_;go_big_quiet_op;refine h _ ?_;clear h K)
   refine wps he0.out rfl rfl (fun w1 hW hG=>?_) fun x16=>?_
   ·exact spc [RH.v ⟨xneg,xa,xn,xc,xb,xm,xd⟩,RH.v ⟨rneg,ra,rn,rc,rb,rm,rd⟩] Tryz.func114 (rmul_any _ _ _ _ _ ((GM.out.ext hW).raw ZM.out (by omega)) ((RP.out.ext hW).raw ZX.out (by omega)))
   simp only [pS]
   repeat (refine wpq fun K h=>?_;go_big_quiet_op;refine h _ ?_;clear h K)
   refine wps he0.out rfl rfl (fun w1 hW hG=>?_) fun x17=>?_
   ·have g16:=(hG 3 (by decide):Since _ _).get fun _ e g=>g.ext e
    exact spc [x16.v] Tryz.func217 (bden_any x16 _ _ g16)
   simp only [pS]
   repeat (refine wpq fun K h=>?_;go_big_quiet_op;refine h _ ?_;clear h K)
   refine wps he0.out rfl rfl (fun w1 hW hG=>?_) fun x18=>?_
   ·have g17:=(hG 4 (by decide):Since _ _).get fun _ e g=>g.ext e
    exact spc [RH.v ⟨xneg,xa,xn,xc,xb,xm,xd⟩,x17.v] Tryz.func114 (rmul_any _ x17 _ _ _ ((GM.out.ext hW).raw ZM.out (by omega)) (g17.raw (ZM.out.mul ZX.out).denz (by omega)))
   simp only [pS]
   repeat (refine wpq fun K h=>?_;go_big_quiet_op;refine h _ ?_;clear h K)
   refine wpF_nil ?_
   intro y4 hI
   have hE:=he0.out.trans hI.ext
   have G16:=Hi ((hI.facts 3:Since _ _).get fun _ e g=>g.ext e)
   have G17:=Hi ((hI.facts 4:Since _ _).get fun _ e g=>g.ext e)
   have G18:=Hi ((hI.facts 5:Since _ _).get fun _ e g=>g.ext e)
   clear hI he0 hz0 hc0 hf0
   replace HX:=hE.tr HX
   replace B2:=hE.bl B2
   replace B3:=hE.bl B3
   replace GM:=Hi (GM.out.ext hE)
   replace RP:=Hi (RP.out.ext hE)
   replace B5:=hE.bl B5
   have hs_y4:=hE.size
   clear hE
   try clear c_B2 f_B2 l_B2
   obtain ⟨c_B2,f_B2,l_B2⟩:=blk3 B2.out
   try clear c_B3 f_B3 l_B3
   obtain ⟨c_B3,f_B3,l_B3⟩:=blk3 B3.out
   try clear c_B5 f_B5 l_B5
   obtain ⟨c_B5,f_B5,l_B5⟩:=blk3 B5.out
   simp only [pD]
   go_upto_region 6 with fail
   refine nm_set3 B3.out rfl ?_
   intro y8 T
   replace HX:=Hi (T.ext HX.out (by omega))
   replace B2:=Hi (T.rest _ _ (by omega) B2.out)
   replace B3:=Hi (T.bx)
   replace GM:=Hi (GM.out.keep T.keep)
   replace RP:=Hi (RP.out.keep T.keep)
   replace B5:=Hi (T.rest _ _ (by omega) B5.out)
   replace G16:=Hi (G16.out.keep T.keep)
   replace G17:=Hi (G17.out.keep T.keep)
   replace G18:=Hi (G18.out.keep T.keep)
   have hs_y8:=nle T.size
   have hr_y8:=nle T.size.symm
   clear T
   try clear c_B2 f_B2 l_B2
   obtain ⟨c_B2,f_B2,l_B2⟩:=blk3 B2.out
   try clear c_B3 f_B3 l_B3
   obtain ⟨c_B3,f_B3,l_B3⟩:=blk3 B3.out
   try clear c_B5 f_B5 l_B5
   obtain ⟨c_B5,f_B5,l_B5⟩:=blk3 B5.out
   go_wp2
   go_roundg (gk - 1)
   case measure=>omega
   case rel=>exact ⟨j+1,x18,by omega,by go_num,HX.out,B2.out,B3.out,by rw [HMv.out];exact G18.out⟩
theorem ivwid_any (s t:RH) (a b:Rat) (T:Nat) (w:World) (hs:RawR w s a) (ht:RawR w t b) (za:Sz T a) (zb:Sz T b) (hT:T≤10000000):Does 164 [IvV (s,t)] w RH.v (fun x w'=>CanR w' x (b - a).abs):=by
 have HX:=Hi (Ext.refl w)
 have HS:=Hi hs
 have HT:=Hi ht
 have ZA:=Hi (zb.sub za)
 clear hs ht za zb
 unfold Does
 go_enter Tryz.func164,Tryz.ntmps164
 obtain ⟨sn,sa,sl,sc,sb,sm,sd⟩:=s
 obtain ⟨tn,ta,tl,tc,tb,tm,td⟩:=t
 go_upto_region 1 with fail
 refine nm_alloc2 ?_
 intro w1 hE hB0 hB1 hz
 have hz_w1:=nle hz
 have hr_w1:=nle hz.symm
 clear hz
 replace HX:=hE.tr HX
 replace HS:=Hi (HS.out.ext hE)
 replace HT:=Hi (HT.out.ext hE)
 have hs_w1:=hE.size
 clear hE
 have B1:=Hi hB0
 clear hB0
 obtain ⟨c_B1,f_B1,l_B1⟩:=blk3 B1.out
 have B2:=Hi hB1
 clear hB1
 obtain ⟨c_B2,f_B2,l_B2⟩:=blk3 B2.out
 go_wp2_with fail
 refine Calls.mono (rsub_any ⟨tn,ta,tl,tc,tb,tm,td⟩ ⟨sn,sa,sl,sc,sb,sm,sd⟩ b a _ HT.out HS.out) ?_
 rintro e w7 ⟨x7,rfl,hE,g7⟩
 have G7:=Hi g7
 clear g7
 replace HX:=hE.tr HX
 replace HS:=Hi (HS.out.ext hE)
 replace HT:=Hi (HT.out.ext hE)
 replace B1:=hE.bl B1
 replace B2:=hE.bl B2
 have hs_w7:=hE.size
 clear hE
 try clear c_B1 f_B1 l_B1
 obtain ⟨c_B1,f_B1,l_B1⟩:=blk3 B1.out
 try clear c_B2 f_B2 l_B2
 obtain ⟨c_B2,f_B2,l_B2⟩:=blk3 B2.out
 go_wp2_with fail
 refine Calls.mono (rabs_any x7 _ _ (G7.out.raw ZA.out (by omega))) ?_
 rintro e w8 ⟨x8,rfl,hE,g8⟩
 have G8:=Hi g8
 clear g8
 replace HX:=hE.tr HX
 replace HS:=Hi (HS.out.ext hE)
 replace HT:=Hi (HT.out.ext hE)
 replace B1:=hE.bl B1
 replace B2:=hE.bl B2
 replace G7:=Hi (G7.out.ext hE)
 have hs_w8:=hE.size
 clear hE
 try clear c_B1 f_B1 l_B1
 obtain ⟨c_B1,f_B1,l_B1⟩:=blk3 B1.out
 try clear c_B2 f_B2 l_B2
 obtain ⟨c_B2,f_B2,l_B2⟩:=blk3 B2.out
 go_wp2
 refine nm_set3 (F:=fun W=>bodyPost _ _ _ _ _ W) B2.out rfl ?_
 intro w10 T
 replace HX:=Hi (T.ext HX.out (by omega))
 replace HS:=Hi (HS.out.keep T.keep)
 replace HT:=Hi (HT.out.keep T.keep)
 replace B1:=Hi (T.rest _ _ (by omega) B1.out)
 replace B2:=Hi (T.bx)
 replace G7:=Hi (G7.out.keep T.keep)
 replace G8:=Hi (G8.out.keep T.keep)
 have hs_w10:=nle T.size
 have hr_w10:=nle T.size.symm
 clear T
 try clear c_B1 f_B1 l_B1
 obtain ⟨c_B1,f_B1,l_B1⟩:=blk3 B1.out
 try clear c_B2 f_B2 l_B2
 obtain ⟨c_B2,f_B2,l_B2⟩:=blk3 B2.out
 exact bodyPost_ret (v:=RH.v x8) (by simp [results,Tryz.results164,go_sem,c_B2]) rfl ⟨x8,rfl,HX.out,G8.out⟩
theorem ivmid_any (s t:RH) (a b:Rat) (T:Nat) (w:World) (hs:RawR w s a) (ht:RawR w t b) (za:Sz T a) (zb:Sz T b) (hT:T≤10000000):Does 90 [IvV (s,t)] w RH.v (fun x w'=>CanR w' x (mdV a b)):=by
 unfold mdV
 have HX:=Hi (Ext.refl w)
 have HS:=Hi hs
 have HT:=Hi ht
 have ZA:=Hi (za.add zb)
 have ZH:Hid (Sz 2 (((1:Int):Rat) / ((2:Int):Rat))):=Hi ((Sz.int (by decide)).div (Sz.int (by decide)))
 clear hs ht za zb
 unfold Does
 go_enter Tryz.func90,Tryz.ntmps90
 obtain ⟨sn,sa,sl,sc,sb,sm,sd⟩:=s
 obtain ⟨tn,ta,tl,tc,tb,tm,td⟩:=t
 go_upto_region 1 with fail
 refine nm_alloc2 ?_
 intro w1 hE hB0 hB1 hz
 have hz_w1:=nle hz
 have hr_w1:=nle hz.symm
 clear hz
 replace HX:=hE.tr HX
 replace HS:=Hi (HS.out.ext hE)
 replace HT:=Hi (HT.out.ext hE)
 have hs_w1:=hE.size
 clear hE
 have B1:=Hi hB0
 clear hB0
 obtain ⟨c_B1,f_B1,l_B1⟩:=blk3 B1.out
 have B2:=Hi hB1
 clear hB1
 obtain ⟨c_B2,f_B2,l_B2⟩:=blk3 B2.out
 go_wp2_with fail
 refine Calls.mono (radd_any ⟨sn,sa,sl,sc,sb,sm,sd⟩ ⟨tn,ta,tl,tc,tb,tm,td⟩ a b _ HS.out HT.out) ?_
 rintro e w7 ⟨x7,rfl,hE,g7⟩
 have G7:=Hi g7
 clear g7
 replace HX:=hE.tr HX
 replace HS:=Hi (HS.out.ext hE)
 replace HT:=Hi (HT.out.ext hE)
 replace B1:=hE.bl B1
 replace B2:=hE.bl B2
 have hs_w7:=hE.size
 clear hE
 try clear c_B1 f_B1 l_B1
 obtain ⟨c_B1,f_B1,l_B1⟩:=blk3 B1.out
 try clear c_B2 f_B2 l_B2
 obtain ⟨c_B2,f_B2,l_B2⟩:=blk3 B2.out
 go_wp2_with fail
 refine Calls.mono (rfrac_any 1 2 _ (by decide) (by decide) (by decide) (by decide) (by decide)) ?_
 rintro e w8 ⟨x8,rfl,hE,g8⟩
 have G8:=Hi g8
 clear g8
 replace HX:=hE.tr HX
 replace HS:=Hi (HS.out.ext hE)
 replace HT:=Hi (HT.out.ext hE)
 replace B1:=hE.bl B1
 replace B2:=hE.bl B2
 replace G7:=Hi (G7.out.ext hE)
 have hs_w8:=hE.size
 clear hE
 try clear c_B1 f_B1 l_B1
 obtain ⟨c_B1,f_B1,l_B1⟩:=blk3 B1.out
 try clear c_B2 f_B2 l_B2
 obtain ⟨c_B2,f_B2,l_B2⟩:=blk3 B2.out
 go_wp2_with fail
 refine Calls.mono (rmul_any x7 x8 _ _ _ (G7.out.raw ZA.out (by omega)) (G8.out.raw ZH.out (by decide))) ?_
 rintro e w9 ⟨x9,rfl,hE,g9⟩
 have G9:=Hi g9
 clear g9
 replace HX:=hE.tr HX
 replace HS:=Hi (HS.out.ext hE)
 replace HT:=Hi (HT.out.ext hE)
 replace B1:=hE.bl B1
 replace B2:=hE.bl B2
 replace G7:=Hi (G7.out.ext hE)
 replace G8:=Hi (G8.out.ext hE)
 have hs_w9:=hE.size
 clear hE
 try clear c_B1 f_B1 l_B1
 obtain ⟨c_B1,f_B1,l_B1⟩:=blk3 B1.out
 try clear c_B2 f_B2 l_B2
 obtain ⟨c_B2,f_B2,l_B2⟩:=blk3 B2.out
 go_wp2
 refine nm_set3 (F:=fun W=>bodyPost _ _ _ _ _ W) B2.out rfl ?_
 intro w10 T
 replace HX:=Hi (T.ext HX.out (by omega))
 replace HS:=Hi (HS.out.keep T.keep)
 replace HT:=Hi (HT.out.keep T.keep)
 replace B1:=Hi (T.rest _ _ (by omega) B1.out)
 replace B2:=Hi (T.bx)
 replace G7:=Hi (G7.out.keep T.keep)
 replace G8:=Hi (G8.out.keep T.keep)
 replace G9:=Hi (G9.out.keep T.keep)
 have hs_w10:=nle T.size
 have hr_w10:=nle T.size.symm
 clear T
 try clear c_B1 f_B1 l_B1
 obtain ⟨c_B1,f_B1,l_B1⟩:=blk3 B1.out
 try clear c_B2 f_B2 l_B2
 obtain ⟨c_B2,f_B2,l_B2⟩:=blk3 B2.out
 exact bodyPost_ret (v:=RH.v x9) (by simp [results,Tryz.results90,go_sem,c_B2]) rfl ⟨x9,rfl,HX.out,G9.out⟩
theorem posL_step {l:List Rat} {j:Nat} (h:j < l.length):posL (l.take (j+1))=(posL (l.take j) && decide (0 < l.getD j 0)):=by
 rw [← take_snoc h]
 unfold posL
 rw [List.all_append]
 simp
theorem cmpR_pos {q:Rat}:cmpR q 0≤0↔¬ 0 < q:=by
 constructor
 ·intro h h1
  rw [cmpR_gt h1] at h
  omega
 ·intro h
  exact cmpR_le h
theorem bpos_any (ao:Option Addr) (n cap:Nat) (l:List Rat) (s:Nat) (w:World) (h:CanL w ⟨ao,n,cap⟩ l) (hn:n≤1000) (hz:SzL s l) (hs:s≤10000000) :
  Does 88 [.slice ao n cap] w (fun _:Unit=>.bool (posL l)) (fun _ _=>True):=by
 have H:=Hi h
 have HX:=Hi (Ext.refl w)
 have hle:=h.le
 have hmx:=h.max
 have Hlen:=Hi h.len
 simp only at hle hmx Hlen
 have HZ:=Hi hz
 clear h hz
 unfold Does
 go_enter Tryz.func88,Tryz.ntmps88
 go_wp2
 go_loopg [7] n (fun g i wr=>∃ (j:Nat),j+g=n∧i=.int .i64 (j:Nat)∧Ext w wr∧Hid (posL (l.take j)=true))
 case atStart=>exact ⟨0,by omega,rfl,HX.out,Hi rfl⟩
 case round =>
  obtain ⟨j,hj,rfl,g1,HP⟩:=hrel
  clear HX
  have HX:=Hi g1
  clear g1
  by_cases h0:gk=0
  ·subst h0
   obtain rfl:j=n:=by omega
   have HE:Hid (l.take j=l):=Hi (List.take_of_length_le (by rw [Hlen.out];exact Nat.le_refl _))
   rw [HE.out] at HP
   go_wp2
   go_ret
   exact ⟨(),by rw [HP.out];rfl,HX.out,trivial⟩
  ·obtain ⟨b,off,r,hao,hbl,⟨hc1,hc2,hc3⟩,hP⟩:=(H.out.ext HX.out).lin.celx (k:=j) (by omega)
   obtain ⟨rneg,ra,rn,rc,rb,rm,rd⟩:=r
   simp only at hc1 hc2 hc3
   subst hao
   have RP:=Hi hP
   clear hP
   have hjn:(j:Int) < n:=by omega
   have ZX:=Hi (HZ.out.at (i:=j) (by rw [Hlen.out];omega))
   have HMv:Hid (posL (l.take (j+1))=decide (0 < l.getD j 0)):=Hi (by rw [posL_step (by rw [Hlen.out];omega),HP.out,Bool.true_and])
   have HMw:Hid (¬ 0 < l.getD j 0→posL l=false):=Hi (fun hh=>by
    cases e:posL l with
    | false=>rfl
    | true =>
     exfalso
     unfold posL at e
     rw [List.all_eq_true] at e
     have hjl:j < l.length:=by rw [Hlen.out];omega
     have:=e (l.getD j 0) (by rw [List.getD_eq_getElem?_getD,List.getElem?_eq_getElem hjl];exact List.getElem_mem hjl)
     exact hh (of_decide_eq_true this))
   obtain ⟨v,hv⟩:∃ v,v=l.getD j 0:=⟨_,rfl⟩
   rw [← hv] at RP ZX HMv HMw
   clear hv
   go_upto_region 4 with fail
   refine nm_alloc ?_
   intro y1 hE hB0 hz
   have hz_y1:=nle hz
   have hr_y1:=nle hz.symm
   clear hz
   replace HX:=hE.tr HX
   replace RP:=Hi (RP.out.ext hE)
   have hs_y1:=hE.size
   clear hE
   have B5:=Hi hB0
   clear hB0
   obtain ⟨c_B5,f_B5,l_B5⟩:=blk3 B5.out
   go_wp2_with fail
   refine Calls.mono (rsign_any ⟨rneg,ra,rn,rc,rb,rm,rd⟩ v _ (RP.out.raw ZX.out (by omega))) ?_
   rintro e w6 ⟨x6,rfl,hE,-⟩
   replace HX:=hE.tr HX
   replace RP:=Hi (RP.out.ext hE)
   replace B5:=hE.bl B5
   have hs_w6:=hE.size
   clear hE
   try clear c_B5 f_B5 l_B5
   obtain ⟨c_B5,f_B5,l_B5⟩:=blk3 B5.out
   by_cases hv:0 < v
   case pos =>
    have hc:¬ cmpR v 0≤0:=fun h=>cmpR_pos.1 h hv
    rw [decide_eq_true hv] at HMv
    obtain ⟨c,e⟩:∃ c,c=cmpR v 0:=⟨_,rfl⟩
    rw [← e] at hc ⊢
    clear e hv HMw
    go_wp2
    go_roundg (gk - 1)
    case measure=>omega
    case rel=>exact ⟨j+1,by omega,by go_num,HX.out,HMv⟩
   have hc:cmpR v 0≤0:=cmpR_pos.2 hv
   have HMx:=Hi (HMw.out hv)
   obtain ⟨c,e⟩:∃ c,c=cmpR v 0:=⟨_,rfl⟩
   rw [← e] at hc ⊢
   clear e hv HMw HMv
   go_wp2
   go_ret
   exact ⟨(),by rw [HMx.out];rfl,HX.out,trivial⟩
end Go.Proofs.YtpieblkklbilgaaGreat
/- Package bernstein: basis. -/
set_option linter.unusedVariables false
namespace Go.Proofs.YtpieblkklbilgaaGreat
open Go.RowKit Go.Front Go.Num Stab
attribute [local go_sem] XW.cell XW.frozen
theorem row_snoc (n:Nat) (f:Nat→Rat):row (n+1) f=row n f ++ [f n]:=by
 unfold row
 rw [List.range_succ,List.map_append]
 rfl
theorem own_one {w:World} {N:Nat} {D:Nat→Prop} {r:RH} {q:Rat} (h:RBk w N [r] #[]) (hr:CanR w r q) (hD:D N):OwnQ w D (.slice (some ⟨N,0,none⟩) 1 1) [q] :=
 ⟨[r],Or.inr ⟨N,1,#[],rfl,hD,h,Nat.le_refl _,by decide,by simp,rfl⟩,rfl,fun k hk=>by
  have hk:k < 1:=hk
  obtain rfl:k=0:=by omega
  exact hr⟩
theorem RowC.mods {w w':World} {D:Nat→Prop} {L:Nat} {os:List Rat} (h:RowC w L os) (m:Mods D w w') (k:Keep w w') (hL:¬ D L):RowC w' L os:=by
 obtain ⟨rs,re,h1,h0,h2⟩:=h
 exact ⟨rs,re,m.blk hL h1,h0,h2.keep k⟩
theorem fc_step (k:Nat):((fc k:Nat):Rat) * (((k+1:Nat):Int):Rat)=((fc (k+1):Nat):Rat):=by
 show _=((fc k * (k+1):Nat):Rat)
 rw [Rat.natCast_mul]
 rfl
def fcf (k:Nat):Rat:=((fc k:Nat):Rat)
def bs1 (n:Nat) (c:Nat→Rat) (m i:Nat):Rat:=if i < m then bsv n c i else c i
theorem bs1_step (n N m:Nat) (c:Nat→Rat):(row N (bs1 n c m)).set m (bsv n c m)=row N (bs1 n c (m+1)):=by
 rw [row_set]
 refine row_congr (fun i _=>?_)
 unfold bs1
 by_cases h:i=m
 ·rw [if_pos h,if_pos (by omega),h]
 ·rw [if_neg h]
  by_cases h2:i < m
  ·rw [if_pos h2,if_pos (by omega)]
  ·rw [if_neg h2,if_neg (by omega)]
def bs2 (v:Nat→Rat) (m j i:Nat):Rat:=if j < i then bsf (m+1) v i else bsf m v i
theorem bs2_step {v:Nat→Rat} {m j N:Nat} (h:m < j+1):(row N (bs2 v m (j+1))).set (j+1) (bsf m v (j+1)+bsf m v j)=row N (bs2 v m j):=by
 rw [row_set]
 refine row_congr (fun i _=>?_)
 unfold bs2
 by_cases h1:i=j+1
 ·rw [if_pos h1,if_pos (by omega),h1,bsf_step h,Nat.add_sub_cancel]
 ·rw [if_neg h1]
  by_cases h2:j+1 < i
  ·rw [if_pos h2,if_pos (by omega)]
  ·rw [if_neg h2,if_neg (by omega)]
theorem bs2_start {v:Nat→Rat} {m n:Nat}:row (n+1) (bs2 v m n)=row (n+1) (bsf m v):=row_congr (fun i hi=>by unfold bs2;rw [if_neg (by omega)])
theorem bs2_end {v:Nat→Rat} {m n:Nat}:row (n+1) (bs2 v m m)=row (n+1) (bsf (m+1) v):=row_congr (fun i hi=>by
 unfold bs2
 by_cases h:m < i
 ·rw [if_pos h]
 ·rw [if_neg h,bsf_keep (by omega)])
set_option maxRecDepth 8000 in
set_option maxHeartbeats 8000000 in
theorem bbasis_any (L N n cp:Nat) (c:Nat→Rat) (S:Nat) (w:World) (h:RowC w L (row N c)) (hN:N=n+1) (h8:n≤8) (hcp:N≤cp) (hcm:cp≤9223372036854775807) (hz:∀ k,Wz S (c k)) (hS1:1≤S) (hS:S≤1000000) :
  Calls Tryz.prog 165 #[.slice (some ⟨L,0,none⟩) N cp] w (fun e w'=>∃ x:RH,e=.returned x.v∧Mut L w w'∧RowC w' L (row N (bt (bsv n c)))∧CanR w' x (fcf n)):=by
 have HX:=Hi (Ext.refl w)
 have HR:=Hi h
 have hLw:=h.lt
 have HZ:=Hi hz
 clear h hz
 go_enter Tryz.func165,Tryz.ntmps165
 go_upto_region 2 with fail
 refine nm_alloc ?_
 intro w1 hE hB0 hz
 have hz_w1:=nle hz
 have hr_w1:=nle hz.symm
 clear hz
 replace HX:=hE.tr HX
 replace HR:=Hi (HR.out.ext hE)
 have hs_w1:=hE.size
 clear hE
 have B2:=Hi hB0
 clear hB0
 obtain ⟨c_B2,f_B2,l_B2⟩:=blk3 B2.out
 go_wp2_with fail
 refine Calls.mono (rof_any 1 _ (by decide) (by decide)) ?_
 rintro e w3 ⟨x3,rfl,hE,g3⟩
 have G3:=Hi g3
 clear g3
 replace HX:=hE.tr HX
 replace HR:=Hi (HR.out.ext hE)
 replace B2:=hE.bl B2
 have hs_w3:=hE.size
 clear hE
 try clear c_B2 f_B2 l_B2
 obtain ⟨c_B2,f_B2,l_B2⟩:=blk3 B2.out
 go_upto_region 3 with fail
 refine nm_alloc ?_
 intro w4 hE hB0 hz
 have hz_w4:=nle hz
 have hr_w4:=nle hz.symm
 clear hz
 replace HX:=hE.tr HX
 replace HR:=Hi (HR.out.ext hE)
 replace B2:=hE.bl B2
 replace G3:=Hi (G3.out.ext hE)
 have hs_w4:=hE.size
 clear hE
 try clear c_B2 f_B2 l_B2
 obtain ⟨c_B2,f_B2,l_B2⟩:=blk3 B2.out
 have BF:=Hi hB0
 clear hB0
 obtain ⟨c_BF,f_BF,l_BF⟩:=blk3 BF.out
 have HO:Hid (OwnQ w4 (fun k=>w.heap.size < k) (.slice (some ⟨w3.heap.size,0,none⟩) 1 1) (row 1 fcf)):=Hi (own_one (rbk_one BF.out rfl) G3.out (by show w.heap.size < w3.heap.size;omega))
 obtain ⟨b2,hb2⟩:∃ b2,b2=w.heap.size:=⟨_,rfl⟩
 have hw2:w.heap.size≤b2:=by omega
 have hw2':b2≤w.heap.size:=by omega
 rw [← hb2] at B2 ⊢
 obtain ⟨s4,hs4⟩:∃ s:SH,s.v=.slice (some ⟨w3.heap.size,0,none⟩) 1 1:=⟨⟨_,_,_⟩,rfl⟩
 rw [← hs4] at HO ⊢
 clear hb2 hs4 c_B2 f_B2 l_B2 c_BF f_BF l_BF BF G3
 go_wp2
 go_loopg [4,15] n (fun g v i wr=>∃ (j:Nat) (s:SH),v=s.v∧j+g=n∧i=.int .i64 (j:Nat)∧Ext w wr∧RowC wr L (row N c)∧wr.heap[b2]?=some (.cells #[.bool false,.slice none 0 0,.slice none 0 0] 30 (0,0))∧OwnQ wr (fun k=>w.heap.size < k) s.v (row (j+1) fcf))
 case atStart=>exact ⟨0,s4,rfl,by omega,rfl,HX.out,HR.out,B2.out,HO.out⟩
 case round =>
  obtain ⟨j,⟨sa,sn,sc⟩,rfl,hj,rfl,g1,g2,g3,g4⟩:=hrel
  clear HX HR B2 HO
  have HX:=Hi g1
  have HR:=Hi g2
  have B2:=Hi g3
  have HO:=Hi g4
  have hszr:=g1.size
  have hsn:=OwnQ.len (s:=⟨sa,sn,sc⟩) g4
  rw [row_len] at hsn
  simp only at hsn
  subst hsn
  clear g1 g2 g3 g4
  simp only [SH.v]
  try clear c_B2 f_B2 l_B2
  obtain ⟨c_B2,f_B2,l_B2⟩:=blk3 B2.out
  by_cases h0:gk=0
  case neg =>
   have hjn:(j:Int) < n:=by omega
   have HJI:Hid ((j:Int)+1=((j+1:Nat):Int)):=Hi (by omega)
   have HV:Hid ((row (j+1) fcf).getD j 0=((fc j:Nat):Rat)):=Hi (row_at _ (by omega))
   obtain ⟨b,off,r,hao,hbl,⟨hc1,hc2,hc3⟩,hP⟩:=(OwnQ.can (s:=⟨sa,j+1,sc⟩) HO.out).lin.celx (k:=j) (by omega)
   obtain ⟨rneg,ra,rn,rc,rb,rm,rd⟩:=r
   simp only at hc1 hc2 hc3
   subst hao
   rw [HV.out] at hP
   have RP:=Hi hP
   clear hP
   have ZP:Hid (Sz 1 ((fc j:Nat):Rat)):=Hi ((fc_wz (by omega)).sz (by omega))
   go_upto_region 6 with fail
   refine wp_region_front 10 (fun opIx=>match opIx with
    | 7=>.spec RH default RH.v (fun s w'=>CanR w' s ((((j+1:Nat):Int):Rat)))
    | 8=>.spec RH default RH.v (fun s w'=>CanR w' s (((fc j:Nat):Rat) * (((j+1:Nat):Int):Rat)))
    | 9=>.spec (Nat × RH) ((0,default)) (fun p=>.slice (some ⟨p.1,0,none⟩) 1 1) (fun p w'=>BuiltR w' p (((fc j:Nat):Rat) * (((j+1:Nat):Int):Rat)))
    | _=>.quiet) (fun | 8=>[7] | 9=>[8] | _=>[]) (by kernel_rfl) (by kernel_rfl) (fun w0 he0 hz0 hc0 hf0=>?_)
   replace he0:=Hi he0
   simp only [pT]
   repeat (refine wpq fun K h=>?_;go_big_quiet_op;refine h _ ?_;clear h K)
   refine wps he0.out rfl rfl (fun w1 hW hG=>?_) fun x30=>?_
   ·exact spc [.int .i64 ((j:Int)+1)] Tryz.func128 ((by rw [HJI.out];exact rof_any ((j+1:Nat):Int) _ (by omega) (by omega)))
   simp only [pS]
   repeat (refine wpq fun K h=>?_;go_big_quiet_op;refine h _ ?_;clear h K)
   refine wps he0.out rfl rfl (fun w1 hW hG=>?_) fun x31=>?_
   ·have g30:=(hG 7 (by decide):Since _ _).get fun _ e g=>g.ext e
    exact spc [RH.v ⟨rneg,ra,rn,rc,rb,rm,rd⟩,x30.v] Tryz.func114 (rmul_any _ x30 _ _ _ ((RP.out.ext hW).raw ZP.out (by decide)) (g30.raw (Sz.int (by rw [Int.natAbs_natCast];show _ < 4294967296;omega)) (by decide)))
   simp only [pS]
   repeat (refine wpq fun K h=>?_;go_big_quiet_op;refine h _ ?_;clear h K)
   refine wps he0.out rfl rfl (fun w1 hW hG=>?_) fun x32=>?_
   ·have g31:=(hG 8 (by decide):Since _ _).get fun _ e g=>g.ext e
    exact spec_build x31 _ g31 rfl (by simp [execOp,go_sem])
   simp only [pS]
   repeat (refine wpq fun K h=>?_;go_big_quiet_op;refine h _ ?_;clear h K)
   refine wpF_nil ?_
   intro w5 hI
   have hE:=he0.out.trans hI.ext
   have G30:=Hi ((hI.facts 7:Since _ _).get fun _ e g=>g.ext e)
   have G31:=Hi ((hI.facts 8:Since _ _).get fun _ e g=>g.ext e)
   have G32:=Hi ((hI.facts 9:Since _ _).get fun _ e g=>g.ext e)
   clear hI he0 hz0 hc0 hf0
   replace HX:=hE.tr HX
   replace HR:=Hi (HR.out.ext hE)
   replace B2:=hE.bl B2
   replace HO:=Hi (HO.out.ext hE)
   replace RP:=Hi (RP.out.ext hE)
   have hs_w5:=hE.size
   clear hE
   try clear c_B2 f_B2 l_B2
   obtain ⟨c_B2,f_B2,l_B2⟩:=blk3 B2.out
   simp only [pD]
   clear hc1 hc2 hc3
   go_upto_region 7 with (at_builtin;refine wpList_append_q rfl (.tmp 18) (.tmp 27) 22 Tryz.underlying22 rfl (fun k=>w.heap.size < k) _ _ x32.2 _ x32.1 rfl HO.out rfl G32.out.1 G32.out.2 (by rw [row_len];omega) (fun k hk=>by show w.heap.size < k;omega) ?_;intro s' y3 q1 q2 q3)
   have HX3:=Hi (Ext.mods HX.out q2 (fun k h=>by have h:w.heap.size < k:=h;omega))
   have HR3:=Hi (HR.out.mods q2 q3 (by show ¬ w.heap.size < L;omega))
   have HB3:=Hi (q2.blk (by show ¬ w.heap.size < b2;omega) B2.out)
   have HO3:Hid (OwnQ y3 (fun k=>w.heap.size < k) s'.v (row (j+1+1) fcf)):=Hi (by rw [row_snoc,show fcf (j+1)=((fc j:Nat):Rat) * (((j+1:Nat):Int):Rat) from (fc_step j).symm];exact q1)
   clear q1 q2 q3
   go_wp2
   go_roundg (gk - 1)
   case measure=>omega
   case rel=>exact ⟨j+1,s',rfl,by omega,by go_num,HX3.out,HR3.out,HB3.out,HO3.out⟩
  subst h0
  obtain rfl:j=n:=by omega
  have hin:¬ (j:Int) < j:=by omega
  have HM:=Hi (Mut.of_ext (L:=L) HX.out)
  have HF:=Hi ((OwnQ.new (B:=w.heap.size+1) HO.out (fun k _ h=>h)))
  have HF0:Hid (LIn wr ⟨sa,j+1,sc⟩ (row (j+1) fcf) (w.heap.size+1) wr.heap.size):=HF
  obtain ⟨H9,hH9⟩:∃ H,H=wr.heap.size:=⟨_,rfl⟩
  rw [← hH9] at HF0
  have hH9':H9≤wr.heap.size:=by omega
  clear hH9 HF HO HX
  have HR0:Hid (RowC wr L (row N (bs1 j c 0))):=Hi (by rw [show row N (bs1 j c 0)=row N c from row_congr (fun i _=>by unfold bs1;rw [if_neg (Nat.not_lt_zero i)])];exact HR.out)
  go_wp2
  go_loopg [32] N (fun g i wq=>∃ (m:Nat),m+g=N∧i=.int .i64 (m:Nat)∧Mut L w wq∧H9≤wq.heap.size∧RowC wq L (row N (bs1 j c m))∧wq.heap[b2]?=some (.cells #[.bool false,.slice none 0 0,.slice none 0 0] 30 (0,0))∧LIn wq ⟨sa,j+1,sc⟩ (row (j+1) fcf) (w.heap.size+1) H9)
  case atStart=>exact ⟨0,by omega,rfl,HM.out,hH9',HR0.out,B2.out,HF0.out⟩
  case round =>
   obtain ⟨m,hm,rfl,g1,g2,g3,g4,g5⟩:=hrel
   clear HM HR HR0 B2 HF0 hH9' hszr
   have HM:=Hi g1
   have HR:=Hi g3
   have B2:=Hi g4
   have HF:=Hi g5
   have hszr:=g1.size
   have hszh:=g2
   clear g1 g2 g3 g4 g5
   try clear c_B2 f_B2 l_B2
   obtain ⟨c_B2,f_B2,l_B2⟩:=blk3 B2.out
   by_cases h0:gk=0
   case neg =>
    have hin:(m:Int) < N:=by omega
    obtain ⟨k2,hk2⟩:∃ k2:Nat,k2+m=j:=⟨j - m,by omega⟩
    have hsub:(j:Int) - (m:Int)=(k2:Nat):=by omega
    have hin2:(m:Int) < ((j+1:Nat):Int):=by omega
    have hin3:(k2:Int) < ((j+1:Nat):Int):=by omega
    obtain ⟨r,⟨f1,f2,f3⟩,hrc⟩:=RowC.cells HR.out (k:=m) (by rw [row_len];omega)
    rw [row_at _ (by omega),show bs1 j c m m=c m from if_neg (Nat.lt_irrefl m)] at hrc
    have HRC:=Hi hrc
    clear hrc
    have hfz:=RowC.frozen HR.out
    have hLl:=RowC.lt HR.out
    obtain ⟨rn,ra,rl,rc,rb,rm,rd⟩:=r
    simp only at f1 f2 f3
    obtain ⟨b,off,r2,hao,hbl,⟨hc1,hc2,hc3⟩,hP⟩:=HF.out.celx (k:=m) (by omega)
    obtain ⟨b',off',r3,hao',hbl',⟨hd1,hd2,hd3⟩,hP'⟩:=HF.out.celx (k:=k2) (by omega)
    subst hao
    obtain ⟨rfl,rfl⟩:b=b'∧off=off':=by simpa using hao'
    clear hao'
    rw [row_at _ (by omega)] at hP hP'
    obtain ⟨r2n,r2a,r2l,r2c,r2b,r2m,r2d⟩:=r2
    obtain ⟨r3n,r3a,r3l,r3c,r3b,r3m,r3d⟩:=r3
    simp only at hc1 hc2 hc3 hd1 hd2 hd3
    have HP:=Hi hP
    have HP':=Hi hP'
    clear hP hP'
    have Zc:Hid (Sz S (c m)):=Hi ((HZ.out m).sz hS1)
    have Z1:Hid (Sz 1 (fcf m)):=Hi ((fc_wz (by omega)).sz (by omega))
    have Z2:Hid (Sz 1 (fcf k2)):=Hi ((fc_wz (by omega)).sz (by omega))
    have HV:Hid (c m * (fcf m * fcf k2)=bsv j c m):=Hi (by unfold bsv fcf;rw [show j - m=k2 by omega])
    go_upto_region 11 with fail
    refine wp_region_front 18 (fun opIx=>match opIx with
     | 16=>.spec RH default RH.v (fun s w'=>CanR w' s (fcf m * fcf k2))
     | 17=>.spec RH default RH.v (fun s w'=>CanR w' s (c m * (fcf m * fcf k2)))
     | _=>.quiet) (fun | 17=>[16] | _=>[]) (by kernel_rfl) (by kernel_rfl) (fun w0 he0 hz0 hc0 hf0=>?_)
    replace he0:=Hi he0
    simp only [pT]
    repeat (refine wpq fun K h=>?_;go_big_quiet_op;refine h _ ?_;clear h K)
    refine wps he0.out rfl rfl (fun w1 hW hG=>?_) fun x40=>?_
    ·exact spc [RH.v ⟨r2n,r2a,r2l,r2c,r2b,r2m,r2d⟩,RH.v ⟨r3n,r3a,r3l,r3c,r3b,r3m,r3d⟩] Tryz.func114 (rmul_any _ _ _ _ _ ((HP.out.ext hW).raw Z1.out (by decide)) ((HP'.out.ext hW).raw Z2.out (by decide)))
    simp only [pS]
    repeat (refine wpq fun K h=>?_;go_big_quiet_op;refine h _ ?_;clear h K)
    refine wps he0.out rfl rfl (fun w1 hW hG=>?_) fun x41=>?_
    ·have g40:=(hG 16 (by decide):Since _ _).get fun _ e g=>g.ext e
     exact spc [RH.v ⟨rn,ra,rl,rc,rb,rm,rd⟩,x40.v] Tryz.func114 (rmul_any _ x40 _ _ _ ((HRC.out.ext hW).raw Zc.out (by omega)) (g40.raw (Z1.out.mul Z2.out) (by decide)))
    simp only [pS]
    repeat (refine wpq fun K h=>?_;go_big_quiet_op;refine h _ ?_;clear h K)
    refine wpF_nil ?_
    intro y5 hI
    have hE:=he0.out.trans hI.ext
    have G40:=Hi ((hI.facts 16:Since _ _).get fun _ e g=>g.ext e)
    have G41:=Hi ((hI.facts 17:Since _ _).get fun _ e g=>g.ext e)
    clear hI he0 hz0 hc0 hf0
    replace HM:=Hi (Mut.trans HM.out (Mut.of_ext hE))
    replace HR:=Hi (HR.out.ext hE)
    replace HF:=Hi (HF.out.ext hE)
    replace B2:=hE.bl B2
    have hs_y5:=hE.size
    clear hE
    try clear c_B2 f_B2 l_B2
    obtain ⟨c_B2,f_B2,l_B2⟩:=blk3 B2.out
    simp only [pD]
    clear f1 f2 f3 hfz hLl hc1 hc2 hc3 hd1 hd2 hd3
    rw [HV.out] at G41
    obtain ⟨r4,⟨f1,f2,f3⟩,-⟩:=RowC.cells HR.out (k:=m) (by rw [row_len];omega)
    have hfz:=RowC.frozen HR.out
    go_upto_region 12 with fail
    refine nm_row (k:=m) HR.out (by rw [row_len];omega) G41.out ?_
    rintro y6 ⟨cs,T⟩ TN
    rw [bs1_step] at TN
    clear f1 f2 f3 hfz
    clear HR
    replace HM:=Hi (Mut.put HM.out T (by first | exact Or.inl rfl | exact Or.inr (by omega)))
    replace HF:=Hi (HF.out.put T (by omega))
    replace B2:=Hi (T.rest _ _ (by omega) B2.out)
    replace G40:=Hi (G40.out.keep T.keep)
    replace G41:=Hi (G41.out.keep T.keep)
    have hs_y6:=nle T.size
    have hr_y6:=nle T.size.symm
    clear T
    try clear c_B2 f_B2 l_B2
    obtain ⟨c_B2,f_B2,l_B2⟩:=blk3 B2.out
    have HR:=Hi TN
    clear TN
    go_wp2
    go_roundg (gk - 1)
    case measure=>omega
    case rel=>exact ⟨m+1,by omega,by go_num,HM.out,by omega,HR.out,B2.out,HF.out⟩
   subst h0
   obtain rfl:m=N:=by omega
   have hin:¬ (m:Int) < m:=by omega
   have HW:=Hi (bsf_wz (n:=j) h8 HZ.out)
   obtain ⟨v,hv⟩:∃ v,v=bsv j c:=⟨_,rfl⟩
   have HR0:Hid (RowC wr L (row (j+1) (bsf 0 v))):=Hi (by
    rw [← hN,hv,show row m (bsf 0 (bsv j c))=row m (bs1 j c m) from row_congr (fun i hi=>by unfold bs1;rw [if_pos hi,bsf_zero])]
    exact HR.out)
   rw [← hv] at HW
   have HVV:=Hi hv
   subst hN
   clear hv HR
   go_wp2
   go_loopg [7] j (fun g i wq=>∃ (m:Nat),m+g=j∧i=.int .i64 ((m:Int)+1)∧Mut L w wq∧H9≤wq.heap.size∧RowC wq L (row (j+1) (bsf m v))∧wq.heap[b2]?=some (.cells #[.bool false,.slice none 0 0,.slice none 0 0] 30 (0,0))∧LIn wq ⟨sa,j+1,sc⟩ (row (j+1) fcf) (w.heap.size+1) H9)
   case atStart=>exact ⟨0,by omega,rfl,HM.out,hszh,HR0.out,B2.out,HF.out⟩
   case round =>
    obtain ⟨m,hm,rfl,g1,g2,g3,g4,g5⟩:=hrel
    clear HM HR0 B2 HF hszh hszr
    have HM:=Hi g1
    have HR:=Hi g3
    have B2:=Hi g4
    have HF:=Hi g5
    have hszr:=g1.size
    have hszh:=g2
    clear g1 g2 g3 g4 g5
    try clear c_B2 f_B2 l_B2
    obtain ⟨c_B2,f_B2,l_B2⟩:=blk3 B2.out
    by_cases h0:gk=0
    case pos =>
     subst h0
     obtain rfl:m=j:=by omega
     have hin:¬ (m:Int)+1≤(m:Int):=by omega
     have hin3:(m:Int) < ((m+1:Nat):Int):=by omega
     have HRf:Hid (RowC wr L (row (m+1) (bt v))):=Hi (by rw [← show row (m+1) (bsf m v)=row (m+1) (bt v) from row_congr (fun i hi=>bsf_low (by omega))];exact HR.out)
     obtain ⟨b,off,r2,hao,hbl,⟨hc1,hc2,hc3⟩,hP⟩:=HF.out.celx (k:=m) (by omega)
     subst hao
     rw [row_at _ (by omega)] at hP
     obtain ⟨r2n,r2a,r2l,r2c,r2b,r2m,r2d⟩:=r2
     simp only at hc1 hc2 hc3
     have HP:=Hi hP
     clear hP
     go_wp2
     refine nm_set3 (F:=fun W=>bodyPost _ _ _ _ _ W) B2.out rfl ?_
     intro y8 T
     replace HM:=Hi (Mut.put HM.out T (by first | exact Or.inl rfl | exact Or.inr (by omega)))
     replace HR:=Hi (HR.out.put T (by omega))
     replace HF:=Hi (HF.out.put T (by omega))
     replace B2:=Hi (T.bx)
     replace HRf:=Hi (HRf.out.put T (by omega))
     replace HP:=Hi (HP.out.keep T.keep)
     have hs_y8:=nle T.size
     have hr_y8:=nle T.size.symm
     clear T
     try clear c_B2 f_B2 l_B2
     obtain ⟨c_B2,f_B2,l_B2⟩:=blk3 B2.out
     exact bodyPost_ret (v:=RH.v ⟨r2n,r2a,r2l,r2c,r2b,r2m,r2d⟩) (by simp [results,Tryz.results165,go_sem,blk_cell B2.out]) rfl ⟨⟨r2n,r2a,r2l,r2c,r2b,r2m,r2d⟩,rfl,HM.out,by rw [← HVV.out];exact HRf.out,HP.out⟩
    obtain ⟨g0,rfl⟩:∃ g0,gk=g0+1:=⟨gk - 1,by omega⟩
    have hin:(m:Int)+1≤(j:Int):=by omega
    have HR0:Hid (RowC wr L (row (j+1) (bs2 v m j))):=Hi (by rw [bs2_start];exact HR.out)
    clear HR
    have HST:Hid ((j:Int)=(m:Int)+((j - m:Nat):Int)):=Hi (by omega)
    go_wp2
    go_loopg [8] (j - m) (fun g i wq=>i=.int .i64 ((m:Int)+(g:Nat))∧g≤j - m∧Mut L w wq∧H9≤wq.heap.size∧RowC wq L (row (j+1) (bs2 v m (m+g)))∧wq.heap[b2]?=some (.cells #[.bool false,.slice none 0 0,.slice none 0 0] 30 (0,0))∧LIn wq ⟨sa,j+1,sc⟩ (row (j+1) fcf) (w.heap.size+1) H9)
    case atStart=>exact ⟨congrArg _ HST.out,Nat.le_refl _,HM.out,hszh,by rw [show m+(j - m)=j by omega];exact HR0.out,B2.out,HF.out⟩
    case round =>
     obtain ⟨rfl,hg,g1,g2,g3,g4,g5⟩:=hrel
     clear HM HR0 B2 HF hszh hszr
     have HM:=Hi g1
     have HR:=Hi g3
     have B2:=Hi g4
     have HF:=Hi g5
     have hszr:=g1.size
     have hszh:=g2
     clear g1 g2 g3 g4 g5
     try clear c_B2 f_B2 l_B2
     obtain ⟨c_B2,f_B2,l_B2⟩:=blk3 B2.out
     by_cases h1:gk=0
     case pos =>
      subst h1
      have hin2:¬ (m:Int)+1≤(m:Int)+((0:Nat):Int):=by omega
      have HRn:Hid (RowC wr L (row (j+1) (bsf (m+1) v))):=Hi (by rw [← bs2_end];exact HR.out)
      go_wp2
      go_roundg g0
      case measure=>omega
      case rel=>exact ⟨m+1,by omega,by go_num,HM.out,hszh,HRn.out,B2.out,HF.out⟩
     obtain ⟨g,rfl⟩:∃ g,gk=g+1:=⟨gk - 1,by omega⟩
     obtain ⟨k2,hk2⟩:∃ k2,k2=m+g:=⟨_,rfl⟩
     obtain ⟨i1,hi1⟩:∃ i1,i1=k2+1:=⟨_,rfl⟩
     have hi0:(m:Int)+((g+1:Nat):Int)=(i1:Nat):=by omega
     rw [hi0]
     clear hi0
     replace HR:Hid (RowC wr L (row (j+1) (bs2 v m (k2+1)))):=Hi (by rw [hk2];exact HR.out)
     have hsub:(i1:Int) - 1=(k2:Nat):=by omega
     have hkj:i1≤j:=by omega
     have hin2:(m:Int)+1≤(i1:Nat):=by omega
     have hin3:(i1:Int) < ((j+1:Nat):Int):=by omega
     have hin4:(k2:Int) < ((j+1:Nat):Int):=by omega
     have hin5:(0:Int)≤(k2:Int):=by omega
     obtain ⟨r,⟨f1,f2,f3⟩,hrc⟩:=RowC.cells HR.out (k:=i1) (by rw [row_len];omega)
     obtain ⟨r',⟨e1,e2,e3⟩,hrc'⟩:=RowC.cells HR.out (k:=k2) (by rw [row_len];omega)
     rw [row_at _ (by omega),show bs2 v m (k2+1) i1=bsf m v i1 from if_neg (by omega)] at hrc
     rw [row_at _ (by omega),show bs2 v m (k2+1) k2=bsf m v k2 from if_neg (by omega)] at hrc'
     have HI1:=Hi hi1
     have HK2:=Hi hk2
     have hm1:m < i1:=by omega
     clear hi1 hk2
     have HP:=Hi hrc
     have HP':=Hi hrc'
     clear hrc hrc'
     obtain ⟨rn,ra,rl,rc,rb,rm,rd⟩:=r
     obtain ⟨r2n,r2a,r2l,r2c,r2b,r2m,r2d⟩:=r'
     simp only at f1 f2 f3 e1 e2 e3
     have hfz:=RowC.frozen HR.out
     have hLl:=RowC.lt HR.out
     have Z1:Hid (Sz (S+2+m) (bsf m v i1)):=Hi ((HW.out m i1 (by omega)).sz (by omega))
     have Z2:Hid (Sz (S+2+m) (bsf m v k2)):=Hi ((HW.out m k2 (by have:=HI1.out;omega)).sz (by omega))
     go_upto_region 19 with fail
     refine wp_region_front 12 (fun opIx=>match opIx with
      | 11=>.spec RH default RH.v (fun s w'=>CanR w' s (bsf m v i1+bsf m v k2))
      | _=>.quiet) (fun _=>[]) (by kernel_rfl) (by kernel_rfl) (fun w0 he0 hz0 hc0 hf0=>?_)
     replace he0:=Hi he0
     simp only [pT]
     repeat (refine wpq fun K h=>?_;go_big_quiet_op;refine h _ ?_;clear h K)
     refine wps he0.out rfl rfl (fun w1 hW hG=>?_) fun x50=>?_
     ·exact spc [RH.v ⟨rn,ra,rl,rc,rb,rm,rd⟩,RH.v ⟨r2n,r2a,r2l,r2c,r2b,r2m,r2d⟩] Tryz.func129 (radd_any _ _ _ _ _ ((HP.out.ext hW).raw Z1.out (by omega)) ((HP'.out.ext hW).raw Z2.out (by omega)))
     simp only [pS]
     repeat (refine wpq fun K h=>?_;go_big_quiet_op;refine h _ ?_;clear h K)
     refine wpF_nil ?_
     intro y5 hI
     have hE:=he0.out.trans hI.ext
     have G50:=Hi ((hI.facts 11:Since _ _).get fun _ e g=>g.ext e)
     clear hI he0 hz0 hc0 hf0
     replace HM:=Hi (Mut.trans HM.out (Mut.of_ext hE))
     replace HR:=Hi (HR.out.ext hE)
     replace HF:=Hi (HF.out.ext hE)
     replace B2:=hE.bl B2
     have hs_y5:=hE.size
     clear hE
     try clear c_B2 f_B2 l_B2
     obtain ⟨c_B2,f_B2,l_B2⟩:=blk3 B2.out
     simp only [pD]
     clear f1 f2 f3 e1 e2 e3 hfz hLl
     obtain ⟨r4,⟨f1,f2,f3⟩,-⟩:=RowC.cells HR.out (k:=i1) (by rw [row_len];omega)
     have hfz:=RowC.frozen HR.out
     go_upto_region 18 with fail
     refine nm_row (k:=i1) HR.out (by rw [row_len];omega) G50.out ?_
     rintro y6 ⟨cs,T⟩ TN
     rw [HI1.out,bs2_step (by have:=HI1.out;omega)] at TN
     clear f1 f2 f3 hfz
     clear HR
     replace HM:=Hi (Mut.put HM.out T (by first | exact Or.inl rfl | exact Or.inr (by omega)))
     replace HF:=Hi (HF.out.put T (by omega))
     replace B2:=Hi (T.rest _ _ (by omega) B2.out)
     replace G50:=Hi (G50.out.keep T.keep)
     have hs_y6:=nle T.size
     have hr_y6:=nle T.size.symm
     clear T
     try clear c_B2 f_B2 l_B2
     obtain ⟨c_B2,f_B2,l_B2⟩:=blk3 B2.out
     have HR:=Hi TN
     clear TN
     go_wp2
     go_roundg g
     case measure=>omega
     case rel=>exact ⟨congrArg _ (by have:=HI1.out;have:=HK2.out;omega),by omega,HM.out,by omega,by rw [← HK2.out];exact HR.out,B2.out,HF.out⟩
end Go.Proofs.YtpieblkklbilgaaGreat
