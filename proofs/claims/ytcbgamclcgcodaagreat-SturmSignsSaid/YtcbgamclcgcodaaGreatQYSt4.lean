/- signAt of package sturm. -/
import Derived.Test.YtcbgamclcgcodaaGreatQYSt3
import Derived.Test.YtcbgamclcgcodaaGreatQYPx3
import Derived.Test.YtcbgamclcgcodaaGreatQYSg
set_option linter.unusedVariables false
namespace Go.Proofs.YtcbgamclcgcodaaGreat
open Go.RowKit Go.Front Go.Num Stab
attribute [local go_sem] XW.cell XW.frozen
theorem cmp_sg (q:Rat):cmpR q 0 = Sg.sg q:=by
 unfold cmpR Sg.sg
 rfl
theorem cmp_div {a b:Rat} (hb:0 < b):cmpR a 0 = cmpR (a / b) 0:=by
 have h1:a = a / b * b:=(pd_div (fun h=>by rw [h] at hb; exact absurd hb Rat.lt_irrefl)).symm
 have hb2:=Rat.le_of_lt hb
 unfold cmpR
 by_cases hz:a = 0
 ·subst hz
  rw [show (0:Rat) / b = 0 by rw [Rat.div_def,Rat.zero_mul]]
 ·have hz2:a / b ≠ 0:=fun h=>hz (by rw [h1,h,Rat.zero_mul])
  rw [if_neg hz,if_neg hz2]
  by_cases hn:a < 0
  ·rw [if_pos hn,if_pos]
   by_cases h:a / b < 0
   ·exact h
   ·have h0:0 < a / b:=by grind
    have:=Rat.mul_pos h0 hb
    rw [← h1] at this
    grind
  ·rw [if_neg hn,if_neg]
   intro h
   have h2:0 < -(a / b):=by grind
   have:=Rat.mul_pos h2 hb
   have h3:-(a / b) * b = -a:=by rw [Rat.neg_mul,← h1]
   rw [h3] at this
   exact hn (by grind)
theorem ehP_pos (x:Rat) (i:Nat):0 < ehP x i:=by
 unfold ehP
 exact Rat.pow_pos (den_pos' x)
set_option maxRecDepth 8000 in
set_option maxHeartbeats 8000000 in
theorem ssign_any (ao:Option Addr) (n c:Nat) (a:List Rat) (t:RH) (x:Rat) (S T:Nat) (w:World) (h:CanL w ⟨ao,n,c⟩ a) (ht:CanR w t x) (hn:n≤1000) (hwa:∀ y ∈ a,Wz S y) (hx:Sz T x) (hT:1≤T) (hS:1≤S) (hS3:S≤30000000) (hT3:T≤1000) :
  Does 114 [.slice ao n c,t.v] w (fun _:Unit=>.int .i64 (Sg.sg (evV a x))) (fun _ _=>True):=by
 have LA:=Hi h.lin
 have HT:=Hi ht
 have HX:=Hi (Ext.refl w)
 have WA:=Hi hwa
 have ZX:=Hi hx
 have HPl:=Hi h.len
 simp only at HPl
 obtain ⟨tn,ta,tl,tc,tb,tm,td⟩:=t
 clear h ht hwa hx
 obtain ⟨P,hP⟩:∃ P,P = n:=⟨_,rfl⟩
 rw [← hP] at LA HPl hn ⊢
 clear hP
 have ZA:Hid (SzL S a):=Hi (fun y hy=>(WA.out y hy).sz hS)
 have hP1:=LA.out.can.le
 have hP2:=LA.out.can.max
 simp only at hP1 hP2
 unfold Does
 go_enter Tryz.func114,Tryz.ntmps114
 go_upto_region 1 with fail
 refine nm_alloc ?_
 intro w1 hE hB0 hz
 have hz_w1:=nle hz
 have hr_w1:=nle hz.symm
 clear hz
 replace HX:=hE.tr HX
 replace LA:=Hi (LA.out.ext hE)
 replace HT:=Hi (HT.out.ext hE)
 have hs_w1:=hE.size
 clear hE
 have B3:=Hi hB0
 clear hB0
 obtain ⟨c_B3,f_B3,l_B3⟩:=blk3 B3.out
 go_wp2_with fail
 refine Calls.mono (sparts_any ⟨tn,ta,tl,tc,tb,tm,td⟩ x _ HT.out) ?_
 rintro e w6 ⟨x6,rfl,hE,g6⟩
 have G6:=Hi g6
 clear g6
 replace HX:=hE.tr HX
 replace LA:=Hi (LA.out.ext hE)
 replace HT:=Hi (HT.out.ext hE)
 replace B3:=hE.bl B3
 have hs_w6:=hE.size
 clear hE
 try clear c_B3 f_B3 l_B3
 obtain ⟨c_B3,f_B3,l_B3⟩:=blk3 B3.out
 obtain ⟨xn,xd⟩:=x6
 have HN:=Hi G6.out.1
 have HD:=Hi G6.out.2
 clear G6
 simp only [PT] at *
 go_upto_region 2 with fail
 refine nm_alloc2 ?_
 intro w7 hE hB0 hB1 hz
 have hz_w7:=nle hz
 have hr_w7:=nle hz.symm
 clear hz
 replace HX:=hE.tr HX
 replace LA:=Hi (LA.out.ext hE)
 replace HT:=Hi (HT.out.ext hE)
 replace B3:=hE.bl B3
 replace HN:=Hi (HN.out.ext hE)
 replace HD:=Hi (HD.out.ext hE)
 have hs_w7:=hE.size
 clear hE
 try clear c_B3 f_B3 l_B3
 obtain ⟨c_B3,f_B3,l_B3⟩:=blk3 B3.out
 have B7:=Hi hB0
 clear hB0
 obtain ⟨c_B7,f_B7,l_B7⟩:=blk3 B7.out
 have B8:=Hi hB1
 clear hB1
 obtain ⟨c_B8,f_B8,l_B8⟩:=blk3 B8.out
 obtain ⟨b7,hb7⟩:∃ b7,b7 = w6.heap.size:=⟨_,rfl⟩
 obtain ⟨b8,hb8⟩:∃ b8,b8 = w6.heap.size + 1:=⟨_,rfl⟩
 have hb7w:b7 < w7.heap.size:=by omega
 have hb8w:b8 < w7.heap.size:=by omega
 rw [← hb8] at B8 ⊢
 rw [← hb7] at B7 ⊢
 clear hb7 hb8
 have LA7:=LA
 have HN7:=HN
 have HD7:=HD
 have B77:=B7
 have B87:=B8
 have HX0:=HX
 have HX7:=Hi (Ext.refl w7)
 have hw7:w.heap.size≤w7.heap.size:=by omega
 clear LA
 clear HN
 clear HD
 clear HT
 (try clear c_B3 f_B3 l_B3); clear B3
 (try clear c_B7 f_B7 l_B7); clear B7
 (try clear c_B8 f_B8 l_B8); clear B8
 clear HX
 go_wp2_with fail
 refine Calls.mono (rof_any 0 _ (by decide) (by decide)) ?_
 rintro e w8 ⟨x8,rfl,hE,g8⟩
 have G8:=Hi g8
 clear g8
 replace HX7:=hE.tr HX7
 have hs_w8:=hE.size
 clear hE
 go_wp2_with fail
 refine Calls.mono (rof_any 1 _ (by decide) (by decide)) ?_
 rintro e w9 ⟨x9,rfl,hE,g9⟩
 have G9:=Hi g9
 clear g9
 replace HX7:=hE.tr HX7
 replace G8:=Hi (G8.out.ext hE)
 have hs_w9:=hE.size
 clear hE
 go_upto_region 3 with fail
 refine nm_alloc2 ?_
 intro w10 hE hB0 hB1 hz
 have hz_w10:=nle hz
 have hr_w10:=nle hz.symm
 clear hz
 replace HX7:=hE.tr HX7
 replace G8:=Hi (G8.out.ext hE)
 replace G9:=Hi (G9.out.ext hE)
 have hs_w10:=hE.size
 clear hE
 have B9:=Hi hB0
 clear hB0
 obtain ⟨c_B9,f_B9,l_B9⟩:=blk3 B9.out
 have B10:=Hi hB1
 clear hB1
 obtain ⟨c_B10,f_B10,l_B10⟩:=blk3 B10.out
 have HS0:Hid (CanR w10 x8 (ehS a x 0)):=Hi (by unfold ehS; rw [if_pos rfl]; exact G8.out)
 have HP0:Hid (CanR w10 x9 (ehP x 0)):=Hi (by unfold ehP; rw [Nat.zero_sub,Rat.pow_zero]; exact G9.out)
 obtain ⟨b9,hb9⟩:∃ b9,b9 = w9.heap.size:=⟨_,rfl⟩
 obtain ⟨b10,hb10⟩:∃ b10,b10 = w9.heap.size + 1:=⟨_,rfl⟩
 have hw9:w7.heap.size≤b9:=by omega
 have hw10:w7.heap.size≤b10:=by omega
 have h910:b9 ≠ b10:=by omega
 rw [← hb10] at B10 ⊢
 rw [← hb9] at B9 ⊢
 clear hb9 hb10 c_B9 f_B9 l_B9 c_B10 f_B10 l_B10
 go_wp2
 go_loopg [19] P (fun g v wr=>∃ (i:Nat) (u y:RH),i + g = P∧v = .int .i64 (i:Nat)∧Ext w7 wr∧wr.heap[b9]? = some (.cells #[.bool u.neg,.slice u.a u.n u.c,.slice u.b u.m u.d] 34 (0,0))∧wr.heap[b10]? = some (.cells #[.bool y.neg,.slice y.a y.n y.c,.slice y.b y.m y.d] 34 (0,0))∧CanR wr u (ehS a x i)∧CanR wr y (ehP x i))
 case atStart=>exact ⟨0,x8,x9,by omega,rfl,HX7.out,B9.out,B10.out,HS0.out,HP0.out⟩
 case round =>
  obtain ⟨i,⟨un,ua,ul,uc,ub,um,ud⟩,⟨yn,ya,yl,yc,yb,ym,yd⟩,hi,rfl,g1,g2,g3,g4,g5⟩:=hrel
  clear HX7 B9 B10 HS0 HP0 G8 G9
  have HX7:=Hi g1
  have B9:=Hi g2
  have B10:=Hi g3
  have HU:=Hi g4
  have HY:=Hi g5
  have hw7r:=g1.size
  clear g1 g2 g3 g4 g5
  have hTi:T * i≤1000 * 1000:=Nat.mul_le_mul hT3 (by omega)
  have hTi2:(T + 1) * i = T * i + i:=Nat.succ_mul T i
  have hTi3:T * (i + 1) = T * i + T:=Nat.mul_succ T i
  have ZU:Hid (Sz 32000000 (ehS a x i)):=Hi (((ehS_wz WA.out ZX.out i (by rw [HPl.out]; omega)).mono (by omega)).sz (by decide))
  have ZY:Hid (Sz 2000000 (ehP x i)):=Hi (((ehP_wz ZX.out).mono (by omega)).sz (by decide))
  try clear c_B9 f_B9 l_B9
  obtain ⟨c_B9,f_B9,l_B9⟩:=blk3 B9.out
  try clear c_B10 f_B10 l_B10
  obtain ⟨c_B10,f_B10,l_B10⟩:=blk3 B10.out
  by_cases h0:gk = 0
  case pos =>
   subst h0
   obtain rfl:i = P:=by omega
   have hin:¬ (i:Int) < i:=by omega
   have HXw:=Hi (HX0.out.trans HX7.out)
   have HE:Hid (cmpR (ehS a x i) 0 = Sg.sg (evV a x)):=Hi (by have:=eh_end a x; rw [HPl.out] at this; rw [cmp_div (ehP_pos x i),this,cmp_sg])
   go_wp2_with fail
   refine Calls.mono (rsign_any ⟨un,ua,ul,uc,ub,um,ud⟩ (ehS a x i) _ (HU.out.raw ZU.out (by omega))) ?_
   rintro e w20 ⟨x20,rfl,hE,-⟩
   replace HX7:=hE.tr HX7
   replace HU:=Hi (HU.out.ext hE)
   replace HY:=Hi (HY.out.ext hE)
   replace B9:=hE.bl B9
   replace B10:=hE.bl B10
   replace HXw:=hE.tr HXw
   have hs_w20:=hE.size
   clear hE
   try clear c_B9 f_B9 l_B9
   obtain ⟨c_B9,f_B9,l_B9⟩:=blk3 B9.out
   try clear c_B10 f_B10 l_B10
   obtain ⟨c_B10,f_B10,l_B10⟩:=blk3 B10.out
   rw [HE.out]
   go_wp2
   go_ret
   exact ⟨(),rfl,HXw.out,trivial⟩
  have hin:(i:Int) < P:=by omega
  have B7:=Hi (HX7.out.block B77.out)
  have B8:=Hi (HX7.out.block B87.out)
  try clear c_B9 f_B9 l_B9
  obtain ⟨c_B9,f_B9,l_B9⟩:=blk3 B9.out
  try clear c_B10 f_B10 l_B10
  obtain ⟨c_B10,f_B10,l_B10⟩:=blk3 B10.out
  try clear c_B7 f_B7 l_B7
  obtain ⟨c_B7,f_B7,l_B7⟩:=blk3 B7.out
  try clear c_B8 f_B8 l_B8
  obtain ⟨c_B8,f_B8,l_B8⟩:=blk3 B8.out
  obtain ⟨k,hk⟩:∃ k,k = P - 1 - i:=⟨_,rfl⟩
  have hkP:k < P:=by omega
  have hki:(P:Int) - 1 - i = k:=by omega
  have HST:Hid (ehS a x i * (x.num:Rat) + a.getD k 0 * ehP x (i + 1) = ehS a x (i + 1)):=Hi (by rw [hk,← HPl.out]; exact eh_step x (by rw [HPl.out]; omega))
  have ZY1:Hid (Sz 2003000 (ehP x (i + 1))):=Hi (((ehP_wz ZX.out).mono (by omega)).sz (by decide))
  have ZK:Hid (Sz S (a.getD k 0)):=Hi (ZA.out.at (by rw [HPl.out]; exact hkP))
  clear hk
  by_cases hi0:i = 0
  case pos =>
   subst hi0
   have hk0:(P:Int) - 1 = k:=by omega
   clear hki
   have HY1:Hid (CanR wr ⟨yn,ya,yl,yc,yb,ym,yd⟩ (ehP x (0 + 1))):=HY
   clear HY
   obtain ⟨ba,oa,r,hao,hbl,⟨hc1,hc2,hc3⟩,hPc⟩:=(LA7.out.ext HX7.out).celx (k:=k) hkP
   obtain ⟨rneg,ra,rn,rc,rb,rm,rd⟩:=r
   simp only at hc1 hc2 hc3
   have HC:=Hi hPc
   clear hPc
   subst hao
   go_upto_region 8 with fail
   refine wp_region_front 14 (fun opIx=>match opIx with
    | 2=>.spec RH default RH.v (fun s w'=>CanR w' s (ehS a x 0 * (x.num:Rat)))
    | 12=>.spec RH default RH.v (fun s w'=>CanR w' s (a.getD k 0 * ehP x (0 + 1)))
    | 13=>.spec RH default RH.v (fun s w'=>CanR w' s (ehS a x 0 * (x.num:Rat) + a.getD k 0 * ehP x (0 + 1)))
    | _=>.quiet) (fun | 13=>[2,12] | _=>[]) (by kernel_rfl) (by kernel_rfl) (fun w0 he0 hz0 hc0 hf0=>?_)
   replace he0:=Hi he0
   simp only [pT]
   repeat (refine wpq fun K h=>?_; go_big_quiet_op; refine h _ ?_; clear h K)
   refine wps he0.out rfl rfl (fun w1 hW hG=>?_) fun x30=>?_
   ·exact spc [RH.v ⟨un,ua,ul,uc,ub,um,ud⟩,xn.v] Tryz.func130 (rmul_any _ xn _ _ _ ((HU.out.ext hW).raw ZU.out (by omega)) (((HN7.out.ext HX7.out).ext hW).raw (num_sz ZX.out hT) (by omega)))
   simp only [pS]
   repeat (refine wpq fun K h=>?_; go_big_quiet_op; refine h _ ?_; clear h K)
   refine wps he0.out rfl rfl (fun w1 hW hG=>?_) fun x31=>?_
   ·exact spc [RH.v ⟨rneg,ra,rn,rc,rb,rm,rd⟩,RH.v ⟨yn,ya,yl,yc,yb,ym,yd⟩] Tryz.func130 (rmul_any _ _ _ _ _ ((HC.out.ext hW).raw ZK.out (by omega)) ((HY1.out.ext hW).raw ZY1.out (by omega)))
   simp only [pS]
   repeat (refine wpq fun K h=>?_; go_big_quiet_op; refine h _ ?_; clear h K)
   refine wps he0.out rfl rfl (fun w1 hW hG=>?_) fun x32=>?_
   ·have g30:=(hG 2 (by decide):Since _ _).get fun _ e g=>g.ext e
    have g31:=(hG 12 (by decide):Since _ _).get fun _ e g=>g.ext e
    exact spc [x30.v,x31.v] Tryz.func129 (radd_any x30 x31 _ _ _ (g30.raw (ZU.out.mul (num_sz ZX.out hT)) (by omega)) (g31.raw (ZK.out.mul ZY1.out) (by omega)))
   simp only [pS]
   repeat (refine wpq fun K h=>?_; go_big_quiet_op; refine h _ ?_; clear h K)
   refine wpF_nil ?_
   intro w14 hI
   have hE:=he0.out.trans hI.ext
   have G30:=Hi ((hI.facts 2:Since _ _).get fun _ e g=>g.ext e)
   have G31:=Hi ((hI.facts 12:Since _ _).get fun _ e g=>g.ext e)
   have G32:=Hi ((hI.facts 13:Since _ _).get fun _ e g=>g.ext e)
   clear hI he0 hz0 hc0 hf0
   replace HX7:=hE.tr HX7
   replace HU:=Hi (HU.out.ext hE)
   replace B9:=hE.bl B9
   replace B10:=hE.bl B10
   replace B7:=hE.bl B7
   replace B8:=hE.bl B8
   replace HY1:=Hi (HY1.out.ext hE)
   replace HC:=Hi (HC.out.ext hE)
   have hs_w14:=hE.size
   clear hE
   try clear c_B9 f_B9 l_B9
   obtain ⟨c_B9,f_B9,l_B9⟩:=blk3 B9.out
   try clear c_B10 f_B10 l_B10
   obtain ⟨c_B10,f_B10,l_B10⟩:=blk3 B10.out
   try clear c_B7 f_B7 l_B7
   obtain ⟨c_B7,f_B7,l_B7⟩:=blk3 B7.out
   try clear c_B8 f_B8 l_B8
   obtain ⟨c_B8,f_B8,l_B8⟩:=blk3 B8.out
   simp only [pD]
   clear hc1 hc2 hc3
   rw [HST.out] at G32
   go_upto_region 9 with fail
   refine nm_set3 B9.out rfl ?_
   intro w15 T
   replace HX7:=Hi (T.ext HX7.out (by omega))
   replace HU:=Hi (HU.out.keep T.keep)
   replace B9:=Hi (T.bx)
   replace B10:=Hi (T.rest _ _ (by omega) B10.out)
   replace B7:=Hi (T.rest _ _ (by omega) B7.out)
   replace B8:=Hi (T.rest _ _ (by omega) B8.out)
   replace HY1:=Hi (HY1.out.keep T.keep)
   replace HC:=Hi (HC.out.keep T.keep)
   replace G30:=Hi (G30.out.keep T.keep)
   replace G31:=Hi (G31.out.keep T.keep)
   replace G32:=Hi (G32.out.keep T.keep)
   have hs_w15:=nle T.size
   have hr_w15:=nle T.size.symm
   clear T
   try clear c_B9 f_B9 l_B9
   obtain ⟨c_B9,f_B9,l_B9⟩:=blk3 B9.out
   try clear c_B10 f_B10 l_B10
   obtain ⟨c_B10,f_B10,l_B10⟩:=blk3 B10.out
   try clear c_B7 f_B7 l_B7
   obtain ⟨c_B7,f_B7,l_B7⟩:=blk3 B7.out
   try clear c_B8 f_B8 l_B8
   obtain ⟨c_B8,f_B8,l_B8⟩:=blk3 B8.out
   go_wp2
   go_roundg (gk - 1)
   case measure=>omega
   case rel=>exact ⟨0 + 1,x32,⟨yn,ya,yl,yc,yb,ym,yd⟩,by omega,by go_num,HX7.out,B9.out,B10.out,G32.out,HY1.out⟩
  have hi0':(0:Int) < i:=by omega
  go_wp2_with fail
  refine Calls.mono (rmul_any ⟨yn,ya,yl,yc,yb,ym,yd⟩ xd (ehP x i) ((x.den:Int):Rat) _ (HY.out.raw ZY.out (by omega)) ((HD7.out.ext HX7.out).raw (den_sz ZX.out hT) (by omega))) ?_
  rintro e w11 ⟨x11,rfl,hE,g11⟩
  have G11:=Hi g11
  clear g11
  replace HX7:=hE.tr HX7
  replace HU:=Hi (HU.out.ext hE)
  replace HY:=Hi (HY.out.ext hE)
  replace B9:=hE.bl B9
  replace B10:=hE.bl B10
  replace B7:=hE.bl B7
  replace B8:=hE.bl B8
  have hs_w11:=hE.size
  clear hE
  try clear c_B9 f_B9 l_B9
  obtain ⟨c_B9,f_B9,l_B9⟩:=blk3 B9.out
  try clear c_B10 f_B10 l_B10
  obtain ⟨c_B10,f_B10,l_B10⟩:=blk3 B10.out
  try clear c_B7 f_B7 l_B7
  obtain ⟨c_B7,f_B7,l_B7⟩:=blk3 B7.out
  try clear c_B8 f_B8 l_B8
  obtain ⟨c_B8,f_B8,l_B8⟩:=blk3 B8.out
  go_upto_region 8 with fail
  refine nm_set3 B10.out rfl ?_
  intro w12 T
  replace HX7:=Hi (T.ext HX7.out (by omega))
  replace HU:=Hi (HU.out.keep T.keep)
  replace HY:=Hi (HY.out.keep T.keep)
  replace B9:=Hi (T.rest _ _ (by omega) B9.out)
  replace B10:=Hi (T.bx)
  replace B7:=Hi (T.rest _ _ (by omega) B7.out)
  replace B8:=Hi (T.rest _ _ (by omega) B8.out)
  replace G11:=Hi (G11.out.keep T.keep)
  have hs_w12:=nle T.size
  have hr_w12:=nle T.size.symm
  clear T
  try clear c_B9 f_B9 l_B9
  obtain ⟨c_B9,f_B9,l_B9⟩:=blk3 B9.out
  try clear c_B10 f_B10 l_B10
  obtain ⟨c_B10,f_B10,l_B10⟩:=blk3 B10.out
  try clear c_B7 f_B7 l_B7
  obtain ⟨c_B7,f_B7,l_B7⟩:=blk3 B7.out
  try clear c_B8 f_B8 l_B8
  obtain ⟨c_B8,f_B8,l_B8⟩:=blk3 B8.out
  have HY1:Hid (CanR w12 x11 (ehP x (i + 1))):=Hi (by rw [← ehP_step x (by omega)]; exact G11.out)
  obtain ⟨zn,za,zl,zc,zb,zm,zd⟩:=x11
  clear HY
  clear G11
  obtain ⟨ba,oa,r,hao,hbl,⟨hc1,hc2,hc3⟩,hPc⟩:=(LA7.out.ext HX7.out).celx (k:=k) hkP
  obtain ⟨rneg,ra,rn,rc,rb,rm,rd⟩:=r
  simp only at hc1 hc2 hc3
  have HC:=Hi hPc
  clear hPc
  subst hao
  go_upto_region 8 with fail
  refine wp_region_front 14 (fun opIx=>match opIx with
   | 2=>.spec RH default RH.v (fun s w'=>CanR w' s (ehS a x i * (x.num:Rat)))
   | 12=>.spec RH default RH.v (fun s w'=>CanR w' s (a.getD k 0 * ehP x (i + 1)))
   | 13=>.spec RH default RH.v (fun s w'=>CanR w' s (ehS a x i * (x.num:Rat) + a.getD k 0 * ehP x (i + 1)))
   | _=>.quiet) (fun | 13=>[2,12] | _=>[]) (by kernel_rfl) (by kernel_rfl) (fun w0 he0 hz0 hc0 hf0=>?_)
  replace he0:=Hi he0
  simp only [pT]
  repeat (refine wpq fun K h=>?_; go_big_quiet_op; refine h _ ?_; clear h K)
  refine wps he0.out rfl rfl (fun w1 hW hG=>?_) fun x30=>?_
  ·exact spc [RH.v ⟨un,ua,ul,uc,ub,um,ud⟩,xn.v] Tryz.func130 (rmul_any _ xn _ _ _ ((HU.out.ext hW).raw ZU.out (by omega)) (((HN7.out.ext HX7.out).ext hW).raw (num_sz ZX.out hT) (by omega)))
  simp only [pS]
  repeat (refine wpq fun K h=>?_; go_big_quiet_op; refine h _ ?_; clear h K)
  refine wps he0.out rfl rfl (fun w1 hW hG=>?_) fun x31=>?_
  ·exact spc [RH.v ⟨rneg,ra,rn,rc,rb,rm,rd⟩,RH.v ⟨zn,za,zl,zc,zb,zm,zd⟩] Tryz.func130 (rmul_any _ _ _ _ _ ((HC.out.ext hW).raw ZK.out (by omega)) ((HY1.out.ext hW).raw ZY1.out (by omega)))
  simp only [pS]
  repeat (refine wpq fun K h=>?_; go_big_quiet_op; refine h _ ?_; clear h K)
  refine wps he0.out rfl rfl (fun w1 hW hG=>?_) fun x32=>?_
  ·have g30:=(hG 2 (by decide):Since _ _).get fun _ e g=>g.ext e
   have g31:=(hG 12 (by decide):Since _ _).get fun _ e g=>g.ext e
   exact spc [x30.v,x31.v] Tryz.func129 (radd_any x30 x31 _ _ _ (g30.raw (ZU.out.mul (num_sz ZX.out hT)) (by omega)) (g31.raw (ZK.out.mul ZY1.out) (by omega)))
  simp only [pS]
  repeat (refine wpq fun K h=>?_; go_big_quiet_op; refine h _ ?_; clear h K)
  refine wpF_nil ?_
  intro w14 hI
  have hE:=he0.out.trans hI.ext
  have G30:=Hi ((hI.facts 2:Since _ _).get fun _ e g=>g.ext e)
  have G31:=Hi ((hI.facts 12:Since _ _).get fun _ e g=>g.ext e)
  have G32:=Hi ((hI.facts 13:Since _ _).get fun _ e g=>g.ext e)
  clear hI he0 hz0 hc0 hf0
  replace HX7:=hE.tr HX7
  replace HU:=Hi (HU.out.ext hE)
  replace B9:=hE.bl B9
  replace B10:=hE.bl B10
  replace B7:=hE.bl B7
  replace B8:=hE.bl B8
  replace HY1:=Hi (HY1.out.ext hE)
  replace HC:=Hi (HC.out.ext hE)
  have hs_w14:=hE.size
  clear hE
  try clear c_B9 f_B9 l_B9
  obtain ⟨c_B9,f_B9,l_B9⟩:=blk3 B9.out
  try clear c_B10 f_B10 l_B10
  obtain ⟨c_B10,f_B10,l_B10⟩:=blk3 B10.out
  try clear c_B7 f_B7 l_B7
  obtain ⟨c_B7,f_B7,l_B7⟩:=blk3 B7.out
  try clear c_B8 f_B8 l_B8
  obtain ⟨c_B8,f_B8,l_B8⟩:=blk3 B8.out
  simp only [pD]
  clear hc1 hc2 hc3
  rw [HST.out] at G32
  go_upto_region 9 with fail
  refine nm_set3 B9.out rfl ?_
  intro w15 T
  replace HX7:=Hi (T.ext HX7.out (by omega))
  replace HU:=Hi (HU.out.keep T.keep)
  replace B9:=Hi (T.bx)
  replace B10:=Hi (T.rest _ _ (by omega) B10.out)
  replace B7:=Hi (T.rest _ _ (by omega) B7.out)
  replace B8:=Hi (T.rest _ _ (by omega) B8.out)
  replace HY1:=Hi (HY1.out.keep T.keep)
  replace HC:=Hi (HC.out.keep T.keep)
  replace G30:=Hi (G30.out.keep T.keep)
  replace G31:=Hi (G31.out.keep T.keep)
  replace G32:=Hi (G32.out.keep T.keep)
  have hs_w15:=nle T.size
  have hr_w15:=nle T.size.symm
  clear T
  try clear c_B9 f_B9 l_B9
  obtain ⟨c_B9,f_B9,l_B9⟩:=blk3 B9.out
  try clear c_B10 f_B10 l_B10
  obtain ⟨c_B10,f_B10,l_B10⟩:=blk3 B10.out
  try clear c_B7 f_B7 l_B7
  obtain ⟨c_B7,f_B7,l_B7⟩:=blk3 B7.out
  try clear c_B8 f_B8 l_B8
  obtain ⟨c_B8,f_B8,l_B8⟩:=blk3 B8.out
  go_wp2
  go_roundg (gk - 1)
  case measure=>omega
  case rel=>exact ⟨i + 1,x32,⟨zn,za,zl,zc,zb,zm,zd⟩,by omega,by go_num,HX7.out,B9.out,B10.out,G32.out,HY1.out⟩
end Go.Proofs.YtcbgamclcgcodaaGreat
