/- Range, positive, bound, Bound of the reference 07. -/
import Derived.Test.YtpieblkklbilgaaGreatQKBdf
import Derived.Test.YtpieblkklbilgaaGreatQKQL
import Derived.Test.YtpieblkklbilgaaGreatQKR5b
import Derived.Test.YtpieblkklbilgaaGreatQKBn8
import Derived.Test.YtpieblkklbilgaaGreatQKBP
set_option linter.unusedVariables false
set_option maxRecDepth 8000
set_option maxHeartbeats 8000000
namespace Go.Proofs.YtpieblkklbilgaaGreat
open Go.RowKit Go.Front Go.Num Stab
attribute [local go_sem] XW.cell XW.frozen
theorem run_field_lo (a b c d e f:Value) (w:World):(Instr.field 44 (.agg #[a,b,c,d,e,f]) 0).run Tryz.prog w=.ok (.agg #[a,b,c]) w:=by
 simp [Instr.field,asAgg,go_sem]
theorem run_field_hi (a b c d e f:Value) (w:World):(Instr.field 44 (.agg #[a,b,c,d,e,f]) 1).run Tryz.prog w=.ok (.agg #[d,e,f]) w:=by
 simp [Instr.field,asAgg,go_sem]
attribute [local go_sem] run_field_lo run_field_hi
theorem rcoef7_all (ao:Option Addr) (n cap:Nat) (l:List Rat) (s t:RH) (a b:Rat) (S T:Nat) (w:World) (h:RawL w ⟨ao,n,cap⟩ l) (hs:RawR w s a) (ht:RawR w t b) (hn:n≤1000) (h8:(tz l).length≤8) (hz:FrB S (tz l)) (za:Sz T a) (zb:Sz T b) (hS:S≤100) (hT1:1≤T) (hT:T≤60) :
  Does 47 [.slice ao n cap,IvV (s,t)] w SH.v (fun x w'=>NewL w.heap.size w' x (bcL (tz l) (loV a b) (hiV a b))):=by
 by_cases h0:tz l=[]
 ·refine (rcoef7_nil ao n cap l s t w h hn h0).imp (fun x w' hx=>?_)
  subst hx
  rw [h0]
  exact NewL.nil _ _
 ·exact rcoef7_any ao n cap l s t a b S T w h hs ht hn h0 h8 hz za zb hS hT1 hT
theorem bcL_szl {p:List Rat} {a b:Rat} {S T:Nat} (hp:SzL S p) (h8:p.length≤8) (za:Sz T a) (zb:Sz T b) (hab:a≤b):SzL (17 * S+112 * T+116) (bcL p a b):=by
 intro x hx
 rw [← cf_eq] at hx
 unfold cfV at hx
 obtain ⟨y,hy,rfl⟩:=List.mem_map.1 hx
 exact (((lcW_wz hp h8 za zb hab y hy).sz (by omega)).mul (lcK_inv_sz hp h8 za zb)).mono (by omega)
theorem loV_mn (m x:Rat):loV m x=mnF m x:=rfl
theorem hiV_mx (m x:Rat):hiV m x=mxF m x:=(mx_hi m x).symm
theorem lo_self (x:Rat):loV x x=x∧hiV x x=x:=by unfold loV hiV;constructor <;> split <;> rfl
theorem rrange7_any (ao:Option Addr) (n cap:Nat) (l:List Rat) (s t:RH) (a b:Rat) (S T:Nat) (w:World) (h:RawL w ⟨ao,n,cap⟩ l) (hs:RawR w s a) (ht:RawR w t b) (hn:n≤1000) (h8:(tz l).length≤8) (hz:FrB S (tz l)) (za:Sz T a) (zb:Sz T b) (hS:S≤100) (hT1:1≤T) (hT:T≤60) :
  Does 49 [.slice ao n cap,IvV (s,t)] w IvV (fun x w'=>IvC w' x (mnL (bcL (tz l) (loV a b) (hiV a b))) (mxL (bcL (tz l) (loV a b) (hiV a b)))):=by
 have HX:=Hi (Ext.refl w)
 have LA:=Hi h
 have HS:=Hi hs
 have HT:=Hi ht
 have HZ:=Hi hz
 have ZA:=Hi za
 have ZB:=Hi zb
 have HBZ:=Hi (bcL_szl hz.sz h8 (lo_sz za zb) (hi_sz za zb) (lo_hi a b))
 have HBL:=Hi (bcL_len (tz l) (loV a b) (hiV a b))
 obtain ⟨P,hP⟩:∃ P,P=(tz l).length:=⟨_,rfl⟩
 rw [← hP] at HBL
 have HPP:=Hi hP
 clear hP h hs ht hz za zb
 obtain ⟨sn,sa,sl,sc,sb,sm',sd⟩:=s
 obtain ⟨tn,ta,tl,tc,tb,tm,td⟩:=t
 unfold Does
 go_enter Tryz.func49,Tryz.ntmps49
 go_upto_region 1 with fail
 refine nm_alloc2 ?_
 intro w1 hE hB0 hB1 hz
 have hz_w1:=nle hz
 have hr_w1:=nle hz.symm
 clear hz
 replace HX:=hE.tr HX
 replace HS:=Hi (HS.out.ext hE)
 replace HT:=Hi (HT.out.ext hE)
 replace LA:=Hi (LA.out.ext hE)
 have hs_w1:=hE.size
 clear hE
 have B3:=Hi hB0
 clear hB0
 obtain ⟨c_B3,f_B3,l_B3⟩:=blk3 B3.out
 have B4:=Hi hB1
 clear hB1
 obtain ⟨c_B4,f_B4,l_B4⟩:=blk3 B4.out
 go_wp2_with fail
 refine Calls.mono (rcoef7_all ao n cap l ⟨sn,sa,sl,sc,sb,sm',sd⟩ ⟨tn,ta,tl,tc,tb,tm,td⟩ a b S T _ LA.out HS.out HT.out hn h8 HZ.out ZA.out ZB.out hS hT1 hT) ?_
 rintro e w11 ⟨x11,rfl,hE,g11⟩
 have G11:=Hi g11
 clear g11
 replace HX:=hE.tr HX
 replace HS:=Hi (HS.out.ext hE)
 replace HT:=Hi (HT.out.ext hE)
 replace LA:=Hi (LA.out.ext hE)
 replace B3:=hE.bl B3
 replace B4:=hE.bl B4
 have hs_w11:=hE.size
 clear hE
 try clear c_B3 f_B3 l_B3
 obtain ⟨c_B3,f_B3,l_B3⟩:=blk3 B3.out
 try clear c_B4 f_B4 l_B4
 obtain ⟨c_B4,f_B4,l_B4⟩:=blk3 B4.out
 obtain ⟨u,hu⟩:∃ u,u=bcL (tz l) (loV a b) (hiV a b):=⟨_,rfl⟩
 have HEU:=Hi hu.symm
 rw [← hu] at G11 HBZ HBL
 obtain ⟨ca,cn,cc⟩:=x11
 have hcn:cn=P:=by have:=G11.out.len;rw [HBL.out] at this;exact this.symm
 subst hcn
 have HC:Hid (LIn w11 ⟨ca,cn,cc⟩ u w1.heap.size w11.heap.size):=G11
 clear hu
 simp only [SH.v]
 clear LA
 clear HS
 clear HT
 have hle:=HC.out.can.le
 have hmx:=HC.out.can.max
 simp only at hle hmx
 by_cases h0:cn=0
 case pos =>
  subst h0
  have HV:Hid (mnL u=0∧mxL u=0):=Hi (by rw [List.length_eq_zero_iff.1 HBL.out];exact ⟨rfl,rfl⟩)
  go_wp2_with fail
  refine Calls.mono (rof3_any 0 _ (by decide) (by decide)) ?_
  rintro e w15 ⟨x15,rfl,hE,g15⟩
  have G15:=Hi g15
  clear g15
  replace HX:=hE.tr HX
  replace B3:=hE.bl B3
  replace B4:=hE.bl B4
  replace HC:=Hi (HC.out.ext hE)
  have hs_w15:=hE.size
  clear hE
  try clear c_B3 f_B3 l_B3
  obtain ⟨c_B3,f_B3,l_B3⟩:=blk3 B3.out
  try clear c_B4 f_B4 l_B4
  obtain ⟨c_B4,f_B4,l_B4⟩:=blk3 B4.out
  go_wp2_with fail
  refine Calls.mono (rof3_any 0 _ (by decide) (by decide)) ?_
  rintro e w16 ⟨x16,rfl,hE,g16⟩
  have G16:=Hi g16
  clear g16
  replace HX:=hE.tr HX
  replace B3:=hE.bl B3
  replace B4:=hE.bl B4
  replace HC:=Hi (HC.out.ext hE)
  replace G15:=Hi (G15.out.ext hE)
  have hs_w16:=hE.size
  clear hE
  try clear c_B3 f_B3 l_B3
  obtain ⟨c_B3,f_B3,l_B3⟩:=blk3 B3.out
  try clear c_B4 f_B4 l_B4
  obtain ⟨c_B4,f_B4,l_B4⟩:=blk3 B4.out
  go_wp2_with fail
  refine Calls.mono (ivmake4_any x15 x16 _ _ _ (G15.out.raw (Sz.int (by decide)) (by decide)) (G16.out.raw (Sz.int (by decide)) (by decide))) ?_
  rintro e w17 ⟨x17,rfl,hE,g17⟩
  have G17:=Hi g17
  clear g17
  replace HX:=hE.tr HX
  replace B3:=hE.bl B3
  replace B4:=hE.bl B4
  replace HC:=Hi (HC.out.ext hE)
  replace G15:=Hi (G15.out.ext hE)
  replace G16:=Hi (G16.out.ext hE)
  have hs_w17:=hE.size
  clear hE
  try clear c_B3 f_B3 l_B3
  obtain ⟨c_B3,f_B3,l_B3⟩:=blk3 B3.out
  try clear c_B4 f_B4 l_B4
  obtain ⟨c_B4,f_B4,l_B4⟩:=blk3 B4.out
  have HL:=Hi G17.out.1
  have HH:=Hi G17.out.2
  clear G17
  rw [(lo_self _).1] at HL
  rw [(lo_self _).2] at HH
  go_wp2
  refine nm_set6 (F:=fun W=>bodyPost _ _ _ _ _ W) B4.out rfl ?_
  intro w20 T
  replace HX:=Hi (T.ext HX.out (by omega))
  replace B3:=Hi (T.rest _ _ (by omega) B3.out)
  replace B4:=Hi (T.bx)
  replace HC:=Hi (HC.out.put T (by omega))
  replace G15:=Hi (G15.out.keep T.keep)
  replace G16:=Hi (G16.out.keep T.keep)
  replace HL:=Hi (HL.out.keep T.keep)
  replace HH:=Hi (HH.out.keep T.keep)
  have hs_w20:=nle T.size
  have hr_w20:=nle T.size.symm
  clear T
  try clear c_B3 f_B3 l_B3
  obtain ⟨c_B3,f_B3,l_B3⟩:=blk3 B3.out
  try clear c_B4 f_B4 l_B4
  obtain ⟨c_B4,f_B4,l_B4⟩:=blk3 B4.out
  exact bodyPost_ret (v:=IvV x17) (by simp [results,Tryz.results49,go_sem,c_B4]) rfl ⟨x17,rfl,HX.out,by rw [HEU.out,HV.out.1];exact HL.out,by rw [HEU.out,HV.out.2];exact HH.out⟩
 have hnb:((cn:Int) == 0)=false:=by rw [beq_eq_false_iff_ne];omega
 have hnI:(0:Int) < cn:=by omega
 obtain ⟨b,off,r,hao,hbl,⟨hc1,hc2,hc3⟩,hPr⟩:=HC.out.can.lin.celx (k:=0) (by omega)
 obtain ⟨rneg,ra,rn,rc,rb,rm,rd⟩:=r
 simp only [Nat.zero_mul,Nat.add_zero] at hc1 hc2 hc3
 subst hao
 have RP:=Hi hPr
 have Z0:=Hi (HBZ.out.at (i:=0) (by rw [HBL.out];omega))
 clear hPr
 go_upto_region 4 with fail
 refine wp_region_front 8 (fun opIx=>match opIx with
  | 6=>.spec (RH × RH) (default) (IvV) (fun x w'=>IvC w' x (mnA u 0) (mxA u 0))
  | 7=>.alloc 44 #[.bool false,.slice none 0 0,.slice none 0 0,.bool false,.slice none 0 0,.slice none 0 0]
  | _=>.quiet) (fun _=>[]) (by kernel_rfl) (by kernel_rfl) (fun w0 he0 hz0 hc0 hf0=>?_)
 replace he0:=Hi he0
 simp only [pT]
 repeat (refine wpq fun K h=>?_;go_big_quiet_op;refine h _ ?_;clear h K)
 refine wps he0.out rfl rfl (fun w1 hW hG=>?_) fun x20=>?_
 ·exact spc [RH.v ⟨rneg,ra,rn,rc,rb,rm,rd⟩,RH.v ⟨rneg,ra,rn,rc,rb,rm,rd⟩] Tryz.func68 ((by have h:=ivmake4_any ⟨rneg,ra,rn,rc,rb,rm,rd⟩ ⟨rneg,ra,rn,rc,rb,rm,rd⟩ _ _ _ ((RP.out.ext hW).raw Z0.out (by omega)) ((RP.out.ext hW).raw Z0.out (by omega));rw [(lo_self _).1,(lo_self _).2] at h;exact h))
 simp only [pS]
 repeat (refine wpq fun K h=>?_;go_big_quiet_op;refine h _ ?_;clear h K)
 refine wpF_alloc rfl rfl (fun w=>by simp [execOp,go_sem,ptr]) (fun b6 hb6 hl6=>?_)
 simp only [pS]
 repeat (refine wpq fun K h=>?_;go_big_quiet_op;refine h _ ?_;clear h K)
 refine wpF_nil ?_
 intro w12 hI
 have hE:=he0.out.trans hI.ext
 have G20:=Hi ((hI.facts 6:Since _ _).get fun _ e g=>g.ext e)
 have A6:Hid (w12.heap[b6]?=some (.cells #[.bool false,.slice none 0 0,.slice none 0 0,.bool false,.slice none 0 0,.slice none 0 0] 44 (0,0))):=hI.facts 7
 rw [hz0] at hl6
 clear hI he0 hz0 hc0 hf0
 replace HX:=hE.tr HX
 replace B3:=hE.bl B3
 replace B4:=hE.bl B4
 replace HC:=Hi (HC.out.ext hE)
 have hs_w12:=hE.size
 clear hE
 try clear c_B3 f_B3 l_B3
 obtain ⟨c_B3,f_B3,l_B3⟩:=blk3 B3.out
 try clear c_B4 f_B4 l_B4
 obtain ⟨c_B4,f_B4,l_B4⟩:=blk3 B4.out
 obtain ⟨c_A6,f_A6,l_A6⟩:=blk3 A6.out
 simp only [pD,ptr]
 obtain ⟨⟨ln,la,ll,lc,lb,lm,ld⟩,⟨hn',ha,hl,hcc,hb,hm,hd⟩⟩:=x20
 have HL:=Hi G20.out.1
 have HH:=Hi G20.out.2
 clear G20
 simp only at HL HH
 go_upto_region 5 with fail
 refine nm_set6 A6.out rfl ?_
 intro w13 T
 replace HX:=Hi (T.ext HX.out (by omega))
 replace B3:=Hi (T.rest _ _ (by omega) B3.out)
 replace B4:=Hi (T.rest _ _ (by omega) B4.out)
 replace HC:=Hi (HC.out.put T (by omega))
 replace A6:=Hi (T.bx)
 replace HL:=Hi (HL.out.keep T.keep)
 replace HH:=Hi (HH.out.keep T.keep)
 have hs_w13:=nle T.size
 have hr_w13:=nle T.size.symm
 clear T
 try clear c_B3 f_B3 l_B3
 obtain ⟨c_B3,f_B3,l_B3⟩:=blk3 B3.out
 try clear c_B4 f_B4 l_B4
 obtain ⟨c_B4,f_B4,l_B4⟩:=blk3 B4.out
 try clear c_A6 f_A6 l_A6
 obtain ⟨c_A6,f_A6,l_A6⟩:=blk3 A6.out
 obtain ⟨b4,hb4⟩:∃ b,b=w.heap.size+1:=⟨_,rfl⟩
 have q4:w.heap.size≤b4:=by omega
 have q6:w.heap.size≤b6:=by omega
 have n46:b4 ≠ b6:=by omega
 have n4l:b4 < w1.heap.size:=by omega
 have n6l:w11.heap.size≤b6:=by omega
 rw [← hb4] at B4 ⊢
 have HAZ:Hid (∀ j,j≤cn→Sz (17 * S+112 * T+116) (mnA u j)∧Sz (17 * S+112 * T+116) (mxA u j)):=Hi (fun j hj=>let h:=mA_mem (l:=u) (fun e=>by have:=HBL.out;rw [e] at this;exact h0 this.symm) j (by rw [HBL.out];exact hj);⟨HBZ.out _ h.1,HBZ.out _ h.2⟩)
 have hbl2:=hbl
 clear hb4 c_B4 f_B4 l_B4 c_A6 f_A6 l_A6 c_B3 f_B3 l_B3 B3 hc1 hc2 hc3 RP Z0 hbl
 go_wp2
 go_loopg [27] cn (fun g i wr=>∃ (j:Nat) (x y:RH),j+g=cn∧i=.int .i64 (j:Nat)∧Ext w wr∧wr.heap[b4]?=some (.cells #[.bool false,.slice none 0 0,.slice none 0 0,.bool false,.slice none 0 0,.slice none 0 0] 44 (0,0))∧wr.heap[b6]?=some (.cells #[.bool x.neg,.slice x.a x.n x.c,.slice x.b x.m x.d,.bool y.neg,.slice y.a y.n y.c,.slice y.b y.m y.d] 44 (0,0))∧CanR wr x (mnA u j)∧CanR wr y (mxA u j)∧LIn wr ⟨some ⟨b,off,none⟩,cn,cc⟩ u w1.heap.size w11.heap.size)
 case atStart=>exact ⟨0,⟨ln,la,ll,lc,lb,lm,ld⟩,⟨hn',ha,hl,hcc,hb,hm,hd⟩,by omega,rfl,HX.out,B4.out,A6.out,HL.out,HH.out,HC.out⟩
 case round =>
  obtain ⟨j,⟨xn,xa,xl,xc,xb,xm,xd⟩,⟨yn,ya,yl,yc,yb,ym,yd⟩,hj,rfl,g1,g2,g3,g4,g5,g6⟩:=hrel
  clear HX B4 A6 HL HH HC
  have HX:=Hi g1
  have B4:=Hi g2
  have B6:=Hi g3
  have HL:=Hi g4
  have HH:=Hi g5
  have HC:=Hi g6
  clear g1 g2 g3 g4 g5 g6
  simp only at B6
  try clear c_B4 f_B4 l_B4
  obtain ⟨c_B4,f_B4,l_B4⟩:=blk3 B4.out
  try clear c_B6 f_B6 l_B6
  obtain ⟨c_B6,f_B6,l_B6⟩:=blk3 B6.out
  by_cases h1:gk=0
  case pos =>
   subst h1
   obtain rfl:j=cn:=by omega
   have hin:¬ (j:Int) < (j:Int):=by omega
   have HV:Hid (mnA u j=mnL u∧mxA u j=mxL u):=Hi ⟨mnA_all (by rw [HBL.out];exact Nat.le_refl _),mxA_all (by rw [HBL.out];exact Nat.le_refl _)⟩
   rw [HV.out.1] at HL
   rw [HV.out.2] at HH
   go_wp2
   refine nm_set6 (F:=fun W=>bodyPost _ _ _ _ _ W) B4.out rfl ?_
   intro w20 T
   replace HX:=Hi (T.ext HX.out (by omega))
   replace B4:=Hi (T.bx)
   replace B6:=Hi (T.rest _ _ (by omega) B6.out)
   replace HL:=Hi (HL.out.keep T.keep)
   replace HH:=Hi (HH.out.keep T.keep)
   replace HC:=Hi (HC.out.put T (by omega))
   have hs_w20:=nle T.size
   have hr_w20:=nle T.size.symm
   clear T
   try clear c_B4 f_B4 l_B4
   obtain ⟨c_B4,f_B4,l_B4⟩:=blk3 B4.out
   try clear c_B6 f_B6 l_B6
   obtain ⟨c_B6,f_B6,l_B6⟩:=blk3 B6.out
   exact bodyPost_ret (v:=IvV (⟨xn,xa,xl,xc,xb,xm,xd⟩,⟨yn,ya,yl,yc,yb,ym,yd⟩)) (by simp [results,Tryz.results49,go_sem,c_B4]) rfl ⟨(⟨xn,xa,xl,xc,xb,xm,xd⟩,⟨yn,ya,yl,yc,yb,ym,yd⟩),rfl,HX.out,by rw [HEU.out];exact HL.out,by rw [HEU.out];exact HH.out⟩
  obtain ⟨bv,off',r,hao,hbl,⟨hc1,hc2,hc3⟩,hP⟩:=HC.out.can.lin.celx (k:=j) (by omega)
  obtain ⟨rfl,rfl⟩:b=bv∧off=off':=by simpa using hao
  obtain ⟨tneg,ta,tn,tc,tb,tm,td⟩:=r
  simp only at hc1 hc2 hc3
  have RP:=Hi hP
  clear hP hao
  have hjn:(j:Int) < cn:=by omega
  have ZX:=Hi (HBZ.out.at (i:=j) (by rw [HBL.out];omega))
  have ZM:=Hi (HAZ.out j (by omega))
  have HS1:=Hi (mnA_step (l:=u) (j:=j) (by rw [HBL.out];omega))
  have HS2:=Hi (mxA_step (l:=u) (j:=j) (by rw [HBL.out];omega))
  have HLH:Hid (mnA u j≤mxA u j):=Hi (by
   rcases Nat.eq_zero_or_pos j with h | h
   ·subst h;exact Rat.le_refl
   ·have:=mA_le (l:=u) j (by rw [HBL.out];omega) 0 h;grind)
  obtain ⟨v,hv⟩:∃ v,v=u.getD j 0:=⟨_,rfl⟩
  rw [← hv] at RP ZX HS1 HS2
  clear hv
  have p6:b6 < wr.heap.size:=l_B6
  have p4:b4 < wr.heap.size:=l_B4
  go_upto_region 8 with fail
  refine nm_alloc ?_
  intro w20 hE hB0 hz
  have hz_w20:=nle hz
  have hr_w20:=nle hz.symm
  clear hz
  replace HX:=hE.tr HX
  replace B4:=hE.bl B4
  replace B6:=hE.bl B6
  replace HL:=Hi (HL.out.ext hE)
  replace HH:=Hi (HH.out.ext hE)
  replace HC:=Hi (HC.out.ext hE)
  replace RP:=Hi (RP.out.ext hE)
  have hs_w20:=hE.size
  clear hE
  try clear c_B4 f_B4 l_B4
  obtain ⟨c_B4,f_B4,l_B4⟩:=blk3 B4.out
  try clear c_B6 f_B6 l_B6
  obtain ⟨c_B6,f_B6,l_B6⟩:=blk3 B6.out
  have B8:=Hi hB0
  clear hB0
  obtain ⟨c_B8,f_B8,l_B8⟩:=blk3 B8.out
  clear hc1 hc2 hc3
  refine wp_region_front 5 (fun opIx=>match opIx with
   | 3=>.spec (RH × RH) (default) (IvV) (fun x w'=>IvC w' x v v)
   | 4=>.spec (RH × RH) (default) (IvV) (fun x w'=>IvC w' x (mnA u (j+1)) (mxA u (j+1)))
   | _=>.quiet) (fun | 4=>[3] | _=>[]) (by kernel_rfl) (by kernel_rfl) (fun w0 he0 hz0 hc0 hf0=>?_)
  replace he0:=Hi he0
  simp only [pT]
  repeat (refine wpq fun K h=>?_;go_big_quiet_op;refine h _ ?_;clear h K)
  refine wps he0.out rfl rfl (fun w1 hW hG=>?_) fun x40=>?_
  ·exact spc [RH.v ⟨tneg,ta,tn,tc,tb,tm,td⟩,RH.v ⟨tneg,ta,tn,tc,tb,tm,td⟩] Tryz.func68 ((by have h:=ivmake4_any ⟨tneg,ta,tn,tc,tb,tm,td⟩ ⟨tneg,ta,tn,tc,tb,tm,td⟩ _ _ _ ((RP.out.ext hW).raw ZX.out (by omega)) ((RP.out.ext hW).raw ZX.out (by omega));rw [(lo_self _).1,(lo_self _).2] at h;exact h))
  simp only [pS]
  repeat (refine wpq fun K h=>?_;go_big_quiet_op;refine h _ ?_;clear h K)
  refine wps he0.out rfl rfl (fun w1 hW hG=>?_) fun x41=>?_
  ·have g40:=(hG 3 (by decide):Since _ _).get fun _ e g=>g.ext e
   exact spc [IvV (⟨xn,xa,xl,xc,xb,xm,xd⟩,⟨yn,ya,yl,yc,yb,ym,yd⟩),IvV x40] Tryz.func120 ((by have h:=ivhull4_any ⟨xn,xa,xl,xc,xb,xm,xd⟩ ⟨yn,ya,yl,yc,yb,ym,yd⟩ x40.1 x40.2 (mnA u j) (mxA u j) v v (17 * S+112 * T+116) _ ((HL.out.ext hW).raw ZM.out.1 (by omega)) ((HH.out.ext hW).raw ZM.out.2 (by omega)) (g40.1.raw ZX.out (by omega)) (g40.2.raw ZX.out (by omega)) ZM.out.1 ZM.out.2 ZX.out ZX.out (by omega);rw [(lo_self v).1,(lo_self v).2,lo_of HLH.out,hi_of HLH.out,loV_mn,hiV_mx,← HS1.out,← HS2.out] at h;exact h))
  simp only [pS]
  repeat (refine wpq fun K h=>?_;go_big_quiet_op;refine h _ ?_;clear h K)
  refine wpF_nil ?_
  intro w21 hI
  have hE:=he0.out.trans hI.ext
  have G40:=Hi ((hI.facts 3:Since _ _).get fun _ e g=>g.ext e)
  have G41:=Hi ((hI.facts 4:Since _ _).get fun _ e g=>g.ext e)
  clear hI he0 hz0 hc0 hf0
  replace HX:=hE.tr HX
  replace B4:=hE.bl B4
  replace B6:=hE.bl B6
  replace HL:=Hi (HL.out.ext hE)
  replace HH:=Hi (HH.out.ext hE)
  replace HC:=Hi (HC.out.ext hE)
  replace RP:=Hi (RP.out.ext hE)
  replace B8:=hE.bl B8
  have hs_w21:=hE.size
  clear hE
  try clear c_B4 f_B4 l_B4
  obtain ⟨c_B4,f_B4,l_B4⟩:=blk3 B4.out
  try clear c_B6 f_B6 l_B6
  obtain ⟨c_B6,f_B6,l_B6⟩:=blk3 B6.out
  try clear c_B8 f_B8 l_B8
  obtain ⟨c_B8,f_B8,l_B8⟩:=blk3 B8.out
  simp only [pD]
  obtain ⟨⟨an,aa,al,ac,ab,am,ad⟩,⟨bn,ba,bl,bc,bb,bm,bd⟩⟩:=x41
  have HL2:=Hi G41.out.1
  have HH2:=Hi G41.out.2
  clear G40 G41
  simp only at HL2 HH2
  clear HL
  clear HH
  clear RP
  go_upto_region 9 with fail
  refine nm_set6 B6.out rfl ?_
  intro w22 T
  replace HX:=Hi (T.ext HX.out (by omega))
  replace B4:=Hi (T.rest _ _ (by omega) B4.out)
  replace B6:=Hi (T.bx)
  replace HC:=Hi (HC.out.put T (by omega))
  replace B8:=Hi (T.rest _ _ (by omega) B8.out)
  replace HL2:=Hi (HL2.out.keep T.keep)
  replace HH2:=Hi (HH2.out.keep T.keep)
  have hs_w22:=nle T.size
  have hr_w22:=nle T.size.symm
  clear T
  try clear c_B4 f_B4 l_B4
  obtain ⟨c_B4,f_B4,l_B4⟩:=blk3 B4.out
  try clear c_B6 f_B6 l_B6
  obtain ⟨c_B6,f_B6,l_B6⟩:=blk3 B6.out
  try clear c_B8 f_B8 l_B8
  obtain ⟨c_B8,f_B8,l_B8⟩:=blk3 B8.out
  go_wp2
  go_roundg (gk - 1)
  case measure=>omega
  case rel=>exact ⟨j+1,⟨an,aa,al,ac,ab,am,ad⟩,⟨bn,ba,bl,bc,bb,bm,bd⟩,by omega,by go_num,HX.out,B4.out,B6.out,HL2.out,HH2.out,HC.out⟩
theorem rpos7_any (ao:Option Addr) (n cap:Nat) (l:List Rat) (s t:RH) (a b:Rat) (S T:Nat) (w:World) (h:RawL w ⟨ao,n,cap⟩ l) (hs:RawR w s a) (ht:RawR w t b) (hn:n≤1000) (h8:(tz l).length≤8) (hz:FrB S (tz l)) (za:Sz T a) (zb:Sz T b) (hS:S≤100) (hT1:1≤T) (hT:T≤60) :
  Does 105 [.slice ao n cap,IvV (s,t)] w (fun _:Unit=>.bool (psV (tz l) (loV a b) (hiV a b))) (fun _ _=>True):=by
 have HX:=Hi (Ext.refl w)
 have LA:=Hi h
 have HS:=Hi hs
 have HT:=Hi ht
 have HZ:=Hi hz
 have ZA:=Hi za
 have ZB:=Hi zb
 have HBZ:=Hi (mL_sz (bcL_szl hz.sz h8 (lo_sz za zb) (hi_sz za zb) (lo_hi a b)) (by omega))
 obtain ⟨P,hP⟩:∃ P,P=(tz l).length:=⟨_,rfl⟩
 have HPP:=Hi hP
 clear h hs ht hz za zb
 obtain ⟨sn,sa,sl,sc,sb,sm',sd⟩:=s
 obtain ⟨tn,ta,tl,tc,tb,tm,td⟩:=t
 unfold Does
 go_enter Tryz.func105,Tryz.ntmps105
 go_upto_region 1 with fail
 refine nm_alloc ?_
 intro w1 hE hB0 hz
 have hz_w1:=nle hz
 have hr_w1:=nle hz.symm
 clear hz
 replace HX:=hE.tr HX
 replace HS:=Hi (HS.out.ext hE)
 replace HT:=Hi (HT.out.ext hE)
 replace LA:=Hi (LA.out.ext hE)
 have hs_w1:=hE.size
 clear hE
 have B3:=Hi hB0
 clear hB0
 obtain ⟨c_B3,f_B3,l_B3⟩:=blk3 B3.out
 go_wp2_with fail
 refine Calls.mono (degree5_any ao n cap l _ LA.out (by omega)) ?_
 rintro e w6 ⟨x6,rfl,hE,-⟩
 replace HX:=hE.tr HX
 replace HS:=Hi (HS.out.ext hE)
 replace HT:=Hi (HT.out.ext hE)
 replace LA:=Hi (LA.out.ext hE)
 replace B3:=hE.bl B3
 have hs_w6:=hE.size
 clear hE
 try clear c_B3 f_B3 l_B3
 obtain ⟨c_B3,f_B3,l_B3⟩:=blk3 B3.out
 rw [← hP]
 clear hP
 by_cases h0:P=0
 case pos =>
  subst h0
  have HV:Hid (psV (tz l) (loV a b) (hiV a b)=false):=Hi (by rw [List.length_eq_zero_iff.1 HPP.out.symm];rfl)
  have hneg:¬ (0:Int)≤((0:Nat):Int) - 1:=by decide
  go_wp2
  go_ret
  exact ⟨(),by rw [HV.out];rfl,HX.out,trivial⟩
 have hpos:(0:Int)≤(P:Int) - 1:=by omega
 have HV:Hid (psV (tz l) (loV a b) (hiV a b)=decide (0 < mnL (bcL (tz l) (loV a b) (hiV a b)))):=Hi (psV_ne (fun e=>h0 (by rw [HPP.out,e];rfl)) _ _)
 go_wp2_with fail
 refine Calls.mono (rrange7_any ao n cap l ⟨sn,sa,sl,sc,sb,sm',sd⟩ ⟨tn,ta,tl,tc,tb,tm,td⟩ a b S T _ LA.out HS.out HT.out hn h8 HZ.out ZA.out ZB.out hS hT1 hT) ?_
 rintro e w11 ⟨x11,rfl,hE,g11⟩
 have G11:=Hi g11
 clear g11
 replace HX:=hE.tr HX
 replace HS:=Hi (HS.out.ext hE)
 replace HT:=Hi (HT.out.ext hE)
 replace LA:=Hi (LA.out.ext hE)
 replace B3:=hE.bl B3
 have hs_w11:=hE.size
 clear hE
 try clear c_B3 f_B3 l_B3
 obtain ⟨c_B3,f_B3,l_B3⟩:=blk3 B3.out
 obtain ⟨⟨ln,la,ll,lc,lb,lm,ld⟩,⟨hn',ha,hl,hcc,hb,hm,hd⟩⟩:=x11
 have HL:=Hi G11.out.1
 clear G11
 simp only at HL
 obtain ⟨q,hq⟩:∃ q,q=mnL (bcL (tz l) (loV a b) (hiV a b)):=⟨_,rfl⟩
 rw [← hq] at HL HV HBZ
 clear hq
 go_wp2_with fail
 refine Calls.mono (rsign3_any ⟨ln,la,ll,lc,lb,lm,ld⟩ q _ (HL.out.raw HBZ.out.1 (by omega))) ?_
 rintro e w13 ⟨x13,rfl,hE,-⟩
 replace HX:=hE.tr HX
 replace HS:=Hi (HS.out.ext hE)
 replace HT:=Hi (HT.out.ext hE)
 replace LA:=Hi (LA.out.ext hE)
 replace B3:=hE.bl B3
 replace HL:=Hi (HL.out.ext hE)
 have hs_w13:=hE.size
 clear hE
 try clear c_B3 f_B3 l_B3
 obtain ⟨c_B3,f_B3,l_B3⟩:=blk3 B3.out
 have HD:Hid (decide (0 < q)=decide (0 < cmpR q 0)):=Hi (decide_eq_decide.2 cmpR_gt0.symm)
 obtain ⟨c,hc⟩:∃ c,c=cmpR q 0:=⟨_,rfl⟩
 rw [← hc] at HD ⊢
 clear hc
 go_wp2
 go_ret
 exact ⟨(),by rw [HV.out,HD.out];rfl,HX.out,trivial⟩
end Go.Proofs.YtpieblkklbilgaaGreat
/- cells and Prove of the reference 07. -/
set_option linter.unusedVariables false
namespace Go.Proofs.YtpieblkklbilgaaGreat
open Go.RowKit Go.Front Go.Num Stab
attribute [local go_sem] XW.cell XW.frozen
def Dyd (e:Nat) (x:Rat):Prop:=∃ z:Int,x * ((12 * 2 ^ e:Nat):Rat)=(z:Rat)∧z.natAbs≤12 * 2 ^ e
theorem two_le {e:Nat} (he:e≤12):12 * 2 ^ e≤49152:=by
 have:=Nat.pow_le_pow_right (show 0 < 2 by decide) he
 have h:(2:Nat) ^ 12=4096:=by decide
 omega
theorem Dyd.sz {e:Nat} {x:Rat} (h:Dyd e x) (he:e≤12):Sz 1 x:=by
 obtain ⟨z,h1,h2⟩:=h
 have h3:=two_le he
 have hw:(49152:Nat) < W32 ^ 1:=by decide
 exact (Fr.int (S:=1) (D:=12 * 2 ^ e) (z:=z) (by omega) h1).sz (Nat.le_refl 1) (Nat.mul_pos (by decide) (Nat.two_pow_pos e)) (by omega)
theorem dyd_two (e:Nat):((12 * 2 ^ (e+1):Nat):Rat)=2 * ((12 * 2 ^ e:Nat):Rat):=by
 have:12 * 2 ^ (e+1)=2 * (12 * 2 ^ e):=by rw [Nat.pow_succ];omega
 rw [this,Rat.natCast_mul]
 rfl
theorem Dyd.up {e:Nat} {x:Rat} (h:Dyd e x):Dyd (e+1) x:=by
 obtain ⟨z,h1,h2⟩:=h
 refine ⟨z * 2,?_,?_⟩
 ·rw [dyd_two,Rat.intCast_mul,← h1]
  show _=_ * (2:Rat)
  grind
 ·rw [Int.natAbs_mul,Nat.pow_succ]
  show z.natAbs * 2≤_
  omega
theorem Dyd.mid {e:Nat} {a b:Rat} (h:Dyd e a) (k:Dyd e b):Dyd (e+1) (mdV a b):=by
 obtain ⟨z,h1,h2⟩:=h
 obtain ⟨y,k1,k2⟩:=k
 refine ⟨z+y,?_,?_⟩
 ·rw [dyd_two,Rat.intCast_add,← h1,← k1]
  have hh:hf * 2=1:=by decide +kernel
  show (a+b) * hf * _=_
  grind
 ·have:=Int.natAbs_add_le z y
  rw [Nat.pow_succ]
  omega
theorem cosQ_dyd (n:Int):Dyd 0 (cosQ n):=by
 obtain ⟨m,hm,e⟩:=cosQ_nat n
 refine ⟨(m:Int) - 12,?_,?_⟩
 ·rw [e,Rat.div_def,Rat.mul_assoc]
  have:(((12:Int):Rat))⁻¹ * ((12 * 2 ^ 0:Nat):Rat)=1:=by decide +kernel
  rw [this,Rat.mul_one]
 ·show ((m:Int) - 12).natAbs≤12
  omega
theorem dyd_lo {e:Nat} {a b:Rat} (h:Dyd e a) (k:Dyd e b):Dyd e (loV a b):=by rcases lo_or a b with e | e <;> rw [e] <;> assumption
theorem dyd_hi {e:Nat} {a b:Rat} (h:Dyd e a) (k:Dyd e b):Dyd e (hiV a b):=by rcases hi_or a b with e | e <;> rw [e] <;> assumption
theorem rcl_len (d:Nat) {p:List Rat}:∀ {a b:Rat} {x:List Rat},rcl d p a b=some x→x.length≤2 * 2 ^ d:=by
 induction d with
 | zero =>
  intro a b x h
  unfold rcl at h
  split at h
  ·cases h;simp
  ·cases h
 | succ d ih =>
  intro a b x h
  have hp:=Nat.two_pow_pos d
  unfold rcl at h
  split at h
  ·cases h;rw [Nat.pow_succ];simp only [List.length_cons,List.length_nil];omega
  ·rcases h1:rcl d p a (mdV a b) with _ | u
   ·rw [h1] at h;cases h
   ·rw [h1] at h
    rcases h2:rcl d p (mdV a b) b with _ | v
    ·rw [h2] at h;cases h
    ·rw [h2] at h
     cases h
     have e1:=ih h1
     have e2:=ih h2
     rw [List.length_append,Nat.pow_succ]
     omega
theorem rcl_sz (d:Nat) {p:List Rat}:∀ {e:Nat} {a b:Rat} {x:List Rat},d+e=12→Dyd e a→Dyd e b→rcl d p a b=some x→∀ y ∈ x,∃ k,k≤12∧Dyd k y:=by
 induction d with
 | zero =>
  intro e a b x he ha hb h y hy
  unfold rcl at h
  split at h
  ·cases h
   simp only [List.mem_cons,List.not_mem_nil,or_false] at hy
   rcases hy with rfl | rfl
   ·exact ⟨e,by omega,ha⟩
   ·exact ⟨e,by omega,hb⟩
  ·cases h
 | succ d ih =>
  intro e a b x he ha hb h y hy
  unfold rcl at h
  split at h
  ·cases h
   simp only [List.mem_cons,List.not_mem_nil,or_false] at hy
   rcases hy with rfl | rfl
   ·exact ⟨e,by omega,ha⟩
   ·exact ⟨e,by omega,hb⟩
  ·rcases h1:rcl d p a (mdV a b) with _ | u
   ·rw [h1] at h;cases h
   ·rw [h1] at h
    rcases h2:rcl d p (mdV a b) b with _ | v
    ·rw [h2] at h;cases h
    ·rw [h2] at h
     cases h
     rcases List.mem_append.1 hy with h3 | h3
     ·exact ih (by omega) ha.up (ha.mid hb) h1 y h3
     ·exact ih (by omega) (ha.mid hb) hb.up h2 y h3
theorem OwnI.open {w:World} {D:Nat→Prop} {v:Value} {n:Nat} {qs:List Rat} (h:OwnI w D v n qs) (h0:0 < n):∃ L cap rs,v=.slice (some ⟨L,0,none⟩) n cap∧D L∧(∀ k,k < n * 2→RAt w L (0+k * 3) (rs.getD k default))∧Vals CanR w rs qs∧rs.length=n * 2:=by
 obtain ⟨rs,h1,h2⟩:=h
 rcases h1 with ⟨-,-,rfl⟩ | ⟨L,cap,re,h3,h4,h5,h6,-⟩
 ·omega
 ·exact ⟨L,cap,rs,h3,h4,fun k hk=>by rw [Nat.zero_add];exact h5.at (by rw [h6];exact hk),h2,h6⟩
theorem OwnI.block {w:World} {N:Nat} {x y:RH} {a b:Rat} {D:Nat→Prop} (h:w.heap[N]?=some (.cells #[.bool x.neg,.slice x.a x.n x.c,.slice x.b x.m x.d,.bool y.neg,.slice y.a y.n y.c,.slice y.b y.m y.d] 44 (0,0))) (hx:CanR w x a) (hy:CanR w y b) (hD:D N):OwnI w D (.slice (some ⟨N,0,none⟩) 1 1) 1 [a,b]:=by
 have hb:IBk w N [x,y] #[]:=by
  unfold IBk
  rw [h]
  rfl
 refine ⟨[x,y],Or.inr ⟨N,1,#[],rfl,hD,hb,rfl,Nat.le_refl _,by decide,rfl,rfl⟩,rfl,fun k hk=>?_⟩
 have hk:k < 2:=hk
 have:k=0 ∨ k=1:=by omega
 rcases this with rfl | rfl
 ·exact hx
 ·exact hy
abbrev RcT (x:SH × Bool):Value:=.tuple #[x.1.v,.bool x.2]
def RcO (B:Nat) (w:World) (x:SH × Bool) (r:Option (List Rat)):Prop :=
 match r with
 | none=>x=(⟨none,0,0⟩,false)
 | some qs=>x.2=true∧OwnI w (B≤·) x.1.v x.1.n qs
theorem RcO.some' {B:Nat} {w:World} {x:SH × Bool} {qs:List Rat} (h1:x.2=true) (h2:OwnI w (B≤·) x.1.v x.1.n qs):RcO B w x (some qs):=⟨h1,h2⟩
def RclP (d:Nat):Prop :=
 ∀ (e:Nat),d+e=12→∀ (ao:Option Addr) (n cap:Nat) (l:List Rat) (s t:RH) (a b:Rat) (S:Nat) (w:World),RawL w ⟨ao,n,cap⟩ l→CanR w s a→CanR w t b→n≤1000→(tz l).length≤8→FrB S (tz l)→S≤100→Dyd e a→Dyd e b→a≤b →
  Does 96 [.slice ao n cap,IvV (s,t),.int .i64 (e:Nat)] w RcT (fun x w'=>RcO w.heap.size w' x (rcl d (tz l) a b))
theorem rcl_yes {d:Nat} {p:List Rat} {a b:Rat} (h:psV p a b=true):rcl d p a b=some [a,b]:=by cases d <;> (unfold rcl;rw [if_pos h])
set_option maxRecDepth 8000 in
set_option maxHeartbeats 16000000 in
theorem rcells_step (d:Nat) (ih:∀ d',d=d'+1→RclP d'):RclP d:=by
  intro e hde ao n cap l s t a b S w h hs ht hn h8 hz hS ha hb hab
  have HX:=Hi (Ext.refl w)
  have LA:=Hi h
  have HS:=Hi hs
  have HT:=Hi ht
  have HZ:=Hi hz
  have DA:=Hi ha
  have DB:=Hi hb
  have ZA:=Hi (ha.sz (by omega))
  have ZB:=Hi (hb.sz (by omega))
  have HAB:=Hi hab
  have IH:=Hi ih
  clear h hs ht hz ha hb hab ih
  obtain ⟨sn,sa,sl,sc,sb,sm',sd⟩:=s
  obtain ⟨tn,ta,tl,tc,tb,tm,td⟩:=t
  unfold Does
  go_enter Tryz.func96,Tryz.ntmps96
  go_upto_region 1 with fail
  refine nm_alloc ?_
  intro w1 hE hB0 hz
  have hz_w1:=nle hz
  have hr_w1:=nle hz.symm
  clear hz
  replace HX:=hE.tr HX
  replace HS:=Hi (HS.out.ext hE)
  replace HT:=Hi (HT.out.ext hE)
  replace LA:=Hi (LA.out.ext hE)
  have hs_w1:=hE.size
  clear hE
  have B4:=Hi hB0
  clear hB0
  obtain ⟨c_B4,f_B4,l_B4⟩:=blk3 B4.out
  go_wp2_with fail
  refine Calls.mono ((by have h:=rpos7_any ao n cap l ⟨sn,sa,sl,sc,sb,sm',sd⟩ ⟨tn,ta,tl,tc,tb,tm,td⟩ a b S 1 _ LA.out (HS.out.raw ZA.out (by decide)) (HT.out.raw ZB.out (by decide)) hn h8 HZ.out ZA.out ZB.out hS (by decide) (by decide);rw [lo_of HAB.out,hi_of HAB.out] at h;exact h)) ?_
  rintro e w14 ⟨x14,rfl,hE,-⟩
  replace HX:=hE.tr HX
  replace HS:=Hi (HS.out.ext hE)
  replace HT:=Hi (HT.out.ext hE)
  replace LA:=Hi (LA.out.ext hE)
  replace B4:=hE.bl B4
  have hs_w14:=hE.size
  clear hE
  try clear c_B4 f_B4 l_B4
  obtain ⟨c_B4,f_B4,l_B4⟩:=blk3 B4.out
  obtain ⟨pv,hpv⟩:∃ pv,pv=psV (tz l) a b:=⟨_,rfl⟩
  have HPV:=Hi hpv.symm
  rw [← hpv]
  clear hpv
  cases pv with
  | true =>
    have HV:Hid (rcl d (tz l) a b=some [a,b]):=Hi (rcl_yes HPV.out)
    go_wp2
    exact bodyPost_ret (v:=RcT (⟨some ⟨w14.heap.size,0,none⟩,1,1⟩,true)) (by simp [results,Tryz.results96,go_sem]) rfl
      ⟨(⟨some ⟨w14.heap.size,0,none⟩,1,1⟩,true),rfl,HX.out.trans (Ext.alloc _ _),by
        rw [HV.out]
        exact RcO.some' rfl (OwnI.block (x:=⟨sn,sa,sl,sc,sb,sm',sd⟩) (y:=⟨tn,ta,tl,tc,tb,tm,td⟩) (heap_alloc_new _ _) (HS.out.ext (Ext.alloc _ _)) (HT.out.ext (Ext.alloc _ _)) (by show w.heap.size≤w14.heap.size;omega))⟩
  | false =>
  cases d with
  | zero =>
    obtain rfl:e=12:=by omega
    have HV:Hid (rcl 0 (tz l) a b=none):=Hi (by unfold rcl;rw [HPV.out];rfl)
    go_wp2
    exact bodyPost_ret (v:=RcT (⟨none,0,0⟩,false)) (by simp [results,Tryz.results96,go_sem]) rfl ⟨(⟨none,0,0⟩,false),rfl,HX.out,by rw [HV.out];rfl⟩
  | succ d =>
    have he:¬ (e:Int)=12:=by omega
    have heb:((e:Int) == 12)=false:=by rw [beq_eq_false_iff_ne];exact he
    have he1:(e:Int)+1=((e+1:Nat):Int):=by omega
    have HE1:=Hi he1
    clear he1
    obtain ⟨g1,g2⟩:=md_le HAB.out
    have HM1:=Hi g1
    have HM2:=Hi g2
    have DM:=Hi (DA.out.mid DB.out)
    have ZM:=Hi (DM.out.sz (by omega))
    have DA2:=Hi DA.out.up
    have DB2:=Hi DB.out.up
    clear g1 g2
    go_wp2_with fail
    refine Calls.mono (ivmid4_any ⟨sn,sa,sl,sc,sb,sm',sd⟩ ⟨tn,ta,tl,tc,tb,tm,td⟩ a b 1 _ (HS.out.raw ZA.out (by decide)) (HT.out.raw ZB.out (by decide)) ZA.out ZB.out (by decide)) ?_
    rintro e w20 ⟨x20,rfl,hE,g20⟩
    have G20:=Hi g20
    clear g20
    replace HX:=hE.tr HX
    replace HS:=Hi (HS.out.ext hE)
    replace HT:=Hi (HT.out.ext hE)
    replace LA:=Hi (LA.out.ext hE)
    replace B4:=hE.bl B4
    have hs_w20:=hE.size
    clear hE
    try clear c_B4 f_B4 l_B4
    obtain ⟨c_B4,f_B4,l_B4⟩:=blk3 B4.out
    obtain ⟨mn,ma,ml,mc,mb,mm,md⟩:=x20
    have GM:Hid (CanR w20 ⟨mn,ma,ml,mc,mb,mm,md⟩ (mdV a b)):=G20
    clear G20
    go_upto_region 6 with fail
    refine nm_alloc ?_
    intro w21 hE hB0 hz
    have hz_w21:=nle hz
    have hr_w21:=nle hz.symm
    clear hz
    replace HX:=hE.tr HX
    replace HS:=Hi (HS.out.ext hE)
    replace HT:=Hi (HT.out.ext hE)
    replace LA:=Hi (LA.out.ext hE)
    replace B4:=hE.bl B4
    replace GM:=Hi (GM.out.ext hE)
    have hs_w21:=hE.size
    clear hE
    try clear c_B4 f_B4 l_B4
    obtain ⟨c_B4,f_B4,l_B4⟩:=blk3 B4.out
    have B8:=Hi hB0
    clear hB0
    obtain ⟨c_B8,f_B8,l_B8⟩:=blk3 B8.out
    go_wp2_with fail
    rw [HE1.out]
    refine Calls.mono (IH.out d rfl (e+1) (by omega) ao n cap l ⟨sn,sa,sl,sc,sb,sm',sd⟩ ⟨mn,ma,ml,mc,mb,mm,md⟩ a (mdV a b) S _ LA.out HS.out GM.out hn h8 HZ.out hS DA2.out DM.out HM1.out) ?_
    rintro e w29 ⟨x29,rfl,hE,g29⟩
    have G29:=Hi g29
    clear g29
    replace HX:=hE.tr HX
    replace HS:=Hi (HS.out.ext hE)
    replace HT:=Hi (HT.out.ext hE)
    replace LA:=Hi (LA.out.ext hE)
    replace B4:=hE.bl B4
    replace GM:=Hi (GM.out.ext hE)
    replace B8:=hE.bl B8
    have hs_w29:=hE.size
    clear hE
    try clear c_B4 f_B4 l_B4
    obtain ⟨c_B4,f_B4,l_B4⟩:=blk3 B4.out
    try clear c_B8 f_B8 l_B8
    obtain ⟨c_B8,f_B8,l_B8⟩:=blk3 B8.out
    obtain ⟨⟨ya,yn,yc⟩,yb⟩:=x29
    rcases hc1:rcl d (tz l) a (mdV a b) with _ | xs
    case none =>
      have HV:Hid (rcl (d+1) (tz l) a b=none):=Hi (by unfold rcl;rw [HPV.out,hc1];rfl)
      rw [hc1] at G29
      have hx:=G29.out
      unfold RcO at hx
      simp only [Prod.mk.injEq,SH.mk.injEq] at hx
      obtain ⟨⟨rfl,rfl,rfl⟩,rfl⟩:=hx
      clear G29 hc1
      go_wp2
      exact bodyPost_ret (v:=RcT (⟨none,0,0⟩,false)) (by simp [results,Tryz.results96,go_sem]) rfl ⟨(⟨none,0,0⟩,false),rfl,HX.out,by rw [HV.out];rfl⟩
    have HC1:=Hi hc1
    rw [hc1] at G29
    obtain ⟨hy,ho⟩:=G29.out
    simp only at hy ho
    subst hy
    have hsz20:w.heap.size≤w21.heap.size:=by omega
    have HO:Hid (OwnI w29 (w.heap.size≤·) (.slice ya yn yc) yn xs):=Hi (ho.mono (fun k _ h=>Nat.le_trans hsz20 h))
    clear G29 hc1 ho
    go_wp2_with fail
    rw [HE1.out]
    refine Calls.mono (IH.out d rfl (e+1) (by omega) ao n cap l ⟨mn,ma,ml,mc,mb,mm,md⟩ ⟨tn,ta,tl,tc,tb,tm,td⟩ (mdV a b) b S _ LA.out GM.out HT.out hn h8 HZ.out hS DM.out DB2.out HM2.out) ?_
    rintro e w42 ⟨x42,rfl,hE,g42⟩
    have G42:=Hi g42
    clear g42
    replace HX:=hE.tr HX
    replace HS:=Hi (HS.out.ext hE)
    replace HT:=Hi (HT.out.ext hE)
    replace LA:=Hi (LA.out.ext hE)
    replace B4:=hE.bl B4
    replace GM:=Hi (GM.out.ext hE)
    replace B8:=hE.bl B8
    replace HO:=Hi (HO.out.ext hE)
    have hs_w42:=hE.size
    clear hE
    try clear c_B4 f_B4 l_B4
    obtain ⟨c_B4,f_B4,l_B4⟩:=blk3 B4.out
    try clear c_B8 f_B8 l_B8
    obtain ⟨c_B8,f_B8,l_B8⟩:=blk3 B8.out
    obtain ⟨⟨ua,un,uc⟩,ub⟩:=x42
    rcases hc2:rcl d (tz l) (mdV a b) b with _ | ys
    case none =>
      have HV:Hid (rcl (d+1) (tz l) a b=none):=Hi (by unfold rcl;rw [HPV.out,HC1.out,hc2];rfl)
      rw [hc2] at G42
      have hx:=G42.out
      unfold RcO at hx
      simp only [Prod.mk.injEq,SH.mk.injEq] at hx
      obtain ⟨⟨rfl,rfl,rfl⟩,rfl⟩:=hx
      clear G42 hc2
      go_wp2
      exact bodyPost_ret (v:=RcT (⟨none,0,0⟩,false)) (by simp [results,Tryz.results96,go_sem]) rfl ⟨(⟨none,0,0⟩,false),rfl,HX.out,by rw [HV.out];rfl⟩
    have HC2:=Hi hc2
    have HV:Hid (rcl (d+1) (tz l) a b=some (xs ++ ys)):=Hi (by unfold rcl;rw [HPV.out,HC1.out,hc2];rfl)
    rw [hc2] at G42
    obtain ⟨hy,ho⟩:=G42.out
    simp only at hy ho
    subst hy
    have hyl:=ho.len
    have hyr:=rcl_len d HC2.out
    have hxl:=HO.out.len
    have hxr:=rcl_len d HC1.out
    have h2d : 2 ^ d ≤ 4096 := by have := Nat.pow_le_pow_right (show 0 < 2 by decide) (show d ≤ 12 by omega); have h : (2 : Nat) ^ 12 = 4096 := by decide
                                  omega
    have hyp:0 < un:=by
      have:=(rcl_ck d HC2.out).2.1
      rcases Nat.eq_zero_or_pos un with h | h
      · rw [h,Nat.zero_mul] at hyl;exact absurd (List.length_eq_zero_iff.1 hyl) this
      · exact h
    have hyn1:yn≤4096:=by omega
    have hun1:un≤4096:=by omega
    obtain ⟨L,cap2,rs2,he2,hDL,hat2,hvl2,hln2⟩:=ho.open hyp
    simp only [SH.v,Value.slice.injEq] at he2
    obtain ⟨rfl,-,rfl⟩:=he2
    have HA2:=Hi hat2
    have HV2:=Hi hvl2
    have HL2:=Hi hln2
    clear G42 hc2 ho hat2 hvl2 hln2 hyl hyr hxl hxr h2d hDL
    go_wp2_with (at_builtin;refine wpList_append_i rfl (.tmp 47) (.tmp 48) 46 Tryz.underlying46 rfl (w.heap.size≤·) _ yn xs L 0 un uc rs2 ys rfl HO.out rfl HL2.out hyp HA2.out HV2.out (by omega) (by omega) (fun k hk=>by show w.heap.size≤k;omega) ?_;intro s' y3 q1 q2 q3)
    have HX3:=Hi (Ext.mods HX.out q2 (fun k h=>h))
    have HO3:=Hi q1
    clear q1 q2 q3
    go_wp2
    have hn':s'.n=yn+un:=(OwnI.can HO3.out).1
    exact bodyPost_ret (v:=RcT (s',true)) (by simp [results,Tryz.results96,go_sem]) rfl ⟨(s',true),rfl,HX3.out,by rw [HV.out];exact RcO.some' rfl (by show OwnI _ _ _ s'.n _;rw [hn'];exact HO3.out)⟩
theorem rcells_any (d:Nat):RclP d:=by
 induction d with
 | zero=>exact rcells_step 0 (fun d' h=>by omega)
 | succ d ih =>
  refine rcells_step (d+1) (fun d' h=>?_)
  obtain rfl:d=d':=by omega
  exact ih
end Go.Proofs.YtpieblkklbilgaaGreat
/- Lists of intervals of one's own that are changed. -/
set_option linter.unusedVariables false
namespace Go.Proofs.YtpieblkklbilgaaGreat
open Go.RowKit Go.Front Go.Num Stab
attribute [local go_sem] XW.cell XW.frozen
theorem nm_iv {w1:World} {L:Nat} {rs:List RH} {re:Array Value} {k:Nat} {F:World→Prop} {n1 n2:Bool} {a1 b1 a2 b2:Option Addr} {u1 c1 m1 d1 u2 c2 m2 d2:Nat} (h:IBk w1 L rs re) (hre:re.toList.all nonU=true) (hk:2 * k+1 < rs.length)
  (H:∀ w2 cs,PutB w1 L 44 cs w2→IBk w2 L ((rs.set (2 * k) ⟨n1,a1,u1,c1,b1,m1,d1⟩).set (2 * k+1) ⟨n2,a2,u2,c2,b2,m2,d2⟩) re→F w2) :
  F ((((((w1.setCell ⟨L,k * 6,none⟩ (.bool n1)).setCell ⟨L,k * 6+1,none⟩ (.slice a1 u1 c1)).setCell ⟨L,k * 6+2,none⟩ (.slice b1 m1 d1)).setCell ⟨L,k * 6+3,none⟩ (.bool n2)).setCell ⟨L,k * 6+4,none⟩ (.slice a2 u2 c2)).setCell ⟨L,k * 6+5,none⟩ (.slice b2 m2 d2)):=by
 have e:=blk_set (blk_set (blk_set (blk_set (blk_set (blk_set h (k * 6) (.bool n1)) (k * 6+1) (.slice a1 u1 c1)) (k * 6+2) (.slice b1 m1 d1)) (k * 6+3) (.bool n2)) (k * 6+4) (.slice a2 u2 c2)) (k * 6+5) (.slice b2 m2 d2)
 have hl:=rcells_length rs
 have hc:(((((((rcells rs).toArray ++ re).setIfInBounds (k * 6) (.bool n1)).setIfInBounds (k * 6+1) (.slice a1 u1 c1)).setIfInBounds (k * 6+2) (.slice b1 m1 d1)).setIfInBounds (k * 6+3) (.bool n2)).setIfInBounds (k * 6+4) (.slice a2 u2 c2)).setIfInBounds (k * 6+5) (.slice b2 m2 d2)=(rcells ((rs.set (2 * k) ⟨n1,a1,u1,c1,b1,m1,d1⟩).set (2 * k+1) ⟨n2,a2,u2,c2,b2,m2,d2⟩)).toArray ++ re:=by
  apply Array.ext'
  rw [rcells_set,rcells_set,show 2 * k * 3=k * 6 by omega,show (2 * k+1) * 3=k * 6+3 by omega]
  simp only [Array.toList_setIfInBounds,Array.toList_append]
  rw [List.set_append_left _ _ (by omega),List.set_append_left _ _ (by rw [List.length_set];omega),List.set_append_left _ _ (by rw [List.length_set,List.length_set];omega),List.set_append_left _ _ (by rw [List.length_set,List.length_set,List.length_set];omega),List.set_append_left _ _ (by rw [List.length_set,List.length_set,List.length_set,List.length_set];omega),List.set_append_left _ _ (by rw [List.length_set,List.length_set,List.length_set,List.length_set,List.length_set];omega)]
 rw [hc] at e
 exact H _ _ (PutB.of h.lt (h.noU hre) ((((((Mods.setCell w1 ⟨L,k * 6,none⟩ _).trans (Mods.setCell _ ⟨L,k * 6+1,none⟩ _)).trans (Mods.setCell _ ⟨L,k * 6+2,none⟩ _)).trans (Mods.setCell _ ⟨L,k * 6+3,none⟩ _)).trans (Mods.setCell _ ⟨L,k * 6+4,none⟩ _)).trans (Mods.setCell _ ⟨L,k * 6+5,none⟩ _)) (by simp [World.setCell]) e) e
theorem nm_ivhi {w1:World} {L:Nat} {rs:List RH} {re:Array Value} {k:Nat} {F:World→Prop} {n2:Bool} {a2 b2:Option Addr} {u2 c2 m2 d2:Nat} (h:IBk w1 L rs re) (hre:re.toList.all nonU=true) (hk:2 * k+1 < rs.length)
  (H:∀ w2 cs,PutB w1 L 44 cs w2→IBk w2 L (rs.set (2 * k+1) ⟨n2,a2,u2,c2,b2,m2,d2⟩) re→F w2) :
  F (((w1.setCell ⟨L,k * 6+3,none⟩ (.bool n2)).setCell ⟨L,k * 6+4,none⟩ (.slice a2 u2 c2)).setCell ⟨L,k * 6+5,none⟩ (.slice b2 m2 d2)):=by
 have e:=blk_set (blk_set (blk_set h (k * 6+3) (.bool n2)) (k * 6+4) (.slice a2 u2 c2)) (k * 6+5) (.slice b2 m2 d2)
 have hl:=rcells_length rs
 have hc:((((rcells rs).toArray ++ re).setIfInBounds (k * 6+3) (.bool n2)).setIfInBounds (k * 6+4) (.slice a2 u2 c2)).setIfInBounds (k * 6+5) (.slice b2 m2 d2)=(rcells (rs.set (2 * k+1) ⟨n2,a2,u2,c2,b2,m2,d2⟩)).toArray ++ re:=by
  apply Array.ext'
  rw [rcells_set,show (2 * k+1) * 3=k * 6+3 by omega]
  simp only [Array.toList_setIfInBounds,Array.toList_append]
  rw [List.set_append_left _ _ (by omega),List.set_append_left _ _ (by rw [List.length_set];omega),List.set_append_left _ _ (by rw [List.length_set,List.length_set];omega)]
 rw [hc] at e
 exact H _ _ (PutB.of h.lt (h.noU hre) (((Mods.setCell w1 ⟨L,k * 6+3,none⟩ _).trans (Mods.setCell _ ⟨L,k * 6+4,none⟩ _)).trans (Mods.setCell _ ⟨L,k * 6+5,none⟩ _)) (by simp [World.setCell]) e) e
theorem OwnI.bk {w:World} {D:Nat→Prop} {v:Value} {n:Nat} {qs:List Rat} (h:OwnI w D v n qs) (h0:0 < n):∃ L cap rs re,v=.slice (some ⟨L,0,none⟩) n cap∧D L∧IBk w L rs re∧re.toList.all nonU=true∧Vals CanR w rs qs∧rs.length=n * 2∧n≤cap∧cap≤9223372036854775807:=by
 obtain ⟨rs,h1,h2⟩:=h
 rcases h1 with ⟨-,-,rfl⟩ | ⟨L,cap,re,h3,h4,h5,h6,h7,h8,h9,h10⟩
 ·omega
 ·exact ⟨L,cap,rs,re,h3,h4,h5,h10,h2,h6,h7,h8⟩
theorem IBk.cil {w:World} {L n cap:Nat} {rs:List RH} {re:Array Value} {qs:List Rat} (h:IBk w L rs re) (hv:Vals CanR w rs qs) (hl:rs.length=n * 2) (hc:n≤cap) (hm:cap≤9223372036854775807):CanIL w ⟨some ⟨L,0,none⟩,n,cap⟩ qs :=
 ⟨rs,⟨hl,hc,hm,Or.inr ⟨L,0,rfl,fun k hk=>by rw [Nat.zero_add];exact h.at (by rw [hl];exact hk)⟩⟩,hv⟩
theorem OwnI.only {w:World} {D:Nat→Prop} {L n cap:Nat} {qs:List Rat} (h:OwnI w D (.slice (some ⟨L,0,none⟩) n cap) n qs):OwnI w (fun k=>k=L) (.slice (some ⟨L,0,none⟩) n cap) n qs:=by
 obtain ⟨rs,h1,h2⟩:=h
 rcases h1 with ⟨e,-,-⟩ | ⟨L',cap',re,h3,h4,h5⟩
 ·cases e
 ·have e:=h3
  simp only [Value.slice.injEq,Option.some.injEq,Addr.mk.injEq,and_true,true_and] at e
  obtain ⟨rfl,rfl⟩:=e
  exact ⟨rs,Or.inr ⟨L,cap,re,rfl,rfl,h5⟩,h2⟩
def swp (qs:List Rat) (k:Nat):List Rat:=(qs.set (2 * k) (qs.getD (2 * k+1) 0)).set (2 * k+1) (qs.getD (2 * k) 0)
def inc (qs:List Rat) (k:Nat) (d:Rat):List Rat:=qs.set (2 * k+1) (qs.getD (2 * k+1) 0+d)
theorem szl_set {T:Nat} {qs:List Rat} {x:Rat} (h:SzL T qs) (hx:Sz T x) (k:Nat):SzL T (qs.set k x):=by
 intro y hy
 rcases List.mem_or_eq_of_mem_set hy with h4 | h4
 ·exact h y h4
 ·rw [h4];exact hx
theorem swp_sz {T:Nat} {qs:List Rat} (hT:1≤T) (h:SzL T qs) (k:Nat):SzL T (swp qs k):=szl_set (szl_set h (h.getD hT _) _) (h.getD hT _) _
theorem inc_sz {T:Nat} {qs:List Rat} {d:Rat} (hT:1≤T) (h:SzL T qs) (hd:Sz 1 d) (k:Nat):SzL (T+2) (inc qs k d):=szl_set (h.mono (by omega)) ((h.getD hT _).add hd) _
theorem IvS.take {w:World} {ao:Option Addr} {n c:Nat} {rs:List RH} (h:IvS w ⟨ao,n,c⟩ rs) {m:Nat} (hm:m≤n):IvS w ⟨ao,m,c⟩ (rs.take (m * 2)):=by
 have h1:=h.len
 have h2:=h.le
 simp only at h1 h2
 refine ⟨by rw [List.length_take,h1];exact Nat.min_eq_left (by omega),Nat.le_trans hm h2,h.max,?_⟩
 rcases h.at' with h0 | ⟨b,off,h3,h4⟩
 ·left;simp only at *;omega
 ·right
  refine ⟨b,off,h3,fun k hk=>?_⟩
  have:=h4 k (by simp only at hk ⊢;omega)
  simp only at hk
  rw [show (rs.take (m * 2)).getD k default=rs.getD k default by simp [hk]]
  exact this
theorem IvS.drop {w:World} {b off n c:Nat} {rs:List RH} (h:IvS w ⟨some ⟨b,off,none⟩,n,c⟩ rs) {m:Nat} (hm:m≤n):IvS w ⟨some ⟨b,off+m * 6,none⟩,n - m,c - m⟩ (rs.drop (m * 2)):=by
 have h1:=h.len
 have h2:=h.le
 have h3:=h.max
 simp only at h1 h2 h3
 refine ⟨by rw [List.length_drop,h1];simp only;omega,by simp only;omega,by simp only;omega,?_⟩
 rcases h.at' with h0 | ⟨b',off',h3,h4⟩
 ·left;simp only at *;omega
 ·simp only [Option.some.injEq,Addr.mk.injEq] at h3
  obtain ⟨rfl,rfl,-⟩:=h3
  right
  refine ⟨b,off+m * 6,rfl,fun k hk=>?_⟩
  simp only at hk
  have:=h4 (m * 2+k) (by simp only;omega)
  rw [show (rs.drop (m * 2)).getD k default=rs.getD (m * 2+k) default by simp [List.getD_eq_getElem?_getD,List.getElem?_drop]]
  rw [show off+(m * 2+k) * 3=off+m * 6+k * 3 by omega] at this
  exact this
theorem Vals.drop {P:World→RH→Rat→Prop} {w:World} {rs:List RH} {qs:List Rat} (h:Vals P w rs qs) (m:Nat):Vals P w (rs.drop m) (qs.drop m):=by
 refine ⟨by simp [h.1],fun k hk=>?_⟩
 simp only [List.length_drop] at hk
 rw [show (rs.drop m).getD k default=rs.getD (m+k) default by simp [List.getD_eq_getElem?_getD,List.getElem?_drop],show (qs.drop m).getD k 0=qs.getD (m+k) 0 by simp [List.getD_eq_getElem?_getD,List.getElem?_drop]]
 exact h.2 (m+k) (by omega)
theorem OwnIL.shp {w:World} {D:Nat→Prop} {v:Value} {n:Nat} {rs:List RH} (h:OwnIL w D v n rs):∃ a c,v=.slice a n c∧n≤c:=by
 rcases h with ⟨rfl,-,rfl⟩ | ⟨L,cap,re,rfl,-,-,-,h,-⟩
 ·exact ⟨none,0,rfl,Nat.le_refl _⟩
 ·exact ⟨_,_,rfl,h⟩
theorem run_append_ivs (T ty:TypeId) (hT:Tryz.prog.underlying T=some (.slice 44)) (w:World) (D:Nat→Prop) (v:Value) (n:Nat) (rs:List RH) (x:SH) (ns:List RH) (hown:OwnIL w D v n rs) (hx:IvS w x ns) (hl:n≤536870912) (hlm:x.n≤536870912) (hD:∀ k,w.heap.size≤k→D k) :
  ∃ s' w',(Builtin.append_ #[T,T] ty #[v,x.v]).run Tryz.prog w=.ok (SH.v s') w'∧OwnIL w' D s'.v (n+x.n) (rs ++ ns)∧Mods D w w'∧Keep w w':=by
 obtain ⟨xa,m,c⟩:=x
 have hm:=hx.len
 simp only at hm hlm
 rcases Nat.eq_zero_or_pos m with h0 | h0
 ·subst h0
  obtain ⟨i0,hi0,hz0,hz1,hz2⟩:=info_parts infoI
  obtain ⟨a,cc,rfl,hac⟩:=hown.shp
  have hns:ns=[]:=List.length_eq_zero_iff.1 (by omega)
  subst hns
  refine ⟨⟨a,n,cc⟩,w,run_append_zero hT hi0 a xa n cc c hac,?_,Mods.refl _ _,Keep.refl _⟩
  rw [List.append_nil]
  exact hown
 ·rcases hx.at' with h1 | ⟨b,off,h1,h2⟩
  ·simp only at h1;omega
  ·simp only at h1 h2
   subst h1
   obtain ⟨L,cap,w',hr,g1,g2,g3⟩:=run_append_iv T ty hT w D v n rs b off m c ns hown hm h0 h2 hl hlm hD
   exact ⟨⟨some ⟨L,0,none⟩,n+m,cap⟩,w',hr,g1,g2,g3⟩
theorem wpList_append_il {w:World} {ops:Array Oper} {rest:List Oper} {o:Oper} {a:Act} {Q:Exit→Act→World→Prop} (hgd:o.guard=none) (s x:Operand) (T:TypeId) (hT:Tryz.prog.underlying T=some (.slice 44))
  (ho:o.op=.call { callee:=.builtin .append,args:=#[s,x],argTypes:=#[T,T] }) (D:Nat→Prop) (v:Value) (n:Nat) (qs:List Rat) (y:SH) (ps:List Rat) (hs:a.eval s=v) (hown:OwnI w D v n qs)
  (hx:a.eval x=y.v) (hy:CanIL w y ps) (hl:n≤536870912) (hlm:y.n≤536870912) (hD:∀ k,w.heap.size≤k→D k)
  (h:∀ (s':SH) w',OwnI w' D s'.v (n+y.n) (qs ++ ps)→Mods D w w'→Keep w w'→wpList Tryz.prog ops Q rest (a.put o.dst s'.v) w'):wpList Tryz.prog ops Q (o :: rest) a w:=by
 obtain ⟨rs,h1,h2⟩:=hown
 obtain ⟨ns,h3,h4⟩:=hy
 refine wpList_plain hgd fun K hK=>?_
 obtain ⟨s',w',hrun,g1,g2,g3⟩:=run_append_ivs T o.type hT w D v n rs y ns h1 h3 hl hlm hD
 unfold Oper.wp
 simp [execOp,ho,resolve,invoke,builtin,hs,hx,hrun,Result.andThen]
 exact hK _ _ (h s' w' ⟨_,g1,(h2.app h4).keep g3⟩ g2 g3)
theorem spec_append_il {o:Oper} {a:Act} {w:World} (s x:Operand) (T:TypeId) (hT:Tryz.prog.underlying T=some (.slice 44)) (ho:o.op=.call { callee:=.builtin .append,args:=#[s,x],argTypes:=#[T,T] }) (y:SH) (ps:List Rat) (B:Nat) (hB:B≤w.heap.size) (hy:CanIL w y ps) (hn:y.n≤536870912)
  (hs:a.eval s=.slice none 0 0) (hx:a.eval x=y.v) :
  specAt Tryz.prog o a w SH.v (fun x w'=>OwnI w' (B≤·) x.v y.n ps):=by
 obtain ⟨ns,h3,h4⟩:=hy
 obtain ⟨s',w',hr,g1,g2,g3⟩:=run_append_ivs T o.type hT w (w.heap.size≤·) (.slice none 0 0) 0 [] y ns (OwnIL.nil _ _) h3 (by decide) hn (fun k hk=>hk)
 have hrun:(execOp a.eval o).run Tryz.prog w=.ok (.value s'.v) w':=by simp [execOp,ho,resolve,invoke,builtin,hs,hx,hr,Result.andThen]
 unfold specAt
 rw [hrun]
 rw [Nat.zero_add,List.nil_append] at g1
 exact ⟨Ext.mods (Ext.refl w) g2 (fun k h=>h),s',rfl,ns,g1.mono (fun k _ h=>Nat.le_trans hB h),h4.keep g3⟩
end Go.Proofs.YtpieblkklbilgaaGreat
/- Bound of the reference 07; Same of zeros. -/
set_option linter.unusedVariables false
namespace Go.Proofs.YtpieblkklbilgaaGreat
open Go.RowKit Go.Front Go.Num Stab
attribute [local go_sem] XW.cell XW.frozen
end Go.Proofs.YtpieblkklbilgaaGreat
