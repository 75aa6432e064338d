/- Range, positive, bound, Bound of the reference 07. -/
import Derived.Test.YtpieblkklbilgaaGreatQOBdf
import Derived.Test.YtpieblkklbilgaaGreatQOQL
import Derived.Test.YtpieblkklbilgaaGreatQOR5b
set_option linter.unusedVariables false
set_option maxRecDepth 8000
set_option maxHeartbeats 8000000
namespace Go.Proofs.YtpieblkklbilgaaGreat
open Go.RowKit Go.Front Go.Num Stab
attribute [local go_sem] XW.cell XW.frozen
theorem run_field_lo (a b c d e f:Value) (w:World):(Instr.field 44 (.agg #[a,b,c,d,e,f]) 0).run Tryz.prog w=.ok (.agg #[a,b,c]) w:=by
 simp [Instr.field,asAgg,go_sem]
theorem run_field_hi (a b c d e f:Value) (w:World):(Instr.field 44 (.agg #[a,b,c,d,e,f]) 1).run Tryz.prog w=.ok (.agg #[d,e,f]) w:=by
 simp [Instr.field,asAgg,go_sem]
attribute [local go_sem] run_field_lo run_field_hi
theorem rcoef7_all (ao:Option Addr) (n cap:Nat) (l:List Rat) (s t:RH) (a b:Rat) (S T:Nat) (w:World) (h:RawL w ⟨ao,n,cap⟩ l) (hs:RawR w s a) (ht:RawR w t b) (hn:n≤1000) (h8:(tz l).length≤8) (hz:FrB S (tz l)) (za:Sz T a) (zb:Sz T b) (hS:S≤100) (hT1:1≤T) (hT:T≤60) :
  Does 47 [.slice ao n cap,IvV (s,t)] w SH.v (fun x w'=>NewL w.heap.size w' x (bcL (tz l) (loV a b) (hiV a b))):=by
 by_cases h0:tz l=[]
 ·refine (rcoef7_nil ao n cap l s t w h hn h0).imp (fun x w' hx=>?_)
  subst hx
  rw [h0]
  exact NewL.nil _ _
 ·exact rcoef7_any ao n cap l s t a b S T w h hs ht hn h0 h8 hz za zb hS hT1 hT
theorem bcL_szl {p:List Rat} {a b:Rat} {S T:Nat} (hp:SzL S p) (h8:p.length≤8) (za:Sz T a) (zb:Sz T b) (hab:a≤b):SzL (17 * S+112 * T+116) (bcL p a b):=by
 intro x hx
 rw [← cf_eq] at hx
 unfold cfV at hx
 obtain ⟨y,hy,rfl⟩:=List.mem_map.1 hx
 exact (((lcW_wz hp h8 za zb hab y hy).sz (by omega)).mul (lcK_inv_sz hp h8 za zb)).mono (by omega)
theorem loV_mn (m x:Rat):loV m x=mnF m x:=rfl
theorem hiV_mx (m x:Rat):hiV m x=mxF m x:=(mx_hi m x).symm
theorem lo_self (x:Rat):loV x x=x∧hiV x x=x:=by unfold loV hiV;constructor <;> split <;> rfl
theorem rrange7_any (ao:Option Addr) (n cap:Nat) (l:List Rat) (s t:RH) (a b:Rat) (S T:Nat) (w:World) (h:RawL w ⟨ao,n,cap⟩ l) (hs:RawR w s a) (ht:RawR w t b) (hn:n≤1000) (h8:(tz l).length≤8) (hz:FrB S (tz l)) (za:Sz T a) (zb:Sz T b) (hS:S≤100) (hT1:1≤T) (hT:T≤60) :
  Does 49 [.slice ao n cap,IvV (s,t)] w IvV (fun x w'=>IvC w' x (mnL (bcL (tz l) (loV a b) (hiV a b))) (mxL (bcL (tz l) (loV a b) (hiV a b)))):=by
 have HX:=Hi (Ext.refl w)
 have LA:=Hi h
 have HS:=Hi hs
 have HT:=Hi ht
 have HZ:=Hi hz
 have ZA:=Hi za
 have ZB:=Hi zb
 have HBZ:=Hi (bcL_szl hz.sz h8 (lo_sz za zb) (hi_sz za zb) (lo_hi a b))
 have HBL:=Hi (bcL_len (tz l) (loV a b) (hiV a b))
 obtain ⟨P,hP⟩:∃ P,P=(tz l).length:=⟨_,rfl⟩
 rw [← hP] at HBL
 have HPP:=Hi hP
 clear hP h hs ht hz za zb
 obtain ⟨sn,sa,sl,sc,sb,sm',sd⟩:=s
 obtain ⟨tn,ta,tl,tc,tb,tm,td⟩:=t
 unfold Does
 go_enter Tryz.func49,Tryz.ntmps49
 go_upto_region 1 with fail
 refine nm_alloc2 ?_
 intro w1 hE hB0 hB1 hz
 have hz_w1:=nle hz
 have hr_w1:=nle hz.symm
 clear hz
 replace HX:=hE.tr HX
 replace HS:=Hi (HS.out.ext hE)
 replace HT:=Hi (HT.out.ext hE)
 replace LA:=Hi (LA.out.ext hE)
 have hs_w1:=hE.size
 clear hE
 have B3:=Hi hB0
 clear hB0
 obtain ⟨c_B3,f_B3,l_B3⟩:=blk3 B3.out
 have B4:=Hi hB1
 clear hB1
 obtain ⟨c_B4,f_B4,l_B4⟩:=blk3 B4.out
 go_wp2_with fail
 refine Calls.mono (rcoef7_all ao n cap l ⟨sn,sa,sl,sc,sb,sm',sd⟩ ⟨tn,ta,tl,tc,tb,tm,td⟩ a b S T _ LA.out HS.out HT.out hn h8 HZ.out ZA.out ZB.out hS hT1 hT) ?_
 rintro e w11 ⟨x11,rfl,hE,g11⟩
 have G11:=Hi g11
 clear g11
 replace HX:=hE.tr HX
 replace HS:=Hi (HS.out.ext hE)
 replace HT:=Hi (HT.out.ext hE)
 replace LA:=Hi (LA.out.ext hE)
 replace B3:=hE.bl B3
 replace B4:=hE.bl B4
 have hs_w11:=hE.size
 clear hE
 try clear c_B3 f_B3 l_B3
 obtain ⟨c_B3,f_B3,l_B3⟩:=blk3 B3.out
 try clear c_B4 f_B4 l_B4
 obtain ⟨c_B4,f_B4,l_B4⟩:=blk3 B4.out
 obtain ⟨u,hu⟩:∃ u,u=bcL (tz l) (loV a b) (hiV a b):=⟨_,rfl⟩
 have HEU:=Hi hu.symm
 rw [← hu] at G11 HBZ HBL
 obtain ⟨ca,cn,cc⟩:=x11
 have hcn:cn=P:=by have:=G11.out.len;rw [HBL.out] at this;exact this.symm
 subst hcn
 have HC:Hid (LIn w11 ⟨ca,cn,cc⟩ u w1.heap.size w11.heap.size):=G11
 clear hu
 simp only [SH.v]
 clear LA
 clear HS
 clear HT
 have hle:=HC.out.can.le
 have hmx:=HC.out.can.max
 simp only at hle hmx
 by_cases h0:cn=0
 case pos =>
  subst h0
  have HV:Hid (mnL u=0∧mxL u=0):=Hi (by rw [List.length_eq_zero_iff.1 HBL.out];exact ⟨rfl,rfl⟩)
  go_wp2_with fail
  refine Calls.mono (rof3_any 0 _ (by decide) (by decide)) ?_
  rintro e w15 ⟨x15,rfl,hE,g15⟩
  have G15:=Hi g15
  clear g15
  replace HX:=hE.tr HX
  replace B3:=hE.bl B3
  replace B4:=hE.bl B4
  replace HC:=Hi (HC.out.ext hE)
  have hs_w15:=hE.size
  clear hE
  try clear c_B3 f_B3 l_B3
  obtain ⟨c_B3,f_B3,l_B3⟩:=blk3 B3.out
  try clear c_B4 f_B4 l_B4
  obtain ⟨c_B4,f_B4,l_B4⟩:=blk3 B4.out
  go_wp2_with fail
  refine Calls.mono (rof3_any 0 _ (by decide) (by decide)) ?_
  rintro e w16 ⟨x16,rfl,hE,g16⟩
  have G16:=Hi g16
  clear g16
  replace HX:=hE.tr HX
  replace B3:=hE.bl B3
  replace B4:=hE.bl B4
  replace HC:=Hi (HC.out.ext hE)
  replace G15:=Hi (G15.out.ext hE)
  have hs_w16:=hE.size
  clear hE
  try clear c_B3 f_B3 l_B3
  obtain ⟨c_B3,f_B3,l_B3⟩:=blk3 B3.out
  try clear c_B4 f_B4 l_B4
  obtain ⟨c_B4,f_B4,l_B4⟩:=blk3 B4.out
  go_wp2_with fail
  refine Calls.mono (ivmake4_any x15 x16 _ _ _ (G15.out.raw (Sz.int (by decide)) (by decide)) (G16.out.raw (Sz.int (by decide)) (by decide))) ?_
  rintro e w17 ⟨x17,rfl,hE,g17⟩
  have G17:=Hi g17
  clear g17
  replace HX:=hE.tr HX
  replace B3:=hE.bl B3
  replace B4:=hE.bl B4
  replace HC:=Hi (HC.out.ext hE)
  replace G15:=Hi (G15.out.ext hE)
  replace G16:=Hi (G16.out.ext hE)
  have hs_w17:=hE.size
  clear hE
  try clear c_B3 f_B3 l_B3
  obtain ⟨c_B3,f_B3,l_B3⟩:=blk3 B3.out
  try clear c_B4 f_B4 l_B4
  obtain ⟨c_B4,f_B4,l_B4⟩:=blk3 B4.out
  have HL:=Hi G17.out.1
  have HH:=Hi G17.out.2
  clear G17
  rw [(lo_self _).1] at HL
  rw [(lo_self _).2] at HH
  go_wp2
  refine nm_set6 (F:=fun W=>bodyPost _ _ _ _ _ W) B4.out rfl ?_
  intro w20 T
  replace HX:=Hi (T.ext HX.out (by omega))
  replace B3:=Hi (T.rest _ _ (by omega) B3.out)
  replace B4:=Hi (T.bx)
  replace HC:=Hi (HC.out.put T (by omega))
  replace G15:=Hi (G15.out.keep T.keep)
  replace G16:=Hi (G16.out.keep T.keep)
  replace HL:=Hi (HL.out.keep T.keep)
  replace HH:=Hi (HH.out.keep T.keep)
  have hs_w20:=nle T.size
  have hr_w20:=nle T.size.symm
  clear T
  try clear c_B3 f_B3 l_B3
  obtain ⟨c_B3,f_B3,l_B3⟩:=blk3 B3.out
  try clear c_B4 f_B4 l_B4
  obtain ⟨c_B4,f_B4,l_B4⟩:=blk3 B4.out
  exact bodyPost_ret (v:=IvV x17) (by simp [results,Tryz.results49,go_sem,c_B4]) rfl ⟨x17,rfl,HX.out,by rw [HEU.out,HV.out.1];exact HL.out,by rw [HEU.out,HV.out.2];exact HH.out⟩
 have hnb:((cn:Int) == 0)=false:=by rw [beq_eq_false_iff_ne];omega
 have hnI:(0:Int) < cn:=by omega
 obtain ⟨b,off,r,hao,hbl,⟨hc1,hc2,hc3⟩,hPr⟩:=HC.out.can.lin.celx (k:=0) (by omega)
 obtain ⟨rneg,ra,rn,rc,rb,rm,rd⟩:=r
 simp only [Nat.zero_mul,Nat.add_zero] at hc1 hc2 hc3
 subst hao
 have RP:=Hi hPr
 have Z0:=Hi (HBZ.out.at (i:=0) (by rw [HBL.out];omega))
 clear hPr
 go_upto_region 4 with fail
 refine wp_region_front 8 (fun opIx=>match opIx with
  | 6=>.spec (RH × RH) (default) (IvV) (fun x w'=>IvC w' x (mnA u 0) (mxA u 0))
  | 7=>.alloc 44 #[.bool false,.slice none 0 0,.slice none 0 0,.bool false,.slice none 0 0,.slice none 0 0]
  | _=>.quiet) (fun _=>[]) (by kernel_rfl) (by kernel_rfl) (fun w0 he0 hz0 hc0 hf0=>?_)
 replace he0:=Hi he0
 simp only [pT]
 repeat (refine wpq fun K h=>?_;go_big_quiet_op;refine h _ ?_;clear h K)
 refine wps he0.out rfl rfl (fun w1 hW hG=>?_) fun x20=>?_
 ·exact spc [RH.v ⟨rneg,ra,rn,rc,rb,rm,rd⟩,RH.v ⟨rneg,ra,rn,rc,rb,rm,rd⟩] Tryz.func68 ((by have h:=ivmake4_any ⟨rneg,ra,rn,rc,rb,rm,rd⟩ ⟨rneg,ra,rn,rc,rb,rm,rd⟩ _ _ _ ((RP.out.ext hW).raw Z0.out (by omega)) ((RP.out.ext hW).raw Z0.out (by omega));rw [(lo_self _).1,(lo_self _).2] at h;exact h))
 simp only [pS]
 repeat (refine wpq fun K h=>?_;go_big_quiet_op;refine h _ ?_;clear h K)
 refine wpF_alloc rfl rfl (fun w=>by simp [execOp,go_sem,ptr]) (fun b6 hb6 hl6=>?_)
 simp only [pS]
 repeat (refine wpq fun K h=>?_;go_big_quiet_op;refine h _ ?_;clear h K)
 refine wpF_nil ?_
 intro w12 hI
 have hE:=he0.out.trans hI.ext
 have G20:=Hi ((hI.facts 6:Since _ _).get fun _ e g=>g.ext e)
 have A6:Hid (w12.heap[b6]?=some (.cells #[.bool false,.slice none 0 0,.slice none 0 0,.bool false,.slice none 0 0,.slice none 0 0] 44 (0,0))):=hI.facts 7
 rw [hz0] at hl6
 clear hI he0 hz0 hc0 hf0
 replace HX:=hE.tr HX
 replace B3:=hE.bl B3
 replace B4:=hE.bl B4
 replace HC:=Hi (HC.out.ext hE)
 have hs_w12:=hE.size
 clear hE
 try clear c_B3 f_B3 l_B3
 obtain ⟨c_B3,f_B3,l_B3⟩:=blk3 B3.out
 try clear c_B4 f_B4 l_B4
 obtain ⟨c_B4,f_B4,l_B4⟩:=blk3 B4.out
 obtain ⟨c_A6,f_A6,l_A6⟩:=blk3 A6.out
 simp only [pD,ptr]
 obtain ⟨⟨ln,la,ll,lc,lb,lm,ld⟩,⟨hn',ha,hl,hcc,hb,hm,hd⟩⟩:=x20
 have HL:=Hi G20.out.1
 have HH:=Hi G20.out.2
 clear G20
 simp only at HL HH
 go_upto_region 5 with fail
 refine nm_set6 A6.out rfl ?_
 intro w13 T
 replace HX:=Hi (T.ext HX.out (by omega))
 replace B3:=Hi (T.rest _ _ (by omega) B3.out)
 replace B4:=Hi (T.rest _ _ (by omega) B4.out)
 replace HC:=Hi (HC.out.put T (by omega))
 replace A6:=Hi (T.bx)
 replace HL:=Hi (HL.out.keep T.keep)
 replace HH:=Hi (HH.out.keep T.keep)
 have hs_w13:=nle T.size
 have hr_w13:=nle T.size.symm
 clear T
 try clear c_B3 f_B3 l_B3
 obtain ⟨c_B3,f_B3,l_B3⟩:=blk3 B3.out
 try clear c_B4 f_B4 l_B4
 obtain ⟨c_B4,f_B4,l_B4⟩:=blk3 B4.out
 try clear c_A6 f_A6 l_A6
 obtain ⟨c_A6,f_A6,l_A6⟩:=blk3 A6.out
 obtain ⟨b4,hb4⟩:∃ b,b=w.heap.size+1:=⟨_,rfl⟩
 have q4:w.heap.size≤b4:=by omega
 have q6:w.heap.size≤b6:=by omega
 have n46:b4 ≠ b6:=by omega
 have n4l:b4 < w1.heap.size:=by omega
 have n6l:w11.heap.size≤b6:=by omega
 rw [← hb4] at B4 ⊢
 have HAZ:Hid (∀ j,j≤cn→Sz (17 * S+112 * T+116) (mnA u j)∧Sz (17 * S+112 * T+116) (mxA u j)):=Hi (fun j hj=>let h:=mA_mem (l:=u) (fun e=>by have:=HBL.out;rw [e] at this;exact h0 this.symm) j (by rw [HBL.out];exact hj);⟨HBZ.out _ h.1,HBZ.out _ h.2⟩)
 have hbl2:=hbl
 clear hb4 c_B4 f_B4 l_B4 c_A6 f_A6 l_A6 c_B3 f_B3 l_B3 B3 hc1 hc2 hc3 RP Z0 hbl
 go_wp2
 go_loopg [27] cn (fun g i wr=>∃ (j:Nat) (x y:RH),j+g=cn∧i=.int .i64 (j:Nat)∧Ext w wr∧wr.heap[b4]?=some (.cells #[.bool false,.slice none 0 0,.slice none 0 0,.bool false,.slice none 0 0,.slice none 0 0] 44 (0,0))∧wr.heap[b6]?=some (.cells #[.bool x.neg,.slice x.a x.n x.c,.slice x.b x.m x.d,.bool y.neg,.slice y.a y.n y.c,.slice y.b y.m y.d] 44 (0,0))∧CanR wr x (mnA u j)∧CanR wr y (mxA u j)∧LIn wr ⟨some ⟨b,off,none⟩,cn,cc⟩ u w1.heap.size w11.heap.size)
 case atStart=>exact ⟨0,⟨ln,la,ll,lc,lb,lm,ld⟩,⟨hn',ha,hl,hcc,hb,hm,hd⟩,by omega,rfl,HX.out,B4.out,A6.out,HL.out,HH.out,HC.out⟩
 case round =>
  obtain ⟨j,⟨xn,xa,xl,xc,xb,xm,xd⟩,⟨yn,ya,yl,yc,yb,ym,yd⟩,hj,rfl,g1,g2,g3,g4,g5,g6⟩:=hrel
  clear HX B4 A6 HL HH HC
  have HX:=Hi g1
  have B4:=Hi g2
  have B6:=Hi g3
  have HL:=Hi g4
  have HH:=Hi g5
  have HC:=Hi g6
  clear g1 g2 g3 g4 g5 g6
  simp only at B6
  try clear c_B4 f_B4 l_B4
  obtain ⟨c_B4,f_B4,l_B4⟩:=blk3 B4.out
  try clear c_B6 f_B6 l_B6
  obtain ⟨c_B6,f_B6,l_B6⟩:=blk3 B6.out
  by_cases h1:gk=0
  case pos =>
   subst h1
   obtain rfl:j=cn:=by omega
   have hin:¬ (j:Int) < (j:Int):=by omega
   have HV:Hid (mnA u j=mnL u∧mxA u j=mxL u):=Hi ⟨mnA_all (by rw [HBL.out];exact Nat.le_refl _),mxA_all (by rw [HBL.out];exact Nat.le_refl _)⟩
   rw [HV.out.1] at HL
   rw [HV.out.2] at HH
   go_wp2
   refine nm_set6 (F:=fun W=>bodyPost _ _ _ _ _ W) B4.out rfl ?_
   intro w20 T
   replace HX:=Hi (T.ext HX.out (by omega))
   replace B4:=Hi (T.bx)
   replace B6:=Hi (T.rest _ _ (by omega) B6.out)
   replace HL:=Hi (HL.out.keep T.keep)
   replace HH:=Hi (HH.out.keep T.keep)
   replace HC:=Hi (HC.out.put T (by omega))
   have hs_w20:=nle T.size
   have hr_w20:=nle T.size.symm
   clear T
   try clear c_B4 f_B4 l_B4
   obtain ⟨c_B4,f_B4,l_B4⟩:=blk3 B4.out
   try clear c_B6 f_B6 l_B6
   obtain ⟨c_B6,f_B6,l_B6⟩:=blk3 B6.out
   exact bodyPost_ret (v:=IvV (⟨xn,xa,xl,xc,xb,xm,xd⟩,⟨yn,ya,yl,yc,yb,ym,yd⟩)) (by simp [results,Tryz.results49,go_sem,c_B4]) rfl ⟨(⟨xn,xa,xl,xc,xb,xm,xd⟩,⟨yn,ya,yl,yc,yb,ym,yd⟩),rfl,HX.out,by rw [HEU.out];exact HL.out,by rw [HEU.out];exact HH.out⟩
  obtain ⟨bv,off',r,hao,hbl,⟨hc1,hc2,hc3⟩,hP⟩:=HC.out.can.lin.celx (k:=j) (by omega)
  obtain ⟨rfl,rfl⟩:b=bv∧off=off':=by simpa using hao
  obtain ⟨tneg,ta,tn,tc,tb,tm,td⟩:=r
  simp only at hc1 hc2 hc3
  have RP:=Hi hP
  clear hP hao
  have hjn:(j:Int) < cn:=by omega
  have ZX:=Hi (HBZ.out.at (i:=j) (by rw [HBL.out];omega))
  have ZM:=Hi (HAZ.out j (by omega))
  have HS1:=Hi (mnA_step (l:=u) (j:=j) (by rw [HBL.out];omega))
  have HS2:=Hi (mxA_step (l:=u) (j:=j) (by rw [HBL.out];omega))
  have HLH:Hid (mnA u j≤mxA u j):=Hi (by
   rcases Nat.eq_zero_or_pos j with h | h
   ·subst h;exact Rat.le_refl
   ·have:=mA_le (l:=u) j (by rw [HBL.out];omega) 0 h;grind)
  obtain ⟨v,hv⟩:∃ v,v=u.getD j 0:=⟨_,rfl⟩
  rw [← hv] at RP ZX HS1 HS2
  clear hv
  have p6:b6 < wr.heap.size:=l_B6
  have p4:b4 < wr.heap.size:=l_B4
  go_upto_region 8 with fail
  refine nm_alloc ?_
  intro w20 hE hB0 hz
  have hz_w20:=nle hz
  have hr_w20:=nle hz.symm
  clear hz
  replace HX:=hE.tr HX
  replace B4:=hE.bl B4
  replace B6:=hE.bl B6
  replace HL:=Hi (HL.out.ext hE)
  replace HH:=Hi (HH.out.ext hE)
  replace HC:=Hi (HC.out.ext hE)
  replace RP:=Hi (RP.out.ext hE)
  have hs_w20:=hE.size
  clear hE
  try clear c_B4 f_B4 l_B4
  obtain ⟨c_B4,f_B4,l_B4⟩:=blk3 B4.out
  try clear c_B6 f_B6 l_B6
  obtain ⟨c_B6,f_B6,l_B6⟩:=blk3 B6.out
  have B8:=Hi hB0
  clear hB0
  obtain ⟨c_B8,f_B8,l_B8⟩:=blk3 B8.out
  clear hc1 hc2 hc3
  refine wp_region_front 5 (fun opIx=>match opIx with
   | 3=>.spec (RH × RH) (default) (IvV) (fun x w'=>IvC w' x v v)
   | 4=>.spec (RH × RH) (default) (IvV) (fun x w'=>IvC w' x (mnA u (j+1)) (mxA u (j+1)))
   | _=>.quiet) (fun | 4=>[3] | _=>[]) (by kernel_rfl) (by kernel_rfl) (fun w0 he0 hz0 hc0 hf0=>?_)
  replace he0:=Hi he0
  simp only [pT]
  repeat (refine wpq fun K h=>?_;go_big_quiet_op;refine h _ ?_;clear h K)
  refine wps he0.out rfl rfl (fun w1 hW hG=>?_) fun x40=>?_
  ·exact spc [RH.v ⟨tneg,ta,tn,tc,tb,tm,td⟩,RH.v ⟨tneg,ta,tn,tc,tb,tm,td⟩] Tryz.func68 ((by have h:=ivmake4_any ⟨tneg,ta,tn,tc,tb,tm,td⟩ ⟨tneg,ta,tn,tc,tb,tm,td⟩ _ _ _ ((RP.out.ext hW).raw ZX.out (by omega)) ((RP.out.ext hW).raw ZX.out (by omega));rw [(lo_self _).1,(lo_self _).2] at h;exact h))
  simp only [pS]
  repeat (refine wpq fun K h=>?_;go_big_quiet_op;refine h _ ?_;clear h K)
  refine wps he0.out rfl rfl (fun w1 hW hG=>?_) fun x41=>?_
  ·have g40:=(hG 3 (by decide):Since _ _).get fun _ e g=>g.ext e
   exact spc [IvV (⟨xn,xa,xl,xc,xb,xm,xd⟩,⟨yn,ya,yl,yc,yb,ym,yd⟩),IvV x40] Tryz.func120 ((by have h:=ivhull4_any ⟨xn,xa,xl,xc,xb,xm,xd⟩ ⟨yn,ya,yl,yc,yb,ym,yd⟩ x40.1 x40.2 (mnA u j) (mxA u j) v v (17 * S+112 * T+116) _ ((HL.out.ext hW).raw ZM.out.1 (by omega)) ((HH.out.ext hW).raw ZM.out.2 (by omega)) (g40.1.raw ZX.out (by omega)) (g40.2.raw ZX.out (by omega)) ZM.out.1 ZM.out.2 ZX.out ZX.out (by omega);rw [(lo_self v).1,(lo_self v).2,lo_of HLH.out,hi_of HLH.out,loV_mn,hiV_mx,← HS1.out,← HS2.out] at h;exact h))
  simp only [pS]
  repeat (refine wpq fun K h=>?_;go_big_quiet_op;refine h _ ?_;clear h K)
  refine wpF_nil ?_
  intro w21 hI
  have hE:=he0.out.trans hI.ext
  have G40:=Hi ((hI.facts 3:Since _ _).get fun _ e g=>g.ext e)
  have G41:=Hi ((hI.facts 4:Since _ _).get fun _ e g=>g.ext e)
  clear hI he0 hz0 hc0 hf0
  replace HX:=hE.tr HX
  replace B4:=hE.bl B4
  replace B6:=hE.bl B6
  replace HL:=Hi (HL.out.ext hE)
  replace HH:=Hi (HH.out.ext hE)
  replace HC:=Hi (HC.out.ext hE)
  replace RP:=Hi (RP.out.ext hE)
  replace B8:=hE.bl B8
  have hs_w21:=hE.size
  clear hE
  try clear c_B4 f_B4 l_B4
  obtain ⟨c_B4,f_B4,l_B4⟩:=blk3 B4.out
  try clear c_B6 f_B6 l_B6
  obtain ⟨c_B6,f_B6,l_B6⟩:=blk3 B6.out
  try clear c_B8 f_B8 l_B8
  obtain ⟨c_B8,f_B8,l_B8⟩:=blk3 B8.out
  simp only [pD]
  obtain ⟨⟨an,aa,al,ac,ab,am,ad⟩,⟨bn,ba,bl,bc,bb,bm,bd⟩⟩:=x41
  have HL2:=Hi G41.out.1
  have HH2:=Hi G41.out.2
  clear G40 G41
  simp only at HL2 HH2
  clear HL
  clear HH
  clear RP
  go_upto_region 9 with fail
  refine nm_set6 B6.out rfl ?_
  intro w22 T
  replace HX:=Hi (T.ext HX.out (by omega))
  replace B4:=Hi (T.rest _ _ (by omega) B4.out)
  replace B6:=Hi (T.bx)
  replace HC:=Hi (HC.out.put T (by omega))
  replace B8:=Hi (T.rest _ _ (by omega) B8.out)
  replace HL2:=Hi (HL2.out.keep T.keep)
  replace HH2:=Hi (HH2.out.keep T.keep)
  have hs_w22:=nle T.size
  have hr_w22:=nle T.size.symm
  clear T
  try clear c_B4 f_B4 l_B4
  obtain ⟨c_B4,f_B4,l_B4⟩:=blk3 B4.out
  try clear c_B6 f_B6 l_B6
  obtain ⟨c_B6,f_B6,l_B6⟩:=blk3 B6.out
  try clear c_B8 f_B8 l_B8
  obtain ⟨c_B8,f_B8,l_B8⟩:=blk3 B8.out
  go_wp2
  go_roundg (gk - 1)
  case measure=>omega
  case rel=>exact ⟨j+1,⟨an,aa,al,ac,ab,am,ad⟩,⟨bn,ba,bl,bc,bb,bm,bd⟩,by omega,by go_num,HX.out,B4.out,B6.out,HL2.out,HH2.out,HC.out⟩
theorem rpos7_any (ao:Option Addr) (n cap:Nat) (l:List Rat) (s t:RH) (a b:Rat) (S T:Nat) (w:World) (h:RawL w ⟨ao,n,cap⟩ l) (hs:RawR w s a) (ht:RawR w t b) (hn:n≤1000) (h8:(tz l).length≤8) (hz:FrB S (tz l)) (za:Sz T a) (zb:Sz T b) (hS:S≤100) (hT1:1≤T) (hT:T≤60) :
  Does 105 [.slice ao n cap,IvV (s,t)] w (fun _:Unit=>.bool (psV (tz l) (loV a b) (hiV a b))) (fun _ _=>True):=by
 have HX:=Hi (Ext.refl w)
 have LA:=Hi h
 have HS:=Hi hs
 have HT:=Hi ht
 have HZ:=Hi hz
 have ZA:=Hi za
 have ZB:=Hi zb
 have HBZ:=Hi (mL_sz (bcL_szl hz.sz h8 (lo_sz za zb) (hi_sz za zb) (lo_hi a b)) (by omega))
 obtain ⟨P,hP⟩:∃ P,P=(tz l).length:=⟨_,rfl⟩
 have HPP:=Hi hP
 clear h hs ht hz za zb
 obtain ⟨sn,sa,sl,sc,sb,sm',sd⟩:=s
 obtain ⟨tn,ta,tl,tc,tb,tm,td⟩:=t
 unfold Does
 go_enter Tryz.func105,Tryz.ntmps105
 go_upto_region 1 with fail
 refine nm_alloc ?_
 intro w1 hE hB0 hz
 have hz_w1:=nle hz
 have hr_w1:=nle hz.symm
 clear hz
 replace HX:=hE.tr HX
 replace HS:=Hi (HS.out.ext hE)
 replace HT:=Hi (HT.out.ext hE)
 replace LA:=Hi (LA.out.ext hE)
 have hs_w1:=hE.size
 clear hE
 have B3:=Hi hB0
 clear hB0
 obtain ⟨c_B3,f_B3,l_B3⟩:=blk3 B3.out
 go_wp2_with fail
 refine Calls.mono (degree5_any ao n cap l _ LA.out (by omega)) ?_
 rintro e w6 ⟨x6,rfl,hE,-⟩
 replace HX:=hE.tr HX
 replace HS:=Hi (HS.out.ext hE)
 replace HT:=Hi (HT.out.ext hE)
 replace LA:=Hi (LA.out.ext hE)
 replace B3:=hE.bl B3
 have hs_w6:=hE.size
 clear hE
 try clear c_B3 f_B3 l_B3
 obtain ⟨c_B3,f_B3,l_B3⟩:=blk3 B3.out
 rw [← hP]
 clear hP
 by_cases h0:P=0
 case pos =>
  subst h0
  have HV:Hid (psV (tz l) (loV a b) (hiV a b)=false):=Hi (by rw [List.length_eq_zero_iff.1 HPP.out.symm];rfl)
  have hneg:¬ (0:Int)≤((0:Nat):Int) - 1:=by decide
  go_wp2
  go_ret
  exact ⟨(),by rw [HV.out];rfl,HX.out,trivial⟩
 have hpos:(0:Int)≤(P:Int) - 1:=by omega
 have HV:Hid (psV (tz l) (loV a b) (hiV a b)=decide (0 < mnL (bcL (tz l) (loV a b) (hiV a b)))):=Hi (psV_ne (fun e=>h0 (by rw [HPP.out,e];rfl)) _ _)
 go_wp2_with fail
 refine Calls.mono (rrange7_any ao n cap l ⟨sn,sa,sl,sc,sb,sm',sd⟩ ⟨tn,ta,tl,tc,tb,tm,td⟩ a b S T _ LA.out HS.out HT.out hn h8 HZ.out ZA.out ZB.out hS hT1 hT) ?_
 rintro e w11 ⟨x11,rfl,hE,g11⟩
 have G11:=Hi g11
 clear g11
 replace HX:=hE.tr HX
 replace HS:=Hi (HS.out.ext hE)
 replace HT:=Hi (HT.out.ext hE)
 replace LA:=Hi (LA.out.ext hE)
 replace B3:=hE.bl B3
 have hs_w11:=hE.size
 clear hE
 try clear c_B3 f_B3 l_B3
 obtain ⟨c_B3,f_B3,l_B3⟩:=blk3 B3.out
 obtain ⟨⟨ln,la,ll,lc,lb,lm,ld⟩,⟨hn',ha,hl,hcc,hb,hm,hd⟩⟩:=x11
 have HL:=Hi G11.out.1
 clear G11
 simp only at HL
 obtain ⟨q,hq⟩:∃ q,q=mnL (bcL (tz l) (loV a b) (hiV a b)):=⟨_,rfl⟩
 rw [← hq] at HL HV HBZ
 clear hq
 go_wp2_with fail
 refine Calls.mono (rsign3_any ⟨ln,la,ll,lc,lb,lm,ld⟩ q _ (HL.out.raw HBZ.out.1 (by omega))) ?_
 rintro e w13 ⟨x13,rfl,hE,-⟩
 replace HX:=hE.tr HX
 replace HS:=Hi (HS.out.ext hE)
 replace HT:=Hi (HT.out.ext hE)
 replace LA:=Hi (LA.out.ext hE)
 replace B3:=hE.bl B3
 replace HL:=Hi (HL.out.ext hE)
 have hs_w13:=hE.size
 clear hE
 try clear c_B3 f_B3 l_B3
 obtain ⟨c_B3,f_B3,l_B3⟩:=blk3 B3.out
 have HD:Hid (decide (0 < q)=decide (0 < cmpR q 0)):=Hi (decide_eq_decide.2 cmpR_gt0.symm)
 obtain ⟨c,hc⟩:∃ c,c=cmpR q 0:=⟨_,rfl⟩
 rw [← hc] at HD ⊢
 clear hc
 go_wp2
 go_ret
 exact ⟨(),by rw [HV.out,HD.out];rfl,HX.out,trivial⟩
end Go.Proofs.YtpieblkklbilgaaGreat
