/- awake of chapter 20. -/
import Derived.Test.YtpieblkklbilgaaGreatQPRp4
import Derived.Test.YtpieblkklbilgaaGreatQPRp7
import Derived.Test.YtpieblkklbilgaaGreatQPM17
import Derived.Test.YtpieblkklbilgaaGreatQPM13
import Derived.Test.YtpieblkklbilgaaGreatQPR5b
set_option linter.unusedVariables false
namespace Go.Proofs.YtpieblkklbilgaaGreat
open Go.RowKit Go.Front Go.Num
attribute [local go_sem] XW.cell XW.frozen
theorem spec_bd1 {P:Program} {o:Oper} {a:Act} {w:World} {T:TypeId} (x:RH) (p:Rat) (hx:CanR w x p) (hT:T=30)
  (hrun:(execOp a.eval o).run P w=.ok (.value (.slice (some ⟨w.heap.size,0,none⟩) 1 1)) (w.alloc (.cells #[.bool x.neg,.slice x.a x.n x.c,.slice x.b x.m x.d] T))) :
  specAt P o a w (fun b:Nat=>.slice (some ⟨b,0,none⟩) 1 1) (fun b w'=>CanL w' ⟨some ⟨b,0,none⟩,1,1⟩ [p]):=by
 subst hT
 unfold specAt
 rw [hrun]
 exact ⟨Ext.alloc _ _,w.heap.size,rfl,canL_1 (heap_alloc_new _ _) (hx.ext (Ext.alloc _ _))⟩
theorem spec_bd2 {P:Program} {o:Oper} {a:Act} {w:World} {T:TypeId} (x y:RH) (p q:Rat) (hx:CanR w x p) (hy:CanR w y q) (hT:T=30)
  (hrun:(execOp a.eval o).run P w=.ok (.value (.slice (some ⟨w.heap.size,0,none⟩) 2 2)) (w.alloc (.cells #[.bool x.neg,.slice x.a x.n x.c,.slice x.b x.m x.d,.bool y.neg,.slice y.a y.n y.c,.slice y.b y.m y.d] T))) :
  specAt P o a w (fun b:Nat=>.slice (some ⟨b,0,none⟩) 2 2) (fun b w'=>CanL w' ⟨some ⟨b,0,none⟩,2,2⟩ [p,q]):=by
 subst hT
 unfold specAt
 rw [hrun]
 exact ⟨Ext.alloc _ _,w.heap.size,rfl,canL_2 (heap_alloc_new _ _) (hx.ext (Ext.alloc _ _)) (hy.ext (Ext.alloc _ _))⟩
theorem spec_bd3 {P:Program} {o:Oper} {a:Act} {w:World} {T:TypeId} (x y z:RH) (p q r:Rat) (hx:CanR w x p) (hy:CanR w y q) (hz:CanR w z r) (hT:T=30)
  (hrun:(execOp a.eval o).run P w=.ok (.value (.slice (some ⟨w.heap.size,0,none⟩) 3 3)) (w.alloc (.cells #[.bool x.neg,.slice x.a x.n x.c,.slice x.b x.m x.d,.bool y.neg,.slice y.a y.n y.c,.slice y.b y.m y.d,.bool z.neg,.slice z.a z.n z.c,.slice z.b z.m z.d] T))) :
  specAt P o a w (fun b:Nat=>.slice (some ⟨b,0,none⟩) 3 3) (fun b w'=>CanL w' ⟨some ⟨b,0,none⟩,3,3⟩ [p,q,r]):=by
 subst hT
 unfold specAt
 rw [hrun]
 exact ⟨Ext.alloc _ _,w.heap.size,rfl,canL_3 (heap_alloc_new _ _) (hx.ext (Ext.alloc _ _)) (hy.ext (Ext.alloc _ _)) (hz.ext (Ext.alloc _ _))⟩
set_option maxRecDepth 8000 in
set_option maxHeartbeats 8000000 in
theorem awake20_any (w:World):Does 54 [] w (fun _:Unit=>.bool true) (fun _ _=>True):=by
 have HX:=Hi (Ext.refl w)
 have Z1:Hid (SzL 1 [iq 1]):=Hi (szB (by decide +kernel))
 have Z2:Hid (SzL 1 [iq 1,fr (-1) 2]):=Hi (szB (by decide +kernel))
 have Z3:Hid (SzL 1 [iq 1,iq 1]):=Hi (szB (by decide +kernel))
 have F1:Hid (FrB 13 [iq 1]):=Hi ((FrB.of (n:=2) Z1.out (by decide)).mono (by decide))
 have F3:Hid (FrB 13 [iq 1,iq 1]):=Hi ((FrB.of (n:=2) Z3.out (by decide)).mono (by decide))
 have V1:Hid (impV [iq 1] [iq 1,fr (-1) 2] 3=(0,[iq 1,fr 1 2,fr 1 4])):=Hi (by decide +kernel)
 have V2:Hid (delV [iq 1,iq 1] [iq 1]=(0,[iq 1],[iq 2])):=Hi (by decide +kernel)
 have V3:Hid (decide (VF [iq 1] [iq 1,fr (-1) 2])=true):=Hi (by decide +kernel)
 have V4:Hid (([iq 1]:List Rat).getD 0 0 / ([iq 2]:List Rat).getD 0 0=fr 1 2):=Hi (by decide +kernel)
 have V5:Hid (((tz [iq 1]).length:Int) - 1=0):=Hi (by decide +kernel)
 have SA:Hid (Sz 1 (iq 1)):=Hi (Sz.int (by decide))
 have SB:Hid (Sz 1 (iq 2)):=Hi (Sz.int (by decide))
 unfold Does
 go_enter Tryz.func54,Tryz.ntmps54
 go_wp2_with fail
 refine Calls.mono (rof3_any 1 _ (by decide) (by decide)) ?_
 rintro e w1 ⟨x1,rfl,hE,g1⟩
 have G1:=Hi g1
 clear g1
 replace HX:=hE.tr HX
 have hs_w1:=hE.size
 clear hE
 go_upto_region 2 with fail
 refine nm_alloc ?_
 intro w2 hE hB0 hz
 have hz_w2:=nle hz
 have hr_w2:=nle hz.symm
 clear hz
 replace HX:=hE.tr HX
 replace G1:=Hi (G1.out.ext hE)
 have hs_w2:=hE.size
 clear hE
 have B1:=Hi hB0
 clear hB0
 obtain ⟨c_B1,f_B1,l_B1⟩:=blk3 B1.out
 refine wp_region_front 7 (fun opIx=>match opIx with
  | 1=>.spec (Nat) (0) (fun b=>.slice (some ⟨b,0,none⟩) 1 1) (fun b w'=>CanL w' ⟨some ⟨b,0,none⟩,1,1⟩ [iq 1])
  | 3=>.spec RH default RH.v (fun s w'=>CanR w' s (fr (-1) 2))
  | 4=>.spec (Nat) (0) (fun b=>.slice (some ⟨b,0,none⟩) 2 2) (fun b w'=>CanL w' ⟨some ⟨b,0,none⟩,2,2⟩ [iq 1,fr (-1) 2])
  | 6=>.alloc 80 #[.slice none 0 0,.slice none 0 0]
  | _=>.quiet) (fun | 4=>[3] | _=>[]) (by kernel_rfl) (by kernel_rfl) (fun w0 he0 hz0 hc0 hf0=>?_)
 replace he0:=Hi he0
 simp only [pT]
 repeat (refine wpq fun K h=>?_;go_big_quiet_op;refine h _ ?_;clear h K)
 refine wps he0.out rfl rfl (fun w1 hW hG=>?_) fun x21=>?_
 ·exact spec_bd1 x1 _ (G1.out.ext hW) rfl (by simp [execOp,go_sem])
 simp only [pS]
 repeat (refine wpq fun K h=>?_;go_big_quiet_op;refine h _ ?_;clear h K)
 refine wps he0.out rfl rfl (fun w1 hW hG=>?_) fun x22=>?_
 ·exact spc [.int .i64 (-1),.int .i64 2] Tryz.func31 (rfrac3_any (-1) 2 _ (by decide) (by decide) (by decide) (by decide))
 simp only [pS]
 repeat (refine wpq fun K h=>?_;go_big_quiet_op;refine h _ ?_;clear h K)
 refine wps he0.out rfl rfl (fun w1 hW hG=>?_) fun x23=>?_
 ·have g22:=(hG 3 (by decide):Since _ _).get fun _ e g=>g.ext e
  exact spec_bd2 x1 x22 _ _ (G1.out.ext hW) g22 rfl (by simp [execOp,go_sem])
 simp only [pS]
 repeat (refine wpq fun K h=>?_;go_big_quiet_op;refine h _ ?_;clear h K)
 refine wpF_alloc rfl rfl (fun w=>by simp [execOp,go_sem,ptr]) (fun b24 hb24 hl24=>?_)
 simp only [pS]
 repeat (refine wpq fun K h=>?_;go_big_quiet_op;refine h _ ?_;clear h K)
 refine wpF_nil ?_
 intro w3 hI
 have hE:=he0.out.trans hI.ext
 have G21:=Hi ((hI.facts 1:Since _ _).get fun _ e g=>g.ext e)
 have G22:=Hi ((hI.facts 3:Since _ _).get fun _ e g=>g.ext e)
 have G23:=Hi ((hI.facts 4:Since _ _).get fun _ e g=>g.ext e)
 have A24:Hid (w3.heap[b24]?=some (.cells #[.slice none 0 0,.slice none 0 0] 80 (0,0))):=hI.facts 6
 rw [hz0] at hl24
 clear hI he0 hz0 hc0 hf0
 replace HX:=hE.tr HX
 replace G1:=Hi (G1.out.ext hE)
 replace B1:=hE.bl B1
 have hs_w3:=hE.size
 clear hE
 try clear c_B1 f_B1 l_B1
 obtain ⟨c_B1,f_B1,l_B1⟩:=blk3 B1.out
 obtain ⟨c_A24,f_A24,l_A24⟩:=blk3 A24.out
 simp only [pD,ptr]
 go_upto_region 3 with fail
 refine nm_setF A24.out rfl ?_
 intro w4 T
 replace G21:=Hi (CanL.put2 G21.out A24.out T)
 replace G23:=Hi (CanL.put2 G23.out A24.out T)
 replace HX:=Hi (T.ext HX.out (by omega))
 replace G1:=Hi (G1.out.keep T.keep)
 replace B1:=Hi (T.rest _ _ (by omega) B1.out)
 replace G22:=Hi (G22.out.keep T.keep)
 replace A24:=Hi (T.bx)
 have hs_w4:=nle T.size
 have hr_w4:=nle T.size.symm
 clear T
 try clear c_B1 f_B1 l_B1
 obtain ⟨c_B1,f_B1,l_B1⟩:=blk3 B1.out
 try clear c_A24 f_A24 l_A24
 obtain ⟨c_A24,f_A24,l_A24⟩:=blk3 A24.out
 go_wp2_with fail
 refine Calls.mono (impulse20_any ⟨⟨some ⟨x21,0,none⟩,1,1⟩,⟨some ⟨x23,0,none⟩,2,2⟩⟩ [iq 1] [iq 1,fr (-1) 2] 3 1 1 _ ⟨G21.out.raw Z1.out (by decide),G23.out.raw Z2.out (by decide)⟩ (by show 1≤1000;decide) (by show 2≤1000;decide) (by decide) (by decide) Z1.out Z2.out (by decide) (by decide) (by decide) (by decide) (fun _ _=>by decide +kernel)) ?_
 rintro e w5 ⟨x5,rfl,hE,g5⟩
 have G5:=Hi g5
 clear g5
 replace HX:=hE.tr HX
 replace G1:=Hi (G1.out.ext hE)
 replace B1:=hE.bl B1
 replace G22:=Hi (G22.out.ext hE)
 replace A24:=hE.bl A24
 replace G21:=Hi (G21.out.ext hE)
 replace G23:=Hi (G23.out.ext hE)
 have hs_w5:=hE.size
 clear hE
 try clear c_B1 f_B1 l_B1
 obtain ⟨c_B1,f_B1,l_B1⟩:=blk3 B1.out
 try clear c_A24 f_A24 l_A24
 obtain ⟨c_A24,f_A24,l_A24⟩:=blk3 A24.out
 obtain ⟨⟨a5,n5,c5⟩,e5⟩:=x5
 obtain ⟨he,hl⟩:=G5.out
 rw [V1.out] at he hl
 simp only at he hl
 subst he
 have L5:=Hi hl
 clear hl G5
 simp only [RF,SH.v]
 go_wp2_with fail
 refine nm_alloc2 (F:=fun W=>Calls _ _ _ W _) ?_
 intro w6 hE hB0 hB1 hz
 have hz_w6:=nle hz
 have hr_w6:=nle hz.symm
 clear hz
 replace HX:=hE.tr HX
 replace G1:=Hi (G1.out.ext hE)
 replace B1:=hE.bl B1
 replace G22:=Hi (G22.out.ext hE)
 replace A24:=hE.bl A24
 replace G21:=Hi (G21.out.ext hE)
 replace G23:=Hi (G23.out.ext hE)
 replace L5:=Hi (L5.out.ext hE)
 have hs_w6:=hE.size
 clear hE
 try clear c_B1 f_B1 l_B1
 obtain ⟨c_B1,f_B1,l_B1⟩:=blk3 B1.out
 try clear c_A24 f_A24 l_A24
 obtain ⟨c_A24,f_A24,l_A24⟩:=blk3 A24.out
 have B22:=Hi hB0
 clear hB0
 obtain ⟨c_B22,f_B22,l_B22⟩:=blk3 B22.out
 have B24:=Hi hB1
 clear hB1
 obtain ⟨c_B24,f_B24,l_B24⟩:=blk3 B24.out
 change Calls _ _ _ _ _
 have L22:=Hi (canL_2 B22.out G1.out G1.out)
 have L24:=Hi (canL_1 B24.out G1.out)
 (try clear c_B22 f_B22 l_B22);clear B22
 (try clear c_B24 f_B24 l_B24);clear B24
 refine Calls.mono (delay20_any ⟨⟨some ⟨w5.heap.size,0,none⟩,2,2⟩,⟨some ⟨w5.heap.size+1,0,none⟩,1,1⟩⟩ [iq 1,iq 1] [iq 1] 13 _ ⟨L22.out.raw Z3.out (by decide),L24.out.raw Z1.out (by decide)⟩ ⟨by show 2≤5;decide,by show 1≤5;decide⟩ F3.out F1.out (by decide)) ?_
 rintro e w7 ⟨x7,rfl,hE,g7⟩
 have G7:=Hi g7
 clear g7
 replace HX:=hE.tr HX
 replace G1:=Hi (G1.out.ext hE)
 replace B1:=hE.bl B1
 replace G22:=Hi (G22.out.ext hE)
 replace A24:=hE.bl A24
 replace G21:=Hi (G21.out.ext hE)
 replace G23:=Hi (G23.out.ext hE)
 replace L5:=Hi (L5.out.ext hE)
 replace L22:=Hi (L22.out.ext hE)
 replace L24:=Hi (L24.out.ext hE)
 have hs_w7:=hE.size
 clear hE
 try clear c_B1 f_B1 l_B1
 obtain ⟨c_B1,f_B1,l_B1⟩:=blk3 B1.out
 try clear c_A24 f_A24 l_A24
 obtain ⟨c_A24,f_A24,l_A24⟩:=blk3 A24.out
 obtain ⟨⟨⟨na,nn,nc⟩,⟨da,dn,dc⟩⟩,e7⟩:=x7
 obtain ⟨he,h1,h2⟩:=G7.out
 rw [V2.out] at he h1 h2
 simp only at he h1 h2
 subst he
 have LN:=Hi h1
 have LD:=Hi h2
 have hnn:nn=1:=h1.len.symm
 have hdn:dn=1:=h2.len.symm
 subst hnn hdn
 clear h1 h2 G7
 clear L22
 clear L24
 simp only [FE,FH.v,SH.v]
 go_upto_region 5 with fail
 refine nm_alloc ?_
 intro w8 hE hB0 hz
 have hz_w8:=nle hz
 have hr_w8:=nle hz.symm
 clear hz
 replace HX:=hE.tr HX
 replace G1:=Hi (G1.out.ext hE)
 replace B1:=hE.bl B1
 replace G22:=Hi (G22.out.ext hE)
 replace A24:=hE.bl A24
 replace G21:=Hi (G21.out.ext hE)
 replace G23:=Hi (G23.out.ext hE)
 replace L5:=Hi (L5.out.ext hE)
 replace LN:=Hi (LN.out.ext hE)
 replace LD:=Hi (LD.out.ext hE)
 have hs_w8:=hE.size
 clear hE
 try clear c_B1 f_B1 l_B1
 obtain ⟨c_B1,f_B1,l_B1⟩:=blk3 B1.out
 try clear c_A24 f_A24 l_A24
 obtain ⟨c_A24,f_A24,l_A24⟩:=blk3 A24.out
 have B5:=Hi hB0
 clear hB0
 obtain ⟨c_B5,f_B5,l_B5⟩:=blk3 B5.out
 obtain ⟨nb,no,r,hao,hbl,⟨hc1,hc2,hc3⟩,hP⟩:=LN.out.celx (k:=0) (by decide)
 obtain ⟨db,do',r2,hao2,hbl2,⟨hd1,hd2,hd3⟩,hP2⟩:=LD.out.celx (k:=0) (by decide)
 obtain ⟨rneg,ra,rn,rc,rb,rm,rd⟩:=r
 obtain ⟨sneg,sa,sn,sc,sb,sm,sd⟩:=r2
 simp only [Nat.zero_mul,Nat.add_zero] at hao hao2 hc1 hc2 hc3 hd1 hd2 hd3
 have RN:=Hi hP
 have RD:=Hi hP2
 clear hP hP2
 subst hao hao2
 refine wp_region_front 36 (fun opIx=>match opIx with
  | 9=>.spec RH default RH.v (fun s w'=>CanR w' s (fr 1 2))
  | 10=>.spec RH default RH.v (fun s w'=>CanR w' s (fr 1 4))
  | 11=>.spec (Nat) (0) (fun b=>.slice (some ⟨b,0,none⟩) 3 3) (fun b w'=>CanL w' ⟨some ⟨b,0,none⟩,3,3⟩ [iq 1,fr 1 2,fr 1 4])
  | 12=>.spec Unit () (fun _=>.bool true) (fun _ _=>True)
  | 17=>.spec Unit () (fun _=>.int .i64 0) (fun _ _=>True)
  | 29=>.spec RH default RH.v (fun s w'=>CanR w' s (fr 1 2))
  | 30=>.spec RH default RH.v (fun s w'=>CanR w' s (fr 1 2))
  | 31=>.spec Unit () (fun _=>.bool true) (fun _ _=>True)
  | 35=>.spec Unit () (fun _=>.bool true) (fun _ _=>True)
  | _=>.quiet) (fun | 11=>[9,10] | 12=>[11] | 31=>[29,30] | _=>[]) (by kernel_rfl) (by kernel_rfl) (fun w0 he0 hz0 hc0 hf0=>?_)
 replace he0:=Hi he0
 simp only [pT]
 repeat (refine wpq fun K h=>?_;go_big_quiet_op;refine h _ ?_;clear h K)
 refine wps he0.out rfl rfl (fun w1 hW hG=>?_) fun x30=>?_
 ·exact spc [.int .i64 1,.int .i64 2] Tryz.func31 (rfrac3_any 1 2 _ (by decide) (by decide) (by decide) (by decide))
 simp only [pS]
 repeat (refine wpq fun K h=>?_;go_big_quiet_op;refine h _ ?_;clear h K)
 refine wps he0.out rfl rfl (fun w1 hW hG=>?_) fun x31=>?_
 ·exact spc [.int .i64 1,.int .i64 4] Tryz.func31 (rfrac3_any 1 4 _ (by decide) (by decide) (by decide) (by decide))
 simp only [pS]
 repeat (refine wpq fun K h=>?_;go_big_quiet_op;refine h _ ?_;clear h K)
 refine wps he0.out rfl rfl (fun w1 hW hG=>?_) fun x32=>?_
 ·have g30:=(hG 9 (by decide):Since _ _).get fun _ e g=>g.ext e
  have g31:=(hG 10 (by decide):Since _ _).get fun _ e g=>g.ext e
  exact spec_bd3 x1 x30 x31 _ _ _ (G1.out.ext hW) g30 g31 rfl (by simp [execOp,go_sem])
 simp only [pS]
 repeat (refine wpq fun K h=>?_;go_big_quiet_op;refine h _ ?_;clear h K)
 refine wps he0.out rfl rfl (fun w1 hW hG=>?_) fun x33=>?_
 ·have g32:=(hG 11 (by decide):Since _ _).get fun _ e g=>g.ext e
  exact spc [.slice a5 n5 c5,.slice (some ⟨x32,0,none⟩) 3 3] Tryz.func45 ((by have h:=samelist_any ⟨a5,n5,c5⟩ ⟨some ⟨x32,0,none⟩,3,3⟩ _ _ _ (L5.out.ext hW) g32;rw [decide_eq_true rfl] at h;exact h))
 simp only [pS]
 repeat (refine wpq fun K h=>?_;go_big_quiet_op;refine h _ ?_;clear h K)
 refine wps he0.out rfl rfl (fun w1 hW hG=>?_) fun x34=>?_
 ·exact spc [.slice (some ⟨nb,no,none⟩) 1 nc] Tryz.func94 ((by have h:=degree5_any (some ⟨nb,no,none⟩) 1 nc [iq 1] _ ((LN.out.ext hW).raw Z1.out (by decide)) (by decide);rw [V5.out] at h;exact h))
 simp only [pS]
 repeat (refine wpq fun K h=>?_;go_big_quiet_op;refine h _ ?_;clear h K)
 refine wps he0.out rfl rfl (fun w1 hW hG=>?_) fun x35=>?_
 ·exact spc [RH.v ⟨rneg,ra,rn,rc,rb,rm,rd⟩,RH.v ⟨sneg,sa,sn,sc,sb,sm,sd⟩] Tryz.func118 ((by have h:=rover3_any ⟨rneg,ra,rn,rc,rb,rm,rd⟩ ⟨sneg,sa,sn,sc,sb,sm,sd⟩ _ _ _ ((RN.out.ext hW).raw SA.out (by decide)) ((RD.out.ext hW).raw SB.out (by decide));rw [V4.out] at h;exact h))
 simp only [pS]
 repeat (refine wpq fun K h=>?_;go_big_quiet_op;refine h _ ?_;clear h K)
 refine wps he0.out rfl rfl (fun w1 hW hG=>?_) fun x36=>?_
 ·exact spc [.int .i64 1,.int .i64 2] Tryz.func31 (rfrac3_any 1 2 _ (by decide) (by decide) (by decide) (by decide))
 simp only [pS]
 repeat (refine wpq fun K h=>?_;go_big_quiet_op;refine h _ ?_;clear h K)
 refine wps he0.out rfl rfl (fun w1 hW hG=>?_) fun x37=>?_
 ·have g35:=(hG 29 (by decide):Since _ _).get fun _ e g=>g.ext e
  have g36:=(hG 30 (by decide):Since _ _).get fun _ e g=>g.ext e
  exact spc [x35.v,x36.v] Tryz.func116 ((by have h:=rsame3_any x35 x36 _ _ _ g35 g36;rw [decide_eq_true rfl] at h;exact h))
 simp only [pS]
 repeat (refine wpq fun K h=>?_;go_big_quiet_op;refine h _ ?_;clear h K)
 refine wps he0.out rfl rfl (fun w1 hW hG=>?_) fun x38=>?_
 ·exact spc [FH.v ⟨⟨some ⟨x21,0,none⟩,1,1⟩,⟨some ⟨x23,0,none⟩,2,2⟩⟩] Tryz.func124 ((by have h:=valid20_any ⟨⟨some ⟨x21,0,none⟩,1,1⟩,⟨some ⟨x23,0,none⟩,2,2⟩⟩ [iq 1] [iq 1,fr (-1) 2] _ ⟨(G21.out.ext hW).raw Z1.out (by decide),(G23.out.ext hW).raw Z2.out (by decide)⟩;rw [V3.out] at h;exact h))
 simp only [pS]
 repeat (refine wpq fun K h=>?_;go_big_quiet_op;refine h _ ?_;clear h K)
 refine wpF_nil ?_
 intro w9 hI
 have hE:=he0.out.trans hI.ext
 have G30:=Hi ((hI.facts 9:Since _ _).get fun _ e g=>g.ext e)
 have G31:=Hi ((hI.facts 10:Since _ _).get fun _ e g=>g.ext e)
 have G32:=Hi ((hI.facts 11:Since _ _).get fun _ e g=>g.ext e)
 have G35:=Hi ((hI.facts 29:Since _ _).get fun _ e g=>g.ext e)
 have G36:=Hi ((hI.facts 30:Since _ _).get fun _ e g=>g.ext e)
 clear hI he0 hz0 hc0 hf0
 replace HX:=hE.tr HX
 replace G1:=Hi (G1.out.ext hE)
 replace B1:=hE.bl B1
 replace G22:=Hi (G22.out.ext hE)
 replace A24:=hE.bl A24
 replace G21:=Hi (G21.out.ext hE)
 replace G23:=Hi (G23.out.ext hE)
 replace L5:=Hi (L5.out.ext hE)
 replace LN:=Hi (LN.out.ext hE)
 replace LD:=Hi (LD.out.ext hE)
 replace B5:=hE.bl B5
 have hs_w9:=hE.size
 clear hE
 try clear c_B1 f_B1 l_B1
 obtain ⟨c_B1,f_B1,l_B1⟩:=blk3 B1.out
 try clear c_A24 f_A24 l_A24
 obtain ⟨c_A24,f_A24,l_A24⟩:=blk3 A24.out
 try clear c_B5 f_B5 l_B5
 obtain ⟨c_B5,f_B5,l_B5⟩:=blk3 B5.out
 simp only [pD]
 go_wp2
 go_ret
 exact ⟨(),rfl,HX.out,trivial⟩
end Go.Proofs.YtpieblkklbilgaaGreat
