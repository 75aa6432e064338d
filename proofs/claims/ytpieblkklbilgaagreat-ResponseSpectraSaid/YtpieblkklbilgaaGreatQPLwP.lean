/- ResponseSpectra returns true. -/
import Derived.Test.YtpieblkklbilgaaGreatQPR20g
import Derived.Test.YtpieblkklbilgaaGreatQPSf
import Derived.Test.YtpieblkklbilgaaGreatQPAwk20
import Derived.Test.YtpieblkklbilgaaGreatQPFil2
import Derived.Test.YtpieblkklbilgaaGreatQPJR
set_option linter.unusedVariables false
namespace Go.Proofs.YtpieblkklbilgaaGreat
open Go.RowKit Go.Front Go.Num Stab
attribute [local go_sem] XW.cell XW.frozen
def FBlk (w:World) (b:Nat) (f g:FH):Prop:=w.heap[b]?=some (.cells #[f.b.v,f.a.v,g.b.v,g.a.v] 80 (0,0))
theorem FBlk.ext {w w':World} {b:Nat} {f g:FH} (h:FBlk w b f g) (he:Ext w w'):FBlk w' b f g:=he.block h
def FBlk2 (w:World) (f:FH) (b a:List Rat) (p:Nat × FH):Prop:=FBlk w p.1 f p.2∧CanF w p.2 b a
theorem FBlk2.ext {w w':World} {f:FH} {b a:List Rat} {p:Nat × FH} (h:FBlk2 w f b a p) (he:Ext w w'):FBlk2 w' f b a p:=⟨h.1.ext he,h.2.ext he⟩
theorem spec_flt {P:Program} {o:Oper} {a:Act} {w:World} {T:TypeId} (f g:FH) (b2 a2:List Rat) (hg:CanF w g b2 a2) (hT:T=80)
  (hrun:(execOp a.eval o).run P w=.ok (.value (.slice (some ⟨w.heap.size,0,none⟩) 2 2)) (w.alloc (.cells #[f.b.v,f.a.v,g.b.v,g.a.v] T))) :
  specAt P o a w (fun p:Nat × FH=>.slice (some ⟨p.1,0,none⟩) 2 2) (fun p w'=>FBlk2 w' f b2 a2 p):=by
 subst hT
 unfold specAt
 rw [hrun]
 exact ⟨Ext.alloc _ _,(w.heap.size,g),rfl,heap_alloc_new _ _,hg.ext (Ext.alloc _ _)⟩
theorem filP5 (xs ks:List Int):(filB xs).length≤5∧(filA ks).length≤5∧FrB 13 (filB xs)∧FrB 13 (filA ks):=⟨Nat.le_trans (filB_len xs) (by decide),Nat.le_trans (filA_len ks) (by decide),(filB_frb xs).mono (by decide),(filA_frb ks).mono (by decide)⟩
set_option maxRecDepth 8000 in
set_option maxHeartbeats 8000000 in
theorem spectra20_any (f:FH) (lo mo:Option Addr) (lc mc:Nat) (rb ra:List RH) (ls ms:List Int) (w:World)
  (h1:RS w f.b rb) (i1:∀ r ∈ rb,RatIn w r) (h2:RS w f.a ra) (i2:∀ r ∈ ra,RatIn w r)
  (l0:IntsAt w lo ls) (l1:InR ls) (l2:ls.length≤9223372036854775807) (l3:ls.length≤lc) (l4:lc≤9223372036854775807)
  (m0:IntsAt w mo ms) (m1:InR ms) (m2:ms.length≤9223372036854775807) (m3:ms.length≤mc) (m4:mc≤9223372036854775807) :
  Does 10 [f.v,.slice lo ls.length lc,.slice mo ms.length mc] w (fun _:Unit=>.bool true) (fun _ _=>True):=by
 obtain ⟨⟨ba,bn,bc⟩,⟨aa,an,ac⟩⟩:=f
 have HX:=Hi (Ext.refl w)
 have HC1:Hid (∀ w1,Ext w w1→Does 55 [.slice lo ls.length lc,.slice mo ms.length mc] w1 FH.v (fun f w'=>CanF w' f (filB ls) (filA ms))):=Hi (fun w1 hE=>filter_any lo mo lc mc ls ms w1 (l0.ext hE) l1 l2 l3 l4 (m0.ext hE) m1 m2 m3 m4)
 have P1:=Hi (filP5 ls ms)
 obtain ⟨N0,e0⟩:∃ n,n=ls.length:=⟨_,rfl⟩
 obtain ⟨N1,e1⟩:∃ n,n=ms.length:=⟨_,rfl⟩
 obtain ⟨b2,eb⟩:∃ b,b=filB ls:=⟨_,rfl⟩
 obtain ⟨a2,ea⟩:∃ a,a=filA ms:=⟨_,rfl⟩
 rw [← e0,← e1,← eb,← ea] at HC1
 rw [← eb,← ea] at P1
 rw [← e0,← e1]
 have H1:=Hi h1
 have H2:=Hi h2
 have I1:=Hi i1
 have I2:=Hi i2
 clear e0 e1 eb ea h1 h2 i1 i2 l0 l1 l2 l3 l4 m0 m1 m2 m3 m4
 unfold Does
 simp only [FH.v,SH.v]
 go_enter Tryz.func10,Tryz.ntmps10
 go_upto_region 1 with fail
 refine nm_alloc ?_
 intro w1 hE hB0 hz
 have hz_w1:=nle hz
 have hr_w1:=nle hz.symm
 clear hz
 replace HX:=hE.tr HX
 have hs_w1:=hE.size
 clear hE
 have B3:=Hi hB0
 clear hB0
 obtain ⟨c_B3,f_B3,l_B3⟩:=blk3 B3.out
 go_wp2_with fail
 refine Calls.mono (fits_any ⟨⟨ba,bn,bc⟩,⟨aa,an,ac⟩⟩ rb ra _ (H1.out.ext HX.out) (H2.out.ext HX.out)) ?_
 rintro e w18 ⟨x18,rfl,hE,g18⟩
 have G18:=Hi g18
 clear g18
 replace HX:=hE.tr HX
 replace B3:=hE.bl B3
 have hs_w18:=hE.size
 clear hE
 try clear c_B3 f_B3 l_B3
 obtain ⟨c_B3,f_B3,l_B3⟩:=blk3 B3.out
 cases x18
 case false =>
  go_wp2_with fail
  refine Calls.mono (awake20_any _) ?_
  rintro e w20 ⟨x20,rfl,hE,-⟩
  replace HX:=hE.tr HX
  replace B3:=hE.bl B3
  have hs_w20:=hE.size
  clear hE
  try clear c_B3 f_B3 l_B3
  obtain ⟨c_B3,f_B3,l_B3⟩:=blk3 B3.out
  go_wp2
  go_ret
  exact ⟨(),rfl,HX.out,trivial⟩
 obtain ⟨hb5,ha5,sb,sa⟩:=G18.out (by first | rfl | trivial)
 simp only at hb5 ha5
 obtain ⟨b,hb,zb⟩:=rats_raw H1.out I1.out sb (by decide) (by decide)
 obtain ⟨a,ha,za⟩:=rats_raw H2.out I2.out sa (by decide) (by decide)
 have lb:=hb.len
 have la:=ha.len
 simp only at lb la
 have FB:Hid (FrB 13 b):=Hi (FrB.of (n:=5) zb (by omega))
 have FA:Hid (FrB 13 a):=Hi (FrB.of (n:=5) za (by omega))
 have RFf:Hid (RawF w ⟨⟨ba,bn,bc⟩,⟨aa,an,ac⟩⟩ b a):=Hi ⟨hb,ha⟩
 clear sb sa hb ha zb za lb la H1 H2 I1 I2 G18
 go_upto_region 3 with fail
 refine wp_region_front 7 (fun opIx=>match opIx with
  | 3=>.spec (FH) (⟨⟨none,0,0⟩,⟨none,0,0⟩⟩) (FH.v) (fun f w'=>CanF w' f b2 a2)
  | 4=>.spec (Nat × FH) ((0,⟨⟨none,0,0⟩,⟨none,0,0⟩⟩)) (fun p=>.slice (some ⟨p.1,0,none⟩) 2 2) (fun p w'=>FBlk2 w' ⟨⟨ba,bn,bc⟩,⟨aa,an,ac⟩⟩ b2 a2 p)
  | _=>.quiet) (fun | 4=>[3] | _=>[]) (by kernel_rfl) (by kernel_rfl) (fun w0 he0 hz0 hc0 hf0=>?_)
 replace he0:=Hi he0
 simp only [pT]
 repeat (refine wpq fun K h=>?_;go_big_quiet_op;refine h _ ?_;clear h K)
 refine wps he0.out rfl rfl (fun w1 hW hG=>?_) fun x30=>?_
 ·exact spc [.slice lo N0 lc,.slice mo N1 mc] Tryz.func55 (HC1.out _ (HX.out.trans hW))
 simp only [pS]
 repeat (refine wpq fun K h=>?_;go_big_quiet_op;refine h _ ?_;clear h K)
 refine wps he0.out rfl rfl (fun w1 hW hG=>?_) fun x31=>?_
 ·have g30:=(hG 3 (by decide):Since _ _).get fun _ e g=>g.ext e
  exact spec_flt ⟨⟨ba,bn,bc⟩,⟨aa,an,ac⟩⟩ x30 b2 a2 g30 rfl (by simp [execOp,go_sem])
 simp only [pS]
 repeat (refine wpq fun K h=>?_;go_big_quiet_op;refine h _ ?_;clear h K)
 refine wpF_nil ?_
 intro w3 hI
 have hE:=he0.out.trans hI.ext
 have G30:=Hi ((hI.facts 3:Since _ _).get fun _ e g=>g.ext e)
 have G31:=Hi ((hI.facts 4:Since _ _).get fun _ e g=>g.ext e)
 clear hI he0 hz0 hc0 hf0
 replace HX:=hE.tr HX
 replace B3:=hE.bl B3
 have hs_w3:=hE.size
 clear hE
 try clear c_B3 f_B3 l_B3
 obtain ⟨c_B3,f_B3,l_B3⟩:=blk3 B3.out
 simp only [pD]
 obtain ⟨x31,x30⟩:=x31
 have GB0:=Hi G31.out.1
 have GF0:=Hi G31.out.2
 clear G30 G31
 simp only at GB0 GF0
 go_wp2
 go_loopg [27] 2 (fun g v wr=>∃ (i:Nat),i+g=2∧v=.int .i64 (i:Nat)∧Ext w wr∧FBlk wr x31 ⟨⟨ba,bn,bc⟩,⟨aa,an,ac⟩⟩ x30∧CanF wr x30 b2 a2)
 case atStart=>exact ⟨0,by omega,rfl,HX.out,GB0.out,GF0.out⟩
 case round =>
  obtain ⟨i,hi,rfl,g1,g2,g3⟩:=hrel
  clear HX GB0 GF0 B3
  have HX:=Hi g1
  have GB:=Hi g2
  have GF:=Hi g3
  clear g1 g2 g3
  by_cases h0:gk=0
  case pos =>
   have hin:¬ ((i:Int) < 2):=by omega
   go_wp2_with fail
   refine Calls.mono (awake20_any _) ?_
   rintro e w92 ⟨x92,rfl,hE,-⟩
   replace HX:=hE.tr HX
   replace GB:=Hi (GB.out.ext hE)
   replace GF:=Hi (GF.out.ext hE)
   have hs_w92:=hE.size
   clear hE
   go_wp2
   go_ret
   exact ⟨(),rfl,HX.out,trivial⟩
  have hin:(i:Int) < 2:=by omega
  obtain ⟨⟨⟨pa,pn,pc⟩,⟨qa,qn,qc⟩⟩,b',a',hc1,hc2,hR,hn5,hm5,hfb,hfa⟩:∃ (h:FH) (b' a':List Rat),wr.cell? ⟨x31,i * 2,none⟩=some h.b.v∧wr.cell? ⟨x31,i * 2+1,none⟩=some h.a.v∧RawF wr h b' a'∧h.b.n≤5∧h.a.n≤5∧FrB 13 b'∧FrB 13 a':=by
   have hcl:=fun k=>blk_cell GB.out k
   rcases (show i=0 ∨ i=1 by omega) with rfl | rfl
   ·exact ⟨_,b,a,by rw [hcl];rfl,by rw [hcl];rfl,RFf.out.ext HX.out,hb5,ha5,FB.out,FA.out⟩
   ·obtain ⟨p1,p2,p3,p4⟩:=P1.out
    refine ⟨x30,b2,a2,by rw [hcl];rfl,by rw [hcl];rfl,GF.out.raw p3.sz p4.sz (by decide),?_,?_,p3,p4⟩
    ·rw [← GF.out.1.len];exact p1
    ·rw [← GF.out.2.len];exact p2
  simp only at hn5 hm5
  simp only [SH.v] at hc1 hc2
  have HR:=Hi hR
  have FB':=Hi hfb
  have FA':=Hi hfa
  clear hR hfb hfa
  go_upto_region 6 with fail
  refine nm_alloc ?_
  intro y5 hE hB0 hz
  have hz_y5:=nle hz
  have hr_y5:=nle hz.symm
  clear hz
  replace HX:=hE.tr HX
  replace GB:=Hi (GB.out.ext hE)
  replace GF:=Hi (GF.out.ext hE)
  replace HR:=Hi (HR.out.ext hE)
  have hs_y5:=hE.size
  clear hE
  have B8:=Hi hB0
  clear hB0
  obtain ⟨c_B8,f_B8,l_B8⟩:=blk3 B8.out
  clear hc1 hc2
  obtain ⟨m1,hm1⟩:∃ m,m=(magV b' a').1:=⟨_,rfl⟩
  obtain ⟨l1,hl1⟩:∃ m,m=(magV b' a').2.1:=⟨_,rfl⟩
  obtain ⟨r1,hr1⟩:∃ m,m=(magV b' a').2.2:=⟨_,rfl⟩
  obtain ⟨m2,hm2⟩:∃ m,m=(delV b' a').1:=⟨_,rfl⟩
  obtain ⟨l2,hl2⟩:∃ m,m=(delV b' a').2.1:=⟨_,rfl⟩
  obtain ⟨r2,hr2⟩:∃ m,m=(delV b' a').2.2:=⟨_,rfl⟩
  go_wp2_with fail
  refine Calls.mono (magnitude20_any ⟨⟨pa,pn,pc⟩,⟨qa,qn,qc⟩⟩ b' a' 13 _ HR.out (by simp only;omega) FB'.out.sz FA'.out.sz (by decide) (by decide)) ?_
  rintro e w33 ⟨x33,rfl,hE,g33⟩
  have G33:=Hi g33
  clear g33
  replace HX:=hE.tr HX
  replace GB:=Hi (GB.out.ext hE)
  replace GF:=Hi (GF.out.ext hE)
  replace HR:=Hi (HR.out.ext hE)
  replace B8:=hE.bl B8
  have hs_w33:=hE.size
  clear hE
  try clear c_B8 f_B8 l_B8
  obtain ⟨c_B8,f_B8,l_B8⟩:=blk3 B8.out
  obtain ⟨⟨⟨u33a,u33n,u33c⟩,⟨v33a,v33n,v33c⟩⟩,e33⟩:=x33
  obtain ⟨he,hu⟩:=G33.out
  simp only at he hu
  have U33:=Hi hu.1
  have V33:=Hi hu.2
  simp only at U33 V33
  clear hu G33
  rw [← hm1] at he
  rw [← hl1] at U33
  rw [← hr1] at V33
  subst he
  simp only [FE,FH.v,SH.v]
  go_upto_region 7 with fail
  refine nm_alloc ?_
  intro y6 hE hB0 hz
  have hz_y6:=nle hz
  have hr_y6:=nle hz.symm
  clear hz
  replace HX:=hE.tr HX
  replace GB:=Hi (GB.out.ext hE)
  replace GF:=Hi (GF.out.ext hE)
  replace HR:=Hi (HR.out.ext hE)
  replace B8:=hE.bl B8
  replace U33:=Hi (U33.out.ext hE)
  replace V33:=Hi (V33.out.ext hE)
  have hs_y6:=hE.size
  clear hE
  try clear c_B8 f_B8 l_B8
  obtain ⟨c_B8,f_B8,l_B8⟩:=blk3 B8.out
  have B9:=Hi hB0
  clear hB0
  obtain ⟨c_B9,f_B9,l_B9⟩:=blk3 B9.out
  go_wp2_with fail
  refine Calls.mono (rmag20_any ⟨⟨pa,pn,pc⟩,⟨qa,qn,qc⟩⟩ b' a' 13 _ HR.out (by simp only;omega) FB'.out.sz FA'.out.sz (by decide) (by decide)) ?_
  rintro e w38 ⟨x38,rfl,hE,g38⟩
  have G38:=Hi g38
  clear g38
  replace HX:=hE.tr HX
  replace GB:=Hi (GB.out.ext hE)
  replace GF:=Hi (GF.out.ext hE)
  replace HR:=Hi (HR.out.ext hE)
  replace B8:=hE.bl B8
  replace U33:=Hi (U33.out.ext hE)
  replace V33:=Hi (V33.out.ext hE)
  replace B9:=hE.bl B9
  have hs_w38:=hE.size
  clear hE
  try clear c_B8 f_B8 l_B8
  obtain ⟨c_B8,f_B8,l_B8⟩:=blk3 B8.out
  try clear c_B9 f_B9 l_B9
  obtain ⟨c_B9,f_B9,l_B9⟩:=blk3 B9.out
  obtain ⟨⟨⟨u38a,u38n,u38c⟩,⟨v38a,v38n,v38c⟩⟩,e38⟩:=x38
  obtain ⟨he,hu⟩:=G38.out
  simp only at he hu
  have U38:=Hi hu.1
  have V38:=Hi hu.2
  simp only at U38 V38
  clear hu G38
  rw [← hm1] at he
  rw [← hl1] at U38
  rw [← hr1] at V38
  subst he
  simp only [FE,FH.v,SH.v]
  go_upto_region 8 with fail
  refine nm_alloc ?_
  intro y7 hE hB0 hz
  have hz_y7:=nle hz
  have hr_y7:=nle hz.symm
  clear hz
  replace HX:=hE.tr HX
  replace GB:=Hi (GB.out.ext hE)
  replace GF:=Hi (GF.out.ext hE)
  replace HR:=Hi (HR.out.ext hE)
  replace B8:=hE.bl B8
  replace U33:=Hi (U33.out.ext hE)
  replace V33:=Hi (V33.out.ext hE)
  replace B9:=hE.bl B9
  replace U38:=Hi (U38.out.ext hE)
  replace V38:=Hi (V38.out.ext hE)
  have hs_y7:=hE.size
  clear hE
  try clear c_B8 f_B8 l_B8
  obtain ⟨c_B8,f_B8,l_B8⟩:=blk3 B8.out
  try clear c_B9 f_B9 l_B9
  obtain ⟨c_B9,f_B9,l_B9⟩:=blk3 B9.out
  have B11:=Hi hB0
  clear hB0
  obtain ⟨c_B11,f_B11,l_B11⟩:=blk3 B11.out
  go_wp2_with fail
  refine Calls.mono (delay20_any ⟨⟨pa,pn,pc⟩,⟨qa,qn,qc⟩⟩ b' a' 13 _ HR.out ⟨hn5,hm5⟩ FB'.out FA'.out (by decide)) ?_
  rintro e w43 ⟨x43,rfl,hE,g43⟩
  have G43:=Hi g43
  clear g43
  replace HX:=hE.tr HX
  replace GB:=Hi (GB.out.ext hE)
  replace GF:=Hi (GF.out.ext hE)
  replace HR:=Hi (HR.out.ext hE)
  replace B8:=hE.bl B8
  replace U33:=Hi (U33.out.ext hE)
  replace V33:=Hi (V33.out.ext hE)
  replace B9:=hE.bl B9
  replace U38:=Hi (U38.out.ext hE)
  replace V38:=Hi (V38.out.ext hE)
  replace B11:=hE.bl B11
  have hs_w43:=hE.size
  clear hE
  try clear c_B8 f_B8 l_B8
  obtain ⟨c_B8,f_B8,l_B8⟩:=blk3 B8.out
  try clear c_B9 f_B9 l_B9
  obtain ⟨c_B9,f_B9,l_B9⟩:=blk3 B9.out
  try clear c_B11 f_B11 l_B11
  obtain ⟨c_B11,f_B11,l_B11⟩:=blk3 B11.out
  obtain ⟨⟨⟨u43a,u43n,u43c⟩,⟨v43a,v43n,v43c⟩⟩,e43⟩:=x43
  obtain ⟨he,hu⟩:=G43.out
  simp only at he hu
  have U43:=Hi hu.1
  have V43:=Hi hu.2
  simp only at U43 V43
  clear hu G43
  rw [← hm2] at he
  rw [← hl2] at U43
  rw [← hr2] at V43
  subst he
  simp only [FE,FH.v,SH.v]
  go_upto_region 9 with fail
  refine nm_alloc ?_
  intro y8 hE hB0 hz
  have hz_y8:=nle hz
  have hr_y8:=nle hz.symm
  clear hz
  replace HX:=hE.tr HX
  replace GB:=Hi (GB.out.ext hE)
  replace GF:=Hi (GF.out.ext hE)
  replace HR:=Hi (HR.out.ext hE)
  replace B8:=hE.bl B8
  replace U33:=Hi (U33.out.ext hE)
  replace V33:=Hi (V33.out.ext hE)
  replace B9:=hE.bl B9
  replace U38:=Hi (U38.out.ext hE)
  replace V38:=Hi (V38.out.ext hE)
  replace B11:=hE.bl B11
  replace U43:=Hi (U43.out.ext hE)
  replace V43:=Hi (V43.out.ext hE)
  have hs_y8:=hE.size
  clear hE
  try clear c_B8 f_B8 l_B8
  obtain ⟨c_B8,f_B8,l_B8⟩:=blk3 B8.out
  try clear c_B9 f_B9 l_B9
  obtain ⟨c_B9,f_B9,l_B9⟩:=blk3 B9.out
  try clear c_B11 f_B11 l_B11
  obtain ⟨c_B11,f_B11,l_B11⟩:=blk3 B11.out
  have B13:=Hi hB0
  clear hB0
  obtain ⟨c_B13,f_B13,l_B13⟩:=blk3 B13.out
  go_wp2_with fail
  refine Calls.mono (rdelay20_any ⟨⟨pa,pn,pc⟩,⟨qa,qn,qc⟩⟩ b' a' 13 _ HR.out ⟨hn5,hm5⟩ FB'.out FA'.out (by decide)) ?_
  rintro e w48 ⟨x48,rfl,hE,g48⟩
  have G48:=Hi g48
  clear g48
  replace HX:=hE.tr HX
  replace GB:=Hi (GB.out.ext hE)
  replace GF:=Hi (GF.out.ext hE)
  replace HR:=Hi (HR.out.ext hE)
  replace B8:=hE.bl B8
  replace U33:=Hi (U33.out.ext hE)
  replace V33:=Hi (V33.out.ext hE)
  replace B9:=hE.bl B9
  replace U38:=Hi (U38.out.ext hE)
  replace V38:=Hi (V38.out.ext hE)
  replace B11:=hE.bl B11
  replace U43:=Hi (U43.out.ext hE)
  replace V43:=Hi (V43.out.ext hE)
  replace B13:=hE.bl B13
  have hs_w48:=hE.size
  clear hE
  try clear c_B8 f_B8 l_B8
  obtain ⟨c_B8,f_B8,l_B8⟩:=blk3 B8.out
  try clear c_B9 f_B9 l_B9
  obtain ⟨c_B9,f_B9,l_B9⟩:=blk3 B9.out
  try clear c_B11 f_B11 l_B11
  obtain ⟨c_B11,f_B11,l_B11⟩:=blk3 B11.out
  try clear c_B13 f_B13 l_B13
  obtain ⟨c_B13,f_B13,l_B13⟩:=blk3 B13.out
  obtain ⟨⟨⟨u48a,u48n,u48c⟩,⟨v48a,v48n,v48c⟩⟩,e48⟩:=x48
  obtain ⟨he,hu⟩:=G48.out
  simp only at he hu
  have U48:=Hi hu.1
  have V48:=Hi hu.2
  simp only at U48 V48
  clear hu G48
  rw [← hm2] at he
  rw [← hl2] at U48
  rw [← hr2] at V48
  subst he
  simp only [FE,FH.v,SH.v]
  go_upto_region 10 with fail
  refine nm_alloc ?_
  intro y9 hE hB0 hz
  have hz_y9:=nle hz
  have hr_y9:=nle hz.symm
  clear hz
  replace HX:=hE.tr HX
  replace GB:=Hi (GB.out.ext hE)
  replace GF:=Hi (GF.out.ext hE)
  replace HR:=Hi (HR.out.ext hE)
  replace B8:=hE.bl B8
  replace U33:=Hi (U33.out.ext hE)
  replace V33:=Hi (V33.out.ext hE)
  replace B9:=hE.bl B9
  replace U38:=Hi (U38.out.ext hE)
  replace V38:=Hi (V38.out.ext hE)
  replace B11:=hE.bl B11
  replace U43:=Hi (U43.out.ext hE)
  replace V43:=Hi (V43.out.ext hE)
  replace B13:=hE.bl B13
  replace U48:=Hi (U48.out.ext hE)
  replace V48:=Hi (V48.out.ext hE)
  have hs_y9:=hE.size
  clear hE
  try clear c_B8 f_B8 l_B8
  obtain ⟨c_B8,f_B8,l_B8⟩:=blk3 B8.out
  try clear c_B9 f_B9 l_B9
  obtain ⟨c_B9,f_B9,l_B9⟩:=blk3 B9.out
  try clear c_B11 f_B11 l_B11
  obtain ⟨c_B11,f_B11,l_B11⟩:=blk3 B11.out
  try clear c_B13 f_B13 l_B13
  obtain ⟨c_B13,f_B13,l_B13⟩:=blk3 B13.out
  have B15:=Hi hB0
  clear hB0
  obtain ⟨c_B15,f_B15,l_B15⟩:=blk3 B15.out
  go_wp2_with fail
  refine Calls.mono ((by have h:=equal_any ⟨u33a,u33n,u33c⟩ ⟨u38a,u38n,u38c⟩ l1 l1 _ U33.out U38.out;rw [decide_eq_true rfl] at h;exact h)) ?_
  rintro e w64 ⟨x64,rfl,hE,-⟩
  replace HX:=hE.tr HX
  replace GB:=Hi (GB.out.ext hE)
  replace GF:=Hi (GF.out.ext hE)
  replace HR:=Hi (HR.out.ext hE)
  replace B8:=hE.bl B8
  replace U33:=Hi (U33.out.ext hE)
  replace V33:=Hi (V33.out.ext hE)
  replace B9:=hE.bl B9
  replace U38:=Hi (U38.out.ext hE)
  replace V38:=Hi (V38.out.ext hE)
  replace B11:=hE.bl B11
  replace U43:=Hi (U43.out.ext hE)
  replace V43:=Hi (V43.out.ext hE)
  replace B13:=hE.bl B13
  replace U48:=Hi (U48.out.ext hE)
  replace V48:=Hi (V48.out.ext hE)
  replace B15:=hE.bl B15
  have hs_w64:=hE.size
  clear hE
  try clear c_B8 f_B8 l_B8
  obtain ⟨c_B8,f_B8,l_B8⟩:=blk3 B8.out
  try clear c_B9 f_B9 l_B9
  obtain ⟨c_B9,f_B9,l_B9⟩:=blk3 B9.out
  try clear c_B11 f_B11 l_B11
  obtain ⟨c_B11,f_B11,l_B11⟩:=blk3 B11.out
  try clear c_B13 f_B13 l_B13
  obtain ⟨c_B13,f_B13,l_B13⟩:=blk3 B13.out
  try clear c_B15 f_B15 l_B15
  obtain ⟨c_B15,f_B15,l_B15⟩:=blk3 B15.out
  go_wp2_with fail
  refine Calls.mono ((by have h:=equal_any ⟨v33a,v33n,v33c⟩ ⟨v38a,v38n,v38c⟩ r1 r1 _ V33.out V38.out;rw [decide_eq_true rfl] at h;exact h)) ?_
  rintro e w72 ⟨x72,rfl,hE,-⟩
  replace HX:=hE.tr HX
  replace GB:=Hi (GB.out.ext hE)
  replace GF:=Hi (GF.out.ext hE)
  replace HR:=Hi (HR.out.ext hE)
  replace B8:=hE.bl B8
  replace U33:=Hi (U33.out.ext hE)
  replace V33:=Hi (V33.out.ext hE)
  replace B9:=hE.bl B9
  replace U38:=Hi (U38.out.ext hE)
  replace V38:=Hi (V38.out.ext hE)
  replace B11:=hE.bl B11
  replace U43:=Hi (U43.out.ext hE)
  replace V43:=Hi (V43.out.ext hE)
  replace B13:=hE.bl B13
  replace U48:=Hi (U48.out.ext hE)
  replace V48:=Hi (V48.out.ext hE)
  replace B15:=hE.bl B15
  have hs_w72:=hE.size
  clear hE
  try clear c_B8 f_B8 l_B8
  obtain ⟨c_B8,f_B8,l_B8⟩:=blk3 B8.out
  try clear c_B9 f_B9 l_B9
  obtain ⟨c_B9,f_B9,l_B9⟩:=blk3 B9.out
  try clear c_B11 f_B11 l_B11
  obtain ⟨c_B11,f_B11,l_B11⟩:=blk3 B11.out
  try clear c_B13 f_B13 l_B13
  obtain ⟨c_B13,f_B13,l_B13⟩:=blk3 B13.out
  try clear c_B15 f_B15 l_B15
  obtain ⟨c_B15,f_B15,l_B15⟩:=blk3 B15.out
  go_wp2_with fail
  refine Calls.mono ((by have h:=equal_any ⟨u43a,u43n,u43c⟩ ⟨u48a,u48n,u48c⟩ l2 l2 _ U43.out U48.out;rw [decide_eq_true rfl] at h;exact h)) ?_
  rintro e w80 ⟨x80,rfl,hE,-⟩
  replace HX:=hE.tr HX
  replace GB:=Hi (GB.out.ext hE)
  replace GF:=Hi (GF.out.ext hE)
  replace HR:=Hi (HR.out.ext hE)
  replace B8:=hE.bl B8
  replace U33:=Hi (U33.out.ext hE)
  replace V33:=Hi (V33.out.ext hE)
  replace B9:=hE.bl B9
  replace U38:=Hi (U38.out.ext hE)
  replace V38:=Hi (V38.out.ext hE)
  replace B11:=hE.bl B11
  replace U43:=Hi (U43.out.ext hE)
  replace V43:=Hi (V43.out.ext hE)
  replace B13:=hE.bl B13
  replace U48:=Hi (U48.out.ext hE)
  replace V48:=Hi (V48.out.ext hE)
  replace B15:=hE.bl B15
  have hs_w80:=hE.size
  clear hE
  try clear c_B8 f_B8 l_B8
  obtain ⟨c_B8,f_B8,l_B8⟩:=blk3 B8.out
  try clear c_B9 f_B9 l_B9
  obtain ⟨c_B9,f_B9,l_B9⟩:=blk3 B9.out
  try clear c_B11 f_B11 l_B11
  obtain ⟨c_B11,f_B11,l_B11⟩:=blk3 B11.out
  try clear c_B13 f_B13 l_B13
  obtain ⟨c_B13,f_B13,l_B13⟩:=blk3 B13.out
  try clear c_B15 f_B15 l_B15
  obtain ⟨c_B15,f_B15,l_B15⟩:=blk3 B15.out
  go_wp2_with fail
  refine Calls.mono ((by have h:=equal_any ⟨v43a,v43n,v43c⟩ ⟨v48a,v48n,v48c⟩ r2 r2 _ V43.out V48.out;rw [decide_eq_true rfl] at h;exact h)) ?_
  rintro e w88 ⟨x88,rfl,hE,-⟩
  replace HX:=hE.tr HX
  replace GB:=Hi (GB.out.ext hE)
  replace GF:=Hi (GF.out.ext hE)
  replace HR:=Hi (HR.out.ext hE)
  replace B8:=hE.bl B8
  replace U33:=Hi (U33.out.ext hE)
  replace V33:=Hi (V33.out.ext hE)
  replace B9:=hE.bl B9
  replace U38:=Hi (U38.out.ext hE)
  replace V38:=Hi (V38.out.ext hE)
  replace B11:=hE.bl B11
  replace U43:=Hi (U43.out.ext hE)
  replace V43:=Hi (V43.out.ext hE)
  replace B13:=hE.bl B13
  replace U48:=Hi (U48.out.ext hE)
  replace V48:=Hi (V48.out.ext hE)
  replace B15:=hE.bl B15
  have hs_w88:=hE.size
  clear hE
  try clear c_B8 f_B8 l_B8
  obtain ⟨c_B8,f_B8,l_B8⟩:=blk3 B8.out
  try clear c_B9 f_B9 l_B9
  obtain ⟨c_B9,f_B9,l_B9⟩:=blk3 B9.out
  try clear c_B11 f_B11 l_B11
  obtain ⟨c_B11,f_B11,l_B11⟩:=blk3 B11.out
  try clear c_B13 f_B13 l_B13
  obtain ⟨c_B13,f_B13,l_B13⟩:=blk3 B13.out
  try clear c_B15 f_B15 l_B15
  obtain ⟨c_B15,f_B15,l_B15⟩:=blk3 B15.out
  go_wp2
  go_roundg (gk - 1)
  case measure=>omega
  case rel=>exact ⟨i+1,by omega,by go_num,HX.out,GB.out,GF.out⟩
end Go.Proofs.YtpieblkklbilgaaGreat
