/- BernsteinActs returns true. -/
import Derived.Test.YtpieblkklbilgaaGreatQEBa
import Derived.Test.YtpieblkklbilgaaGreatQEBnH
import Derived.Test.YtpieblkklbilgaaGreatQEJR
set_option linter.unusedVariables false
namespace Go.Proofs.YtpieblkklbilgaaGreat
open Go.RowKit Go.Front Go.Num Stab
attribute [local go_sem] XW.cell XW.frozen
theorem sm4_le7 {n m:Nat} (h:sm4 n m=true):n≤4∧m≤4:=of_decide_eq_true h
theorem bbound_all (ao:Option Addr) (n cap:Nat) (l:List Rat) (s t:RH) (a b:Rat) (d S T:Nat) (w:World) (h:RawL w ⟨ao,n,cap⟩ l) (hs:RawR w s a) (ht:RawR w t b) (hn:n≤1000) (h8:(tz l).length≤8) (hz:SzL S (tz l)) (za:Sz T a) (zb:Sz T b) (hS:S≤1000) (hT:T≤450) (hd:d≤12) :
  Does 42 [.slice ao n cap,IvV (s,t),.int .i64 (d:Nat)] w IeT (fun x w'=>x.2=0∧IvC w' x.1 (rbn d (tz l) (loV a b) (hiV a b)) (rbx d (tz l) (loV a b) (hiV a b))):=by
 refine (bbound_any ao n cap l s t a b d S T w h hs ht hn h8 hz za zb hS hT hd).mono ?_
 rintro e w' ⟨x,rfl,hE,hx⟩
 rw [bd_eq] at hx
 exact ⟨(x,0),rfl,hE,rfl,hx⟩
theorem bcoef_all (ao:Option Addr) (n cap:Nat) (l:List Rat) (s t:RH) (a b:Rat) (S T:Nat) (w:World) (h:RawL w ⟨ao,n,cap⟩ l) (hs:RawR w s a) (ht:RawR w t b) (hn:n≤1000) (h8:(tz l).length≤8) (hz:SzL S (tz l)) (za:Sz T a) (zb:Sz T b) (hS:S≤1000) (hT:T≤450) :
  Does 46 [.slice ao n cap,IvV (s,t)] w SH.v (fun x w'=>CanL w' x (bcL (tz l) (loV a b) (hiV a b))):=by
 by_cases h0:tz l=[]
 ·refine (bcoef_nil ao n cap l s t a b w h hs ht hn h0).imp (fun x w' hx=>?_)
  subst hx
  rw [h0]
  exact (NewL.nil 0 _).can
 ·refine (bcoef_any ao n cap l s t a b S T w h hs ht hn h0 h8 hz za zb hS hT).imp (fun x w' hx=>?_)
  rw [cf_eq] at hx
  exact hx.can
def Dep (c:Int):Prop:=(∃ d:Nat,c=d∧d≤3) ∨ (c < 0 ∨ 12 < c)
set_option maxRecDepth 8000 in
set_option maxHeartbeats 8000000 in
theorem actslaw7_any (pa:Option Addr) (pn pc:Nat) (s t:RH) (n:Int) (rs:List RH) (w:World) (h1:RS w ⟨pa,pn,pc⟩ rs) (i1:∀ r ∈ rs,RatIn w r) (is':RatIn w s) (it:RatIn w t)
  (hn1:-9223372036854775808≤n) (hn2:n≤9223372036854775807) :
  Does 7 [.slice pa pn pc,IvV (s,t),.int .i64 n] w (fun _:Unit=>.bool true) (fun _ _=>True):=by
 have HX:=Hi (Ext.refl w)
 have H1:=Hi h1
 have I1:=Hi i1
 have IS:=Hi is'
 have IT:=Hi it
 obtain ⟨z4,hz4⟩:∃ z,z=n % 4:=⟨_,rfl⟩
 have hz4a:0≤z4:=by omega
 have hz4b:z4≤3:=by omega
 have HZ4:=Hi hz4
 clear hz4 h1 i1 is' it
 obtain ⟨sn,sa,sl,sc,sb,sm,sd⟩:=s
 obtain ⟨tn,ta,tl,tc,tb,tm,td⟩:=t
 unfold Does
 go_enter Tryz.func7,Tryz.ntmps7
 go_upto_region 1 with fail
 refine nm_alloc ?_
 intro w1 hE hB0 hz
 have hz_w1:=nle hz
 have hr_w1:=nle hz.symm
 clear hz
 replace HX:=hE.tr HX
 have hs_w1:=hE.size
 clear hE
 have B4:=Hi hB0
 clear hB0
 obtain ⟨c_B4,f_B4,l_B4⟩:=blk3 B4.out
 go_wp2_with fail
 refine Calls.mono (smallpoly_any pa pn pc rs _ (H1.out.ext HX.out)) ?_
 rintro e w14 ⟨x14,rfl,hE,g14⟩
 have G14:=Hi g14
 clear g14
 replace HX:=hE.tr HX
 replace B4:=hE.bl B4
 have hs_w14:=hE.size
 clear hE
 try clear c_B4 f_B4 l_B4
 obtain ⟨c_B4,f_B4,l_B4⟩:=blk3 B4.out
 cases x14
 case false =>
  go_wp2_with fail
  refine Calls.mono (awake7_any _) ?_
  rintro e w21 ⟨x21,rfl,hE,-⟩
  replace HX:=hE.tr HX
  replace B4:=hE.bl B4
  have hs_w21:=hE.size
  clear hE
  try clear c_B4 f_B4 l_B4
  obtain ⟨c_B4,f_B4,l_B4⟩:=blk3 B4.out
  go_wp2
  go_ret
  exact ⟨(),rfl,HX.out,trivial⟩
 obtain ⟨hp8,sp⟩:=G14.out.1 rfl
 have SP:=Hi sp
 clear sp G14
 go_wp2_with fail
 refine Calls.mono (smallon_any ⟨sn,sa,sl,sc,sb,sm,sd⟩ ⟨tn,ta,tl,tc,tb,tm,td⟩ _) ?_
 rintro e w18 ⟨x18,rfl,hE,-⟩
 replace HX:=hE.tr HX
 replace B4:=hE.bl B4
 have hs_w18:=hE.size
 clear hE
 try clear c_B4 f_B4 l_B4
 obtain ⟨c_B4,f_B4,l_B4⟩:=blk3 B4.out
 obtain ⟨s4,hs4⟩:∃ s4,s4=smOn ⟨sn,sa,sl,sc,sb,sm,sd⟩ ⟨tn,ta,tl,tc,tb,tm,td⟩:=⟨_,rfl⟩
 rw [← hs4]
 have Hs4:=Hi hs4
 clear hs4
 cases s4
 case false =>
  go_wp2_with fail
  refine Calls.mono (awake7_any _) ?_
  rintro e w21 ⟨x21,rfl,hE,-⟩
  replace HX:=hE.tr HX
  replace B4:=hE.bl B4
  have hs_w21:=hE.size
  clear hE
  try clear c_B4 f_B4 l_B4
  obtain ⟨c_B4,f_B4,l_B4⟩:=blk3 B4.out
  go_wp2
  go_ret
  exact ⟨(),rfl,HX.out,trivial⟩
 have h44:sm4 sl sm=true∧sm4 tl tm=true:=by have:=Hs4.out.symm;unfold smOn at this;exact Bool.and_eq_true_iff.1 this
 obtain ⟨hs1,hs2⟩:=sm4_le7 h44.1
 obtain ⟨ht1,ht2⟩:=sm4_le7 h44.2
 obtain ⟨p,hp,zp⟩:=rats_raw H1.out I1.out SP.out (by decide) (by decide)
 obtain ⟨a,ha⟩:=RatIn.raw IS.out (by simp only;omega) (by simp only;omega)
 obtain ⟨b,hb⟩:=RatIn.raw IT.out (by simp only;omega) (by simp only;omega)
 have ZA:Hid (Sz 4 a):=Hi (ha.sz (by decide) (by simp only;omega) (by simp only;omega))
 have ZB:Hid (Sz 4 b):=Hi (hb.sz (by decide) (by simp only;omega) (by simp only;omega))
 have hpl:=hp.len
 simp only at hpl
 have h8:(tz p).length≤8:=Nat.le_trans (tz_len_le p) (by omega)
 have ZP:Hid (SzL 19 (tz p)):=Hi (SzL.mono zp.tz (by decide))
 have FP:Hid (FrB 19 (tz p)):=Hi ((FrB.of zp.tz (n:=8) h8).mono (by decide))
 have hA:=hp.ext HX.out
 have LP:=Hi hA
 have hS:=ha.ext HX.out
 have RA:=Hi hS
 have hT:=hb.ext HX.out
 have RB:=Hi hT
 clear hp ha hb hA hS hT zp hpl h44 hs1 hs2 ht1 ht2 Hs4 SP
 go_wp2_with fail
 refine Calls.mono (mod_any n 4 _ hn1 hn2 (by decide) (by decide)) ?_
 rintro e w23 ⟨x23,rfl,hE,-⟩
 replace HX:=hE.tr HX
 replace B4:=hE.bl B4
 replace LP:=Hi (LP.out.ext hE)
 replace RA:=Hi (RA.out.ext hE)
 replace RB:=Hi (RB.out.ext hE)
 have hs_w23:=hE.size
 clear hE
 try clear c_B4 f_B4 l_B4
 obtain ⟨c_B4,f_B4,l_B4⟩:=blk3 B4.out
 rw [← HZ4.out]
 go_upto_region 4 with fail
 refine nm_alloc ?_
 intro w24 hE hB0 hz
 have hz_w24:=nle hz
 have hr_w24:=nle hz.symm
 clear hz
 replace HX:=hE.tr HX
 replace B4:=hE.bl B4
 replace LP:=Hi (LP.out.ext hE)
 replace RA:=Hi (RA.out.ext hE)
 replace RB:=Hi (RB.out.ext hE)
 have hs_w24:=hE.size
 clear hE
 try clear c_B4 f_B4 l_B4
 obtain ⟨c_B4,f_B4,l_B4⟩:=blk3 B4.out
 have B24:=Hi hB0
 clear hB0
 obtain ⟨c_B24,f_B24,l_B24⟩:=blk3 B24.out
 have HC:Hid (∀ k:Nat,k < 3→∃ c:Int,w24.cell? ⟨w23.heap.size,k,none⟩=some (.int .i64 c)∧Dep c):=Hi (by
  intro k hk
  have hc:=fun i=>blk_cell B24.out i
  rcases (show k=0 ∨ k=1 ∨ k=2 by omega) with rfl | rfl | rfl
  ·exact ⟨z4,by rw [hc];rfl,Or.inl ⟨z4.toNat,by omega,by omega⟩⟩
  ·exact ⟨-1,by rw [hc];rfl,Or.inr (Or.inl (by decide))⟩
  ·exact ⟨13,by rw [hc];rfl,Or.inr (Or.inr (by decide))⟩)
 obtain ⟨b24,hb24⟩:∃ x,x=w23.heap.size:=⟨_,rfl⟩
 rw [← hb24] at HC B24 ⊢
 have l24:b24 < w24.heap.size:=(Array.getElem?_eq_some_iff.1 B24.out).1
 have HXs:=Hi (Ext.refl w24)
 obtain ⟨b4,hb4⟩:∃ x,x=w.heap.size:=⟨_,rfl⟩
 rw [← hb4] at B4 ⊢
 clear hb24 hb4 c_B24 f_B24 l_B24 c_B4 f_B4 l_B4
 go_wp2
 go_loopg [26] 3 (fun g i wr=>∃ j:Nat,j+g=3∧i=.int .i64 (j:Nat)∧Ext w24 wr)
 case atStart=>exact ⟨0,by omega,rfl,HXs.out⟩
 case round =>
  obtain ⟨j,hj,rfl,hE⟩:=hrel
  clear HXs
  have HXs:=Hi hE
  replace HX:=hE.tr HX
  replace B4:=hE.bl B4
  replace LP:=Hi (LP.out.ext hE)
  replace RA:=Hi (RA.out.ext hE)
  replace RB:=Hi (RB.out.ext hE)
  have hs_wr:=hE.size
  clear hE
  try clear c_B4 f_B4 l_B4
  obtain ⟨c_B4,f_B4,l_B4⟩:=blk3 B4.out
  by_cases h0:gk=0
  case pos =>
   subst h0
   obtain rfl:j=3:=by omega
   have hin:¬ ((3:Nat):Int) < 3:=by decide
   clear hj
   go_upto_region 11 with fail
   refine wp_region_front 19 (fun opIx=>match opIx with
    | 0=>.spec Unit () (fun _=>.bool true) (fun _ _=>True)
    | 4=>.spec (SH) (default) (SH.v) (fun x w'=>CanL w' x (bcL (tz p) (loV a b) (hiV a b)))
    | 7=>.spec (SH) (default) (SH.v) (fun x w'=>CanL w' x (bcL (tz p) (loV a b) (hiV a b)))
    | 8=>.spec Unit () (fun _=>.bool true) (fun _ _=>True)
    | 13=>.spec (RH × RH) (default) (IvV) (fun x w'=>IvC w' x (rbn 0 (tz p) (loV a b) (hiV a b)) (rbx 0 (tz p) (loV a b) (hiV a b)))
    | 16=>.spec (RH × RH) (default) (IvV) (fun x w'=>IvC w' x (rbn 0 (tz p) (loV a b) (hiV a b)) (rbx 0 (tz p) (loV a b) (hiV a b)))
    | 17=>.spec Unit () (fun _=>.bool true) (fun _ _=>True)
    | _=>.quiet) (fun | 8=>[4,7] | 17=>[13,16] | _=>[]) (by kernel_rfl) (by kernel_rfl) (fun w0 he0 hz0 hc0 hf0=>?_)
   replace he0:=Hi he0
   simp only [pT]
   repeat (refine wpq fun K h=>?_;go_big_quiet_op;refine h _ ?_;clear h K)
   refine wps he0.out rfl rfl (fun w1 hW hG=>?_) fun x40=>?_
   ·exact spc [] Tryz.func24 (awake7_any _)
   simp only [pS]
   repeat (refine wpq fun K h=>?_;go_big_quiet_op;refine h _ ?_;clear h K)
   refine wps he0.out rfl rfl (fun w1 hW hG=>?_) fun x41=>?_
   ·exact spc [.slice pa pn pc,IvV (⟨sn,sa,sl,sc,sb,sm,sd⟩,⟨tn,ta,tl,tc,tb,tm,td⟩)] Tryz.func46 (bcoef_all pa pn pc p ⟨sn,sa,sl,sc,sb,sm,sd⟩ ⟨tn,ta,tl,tc,tb,tm,td⟩ a b 19 4 _ (LP.out.ext hW) (RA.out.ext hW) (RB.out.ext hW) (by omega) h8 ZP.out ZA.out ZB.out (by decide) (by decide))
   simp only [pS]
   repeat (refine wpq fun K h=>?_;go_big_quiet_op;refine h _ ?_;clear h K)
   refine wps he0.out rfl rfl (fun w1 hW hG=>?_) fun x42=>?_
   ·exact spc [.slice pa pn pc,IvV (⟨sn,sa,sl,sc,sb,sm,sd⟩,⟨tn,ta,tl,tc,tb,tm,td⟩)] Tryz.func47 ((rcoef7_all pa pn pc p ⟨sn,sa,sl,sc,sb,sm,sd⟩ ⟨tn,ta,tl,tc,tb,tm,td⟩ a b 19 4 _ (LP.out.ext hW) (RA.out.ext hW) (RB.out.ext hW) (by omega) h8 FP.out ZA.out ZB.out (by decide) (by decide) (by decide)).imp (fun x w' h=>h.can))
   simp only [pS]
   repeat (refine wpq fun K h=>?_;go_big_quiet_op;refine h _ ?_;clear h K)
   refine wps he0.out rfl rfl (fun w1 hW hG=>?_) fun x43=>?_
   ·have g41:=(hG 4 (by decide):Since _ _).get fun _ e g=>g.ext e
    have g42:=(hG 7 (by decide):Since _ _).get fun _ e g=>g.ext e
    exact spc [x41.v,x42.v] Tryz.func45 ((by have h:=samelist_any x41 x42 _ _ _ g41 g42;rw [decide_eq_true rfl] at h;exact h))
   simp only [pS]
   repeat (refine wpq fun K h=>?_;go_big_quiet_op;refine h _ ?_;clear h K)
   refine wps he0.out rfl rfl (fun w1 hW hG=>?_) fun x44=>?_
   ·exact spc [.slice pa pn pc,IvV (⟨sn,sa,sl,sc,sb,sm,sd⟩,⟨tn,ta,tl,tc,tb,tm,td⟩)] Tryz.func48 ((by have h:=brange_any pa pn pc p ⟨sn,sa,sl,sc,sb,sm,sd⟩ ⟨tn,ta,tl,tc,tb,tm,td⟩ a b 19 4 _ (LP.out.ext hW) (RA.out.ext hW) (RB.out.ext hW) (by omega) h8 ZP.out ZA.out ZB.out (by decide) (by decide);rw [rg_eq] at h;exact h))
   simp only [pS]
   repeat (refine wpq fun K h=>?_;go_big_quiet_op;refine h _ ?_;clear h K)
   refine wps he0.out rfl rfl (fun w1 hW hG=>?_) fun x45=>?_
   ·exact spc [.slice pa pn pc,IvV (⟨sn,sa,sl,sc,sb,sm,sd⟩,⟨tn,ta,tl,tc,tb,tm,td⟩)] Tryz.func49 (rrange7_any pa pn pc p ⟨sn,sa,sl,sc,sb,sm,sd⟩ ⟨tn,ta,tl,tc,tb,tm,td⟩ a b 19 4 _ (LP.out.ext hW) (RA.out.ext hW) (RB.out.ext hW) (by omega) h8 FP.out ZA.out ZB.out (by decide) (by decide) (by decide))
   simp only [pS]
   repeat (refine wpq fun K h=>?_;go_big_quiet_op;refine h _ ?_;clear h K)
   refine wps he0.out rfl rfl (fun w1 hW hG=>?_) fun x46=>?_
   ·have g44:=(hG 13 (by decide):Since _ _).get fun _ e g=>g.ext e
    have g45:=(hG 16 (by decide):Since _ _).get fun _ e g=>g.ext e
    exact spc [IvV x44,IvV x45] Tryz.func44 ((by have h:=ivsame4_any x44.1 x44.2 x45.1 x45.2 _ _ _ _ _ g44.1 g44.2 g45.1 g45.2;rw [decide_eq_true ⟨rfl,rfl⟩] at h;exact h))
   simp only [pS]
   repeat (refine wpq fun K h=>?_;go_big_quiet_op;refine h _ ?_;clear h K)
   refine wpF_nil ?_
   intro w30 hI
   have hE:=he0.out.trans hI.ext
   have G41:=Hi ((hI.facts 4:Since _ _).get fun _ e g=>g.ext e)
   have G42:=Hi ((hI.facts 7:Since _ _).get fun _ e g=>g.ext e)
   have G44:=Hi ((hI.facts 13:Since _ _).get fun _ e g=>g.ext e)
   have G45:=Hi ((hI.facts 16:Since _ _).get fun _ e g=>g.ext e)
   clear hI he0 hz0 hc0 hf0
   replace HX:=hE.tr HX
   replace B4:=hE.bl B4
   replace LP:=Hi (LP.out.ext hE)
   replace RA:=Hi (RA.out.ext hE)
   replace RB:=Hi (RB.out.ext hE)
   replace HXs:=hE.tr HXs
   have hs_w30:=hE.size
   clear hE
   try clear c_B4 f_B4 l_B4
   obtain ⟨c_B4,f_B4,l_B4⟩:=blk3 B4.out
   simp only [pD]
   go_wp2
   go_ret
   exact ⟨(),rfl,HX.out,trivial⟩
  have hin:(j:Int) < 3:=by omega
  obtain ⟨c,hcc,hdep⟩:=HC.out j (by omega)
  have hcw:wr.cell? ⟨b24,j,none⟩=some (.int .i64 c):=HXs.out.cell hcc
  have l24r:b24 < wr.heap.size:=by omega
  clear hcc
  go_upto_region 6 with fail
  clear hcw
  rcases hdep with ⟨d,rfl,hd⟩ | hbad
  case inl =>
   have hd2:(4+3) * 2 ^ d≤63:=by
    rcases (show d=0 ∨ d=1 ∨ d=2 ∨ d=3 by omega) with rfl | rfl | rfl | rfl <;> decide
   go_wp2_with fail
   refine Calls.mono (bbound_all pa pn pc p ⟨sn,sa,sl,sc,sb,sm,sd⟩ ⟨tn,ta,tl,tc,tb,tm,td⟩ a b d 19 4 _ LP.out RA.out RB.out (by omega) h8 ZP.out ZA.out ZB.out (by decide) (by decide) (by omega)) ?_
   rintro e w34 ⟨x34,rfl,hE,g34⟩
   have G34:=Hi g34
   clear g34
   replace HX:=hE.tr HX
   replace B4:=hE.bl B4
   replace LP:=Hi (LP.out.ext hE)
   replace RA:=Hi (RA.out.ext hE)
   replace RB:=Hi (RB.out.ext hE)
   replace HXs:=hE.tr HXs
   have hs_w34:=hE.size
   clear hE
   try clear c_B4 f_B4 l_B4
   obtain ⟨c_B4,f_B4,l_B4⟩:=blk3 B4.out
   obtain ⟨⟨⟨un,ua,ul,uc,ub,um,ud⟩,⟨vn,va,vl,vc,vb,vm,vd⟩⟩,e34⟩:=x34
   obtain ⟨he,hu⟩:=G34.out
   simp only at he hu
   have HU:=Hi hu.1
   have HV:=Hi hu.2
   subst he
   clear hu G34
   simp only at HU HV
   go_upto_region 7 with fail
   refine nm_alloc ?_
   intro w35 hE hB0 hz
   have hz_w35:=nle hz
   have hr_w35:=nle hz.symm
   clear hz
   replace HX:=hE.tr HX
   replace B4:=hE.bl B4
   replace LP:=Hi (LP.out.ext hE)
   replace RA:=Hi (RA.out.ext hE)
   replace RB:=Hi (RB.out.ext hE)
   replace HXs:=hE.tr HXs
   replace HU:=Hi (HU.out.ext hE)
   replace HV:=Hi (HV.out.ext hE)
   have hs_w35:=hE.size
   clear hE
   try clear c_B4 f_B4 l_B4
   obtain ⟨c_B4,f_B4,l_B4⟩:=blk3 B4.out
   have B9:=Hi hB0
   clear hB0
   obtain ⟨c_B9,f_B9,l_B9⟩:=blk3 B9.out
   go_wp2_with fail
   refine Calls.mono (rbound7_any pa pn pc p ⟨sn,sa,sl,sc,sb,sm,sd⟩ ⟨tn,ta,tl,tc,tb,tm,td⟩ a b d 19 4 _ LP.out RA.out RB.out (by omega) h8 FP.out ZA.out ZB.out (by decide) (by decide) hd2 (by omega)) ?_
   rintro e w41 ⟨x41,rfl,hE,g41⟩
   have G41:=Hi g41
   clear g41
   replace HX:=hE.tr HX
   replace B4:=hE.bl B4
   replace LP:=Hi (LP.out.ext hE)
   replace RA:=Hi (RA.out.ext hE)
   replace RB:=Hi (RB.out.ext hE)
   replace HXs:=hE.tr HXs
   replace HU:=Hi (HU.out.ext hE)
   replace HV:=Hi (HV.out.ext hE)
   replace B9:=hE.bl B9
   have hs_w41:=hE.size
   clear hE
   try clear c_B4 f_B4 l_B4
   obtain ⟨c_B4,f_B4,l_B4⟩:=blk3 B4.out
   try clear c_B9 f_B9 l_B9
   obtain ⟨c_B9,f_B9,l_B9⟩:=blk3 B9.out
   obtain ⟨⟨⟨cn,ca,cl,cc,cb,cm,cd⟩,⟨dn,da,dl,dc,db,dm,dd⟩⟩,e41⟩:=x41
   obtain ⟨he,hu⟩:=G41.out
   simp only at he hu
   have HU2:=Hi hu.1
   have HV2:=Hi hu.2
   subst he
   clear hu G41
   simp only at HU2 HV2
   go_upto_region 8 with fail
   refine nm_alloc ?_
   intro w42 hE hB0 hz
   have hz_w42:=nle hz
   have hr_w42:=nle hz.symm
   clear hz
   replace HX:=hE.tr HX
   replace B4:=hE.bl B4
   replace LP:=Hi (LP.out.ext hE)
   replace RA:=Hi (RA.out.ext hE)
   replace RB:=Hi (RB.out.ext hE)
   replace HXs:=hE.tr HXs
   replace HU:=Hi (HU.out.ext hE)
   replace HV:=Hi (HV.out.ext hE)
   replace B9:=hE.bl B9
   replace HU2:=Hi (HU2.out.ext hE)
   replace HV2:=Hi (HV2.out.ext hE)
   have hs_w42:=hE.size
   clear hE
   try clear c_B4 f_B4 l_B4
   obtain ⟨c_B4,f_B4,l_B4⟩:=blk3 B4.out
   try clear c_B9 f_B9 l_B9
   obtain ⟨c_B9,f_B9,l_B9⟩:=blk3 B9.out
   have B11:=Hi hB0
   clear hB0
   obtain ⟨c_B11,f_B11,l_B11⟩:=blk3 B11.out
   go_wp2_with fail
   refine Calls.mono ((by have h:=ivsame4_any ⟨un,ua,ul,uc,ub,um,ud⟩ ⟨vn,va,vl,vc,vb,vm,vd⟩ ⟨cn,ca,cl,cc,cb,cm,cd⟩ ⟨dn,da,dl,dc,db,dm,dd⟩ _ _ _ _ _ HU.out HV.out HU2.out HV2.out;rw [decide_eq_true ⟨rfl,rfl⟩] at h;exact h)) ?_
   rintro e w50 ⟨x50,rfl,hE,-⟩
   replace HX:=hE.tr HX
   replace B4:=hE.bl B4
   replace LP:=Hi (LP.out.ext hE)
   replace RA:=Hi (RA.out.ext hE)
   replace RB:=Hi (RB.out.ext hE)
   replace HXs:=hE.tr HXs
   replace HU:=Hi (HU.out.ext hE)
   replace HV:=Hi (HV.out.ext hE)
   replace B9:=hE.bl B9
   replace HU2:=Hi (HU2.out.ext hE)
   replace HV2:=Hi (HV2.out.ext hE)
   replace B11:=hE.bl B11
   have hs_w50:=hE.size
   clear hE
   try clear c_B4 f_B4 l_B4
   obtain ⟨c_B4,f_B4,l_B4⟩:=blk3 B4.out
   try clear c_B9 f_B9 l_B9
   obtain ⟨c_B9,f_B9,l_B9⟩:=blk3 B9.out
   try clear c_B11 f_B11 l_B11
   obtain ⟨c_B11,f_B11,l_B11⟩:=blk3 B11.out
   go_wp2
   go_roundg (gk - 1)
   case measure=>omega
   case rel=>exact ⟨j+1,by omega,by go_num,HXs.out⟩
  case inr =>
   go_wp2_with fail
   refine Calls.mono (bbound_err pa pn pc ⟨sn,sa,sl,sc,sb,sm,sd⟩ ⟨tn,ta,tl,tc,tb,tm,td⟩ c _ hbad) ?_
   rintro e w34 ⟨x34,rfl,hE,g34⟩
   have G34:=Hi g34
   clear g34
   replace HX:=hE.tr HX
   replace B4:=hE.bl B4
   replace LP:=Hi (LP.out.ext hE)
   replace RA:=Hi (RA.out.ext hE)
   replace RB:=Hi (RB.out.ext hE)
   replace HXs:=hE.tr HXs
   have hs_w34:=hE.size
   clear hE
   try clear c_B4 f_B4 l_B4
   obtain ⟨c_B4,f_B4,l_B4⟩:=blk3 B4.out
   have hx:=G34.out
   subst hx
   clear G34
   go_upto_region 7 with fail
   refine nm_alloc ?_
   intro w35 hE hB0 hz
   have hz_w35:=nle hz
   have hr_w35:=nle hz.symm
   clear hz
   replace HX:=hE.tr HX
   replace B4:=hE.bl B4
   replace LP:=Hi (LP.out.ext hE)
   replace RA:=Hi (RA.out.ext hE)
   replace RB:=Hi (RB.out.ext hE)
   replace HXs:=hE.tr HXs
   have hs_w35:=hE.size
   clear hE
   try clear c_B4 f_B4 l_B4
   obtain ⟨c_B4,f_B4,l_B4⟩:=blk3 B4.out
   have B9:=Hi hB0
   clear hB0
   obtain ⟨c_B9,f_B9,l_B9⟩:=blk3 B9.out
   go_wp2_with fail
   refine Calls.mono (rbound7_err pa pn pc ⟨sn,sa,sl,sc,sb,sm,sd⟩ ⟨tn,ta,tl,tc,tb,tm,td⟩ c _ hbad) ?_
   rintro e w41 ⟨x41,rfl,hE,g41⟩
   have G41:=Hi g41
   clear g41
   replace HX:=hE.tr HX
   replace B4:=hE.bl B4
   replace LP:=Hi (LP.out.ext hE)
   replace RA:=Hi (RA.out.ext hE)
   replace RB:=Hi (RB.out.ext hE)
   replace HXs:=hE.tr HXs
   replace B9:=hE.bl B9
   have hs_w41:=hE.size
   clear hE
   try clear c_B4 f_B4 l_B4
   obtain ⟨c_B4,f_B4,l_B4⟩:=blk3 B4.out
   try clear c_B9 f_B9 l_B9
   obtain ⟨c_B9,f_B9,l_B9⟩:=blk3 B9.out
   have hx:=G41.out
   subst hx
   clear G41
   go_upto_region 8 with fail
   refine nm_alloc ?_
   intro w42 hE hB0 hz
   have hz_w42:=nle hz
   have hr_w42:=nle hz.symm
   clear hz
   replace HX:=hE.tr HX
   replace B4:=hE.bl B4
   replace LP:=Hi (LP.out.ext hE)
   replace RA:=Hi (RA.out.ext hE)
   replace RB:=Hi (RB.out.ext hE)
   replace HXs:=hE.tr HXs
   replace B9:=hE.bl B9
   have hs_w42:=hE.size
   clear hE
   try clear c_B4 f_B4 l_B4
   obtain ⟨c_B4,f_B4,l_B4⟩:=blk3 B4.out
   try clear c_B9 f_B9 l_B9
   obtain ⟨c_B9,f_B9,l_B9⟩:=blk3 B9.out
   have B11:=Hi hB0
   clear hB0
   obtain ⟨c_B11,f_B11,l_B11⟩:=blk3 B11.out
   go_wp2_with fail
   refine Calls.mono (ivsame4_zero _) ?_
   rintro e w50 ⟨x50,rfl,hE,-⟩
   replace HX:=hE.tr HX
   replace B4:=hE.bl B4
   replace LP:=Hi (LP.out.ext hE)
   replace RA:=Hi (RA.out.ext hE)
   replace RB:=Hi (RB.out.ext hE)
   replace HXs:=hE.tr HXs
   replace B9:=hE.bl B9
   replace B11:=hE.bl B11
   have hs_w50:=hE.size
   clear hE
   try clear c_B4 f_B4 l_B4
   obtain ⟨c_B4,f_B4,l_B4⟩:=blk3 B4.out
   try clear c_B9 f_B9 l_B9
   obtain ⟨c_B9,f_B9,l_B9⟩:=blk3 B9.out
   try clear c_B11 f_B11 l_B11
   obtain ⟨c_B11,f_B11,l_B11⟩:=blk3 B11.out
   go_wp2
   go_roundg (gk - 1)
   case measure=>omega
   case rel=>exact ⟨j+1,by omega,by go_num,HXs.out⟩
end Go.Proofs.YtpieblkklbilgaaGreat
