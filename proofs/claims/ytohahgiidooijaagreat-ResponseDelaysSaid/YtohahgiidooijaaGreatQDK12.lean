/- awake of chapter 20. -/
import Derived.Test.YtohahgiidooijaaGreatQDK8
import Derived.Test.YtohahgiidooijaaGreatQDRp7
import Derived.Test.YtohahgiidooijaaGreatQDK11
import Derived.Test.YtohahgiidooijaaGreatQDM13
import Derived.Test.YtohahgiidooijaaGreatQDK2
import Derived.Test.YtohahgiidooijaaGreatQDM11
import Derived.Test.YtohahgiidooijaaGreatQDK1
import Derived.Test.YtohahgiidooijaaGreatQDK7
import Derived.Test.YtohahgiidooijaaGreatQDM22
import Derived.Test.YtohahgiidooijaaGreatQDK10
import Derived.Test.YtohahgiidooijaaGreatQDM12
import Derived.Test.YtohahgiidooijaaGreatQDM3
set_option linter.unusedVariables false
set_option maxHeartbeats 8000000
set_option maxRecDepth 8000
namespace Go.Proofs.YtohahgiidooijaaGreat
open Go.RowKit Go.Front Go.Num
attribute [local go_sem] XW.cell XW.frozen
theorem yq{P:Program}{o:Oper}{a:Act}{w:World}{T:TypeId}(x:RH)(p:Rat)(hx:ay w x p)(hT:T=30)
 (hrun:(execOp a.eval o).run P w=.ok (.value (.slice (some ⟨w.heap.size,0,none⟩) 1 1)) (w.alloc (.cells #[.bool x.neg,.slice x.a x.n x.c,.slice x.b x.m x.d] T))) :
  dX P o a w (fun b:Nat=>.slice (some ⟨b,0,none⟩) 1 1) (fun b w'=>aJ w' ⟨some ⟨b,0,none⟩,1,1⟩ [p]):=by
 subst hT;unfold dX;rw [hrun];exact ⟨Ext.alloc _ _,w.heap.size,rfl,mB (heap_alloc_new _ _) (hx.ext (Ext.alloc _ _))⟩
theorem yp{P:Program}{o:Oper}{a:Act}{w:World}{T:TypeId}(x y:RH)(p q:Rat)(hx:ay w x p)(hy:ay w y q)(hT:T=30)
 (hrun:(execOp a.eval o).run P w=.ok (.value (.slice (some ⟨w.heap.size,0,none⟩) 2 2)) (w.alloc (.cells #[.bool x.neg,.slice x.a x.n x.c,.slice x.b x.m x.d,.bool y.neg,.slice y.a y.n y.c,.slice y.b y.m y.d] T))) :
  dX P o a w (fun b:Nat=>.slice (some ⟨b,0,none⟩) 2 2) (fun b w'=>aJ w' ⟨some ⟨b,0,none⟩,2,2⟩ [p,q]):=by
 subst hT;unfold dX;rw [hrun];exact ⟨Ext.alloc _ _,w.heap.size,rfl,o6 (heap_alloc_new _ _) (hx.ext (Ext.alloc _ _)) (hy.ext (Ext.alloc _ _))⟩
theorem yk{P:Program}{o:Oper}{a:Act}{w:World}{T:TypeId}(x y z:RH)(p q r:Rat)(hx:ay w x p)(hy:ay w y q)(hz:ay w z r)(hT:T=30)
 (hrun:(execOp a.eval o).run P w=.ok (.value (.slice (some ⟨w.heap.size,0,none⟩) 3 3)) (w.alloc (.cells #[.bool x.neg,.slice x.a x.n x.c,.slice x.b x.m x.d,.bool y.neg,.slice y.a y.n y.c,.slice y.b y.m y.d,.bool z.neg,.slice z.a z.n z.c,.slice z.b z.m z.d] T))) :
  dX P o a w (fun b:Nat=>.slice (some ⟨b,0,none⟩) 3 3) (fun b w'=>aJ w' ⟨some ⟨b,0,none⟩,3,3⟩ [p,q,r]):=by
 subst hT;unfold dX;rw [hrun];exact ⟨Ext.alloc _ _,w.heap.size,rfl,EW (heap_alloc_new _ _) (hx.ext (Ext.alloc _ _)) (hy.ext (Ext.alloc _ _)) (hz.ext (Ext.alloc _ _))⟩
theorem iE(w:World):au 19 [] w (fun _:Unit=>.bool true) (fun _ _=>True):=by
 have HX:=Hi (Ext.refl w);have Z1:Hid (SzL 1 [iq 1]):=Hi (szB (by decide +kernel));have Z2:Hid (SzL 1 [iq 1,fr (-1) 2]):=Hi (szB (by decide +kernel));have Z3:Hid (SzL 1 [iq 1,iq 1]):=Hi (szB (by decide +kernel));have F1:Hid (FrB 13 [iq 1]):=Hi ((FrB.of (n:=2) Z1.out (by decide)).mono (by decide));have F3:Hid (FrB 13 [iq 1,iq 1]):=Hi ((FrB.of (n:=2) Z3.out (by decide)).mono (by decide));have V1:Hid (vE [iq 1] [iq 1,fr (-1) 2] 3=(0,[iq 1,fr 1 2,fr 1 4])):=Hi (by decide +kernel);have V2:Hid (cD [iq 1,iq 1] [iq 1]=(0,[iq 1],[iq 2])):=Hi (by decide +kernel);have V3:Hid (decide (VF [iq 1] [iq 1,fr (-1) 2])=true):=Hi (by decide +kernel);have V4:Hid (([iq 1]:List Rat).getD 0 0 / ([iq 2]:List Rat).getD 0 0=fr 1 2):=Hi (by decide +kernel);have V5:Hid (((tz [iq 1]).length:Int)-1=0):=Hi (by decide +kernel);have SA:Hid (Sz 1 (iq 1)):=Hi (Sz.int (by decide));have SB:Hid (Sz 1 (iq 2)):=Hi (Sz.int (by decide));unfold au;go_enter Tryz.func19,Tryz.ntmps19
 go_wp2_with fail
 refine cM (aX 1 _ (by decide) (by decide)) fun x1 w1 hE G1=>?_
 replace HX:=hE.tr HX;have hs_w1:=hE.size;clear hE
 go_upto_region 2 with fail
 refine nmA ?_;intro w2 hE B1 hz_w2 hr_w2;refine mV2 hE ?_ G1 HX;clear G1 HX;intro G1 HX;have hs_w2:=hE.size;clear hE;replace b_B1:=bX3 B1;refine wpG 7 (fun opIx=>match opIx with
  | 1=>.spec (Nat) (0) (fun b=>.slice (some ⟨b,0,none⟩) 1 1) (fun b w'=>aJ w' ⟨some ⟨b,0,none⟩,1,1⟩ [iq 1])
  | 3=>.spec RH default RH.v (fun s w'=>ay w' s (fr (-1) 2))
  | 4=>.spec (Nat) (0) (fun b=>.slice (some ⟨b,0,none⟩) 2 2) (fun b w'=>aJ w' ⟨some ⟨b,0,none⟩,2,2⟩ [iq 1,fr (-1) 2])
  | 6=>.alloc 43 #[.slice none 0 0,.slice none 0 0]
  | _=>.quiet) (fun|4=>[3]|_=>[]) fun w0 he0 hz0 hc0 hf0=>?_
 refine wps he0.out rfl rfl (fun w1 hW hG=>?_) fun x21=>?_
 ·exact yq x1 _ (G1.out.ext hW) rfl (by simp [execOp,go_sem])
 refine qZ ?_;refine wps he0.out rfl rfl (fun w1 hW hG=>?_) fun x22=>?_
 ·exact spc [.int .i64 (-1),.int .i64 2] Tryz.func32 (cZ (-1) 2 _ (by decide) (by decide) (by decide) (by decide))
 refine qZ ?_;refine wps he0.out rfl rfl (fun w1 hW hG=>?_) fun x23=>?_
 ·have g22:=(hG 3 (by decide):aD _ _).get fun _ e g=>g.ext e
  exact yp x1 x22 _ _ (G1.out.ext hW) g22 rfl (by simp [execOp,go_sem])
 refine qZ ?_;refine aZ rfl rfl (fun w=>by simp [execOp,go_sem,ptr]) (fun b24 hb24 hl24=>?_);refine qZ ?_;refine aq ?_;intro w3 hI;have hE:=he0.out.trans hI.ext;have G21:=gT (hI.facts 1);have G22:=gT (hI.facts 3);have G23:=gT (hI.facts 4);have A24:Hid (w3.heap[b24]?=some (.cells #[.slice none 0 0,.slice none 0 0] 43 (0,0))):=hI.facts 6;rw [hz0] at hl24;clear hI he0 hz0 hc0 hf0;refine mV3 hE ?_ B1 G1 HX;clear B1 G1 HX;intro B1 G1 HX;have hs_w3:=hE.size;clear hE;replace b_B1:=bX3 B1;replace b_A24:=bX3 A24;simp only [pD,ptr]
 go_upto_region 3 with fail
 refine dH A24.out rfl ?_;intro w4 T;replace G21:=Hi (aJ.put2 G21.out A24.out T);replace G23:=Hi (aJ.put2 G23.out A24.out T);replace HX:=Hi (T.ext HX.out (by omega));replace G1:=Hi (G1.out.keep T.keep);replace B1:=Hi (T.rest _ _ (by omega) B1.out);replace G22:=Hi (G22.out.keep T.keep);replace A24:=Hi (T.bx);have hs_w4:=nle T.size;have hr_w4:=nle T.size.symm;clear T;replace b_B1:=bX3 B1;replace b_A24:=bX3 A24
 go_wp2_with fail
 refine cM (ns ⟨⟨some ⟨x21,0,none⟩,1,1⟩,⟨some ⟨x23,0,none⟩,2,2⟩⟩ [iq 1] [iq 1,fr (-1) 2] 3 1 1 _ ⟨G21.out.raw Z1.out (by decide),G23.out.raw Z2.out (by decide)⟩ (by show 1≤1000;decide) (by show 2≤1000;decide) (by decide) (by decide) Z1.out Z2.out (by decide) (by decide) (by decide) (by decide) (fun _ _=>by decide +kernel)) fun x5 w5 hE G5=>?_
 refine mV7 hE ?_ G21 G23 HX G1 B1 G22 A24;clear G21 G23 HX G1 B1 G22 A24;intro G21 G23 HX G1 B1 G22 A24;have hs_w5:=hE.size;clear hE;replace b_B1:=bX3 B1;replace b_A24:=bX3 A24;obtain ⟨⟨a5,n5,c5⟩,e5⟩:=x5;obtain ⟨he,hl⟩:=G5.out;rw [V1.out] at he hl;simp only at he hl;subst he;have L5:=Hi hl;clear hl G5;simp only [RF,SH.v]
 go_wp2_with fail
 refine jV (F:=fun W=>Calls _ _ _ W _) ?_;intro w6 hE B22 B24 hz_w6 hr_w6;refine mV8 hE ?_ G21 G23 HX G1 B1 G22 A24 L5;clear G21 G23 HX G1 B1 G22 A24 L5;intro G21 G23 HX G1 B1 G22 A24 L5;have hs_w6:=hE.size;clear hE;replace b_B1:=bX3 B1;replace b_A24:=bX3 A24;replace b_B22:=bX3 B22;replace b_B24:=bX3 B24
 change Calls _ _ _ _ _
 have L22:=Hi (o6 B22.out G1.out G1.out);have L24:=Hi (mB B24.out G1.out)
 (try clear b_B22);clear B22
 (try clear b_B24);clear B24
 refine cM (fV ⟨⟨some ⟨w5.heap.size,0,none⟩,2,2⟩,⟨some ⟨w5.heap.size+1,0,none⟩,1,1⟩⟩ [iq 1,iq 1] [iq 1] 13 _ ⟨L22.out.raw Z3.out (by decide),L24.out.raw Z1.out (by decide)⟩ ⟨by show 2≤14;decide,by show 1≤5;decide⟩ F3.out F1.out (by decide)) fun x7 w7 hE G7=>?_
 refine mV8 hE ?_ G21 G23 HX G1 B1 G22 A24 L5;clear G21 G23 HX G1 B1 G22 A24 L5;intro G21 G23 HX G1 B1 G22 A24 L5;refine mV2 hE ?_ L22 L24;clear L22 L24;intro L22 L24;have hs_w7:=hE.size;clear hE;replace b_B1:=bX3 B1;replace b_A24:=bX3 A24;obtain ⟨⟨⟨na,nn,nc⟩,⟨da,dn,dc⟩⟩,e7⟩:=x7;obtain ⟨he,h1,h2⟩:=G7.out;rw [V2.out] at he h1 h2;simp only at he h1 h2;subst he;have LN:=Hi h1;have LD:=Hi h2;have hnn:nn=1:=h1.len.symm;have hdn:dn=1:=h2.len.symm;subst hnn hdn;clear h1 h2 G7;clear L22;clear L24;simp only [FE,FH.v,SH.v]
 go_upto_region 5 with fail
 refine nmA ?_;intro w8 hE B5 hz_w8 hr_w8;refine mV8 hE ?_ G21 G23 HX G1 B1 G22 A24 L5;clear G21 G23 HX G1 B1 G22 A24 L5;intro G21 G23 HX G1 B1 G22 A24 L5;refine mV2 hE ?_ LN LD;clear LN LD;intro LN LD;have hs_w8:=hE.size;clear hE;replace b_B1:=bX3 B1;replace b_A24:=bX3 A24;replace b_B5:=bX3 B5;obtain ⟨nb,no,r,hao,hbl,⟨hc1,hc2,hc3⟩,hP⟩:=LN.out.celx (k:=0) (by decide);obtain ⟨db,do',r2,hao2,hbl2,⟨hd1,hd2,hd3⟩,hP2⟩:=LD.out.celx (k:=0) (by decide);obtain ⟨rneg,ra,rn,rc,rb,rm,rd⟩:=r;obtain ⟨sneg,sa,sn,sc,sb,sm,sd⟩:=r2;simp only [Nat.zero_mul,Nat.add_zero] at hao hao2 hc1 hc2 hc3 hd1 hd2 hd3;have RN:=Hi hP;have RD:=Hi hP2;clear hP hP2;subst hao hao2;refine wpG 36 (fun opIx=>match opIx with
  | 9=>.spec RH default RH.v (fun s w'=>ay w' s (fr 1 2))
  | 10=>.spec RH default RH.v (fun s w'=>ay w' s (fr 1 4))
  | 11=>.spec (Nat) (0) (fun b=>.slice (some ⟨b,0,none⟩) 3 3) (fun b w'=>aJ w' ⟨some ⟨b,0,none⟩,3,3⟩ [iq 1,fr 1 2,fr 1 4])
  | 12=>.spec Unit () (fun _=>.bool true) (fun _ _=>True)
  | 17=>.spec Unit () (fun _=>.int .i64 0) (fun _ _=>True)
  | 29=>.spec RH default RH.v (fun s w'=>ay w' s (fr 1 2))
  | 30=>.spec RH default RH.v (fun s w'=>ay w' s (fr 1 2))
  | 31=>.spec Unit () (fun _=>.bool true) (fun _ _=>True)
  | 35=>.spec Unit () (fun _=>.bool true) (fun _ _=>True)
  | _=>.quiet) (fun|11=>[9,10]|12=>[11]|31=>[29,30]|_=>[]) fun w0 he0 hz0 hc0 hf0=>?_
 refine wps he0.out rfl rfl (fun w1 hW hG=>?_) fun x30=>?_
 ·exact spc [.int .i64 1,.int .i64 2] Tryz.func32 (cZ 1 2 _ (by decide) (by decide) (by decide) (by decide))
 refine qZ ?_;refine wps he0.out rfl rfl (fun w1 hW hG=>?_) fun x31=>?_
 ·exact spc [.int .i64 1,.int .i64 4] Tryz.func32 (cZ 1 4 _ (by decide) (by decide) (by decide) (by decide))
 refine qZ ?_;refine wps he0.out rfl rfl (fun w1 hW hG=>?_) fun x32=>?_
 ·have g30:=(hG 9 (by decide):aD _ _).get fun _ e g=>g.ext e
  have g31:=(hG 10 (by decide):aD _ _).get fun _ e g=>g.ext e
  exact yk x1 x30 x31 _ _ _ (G1.out.ext hW) g30 g31 rfl (by simp [execOp,go_sem])
 refine qZ ?_;refine wps he0.out rfl rfl (fun w1 hW hG=>?_) fun x33=>?_
 ·have g32:=(hG 11 (by decide):aD _ _).get fun _ e g=>g.ext e
  exact spc [.slice a5 n5 c5,.slice (some ⟨x32,0,none⟩) 3 3] Tryz.func61 ((by have h:=jK ⟨a5,n5,c5⟩ ⟨some ⟨x32,0,none⟩,3,3⟩ _ _ _ (L5.out.ext hW) g32;rw [decide_eq_true rfl] at h;exact h))
 refine qZ ?_;refine wps he0.out rfl rfl (fun w1 hW hG=>?_) fun x34=>?_
 ·exact spc [.slice (some ⟨nb,no,none⟩) 1 nc] Tryz.func53 ((by have h:=eR (some ⟨nb,no,none⟩) 1 nc [iq 1] _ ((LN.out.ext hW).raw Z1.out (by decide)) (by decide);rw [V5.out] at h;exact h))
 refine qZ ?_;refine wps he0.out rfl rfl (fun w1 hW hG=>?_) fun x35=>?_
 ·exact spc [RH.v ⟨rneg,ra,rn,rc,rb,rm,rd⟩,RH.v ⟨sneg,sa,sn,sc,sb,sm,sd⟩] Tryz.func63 ((by have h:=fD ⟨rneg,ra,rn,rc,rb,rm,rd⟩ ⟨sneg,sa,sn,sc,sb,sm,sd⟩ _ _ _ ((RN.out.ext hW).raw SA.out (by decide)) ((RD.out.ext hW).raw SB.out (by decide));rw [V4.out] at h;exact h))
 refine qZ ?_;refine wps he0.out rfl rfl (fun w1 hW hG=>?_) fun x36=>?_
 ·exact spc [.int .i64 1,.int .i64 2] Tryz.func32 (cZ 1 2 _ (by decide) (by decide) (by decide) (by decide))
 refine qZ ?_;refine wps he0.out rfl rfl (fun w1 hW hG=>?_) fun x37=>?_
 ·have g35:=(hG 29 (by decide):aD _ _).get fun _ e g=>g.ext e
  have g36:=(hG 30 (by decide):aD _ _).get fun _ e g=>g.ext e
  exact spc [x35.v,x36.v] Tryz.func62 ((by have h:=mo x35 x36 _ _ _ g35 g36;rw [decide_eq_true rfl] at h;exact h))
 refine qZ ?_;refine wps he0.out rfl rfl (fun w1 hW hG=>?_) fun x38=>?_
 ·exact spc [FH.v ⟨⟨some ⟨x21,0,none⟩,1,1⟩,⟨some ⟨x23,0,none⟩,2,2⟩⟩] Tryz.func64 ((by have h:=dE ⟨⟨some ⟨x21,0,none⟩,1,1⟩,⟨some ⟨x23,0,none⟩,2,2⟩⟩ [iq 1] [iq 1,fr (-1) 2] _ ⟨(G21.out.ext hW).raw Z1.out (by decide),(G23.out.ext hW).raw Z2.out (by decide)⟩;rw [V3.out] at h;exact h))
 refine qZ ?_;refine aq ?_;intro w9 hI;have hE:=he0.out.trans hI.ext;have G30:=gT (hI.facts 9);have G31:=gT (hI.facts 10);have G32:=gT (hI.facts 11);have G35:=gT (hI.facts 29);have G36:=gT (hI.facts 30);clear hI he0 hz0 hc0 hf0;refine mV8 hE ?_ B5 G21 G23 HX G1 B1 G22 A24;clear B5 G21 G23 HX G1 B1 G22 A24;intro B5 G21 G23 HX G1 B1 G22 A24;refine mV3 hE ?_ L5 LN LD;clear L5 LN LD;intro L5 LN LD;have hs_w9:=hE.size;clear hE;replace b_B1:=bX3 B1;replace b_A24:=bX3 A24;replace b_B5:=bX3 B5;simp only [pD];go_wp2
 go_ret
 exact ⟨(),rfl,HX.out,trivial⟩
end Go.Proofs.YtohahgiidooijaaGreat
/- The filters of make: their numbers. Plain facts. -/
namespace Go.Proofs.YtohahgiidooijaaGreat
open Go.RowKit Go.Front Go.Num
def vU(xs:List Int):List Rat:=kK xs 3
def keL(xs:List Int):List Rat:=(xs.take 3).map gX
def xL(xs:List Int):List Rat:=tz (Stab.ups (keL xs))
theorem BZ:∀ m:Nat,m<15→(-1<(((m:Int)-7:Int):Rat) / ((8:Int):Rat)∧(((m:Int)-7:Int):Rat) / ((8:Int):Rat)<1)∧((((m:Int)-7:Int):Rat) / ((8:Int):Rat)).num.natAbs<W32∧((((m:Int)-7:Int):Rat) / ((8:Int):Rat)).den<W32 ∧
  ((((m:Int)-7:Int):Rat) / ((8:Int):Rat)*((8:Nat):Rat)).den=1∧((((m:Int)-7:Int):Rat) / ((8:Int):Rat)*((8:Nat):Rat)).num.natAbs<W32:=by decide +kernel
theorem vw(n:Int):(-1<gX n∧gX n<1)∧Sz 1 (gX n)∧Fr 1 8 (gX n):=by
 have h1:=Int.emod_nonneg n (show (15:Int)≠0 by decide);have h2:=Int.emod_lt_of_pos n (show (0:Int)<15 by decide);have h:=BZ (n % 15).toNat (by omega);rw [show (((n % 15).toNat:Nat):Int)=n % 15 by omega] at h;exact ⟨h.1,⟨by rw [Nat.pow_one];exact h.2.1,by rw [Nat.pow_one];exact h.2.2.1⟩,h.2.2.2.1,by rw [Nat.pow_one];exact h.2.2.2.2⟩
theorem nq(xs:List Int):(keL xs).length≤3:=by unfold keL;rw [nXk,nXj];omega
theorem Ea(xs:List Int):∀ r ∈ keL xs,-1<r∧r<1:=fun r hr=>by obtain ⟨n,-,rfl⟩:=nYe.1 hr;exact (vw n).1
theorem D9(xs:List Int):SzL 1 (keL xs):=fun r hr=>by obtain ⟨n,-,rfl⟩:=nYe.1 hr;exact (vw n).2.1
theorem Eb(xs:List Int):FrL 1 8 (keL xs):=fun r hr=>by obtain ⟨n,-,rfl⟩:=nYe.1 hr;exact (vw n).2.2
theorem De(k:List Rat)(h:FrL 1 8 k):FrL (2*k.length+1) (8 ^ k.length) (Stab.ups k):=by
 induction k using Stab.snoc_ind with
 | h0 =>
  intro q hq;obtain rfl:q=1:=by simpa [Stab.ups] using hq
  exact Fr.int (z:=1) (by decide) (by decide +kernel)
 | h1 l r ih =>
  have ih':=ih (fun x hx=>h x (by simp [hx]));rw [Stab.ups_snoc,nXh,List.length_singleton];intro q hq;obtain ⟨i,hi,rfl⟩:=List.mem_iff_getElem.1 hq;rw [Stab.up_length,Stab.ups_length] at hi;have e:=Stab.up_at (c:=Stab.ups l) (k:=r) (i:=i) (Stab.ups_length l) (by omega);rw [nXc,List.getElem?_eq_getElem (by rw [Stab.up_length,Stab.ups_length];omega)] at e;simp only [Option.getD_some] at e;rw [e];have h8:8<W32 ^ 1:=by decide
  have h1:=(ih'.at i).den h8;have h2:=(h r (by simp)).mul (ih'.at (l.length+1-i));rw [nYd 8] at h2;rw [show 2*(l.length+1)+1=2*l.length+1+1+1 by omega,nXt];exact h1.add (h2.mono (by omega))
theorem zE(xs:List Int):FrB 7 (xL xs):=by
 have hl:=nq xs;have h:=De _ (Eb xs);have hp:8 ^ (keL xs).length≤8 ^ 3:=nXo (by decide) hl;exact FrB.tz ⟨by decide,_,nYl (by decide),nYj hp (by decide),h.mono (by omega)⟩
theorem rX(xs:List Int):(vU xs).length≤4:=by
 unfold vU kK;refine nXe (af _) ?_;rw [nXk,nXj];omega
theorem Cr(xs:List Int):SzL 1 (vU xs):=SzL.tz (mT _)
theorem zC(xs:List Int):FrB 7 (vU xs):=(FrB.of (Cr xs) (rX xs)).mono (by decide)
theorem zD(xs:List Int):(xL xs).length≤4:=by
 have h:=af (Stab.ups (keL xs));rw [Stab.ups_length] at h;have:=nq xs;show (tz (Stab.ups (keL xs))).length≤4;omega
theorem Cq(xs:List Int):tz (vU xs)=vU xs:=av _
theorem Ct(xs:List Int):tz (xL xs)=xL xs:=av _
theorem qG(k:List Rat):(Stab.ups k).getD 0 0=1:=by
 induction k using Stab.snoc_ind with
 | h0=>rfl
 | h1 l r ih =>
  rw [Stab.ups_snoc,Stab.up_at (m:=l.length) (Stab.ups_length l) (by omega),ih,aG (by rw [Stab.ups_length];omega)];grind
theorem vV(xs:List Int):(xL xs).getD 0 0=1:=by
 show (tz (Stab.ups (keL xs))).getD 0 0=1;rw [ax,qG]
theorem Cs(xs:List Int):upV (keL xs)=(0,xL xs):=Dg (Ea xs) (by have:=nq xs;omega)
end Go.Proofs.YtohahgiidooijaaGreat
/- check, small, Reflections of the reference 18. -/
namespace Go.Proofs.YtohahgiidooijaaGreat
open Go.RowKit Go.Front Go.Num
attribute [local go_sem] XW.cell XW.frozen
theorem C4(q:Rat):q.abs<((1:Int):Rat)↔-1<q∧q<1:=by
 rw [show ((1:Int):Rat)=1 from rfl];unfold Rat.abs;split <;> constructor <;> intros <;> grind
theorem pz(s:RH)(q:Rat)(w:World)(h:bp w s q):au 113 [s.v] w (fun _:Unit=>.bool (decide (-1<q∧q<1))) (fun _ _=>True):=by
 obtain ⟨neg,ao,n,c,bo,m,d⟩:=s;have HR:=Hi h;have HS:=Hi h.szk;have HC:Hid (decide (q.abs<((1:Int):Rat))=decide (-1<q∧q<1)):=Hi (decide_eq_decide.2 (C4 q));have HX:=Hi (Ext.refl w);have Z1:Hid (Sz 1 ((1:Int):Rat)):=Hi (Sz.int (by decide));clear h;unfold au;go_enter Tryz.func113,Tryz.ntmps113
 go_upto_region 1 with fail
 refine nmA ?_;intro w1 hE B1 hz_w1 hr_w1;refine mV2 hE ?_ HR HX;clear HR HX;intro HR HX;have hs_w1:=hE.size;clear hE;replace b_B1:=bX3 B1
 go_wp2_with fail
 refine cM (oh ⟨neg,ao,n,c,bo,m,d⟩ q _ HR.out) fun x2 w2 hE G2=>?_
 refine mV3 hE ?_ B1 HR HX;clear B1 HR HX;intro B1 HR HX;have hs_w2:=hE.size;clear hE;replace b_B1:=bX3 B1
 go_wp2_with fail
 refine cM (aX 1 _ (by decide) (by decide)) fun x3 w3 hE G3=>?_
 refine mV4 hE ?_ G2 B1 HR HX;clear G2 B1 HR HX;intro G2 B1 HR HX;have hs_w3:=hE.size;clear hE;replace b_B1:=bX3 B1
 go_wp2_with fail
 refine cM (jv x2 x3 _ _ _ (G2.out.raw HS.out.abs (by decide)) (G3.out.raw Z1.out (by decide))) fun x4 w4 hE _=>?_
 refine mV5 hE ?_ G3 G2 B1 HR HX;clear G3 G2 B1 HR HX;intro G3 G2 B1 HR HX;have hs_w4:=hE.size;clear hE;replace b_B1:=bX3 B1;rw [HC.out];go_wp2
 go_ret
 exact ⟨(),eX (Bool.decide_and _ _).symm,HX.out,trivial⟩
def upE(c:List Rat)(r:Rat)(m i:Nat):Rat:=c.getD i 0+r*c.getD (m-i) 0
theorem Df{c:List Rat}{j:Nat}(r:Rat)(hc:c.length=j+1):(List.range (j+2)).map (upE c r (j+1))=Stab.up c r:=by
 rw [←xT r hc];apply List.map_congr_left;intro i _;unfold upE;rw [Stab.snoc0_getD,Stab.snoc0_getD]
theorem nT(ao:Option Addr)(n cap:Nat)(ks:List Rat)(w:World)(h:bX w ⟨ao,n,cap⟩ ks)(hok:F9 ks) :
  au 50 [.slice ao n cap] w RF (fun x w'=>x.2=(upV ks).1∧aJ w' x.1 (upV ks).2):=by
 have H:=Hi h;have HX:=Hi (Ext.refl w);have Hlen:=Hi h.len;have hle:=h.le;have hmx:=h.max;simp only at hle hmx Hlen;have HZ:=Hi hok.1;have HU:Hid (∀ j,j≤n→SzL 8388608 (Stab.ups (ks.take j))):=Hi (fun j hj=>hok.2 j (by rw [Hlen.out];exact hj));clear h hok;unfold au;by_cases h48:48<n
 case pos =>
  have h48i:(48:Int)<n:=by omega
  have HV:Hid (upV ks=(12,[])):=Hi (by unfold upV;rw [if_pos (by rw [Hlen.out];exact h48)]);go_enter Tryz.func50,Tryz.ntmps50;go_wp2;exact bodyPost_ret (v:=RF (⟨none,0,0⟩,12)) (by simp [results,Tryz.results50,go_sem,RF]) rfl ⟨(⟨none,0,0⟩,12),rfl,HX.out,by rw [HV.out],by rw [HV.out];exact (bj.nil 0 _).can⟩
 have h48i:¬ (48:Int)<n:=by omega
 have HV:Hid (upV ks=if ∀ r ∈ ks,-1<r∧r<1 then (0,tz (Stab.ups ks)) else (14,[])):=Hi (by unfold upV;rw [if_neg (by rw [Hlen.out];exact h48)]);go_enter Tryz.func50,Tryz.ntmps50
 go_wp2_with fail
 refine cM (aX 1 _ (by decide) (by decide)) fun x1 w1 hE G1=>?_
 replace HX:=hE.tr HX;have hs_w1:=hE.size;clear hE
 go_upto_region 4 with fail
 refine nmA ?_;intro w2 hE B2 hz_w2 hr_w2;refine mV2 hE ?_ G1 HX;clear G1 HX;intro G1 HX;have hs_w2:=hE.size;clear hE;replace b_B2:=bX3 B2;have LA:Hid (aJ w2 ⟨some ⟨w1.heap.size,0,none⟩,1,1⟩ (Stab.ups (ks.take 0))):=Hi (mB B2.out G1.out)
 (try clear b_B2);clear B2
 clear G1;go_wp2
 go_loopg [4,16] n (fun g u z wr=>∃ (j:Nat) (x:SH),u=x.v∧j+g=n∧z=.int .i64 (j:Nat)∧Ext w wr∧aJ wr x (Stab.ups (ks.take j))∧∀ r ∈ ks.take j,-1<r∧r<1)
 case atStart=>exact ⟨0,⟨some ⟨w1.heap.size,0,none⟩,1,1⟩,rfl,by omega,rfl,HX.out,LA.out,fun r hr=>by simp at hr⟩
 case round =>
  obtain ⟨j,⟨sa,sn,sc⟩,rfl,hj,rfl,g1,g2,g3⟩:=hrel;clear HX LA;have HX:=Hi g1;have LA:=Hi g2;have HS:=Hi g3;have hsn:=g2.len;rw [Stab.ups_length,nXj,Hlen.out,Nat.min_eq_left (by omega)] at hsn;simp only at hsn;subst hsn;have ZA:=Hi (HU.out j (by omega));clear g1 g2 g3;simp only [SH.v];by_cases h0:gk=0
  case pos =>
   subst h0;obtain rfl:j=n:=by omega
   have HT:Hid (ks.take j=ks):=Hi (nXl (by rw [Hlen.out];exact nXd _));have HV2:Hid (upV ks=(0,tz (Stab.ups (ks.take j)))):=Hi (by
    rw [HV.out,HT.out,if_pos];have:=HS.out
    rwa [HT.out] at this)
   have hjn:¬ (j:Int)<j:=by omega
   go_wp2_with fail
   refine cM (aN sa (j+1) sc _ _ (LA.out.raw ZA.out (by decide)) (by omega)) fun x20 w20 hE G20=>?_
   refine mV2 hE ?_ HX LA;clear HX LA;intro HX LA;have hs_w20:=hE.size;clear hE;go_wp2;exact bodyPost_ret (v:=RF (x20,0)) (by simp [results,Tryz.results50,go_sem,RF]) rfl ⟨(x20,0),rfl,HX.out,by rw [HV2.out],by rw [HV2.out];exact G20.out.can⟩
  have hjn:(j:Int)<n:=by omega
  obtain ⟨r,hr⟩:∃ r,r=ks.getD j 0:=⟨_,rfl⟩;have hmem:ks.getD j 0 ∈ ks:=by
   rw [show ks.getD j 0=ks[j]'(by rw [Hlen.out];omega) by simp [show j<ks.length by rw [Hlen.out];omega]];exact List.getElem_mem _
  have ZR:Hid (Sz 8388608 r):=Hi (by rw [hr];exact HZ.out _ hmem);obtain ⟨b,off,q,hao,hbl,⟨hc1,hc2,hc3⟩,hP⟩:=(H.out.ext HX.out).cells' (k:=j) (by omega);rw [←hr] at hP;obtain ⟨rneg,ra,rn,rc,rb,rm,rd⟩:=q;simp only at hc1 hc2 hc3;have RP:=Hi hP;clear hP;subst hao
  go_upto_region 7 with fail
  refine nmA ?_;intro y1 hE B6 hz_y1 hr_y1;refine mV3 hE ?_ HX LA RP;clear HX LA RP;intro HX LA RP;have hs_y1:=hE.size;clear hE;replace b_B6:=bX3 B6;clear hc1 hc2 hc3 hbl
  go_wp2_with fail
  refine cM (pz ⟨rneg,ra,rn,rc,rb,rm,rd⟩ r _ RP.out) fun x2 w2 hE _=>?_
  refine mV4 hE ?_ B6 HX LA RP;clear B6 HX LA RP;intro B6 HX LA RP;have hs_w2:=hE.size;clear hE;replace b_B6:=bX3 B6;by_cases hsm:-1<r∧r<1
  case neg =>
   have HV2:Hid (upV ks=(14,[])):=Hi (by rw [HV.out,if_neg (fun h=>hsm (by rw [hr];exact h _ hmem))]);rw [decide_eq_false hsm];go_wp2;exact bodyPost_ret (v:=RF (⟨none,0,0⟩,14)) (by simp [results,Tryz.results50,go_sem,RF]) rfl ⟨(⟨none,0,0⟩,14),rfl,HX.out,by rw [HV2.out],by rw [HV2.out];exact (bj.nil 0 _).can⟩
  rw [decide_eq_true hsm];have HS2:Hid (∀ r ∈ ks.take (j+1),-1<r∧r<1):=Hi (by
   rw [←cQ (by rw [Hlen.out];omega)];intro x hx;rcases List.mem_append.1 hx with h1|h1
   ·exact HS.out x h1
   ·obtain rfl:x=ks.getD j 0:=by simpa using h1
    rw [←hr];exact hsm)
  obtain ⟨c,hc⟩:∃ c,c=Stab.ups (ks.take j):=⟨_,rfl⟩;have HC:Hid ((List.range (j+2)).map (upE c r (j+1))=Stab.ups (ks.take (j+1))):=Hi (by
   rw [xP (by rw [Hlen.out];omega),←hc,←hr];exact Df r (by rw [hc,Stab.ups_length,nXj,Hlen.out];omega))
  rw [←hc] at LA ZA;clear hsm hc hmem hr HS;have HWy:Hid (w.heap.size≤w2.heap.size):=Hi HX.out.size;go_wp2
  go_loopg [7,8] (j+2) (fun g u z wr2=>∃ (i:Nat) (x:SH),u=x.v∧i+g=j+2∧z=.int .i64 (i:Nat)∧Ext w2 wr2∧dB wr2 (w2.heap.size≤·) x.v ((List.range i).map (upE c r (j+1))))
  case atStart=>exact ⟨0,⟨none,0,0⟩,rfl,by omega,rfl,Ext.refl _,dB.nil _ _⟩
  case round =>
   obtain ⟨i,⟨xa,xn,xc⟩,rfl,hi,rfl,g1,g2⟩:=hrel;have HE:=Hi g1;have HO:=Hi g2;clear g1 g2;simp only [SH.v];refine mV2 HE.out ?_ LA RP;clear LA RP;intro LA RP;replace HX:=Hi (HX.out.trans HE.out);replace B6:=Hi (HE.out.block B6.out);have hszr:=HE.out.size;clear b_B6;replace b_B6:=bX3 B6;by_cases h1:gk=0
   case pos =>
    subst h1;obtain rfl:i=j+2:=by omega
    have hig:¬ ((j:Int)+2≤(j:Int)+1):=by omega
    have hig':¬ (((j+2:Nat):Int)≤(j:Int)+1):=by omega
    have LN:Hid (aJ wr ⟨xa,xn,xc⟩ (Stab.ups (ks.take (j+1)))):=Hi (by rw [←HC.out];exact dB.can (s:=⟨xa,xn,xc⟩) HO.out);go_wp2
    go_roundg (n-(j+1))
    case measure=>omega
    case rel=>exact ⟨j+1,⟨xa,xn,xc⟩,rfl,by omega,by go_num,HX.out,LN.out,HS2.out⟩
   obtain ⟨i2,hi2⟩:∃ i2,i2=j+1-i:=⟨_,rfl⟩;have hI2:(j:Int)+1-(i:Int)=(i2:Nat):=by omega
   have hi2b:i2≤100:=by omega
   have hig:(i:Int)≤(j:Int)+1:=by omega
   have ZI:=Hi (ZA.out.getD (by decide) i);have ZJ:=Hi (ZA.out.getD (by decide) i2);have HNx:Hid ((List.range (i+1)).map (upE c r (j+1))=(List.range i).map (upE c r (j+1))++[c.getD i 0+r*c.getD i2 0]):=Hi (by rw [bg,hi2];rfl);have HLn:Hid (((List.range i).map (upE c r (j+1))).length≤1073741824):=Hi (by rw [nXk,nXs];omega);clear hi2
   go_upto_region 13 with fail
   refine wpG 14 (fun opIx=>match opIx with
    | 3=>.spec RH default RH.v (fun s w'=>ay w' s (c.getD i 0))
    | 10=>.spec RH default RH.v (fun s w'=>ay w' s (c.getD i2 0))
    | 11=>.spec RH default RH.v (fun s w'=>ay w' s (r*c.getD i2 0))
    | 12=>.spec RH default RH.v (fun s w'=>ay w' s (c.getD i 0+r*c.getD i2 0))
    | 13=>.spec (Nat×RH) ((0,default)) (fun p=>.slice (some ⟨p.1,0,none⟩) 1 1) (fun p w'=>ji w' p (c.getD i 0+r*c.getD i2 0))
    | _=>.quiet) (fun|11=>[10]|12=>[3,11]|13=>[12]|_=>[]) fun w0 he0 hz0 hc0 hf0=>?_
   refine wps he0.out rfl rfl (fun w1 hW hG=>?_) fun x30=>?_
   ·exact spc [.slice sa (j+1) sc,.int .i64 (i:Nat)] Tryz.func55 (iF sa (j+1) sc c i _ ((LA.out.ext hW).raw ZA.out (by decide)) (by omega))
   refine qZ ?_;refine wps he0.out rfl rfl (fun w1 hW hG=>?_) fun x31=>?_
   ·exact spc [.slice sa (j+1) sc,.int .i64 (i2:Nat)] Tryz.func55 (iF sa (j+1) sc c i2 _ ((LA.out.ext hW).raw ZA.out (by decide)) (by omega))
   refine qZ ?_;refine wps he0.out rfl rfl (fun w1 hW hG=>?_) fun x32=>?_
   ·have g31:=(hG 10 (by decide):aD _ _).get fun _ e g=>g.ext e
    exact spc [RH.v ⟨rneg,ra,rn,rc,rb,rm,rd⟩,x31.v] Tryz.func56 (dQ _ x31 _ _ _ (RP.out.ext hW) (g31.raw ZJ.out (by decide)))
   refine qZ ?_;refine wps he0.out rfl rfl (fun w1 hW hG=>?_) fun x33=>?_
   ·have g30:=(hG 3 (by decide):aD _ _).get fun _ e g=>g.ext e
    have g32:=(hG 11 (by decide):aD _ _).get fun _ e g=>g.ext e
    exact spc [x30.v,x32.v] Tryz.func81 (eK x30 x32 _ _ _ (g30.raw ZI.out (by decide)) (g32.raw (ZR.out.mul ZJ.out) (by decide)))
   refine qZ ?_;refine wps he0.out rfl rfl (fun w1 hW hG=>?_) fun x35=>?_
   ·have g33:=(hG 12 (by decide):aD _ _).get fun _ e g=>g.ext e
    exact mi x33 _ g33 rfl (by simp [execOp,go_sem])
   refine qZ ?_;refine aq ?_;intro w16 hI;have hE:=he0.out.trans hI.ext;have G30:=gT (hI.facts 3);have G31:=gT (hI.facts 10);have G32:=gT (hI.facts 11);have G33:=gT (hI.facts 12);have G35:=gT (hI.facts 13);clear hI he0 hz0 hc0 hf0;refine mV6 hE ?_ HE HO HX B6 LA RP;clear HE HO HX B6 LA RP;intro HE HO HX B6 LA RP;have hs_w16:=hE.size;clear hE;replace b_B6:=bX3 B6;simp only [pD]
   go_wp2_with (at_builtin;refine eD rfl (.tmp 30) (.tmp 43) 41 Tryz.underlying41 rfl (w2.heap.size≤·) _ _ x35.2 _ x35.1 rfl HO.out rfl G35.out.1 G35.out.2 HLn.out (fun k hk=>by omega) ?_;intro s' y17 q1 q2 q3)
   have HE3:=Hi (Ext.mods HE.out q2 (fun k h=>h));have HO3:Hid (dB y17 (w2.heap.size≤·) s'.v ((List.range (i+1)).map (upE c r (j+1)))):=Hi (by rw [HNx.out];exact q1);clear q1 q2 q3;go_wp2
   go_roundg (gk-1)
   case measure=>omega
   case rel=>exact ⟨i+1,s',rfl,by omega,by go_num,HE3.out,HO3.out⟩
theorem s6(bo ko:Option Addr)(bc kc:Nat)(bs ks:List Int)(w:World)(hb:cx w bo bs)(rb:InR bs)(lb:bs.length≤9223372036854775807)(cb:bs.length≤bc)(mb:bc≤9223372036854775807)
 (hk:cx w ko ks)(rk:InR ks)(lk:ks.length≤9223372036854775807)(ck:ks.length≤kc)(mk:kc≤9223372036854775807) :
  au 14 [.slice bo bs.length bc,.slice ko ks.length kc] w FH.v (fun f w'=>Fg w' f (vU bs) (xL ks)):=by
 have HX:=Hi (Ext.refl w);have HC1:Hid (∀ w1,Ext w w1→au 51 [.slice ko ks.length kc,.int .i64 ((3:Nat):Int)] w1 SH.v (fun s w'=>bj w1.heap.size w' s (keL ks))):=Hi (fun w1 hE=>ze ko kc 3 ks w1 (hk.ext hE) rk lk (by decide) ck mk);have HC2:Hid (∀ w1,Ext w w1→au 15 [.slice bo bs.length bc,.int .i64 ((3:Nat):Int)] w1 SH.v (fun s w'=>bj w1.heap.size w' s (vU bs))):=Hi (fun w1 hE=>rB bo bc 3 bs w1 (hb.ext hE) rb lb (by decide) cb mb);have V1:=Hi (Cs ks);have ZK:=Hi (D9 ks);have LK:=Hi (nq ks);obtain ⟨n,hn⟩:∃ n,n=bs.length:=⟨_,rfl⟩;obtain ⟨m,hm⟩:∃ m,m=ks.length:=⟨_,rfl⟩;obtain ⟨k,hk'⟩:∃ k,k=keL ks:=⟨_,rfl⟩;rw [←hm,←hk'] at HC1;rw [←hn] at HC2;rw [←hk'] at V1 ZK LK;rw [←hn,←hm];clear hn hm hk' hb rb lb cb hk rk lk ck;unfold au;go_enter Tryz.func14,Tryz.ntmps14
 go_upto_region 1 with fail
 refine nmA ?_;intro w1 hE B4 hz_w1 hr_w1;replace HX:=hE.tr HX;have hs_w1:=hE.size;clear hE;replace b_B4:=bX3 B4
 go_wp2_with fail
 refine cM (HC1.out _ HX.out) fun x2 w2 hE G2=>?_
 refine mV2 hE ?_ B4 HX;clear B4 HX;intro B4 HX;have hs_w2:=hE.size;clear hE;replace b_B4:=bX3 B4;obtain ⟨a2,n2,c2⟩:=x2;have hn2:=G2.out.len;have hl2:=LK.out;simp only at hn2;rw [hn2] at hl2;clear hn2;simp only [SH.v]
 go_wp2_with fail
 refine cM (nT a2 n2 c2 k _ (G2.out.can.raw ZK.out (by decide)) (Gb ZK.out (by have:=LK.out;omega))) fun x3 w3 hE G3=>?_
 refine mV3 hE ?_ G2 B4 HX;clear G2 B4 HX;intro G2 B4 HX;have hs_w3:=hE.size;clear hE;replace b_B4:=bX3 B4;obtain ⟨⟨a3,n3,c3⟩,e3⟩:=x3;obtain ⟨he,hl⟩:=G3.out;rw [V1.out] at he hl;simp only at he hl;subst he;have L3:=Hi hl;clear hl G3;simp only [RF,SH.v]
 go_wp2_with fail
 refine cM (HC2.out _ HX.out) fun x4 w4 hE G4=>?_
 refine mV4 hE ?_ G2 B4 HX L3;clear G2 B4 HX L3;intro G2 B4 HX L3;have hs_w4:=hE.size;clear hE;replace b_B4:=bX3 B4;obtain ⟨a4,n4,c4⟩:=x4;simp only [SH.v];go_wp2;refine dH (F:=fun W=>bodyPost _ _ _ _ _ W) B4.out rfl ?_;intro w5 T;have L5:=aJ.put2 L3.out B4.out T;clear L3;replace HX:=Hi (T.ext HX.out (by omega));replace B4:=Hi (T.bx);replace G2:=Hi (G2.out.put T (by omega));replace G4:=Hi (G4.out.put T (by omega));have hs_w5:=nle T.size;have hr_w5:=nle T.size.symm;clear T;replace b_B4:=bX3 B4;exact bodyPost_ret (v:=FH.v ⟨⟨a4,n4,c4⟩,⟨a3,n3,c3⟩⟩) (by simp [results,Tryz.results14,go_sem,b_B4.1]) rfl ⟨⟨⟨a4,n4,c4⟩,⟨a3,n3,c3⟩⟩,rfl,HX.out,G4.out.can,L5⟩
theorem Ae(ps qs:List Rat)(i:Nat):(aS ps qs).getD i 0=ps.getD i 0+qs.getD i 0:=by
 unfold aS;rw [ax,bE];split
 ·rfl
 ·rw [bh (by omega),bh (by omega)];grind
theorem AV(ps qs:List Rat):tz (aS ps qs)=aS ps qs:=by unfold aS;exact av _
theorem qT(l:List Rat)(c:Rat)(i:Nat):(aK l c).getD i 0=l.getD i 0*c:=by
 unfold aK;rw [ax];by_cases h:i<l.length
 ·simp [h]
 ·rw [bh (by simp;omega),bh (by omega)];grind
theorem qU(ps qs:List Rat)(i:Nat):(go ps qs).getD i 0=ps.getD i 0-qs.getD i 0:=by
 unfold go;rw [Ae,qT];show _+_*(-1)=_;grind
def pf:List Rat:=[((0:Int):Rat),((2:Int):Rat)]
theorem xW(b:List Rat)(i:Nat):(ag b pf).getD i 0=if 0<i then 2*b.getD (i-1) 0 else 0:=by
 have e:(ag b pf).getD i 0=Stab.ap (tz b) (Stab.seq (tz pf)) i:=congrFun (i5 b pf) i;rw [e,show tz pf=pf by decide +kernel,Stab.ap_swap];show ((0:Int):Rat)*(tz b).getD i 0+Stab.sh (fun n=>((2:Int):Rat)*(tz b).getD n 0+Stab.sh (fun _=>0) n) i=_;cases i with
 | zero =>
  rw [if_neg (by omega)];show (0:Rat)*_+0=0;grind
 | succ i =>
  rw [if_pos (by omega)];show (0:Rat)*_+((2:Rat)*(tz b).getD i 0+Stab.sh (fun _=>0) i)=2*b.getD i 0;have hz:(tz b).getD i 0=b.getD i 0:=ax _ _;rw [hz,show Stab.sh (fun _=>(0:Rat)) i=0 by rw [Stab.sh_zero]];grind
theorem wU(j:Nat):go (ag (chP (j+1)).1 pf) (chP j).1=(chP (j+2)).1:=by
 have e1:tz (go (ag (chP (j+1)).1 pf) (chP j).1)=go (ag (chP (j+1)).1 pf) (chP j).1:=AV _ _;rw [←e1,←wY (j+2)];apply qJ;intro i;rw [qU,xW];show _=(nbV (chP (j+1)).1 (chP (j+1)).2).getD i 0;rw [pP,su]
theorem sv{n:Nat}(hn:n≤60):SzL 4 (chP n).1:=(st hn).1
theorem CW:(chP 1).1=[((0:Int):Rat),((1:Int):Rat)]:=by decide +kernel
theorem wV(n:Nat)(w:World)(hn:n≤58):au 115 [.int .i64 (n:Nat)] w SH.v (fun x w'=>bj w.heap.size w' x (chP n).1):=by
 have HX:=Hi (Ext.refl w);have ZX:Hid (SzL 4 pf):=Hi ((szB (by decide +kernel)).mono (by decide));unfold au;go_enter Tryz.func115,Tryz.ntmps115
 go_wp2_with fail
 refine cM (aX 1 _ (by decide) (by decide)) fun x1 w1 hE G1=>?_
 replace HX:=hE.tr HX;have hs_w1:=hE.size;clear hE
 go_wp2_with fail
 refine nmA (F:=fun W=>Calls _ _ _ W _) ?_;intro y2 hE B2 hz_y2 hr_y2;refine mV2 hE ?_ G1 HX;clear G1 HX;intro G1 HX;have hs_y2:=hE.size;clear hE;replace b_B2:=bX3 B2
 change Calls _ _ _ _ _
 have L2:Hid (aJ y2 ⟨some ⟨w1.heap.size,0,none⟩,1,1⟩ (chP 0).1):=Hi (mB B2.out G1.out)
 (try clear b_B2);clear B2
 clear G1;refine cM (aX 0 _ (by decide) (by decide)) fun x3 w3 hE G3=>?_
 refine mV2 hE ?_ HX L2;clear HX L2;intro HX L2;have hs_w3:=hE.size;clear hE
 go_wp2_with fail
 refine cM (aX 1 _ (by decide) (by decide)) fun x4 w4 hE G4=>?_
 refine mV3 hE ?_ G3 HX L2;clear G3 HX L2;intro G3 HX L2;have hs_w4:=hE.size;clear hE
 go_upto_region 2 with fail
 refine nmA ?_;intro y5 hE B5 hz_y5 hr_y5;refine mV4 hE ?_ G4 G3 HX L2;clear G4 G3 HX L2;intro G4 G3 HX L2;have hs_y5:=hE.size;clear hE;replace b_B5:=bX3 B5;have L5:Hid (aJ y5 ⟨some ⟨w4.heap.size,0,none⟩,2,2⟩ (chP 1).1):=Hi (by rw [CW];exact o6 B5.out G3.out G4.out)
 (try clear b_B5);clear B5
 clear G3;clear G4;go_wp2
 go_loopg [0,3,4] n (fun g z u v wr=>∃ (j:Nat) (s t:SH),u=s.v∧v=t.v∧j+g=n∧z=.int .i64 (g:Nat)∧Ext w wr∧aJ wr s (chP j).1∧aJ wr t (chP (j+1)).1)
 case atStart=>exact ⟨0,⟨some ⟨w1.heap.size,0,none⟩,1,1⟩,⟨some ⟨w4.heap.size,0,none⟩,2,2⟩,rfl,rfl,by omega,rfl,HX.out,L2.out,L5.out⟩
 case round =>
  obtain ⟨j,⟨sa,sn,sc⟩,⟨ta,tn,tc⟩,rfl,rfl,hj,rfl,g1,g2,g3⟩:=hrel;clear HX L2 L5;have HX:=Hi g1;have LS:=Hi g2;have LT:=Hi g3;clear g1 g2 g3;have hs:=LS.out.len;have ht:=LT.out.len;rw [jG] at hs ht;simp only at hs ht;subst hs ht;simp only [SH.v];have hsz:=HX.out.size;by_cases h0:gk=0
  case pos =>
   subst h0;obtain rfl:j=n:=by omega
   go_wp2_with fail
   refine cM (aN sa (j+1) sc (chP j).1 _ (LS.out.raw (sv (by omega)) (by decide)) (by omega)) fun x20 w20 hE G20=>?_
   refine mV3 hE ?_ HX LS LT;clear HX LS LT;intro HX LS LT;have hs_w20:=hE.size;clear hE;rw [wY] at G20;go_wp2
   go_ret
   exact ⟨x20,rfl,HX.out,G20.out.mono hsz⟩
  obtain ⟨g0,rfl⟩:∃ g0,gk=g0+1:=⟨gk-1,by omega⟩;have ZT:=Hi (sv (n:=j+1) (by omega));have ZS:=Hi (sv (n:=j) (by omega));have ZM:Hid (SzL 8388608 (ag (chP (j+1)).1 pf)):=Hi ((BM (by decide) ZT.out ZX.out).mono (by rw [jG];omega));have LM:Hid ((ag (chP (j+1)).1 pf).length≤1000):=Hi (by have:=rL (chP (j+1)).1 pf;rw [jG] at this;have h2:pf.length=2:=rfl;omega)
  go_wp2_with fail
  refine cM (aX 0 _ (by decide) (by decide)) fun x1 w1 hE G1=>?_
  refine mV3 hE ?_ HX LS LT;clear HX LS LT;intro HX LS LT;have hs_w1:=hE.size;clear hE
  go_wp2_with fail
  refine cM (aX 2 _ (by decide) (by decide)) fun x2 w2 hE G2=>?_
  refine mV4 hE ?_ G1 HX LS LT;clear G1 HX LS LT;intro G1 HX LS LT;have hs_w2:=hE.size;clear hE
  go_wp2_with fail
  refine nmA (F:=fun W=>Calls _ _ _ W _) ?_;intro y3 hE B3 hz_y3 hr_y3;refine mV5 hE ?_ G2 G1 HX LS LT;clear G2 G1 HX LS LT;intro G2 G1 HX LS LT;have hs_y3:=hE.size;clear hE;replace b_B3:=bX3 B3
  change Calls _ _ _ _ _
  have L3:Hid (aJ y3 ⟨some ⟨w2.heap.size,0,none⟩,2,2⟩ pf):=Hi (o6 B3.out G1.out G2.out)
  (try clear b_B3);clear B3
  clear G1;clear G2;refine cM (yW ta (some ⟨w2.heap.size,0,none⟩) (j+1+1) tc 2 2 (chP (j+1)).1 pf 4 _ (LT.out.raw ZT.out (by decide)) (L3.out.raw ZX.out (by decide)) (by omega) (by decide) ZT.out ZX.out (by decide)) fun x4 w4 hE G4=>?_
  refine mV4 hE ?_ HX LS LT L3;clear HX LS LT L3;intro HX LS LT L3;have hs_w4:=hE.size;clear hE;obtain ⟨ma,mn,mc⟩:=x4;have hmn:mn≤1000:=by have h1:=G4.out.len;have h2:=LM.out;rw [h1] at h2;exact h2
  simp only [SH.v]
  go_wp2_with fail
  refine cM (mJ ma sa mn mc (j+1) sc _ (chP j).1 _ (G4.out.can.raw ZM.out (by decide)) (LS.out.raw ZS.out (by decide)) (by omega) (by omega) ZM.out (ZS.out.mono (by decide))) fun x5 w5 hE G5=>?_
  refine mV5 hE ?_ G4 HX LS LT L3;clear G4 HX LS LT L3;intro G4 HX LS LT L3;have hs_w5:=hE.size;clear hE;rw [wU] at G5;go_wp2
  go_roundg g0
  case measure=>omega
  case rel=>exact ⟨j+1,⟨ta,j+1+1,tc⟩,x5,rfl,rfl,by omega,by go_num,HX.out,LT.out,G5.out.can⟩
def lR(w:World)(L:Nat)(os:List Rat):Prop:=∃ rs,RBk w L rs #[]∧fY ay w rs os
theorem lR.ext{w w':World}{L:Nat}{os:List Rat}(h:lR w L os)(he:Ext w w'):lR w' L os:=let ⟨rs,h1,h2⟩:=h;⟨rs,h1.ext he,h2.can_ext he⟩
instance {w w':World} {L:Nat} {os:List Rat}:Go.Front.Mv w w' (lR w L os) (lR w' L os):=⟨fun e h=>lR.ext h e⟩

theorem lR.lt{w:World}{L:Nat}{os:List Rat}(h:lR w L os):L<w.heap.size:=let ⟨_,h1,_⟩:=h;h1.lt
theorem lR.frozen{w:World}{L:Nat}{os:List Rat}(h:lR w L os)(i:Nat):w.frozen? ⟨L,i,none⟩=false:=let ⟨_,h1,_⟩:=h;h1.frozen i
theorem lR.cells{w:World}{L:Nat}{os:List Rat}(h:lR w L os){k:Nat}(hk:k<os.length):∃ r,RAt w L (k*3) r∧ay w r (os.getD k 0):=by
 obtain ⟨rs,h1,h2⟩:=h;exact ⟨_,h1.at (by rw [h2.1];exact hk),h2.2 k hk⟩
theorem lR.can{w:World}{L M:Nat}{os:List Rat}(h:lR w L os)(hl:os.length=M)(hM:M≤9223372036854775807):aJ w ⟨some ⟨L,0,none⟩,M,M⟩ os:=by
 obtain ⟨rs,h1,h2⟩:=h;exact ⟨rs,h1.rs (by rw [h2.1,hl]) (nXd _) hM,h2⟩
theorem lR.put{w1 w2:World}{L b:Nat}{os:List Rat}{T:TypeId}{cs:Array Value}(h:lR w1 L os)(T2:fv w1 b T cs w2)(hb:b≠L):lR w2 L os:=by
 obtain ⟨rs,h1,h2⟩:=h;exact ⟨rs,T2.rest L _ (Ne.symm hb) h1,h2.keep T2.keep⟩
theorem BF{w1:World}{L k:Nat}{os:List Rat}{q:Rat}{F:World→Prop}{x:RH}(h:lR w1 L os)(hk:k<os.length)(hx:ay w1 x q)
 (H:∀ w2,(∃ cs,fv w1 L 30 cs w2)→lR w2 L (os.set k q)→F w2) :
  F (((w1.setCell ⟨L,k*3,none⟩ (.bool x.neg)).setCell ⟨L,k*3+1,none⟩ (.slice x.a x.n x.c)).setCell ⟨L,k*3+2,none⟩ (.slice x.b x.m x.d)):=by
 obtain ⟨rs,h1,h2⟩:=h;refine cl h1 rfl (by rw [h2.1];exact hk) fun w2 T=>H w2 ⟨_,T⟩ ⟨rs.set k x,T.bx,(h2.keep T.keep).set (hx.keep T.keep) k⟩
theorem fo.outc{w:World}{L M:Nat}{rs:List RH}{ts:List Rat}(h:fo w rs ts)(hb:RBk w L rs #[])(hl:rs.length=M)(ht:ts.length=M):lR w L ts:=⟨rs,hb,by rw [hl,ht],h⟩
def xK:Rat:=((1:Int):Rat) / ((2:Int):Rat)
def dst(n i:Nat):Nat:=if i<n then n-i else i-n
def qL(c:List Rat)(n i:Nat):Rat:=if dst n i=0 then c.getD 0 0 else c.getD (dst n i) 0*xK
def jU(c:List Rat)(n:Nat):List Rat:=(List.range (2*n+1)).map (qL c n)
def jT(ps:List Rat)(n:Int):Int×List Rat:=if n<0∨48<n then (1,[]) else if n<((tz ps).length:Int)-1 then (12,[]) else (0,jU (tbV (tz ps).length (tz ps)) n.toNat)
theorem Cc:Sz 1 xK:=by
 unfold xK;exact ⟨by decide +kernel,by decide +kernel⟩
end Go.Proofs.YtohahgiidooijaaGreat
