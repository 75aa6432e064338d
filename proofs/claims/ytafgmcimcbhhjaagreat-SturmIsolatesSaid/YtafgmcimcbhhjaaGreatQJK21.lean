import Derived.Test.YtafgmcimcbhhjaaGreatQJK20
import Derived.Deep.DeepCutAuto
import Derived.ProofKit
import Derived.OpenShut
import Derived.ShutString
import Derived.ChangeOld
import Derived.Lib.SmallJoins
set_option linter.unusedVariables false
set_option maxHeartbeats 8000000
set_option maxRecDepth 100000
namespace Go.Proofs.YtafgmcimcbhhjaaGreat
open Go.RowKit Go.Front Go.Num Stab Sg
attribute [local go_sem] XW.cell XW.frozen
theorem FrK.spl{p:List Rat}{n:Nat}(hn:n≤9)(h:FrL 2 (16*12 ^ n) p)(hl:p.length≤12):FrK 2125764 (ar p):=by
 have h1:(ar p).length≤12:=by rw [aC];exact nXf (ah p) hl
 have h2:3 ^ (ar p).length≤3 ^ 12:=nXp dZ h1;have h3:(3:Nat) ^ 12=531441:=by decide
 exact ⟨2,1,dZ,dZ,dZ,fun x hx=>Fr.one (cY (fun y hy=>h y (eB hy)) (Nat.mul_pos dZ (nYm dZ)) x hx),Or.inl zo⟩
theorem RoF.pok{p rl:List Rat}{b:Option Rat}(h:RoF p rl b)(hl:rl.length≤9)(P:Nat):PoK 2125764 P p:=by
 have h2:=h.len;have:=AI b;exact ⟨h.tz,uH hl (h.fr hl) zo,pz h.fac h.sx h.tw hl,zY _ _ rl b (h.fac.spl h.ne) h.sx h.tw hl (FrK.spl hl (h.fr hl) zo)⟩
theorem yh(z:Int)(h:z.natAbs≤1):Tw (z:Rat):=⟨z*12,by rw [Rat.intCast_mul];rfl,zo⟩
abbrev q4:List Rat:=[((0:Int):Rat),((-1:Int):Rat),((0:Int):Rat),((1:Int):Rat)]
abbrev q3:List Rat:=[((1:Int):Rat),((-2:Int):Rat),((1:Int):Rat)]
theorem yB:RoF q4 [((0:Int):Rat),((1:Int):Rat),((-1:Int):Rat)] none:=by
 refine ⟨⟨1,dZ,dZ,fun x=>?_⟩,fun c e=>(by cases e),fun a ha=>?_,by decide +kernel⟩
 ·have e:=xW;show ((((0*x+((1:Int):Rat))*x+((0:Int):Rat))*x+((-1:Int):Rat))*x+((0:Int):Rat):Rat)=((1:Int):Rat)*((x-((0:Int):Rat))*((x-((1:Int):Rat))*((x-((-1:Int):Rat))*1))*1);have e0:((0:Int):Rat)=0:=rfl;have e1:((1:Int):Rat)=1:=rfl;have e2:((-1:Int):Rat)=-1:=rfl;rw [e0,e1,e2];grind
 ·simp only [List.mem_cons,List.not_mem_nil,or_false] at ha;rcases ha with rfl|rfl|rfl <;> exact yh _ dZ
theorem BI:RoF q3 [((1:Int):Rat),((1:Int):Rat)] none:=by
 refine ⟨⟨1,dZ,dZ,fun x=>?_⟩,fun c e=>(by cases e),fun a ha=>?_,by decide +kernel⟩
 ·show (((0*x+((1:Int):Rat))*x+((-2:Int):Rat))*x+((1:Int):Rat):Rat)=((1:Int):Rat)*((x-((1:Int):Rat))*((x-((1:Int):Rat))*1)*1);have e1:((1:Int):Rat)=1:=rfl;have e2:((-2:Int):Rat)=-2:=rfl;rw [e1,e2];grind
 ·simp only [List.mem_cons,List.not_mem_nil,or_false] at ha;rcases ha with rfl|rfl <;> exact yh _ dZ
theorem D4:cntV q4 (loV (loV ((-1:Int):Rat) ((1:Int):Rat)) (hiV ((-1:Int):Rat) ((1:Int):Rat))) (hiV (loV ((-1:Int):Rat) ((1:Int):Rat)) (hiV ((-1:Int):Rat) ((1:Int):Rat)))=3:=by decide +kernel
theorem D3:nU q3 (loV (loV ((0:Int):Rat) ((2:Int):Rat)) (hiV ((0:Int):Rat) ((2:Int):Rat))) (hiV (loV ((0:Int):Rat) ((2:Int):Rat)) (hiV ((0:Int):Rat) ((2:Int):Rat)))=true:=by decide +kernel
theorem D0:sA q3 (loV (loV ((0:Int):Rat) ((2:Int):Rat)) (hiV ((0:Int):Rat) ((2:Int):Rat))) (hiV (loV ((0:Int):Rat) ((2:Int):Rat)) (hiV ((0:Int):Rat) ((2:Int):Rat)))=false:=by decide +kernel
theorem zz(w:World):au 67 [] w IvV (fun x w'=>aB w' x.1 (loV ((-1:Int):Rat) ((1:Int):Rat))∧aB w' x.2 (hiV ((-1:Int):Rat) ((1:Int):Rat))):=by
 have HX:=Hi (Ext.refl w);unfold au;go_enter Tryz.func67,Tryz.ntmps67
 go_upto_region 1 with fail
 refine nmA ?_;intro w0 hE B0 hz_w0 hr_w0;replace HX:=hE.tr HX;have hs_w0:=hE.size;replace b_B0:=bX3 B0
 go_wp2_with fail
 refine cM (aO (-1) _ dZ dZ) fun x1 w1 hE G1=>?_
 refine mV2 hE ?_ B0 HX;clear B0 HX;intro B0 HX;have hs_w1:=hE.size;replace b_B0:=bX3 B0
 go_wp2_with fail
 refine cM (aO 1 _ dZ dZ) fun x2 w2 hE G2=>?_
 refine mV3 hE ?_ G1 B0 HX;clear G1 B0 HX;intro G1 B0 HX;have hs_w2:=hE.size;replace b_B0:=bX3 B0
 go_wp2_with fail
 refine cM (fp x1 x2 _ _ _ (G1.out.raw (Sz.int dZ) dZ) (G2.out.raw (Sz.int dZ) dZ)) fun x3 w3 hE G3=>?_
 refine mV4 hE ?_ G2 G1 B0 HX;clear G2 G1 B0 HX;intro G2 G1 B0 HX;have hs_w3:=hE.size;replace b_B0:=bX3 B0;have HL:=Hi G3.out.1;have HH:=Hi G3.out.2;clear G3;go_wp2;refine df (F:=fun W=>bodyPost _ _ _ _ _ W) B0.out rfl ?_;intro w10 T;replace HX:=Hi (T.ext HX.out zo);replace B0:=Hi (T.bx);replace G1:=Hi (G1.out.keep T.keep);replace G2:=Hi (G2.out.keep T.keep);replace HL:=Hi (HL.out.keep T.keep);replace HH:=Hi (HH.out.keep T.keep);have hs_w10:=nle T.size;have hr_w10:=nle T.size.symm;clear T;replace b_B0:=bX3 B0;exact nXa (v:=IvV x3) (by simp [results,Tryz.results67,go_sem,b_B0.1]) rfl ⟨x3,rfl,HX.out,HL.out,HH.out⟩
theorem gN(w:World):au 21 [] w (fun _:Unit=>.bool true) (fun _ _=>True):=by
 have HX:=Hi (Ext.refl w);have Z0:Hid (Sz 1 ((0:Int):Rat)):=Hi (Sz.int dZ);have Z1:Hid (Sz 1 ((1:Int):Rat)):=Hi (Sz.int dZ);have Z2:Hid (Sz 1 ((2:Int):Rat)):=Hi (Sz.int dZ);have ZM:Hid (Sz 1 ((-1:Int):Rat)):=Hi (Sz.int dZ);have Q4:=Hi (yB.pok dZ 4);have Q3:=Hi (BI.pok dZ 3);have N4:=Hi yB.ne;unfold au;go_enter Tryz.func21,Tryz.ntmps21
 go_wp2_with fail
 refine cM (aO 0 _ dZ dZ) fun x9 w9 hE G9=>?_
 replace HX:=hE.tr HX;have hs_w9:=hE.size
 go_wp2_with fail
 refine cM (aO (-1) _ dZ dZ) fun x10 w10 hE G10=>?_
 refine mV2 hE ?_ G9 HX;clear G9 HX;intro G9 HX;have hs_w10:=hE.size
 go_wp2_with fail
 refine cM (aO 0 _ dZ dZ) fun x11 w11 hE G11=>?_
 refine mV3 hE ?_ G10 G9 HX;clear G10 G9 HX;intro G10 G9 HX;have hs_w11:=hE.size
 go_wp2_with fail
 refine cM (aO 1 _ dZ dZ) fun x12 w12 hE G12=>?_
 refine mV4 hE ?_ G11 G10 G9 HX;clear G11 G10 G9 HX;intro G11 G10 G9 HX;have hs_w12:=hE.size
 go_wp2_with fail
 refine nmA (F:=fun W=>Calls _ _ _ W _) ?_;intro w13 hE B13 hz_w13 hr_w13;refine mV5 hE ?_ G12 G11 G10 G9 HX;clear G12 G11 G10 G9 HX;intro G12 G11 G10 G9 HX;have hs_w13:=hE.size;replace b_B13:=bX3 B13
 change Calls _ _ _ _ _
 have L4:Hid (bw w13 ⟨some ⟨w12.heap.size,0,none⟩,4,4⟩ q4):=Hi (CL B13.out G9.out G10.out G11.out G12.out)
 (try clear b_B13);clear B13
 clear G9;clear G10;clear G11;clear G12;refine cM (zz _) fun x14 w14 hE G14=>?_
 refine mV2 hE ?_ HX L4;clear HX L4;intro HX L4;have hs_w14:=hE.size;obtain ⟨xl,xh⟩:=x14;have HL:=Hi G14.out.1;have HH:=Hi G14.out.2;clear G14;have ZL:Hid (Sz 1 (loV ((-1:Int):Rat) ((1:Int):Rat))):=Hi ((n4 _ _).elim (fun e=>by rw [e];exact ZM.out) (fun e=>by rw [e];exact Z1.out));have ZH:Hid (Sz 1 (hiV ((-1:Int):Rat) ((1:Int):Rat))):=Hi ((oh _ _).elim (fun e=>by rw [e];exact ZM.out) (fun e=>by rw [e];exact Z1.out))
 go_wp2_with fail
 refine cM (lP _ 4 4 q4 2125764 xl xh _ _ 1 _ L4.out dZ N4.out Q4.out.fr dZ dZ Q4.out.sq (HL.out.raw ZL.out dZ) (HH.out.raw ZH.out dZ) ZL.out ZH.out dZ dZ) fun x15 w15 hE _=>?_
 refine mV2 hE ?_ HX L4;clear HX L4;intro HX L4;have hs_w15:=hE.size;rw [D4];clear HL HH ZL ZH;clear L4
 go_wp2_with fail
 refine cM (aO 1 _ dZ dZ) fun x18 w18 hE G18=>?_
 replace HX:=hE.tr HX;have hs_w18:=hE.size
 go_wp2_with fail
 refine cM (aO (-2) _ dZ dZ) fun x19 w19 hE G19=>?_
 refine mV2 hE ?_ G18 HX;clear G18 HX;intro G18 HX;have hs_w19:=hE.size
 go_wp2_with fail
 refine cM (aO 1 _ dZ dZ) fun x20 w20 hE G20=>?_
 refine mV3 hE ?_ G19 G18 HX;clear G19 G18 HX;intro G19 G18 HX;have hs_w20:=hE.size
 go_upto_region 3 with fail
 refine nmA ?_;intro w21 hE B21 hz_w21 hr_w21;refine mV4 hE ?_ G20 G19 G18 HX;clear G20 G19 G18 HX;intro G20 G19 G18 HX;have hs_w21:=hE.size;replace b_B21:=bX3 B21;have L3:Hid (bw w21 ⟨some ⟨w20.heap.size,0,none⟩,3,3⟩ q3):=Hi (zh B21.out G18.out G19.out G20.out)
 (try clear b_B21);clear B21
 clear G18;clear G19;clear G20;have ZL:Hid (Sz 1 (loV ((0:Int):Rat) ((2:Int):Rat))):=Hi ((n4 _ _).elim (fun e=>by rw [e];exact Z0.out) (fun e=>by rw [e];exact Z2.out));have ZH:Hid (Sz 1 (hiV ((0:Int):Rat) ((2:Int):Rat))):=Hi ((oh _ _).elim (fun e=>by rw [e];exact Z0.out) (fun e=>by rw [e];exact Z2.out))
 go_wp2_with fail
 refine cM (aO 0 _ dZ dZ) fun x24 w24 hE G24=>?_
 refine mV2 hE ?_ HX L3;clear HX L3;intro HX L3;have hs_w24:=hE.size
 go_wp2_with fail
 refine cM (aO 2 _ dZ dZ) fun x25 w25 hE G25=>?_
 refine mV3 hE ?_ G24 HX L3;clear G24 HX L3;intro G24 HX L3;have hs_w25:=hE.size
 go_wp2_with fail
 refine cM (fp x24 x25 _ _ _ (G24.out.raw Z0.out dZ) (G25.out.raw Z2.out dZ)) fun x26 w26 hE G26=>?_
 refine mV4 hE ?_ G25 G24 HX L3;clear G25 G24 HX L3;intro G25 G24 HX L3;have hs_w26:=hE.size;obtain ⟨xl2,xh2⟩:=x26;have HL:=Hi G26.out.1;have HH:=Hi G26.out.2;clear G26
 go_wp2_with fail
 refine cM (wl _ 3 3 q3 2125764 xl2 xh2 _ _ 1 _ L3.out dZ Q3.out dZ dZ (HL.out.raw ZL.out dZ) (HH.out.raw ZH.out dZ) ZL.out ZH.out dZ dZ) fun x27 w27 hE _=>?_
 refine mV4 hE ?_ G25 G24 HX L3;clear G25 G24 HX L3;intro G25 G24 HX L3;have hs_w27:=hE.size;rw [D3];clear HL HH
 go_wp2_with fail
 refine cM (aO 0 _ dZ dZ) fun x32 w32 hE G32=>?_
 refine mV4 hE ?_ G25 G24 HX L3;clear G25 G24 HX L3;intro G25 G24 HX L3;have hs_w32:=hE.size
 go_wp2_with fail
 refine cM (aO 2 _ dZ dZ) fun x33 w33 hE G33=>?_
 refine mV5 hE ?_ G32 G25 G24 HX L3;clear G32 G25 G24 HX L3;intro G32 G25 G24 HX L3;have hs_w33:=hE.size
 go_wp2_with fail
 refine cM (fp x32 x33 _ _ _ (G32.out.raw Z0.out dZ) (G33.out.raw Z2.out dZ)) fun x34 w34 hE G34=>?_
 refine mV6 hE ?_ G33 G32 G25 G24 HX L3;clear G33 G32 G25 G24 HX L3;intro G33 G32 G25 G24 HX L3;have hs_w34:=hE.size;obtain ⟨xl3,xh3⟩:=x34;have HL:=Hi G34.out.1;have HH:=Hi G34.out.2;clear G34
 go_wp2_with fail
 refine cM (vZ _ 3 3 q3 2125764 xl3 xh3 _ _ 1 _ L3.out dZ Q3.out dZ dZ (HL.out.raw ZL.out dZ) (HH.out.raw ZH.out dZ) ZL.out ZH.out dZ dZ) fun x35 w35 hE _=>?_
 refine mV6 hE ?_ G33 G32 G25 G24 HX L3;clear G33 G32 G25 G24 HX L3;intro G33 G32 G25 G24 HX L3;have hs_w35:=hE.size;rw [D0];clear HL HH;go_wp2
 go_ret
 exact ⟨(),rfl,HX.out,trivial⟩
end Go.Proofs.YtafgmcimcbhhjaaGreat
/- Tape -/
namespace Go.Proofs.YtafgmcimcbhhjaaGreat
open Go.RowKit Go.Front Go.Num
attribute [local go_sem] XW.cell XW.frozen
def rD(b n:Nat)(ao:Option Addr)(c:Nat)(N:Int)(w:World)(e:Ending)(w':World):Prop :=
 ∃ (v at':Int) (w1:World),e=.returned (.int .i64 v)∧0≤v∧v<N∧0≤at'∧at'≤n∧dK w b 103 #[.slice ao n c,.int .i64 at'] w1∧Ext w1 w'
theorem dK.same{w w':World}{b:Nat}{T:TypeId}{cs:Array Value}(h:w.heap[b]?=some (.cells cs T (0,0))):dK w b T cs w :=
 ⟨gP.refl w,h,fun _ _ _ h=>h,rfl,Below.refl _ _⟩
theorem dK.drewN{w w2:World}{b n:Nat}{T:TypeId}{cs:Array Value}(h:dK (w.drewN n) b T cs w2)(hb:b≤w.heap.size):dK w b T cs w2 :=
 ⟨gP.trans (dR (Ext.drewN w n)) h.keep,h.bx,h.rest,h.size,Below.trans (Below.mono (Ext.drewN w n) hb) h.below⟩
theorem Ac{w1:World}{b:Nat}{T:TypeId}{c0 c1 v1:Value}{F:World→Prop}(hb:w1.heap[b]?=some (.cells #[c0,c1] T (0,0)))(hn:#[c0,c1].toList.all fj=true)(h:∀ w2,dK w1 b T #[c0,v1] w2→F w2):F (w1.setCell ⟨b,1,none⟩ v1) :=
 h _ (dK.of (nXb.1 hb).1 (aj hb hn) (aV.setCell w1 ⟨b,1,none⟩ v1) (by simp [World.setCell]) (aH hb 1 v1))
set_option maxRecDepth 4000 in
theorem wT(b n c:Nat)(ao:Option Addr)(xs:List Int)(at' N:Int)(w:World)(hB:w.heap[b]?=some (.cells #[.slice ao n c,.int .i64 at'] 103 (0,0)))(h:eG w ao xs)(hr:InR xs)(hl:xs.length=n)(hm:n≤9223372036854775807)(hc:n≤c)(hcm:c≤9223372036854775807)
 (hsep:xs≠[]→∀ p,ao=some p→p.block≠b)(h0:0≤at')(h1:at'≤n)(hN:0<N)(hN2:N≤9223372036854775807) :
  Calls Tryz.prog 82 #[ptr b,.int .i64 N] w (rD b n ao c N w):=by
 obtain ⟨k,rfl⟩:∃ k:Nat,at'=(k:Nat):=⟨at'.toNat,zo⟩;have HX:=Hi (Ext.refl w);have BT:=Hi hB;have H:=Hi h;have hbl:b<w.heap.size:=(nXb.1 hB).1;clear hB h;simp only [ptr];go_enter Tryz.func82,Tryz.ntmps82;replace b_BT:=bX3 BT;by_cases hk:k=n
 ·subst hk
  go_upto_region 1 with fail
  go_quiet (fail)
  go_wp2
  go_ret
  exact ⟨0,(k:Int),w,rfl,zo,hN,zo,zo,dK.same (w':=w) BT.out,Ext.drewN w _⟩
 ·have hkn:(k:Int)<n:=zo;have hne:xs≠[]:=by intro h;rw [h] at hl;simp at hl;omega
  obtain ⟨bx,off,hao,hcell⟩:=H.out.at (k:=k) zo;have hbx:bx≠b:=hsep hne _ hao;obtain ⟨x,hx⟩:∃ x,x=xs.getD k 0:=⟨_,rfl⟩;have hxr:-9223372036854775808≤x∧x≤9223372036854775807:=by
   refine hr x ?_;rw [hx,show xs.getD k 0=xs[k]'zo by simp [show k<xs.length by omega]];exact List.getElem_mem _
  obtain ⟨hx1,hx2⟩:=hxr;rw [←hx] at hcell;subst hao;have hble:b≤w.heap.size:=zo;clear hx hsep hr H hne
  go_upto_region 1 with fail
  go_quiet (fail)
  go_upto_region 4 with fail
  refine Ac BT.out rfl ?_;intro w2 T;have T0:=Hi T;replace hcell:=T.cell hbx hcell;have hbl2:bx<w2.heap.size:=nXq _ _ hcell;clear b_BT hbl;replace BT:=Hi T.bx;clear T;have E2:=Hi (Ext.refl w2);replace b_BT:=bX3 BT;refine ai 13 (fun opIx=>match opIx with
   | 12=>sU (.int .i64 (x % N))
   | _=>.quiet) (fun _=>[]) kZ kZ (fun w0 he0 hz0 hc0 hf0=>?_)
  replace he0:=Hi he0;simp only [pT]
  repeat (first|(refine wpq fun K h=>?_;go_big_quiet_op;refine h _ ?_;clear h K)|(refine br rfl rfl rfl rfl ?_;simp only [pS]))
  refine wps he0 (fun w1 hW hG=>?_) fun x12=>?_
  ·exact spc [.int .i64 x,.int .i64 N] Tryz.func47 (t8 x N _ hx1 hx2 hN hN2)
  simp only [pS]
  repeat (first|(refine wpq fun K h=>?_;go_big_quiet_op;refine h _ ?_;clear h K)|(refine br rfl rfl rfl rfl ?_;simp only [pS]))
  refine aq ?_;intro w3 hI;have hE:=he0.out.trans hI.ext;clear hI he0 hz0 hc0 hf0;refine mV2 hE ?_ BT E2;clear BT E2;intro BT E2;have hs_w3:=hE.size;replace b_BT:=bX3 BT;simp only [pD];have hm1:=Int.emod_nonneg x (show N≠0 by omega);have hm2:=Int.emod_lt_of_pos x hN;go_wp2
  go_ret
  exact ⟨x % N,(k:Int)+1,w2,rfl,hm1,hm2,zo,zo,T0.out.drewN hble,E2.out⟩
open Stab Sg
theorem LIn.one{w:World}{s:SH}{qs:List Rat}{lo hi:Nat}(h:LIn w s qs lo hi):∃ b,lo≤b∧(s.n≠0→b<hi)∧LIn w s qs b (b+1):=by
 obtain ⟨rs,h1,h2,h3⟩:=h;rcases h3 with h0|⟨b,off,e,h4,h5⟩
 ·exact ⟨lo,nXe _,fun k=>absurd h0 k,rs,h1,h2,Or.inl h0⟩
 ·exact ⟨b,h4,fun _=>h5,rs,h1,h2,Or.inr ⟨b,off,e,nXe _,Nat.lt_succ_self _⟩⟩
theorem LIn.blt{w:World}{s:SH}{qs:List Rat}{b:Nat}(h:LIn w s qs b (b+1))(hn:s.n≠0):b<w.heap.size:=by
 obtain ⟨rs,h1,h2,h3⟩:=h;rcases h3 with h0|⟨x,off,e,h4,h5⟩
 ·exact absurd h0 hn
 ·rcases h1.in with h0|⟨y,o,e2,-,h6⟩
  ·exact absurd h0 hn
  ·rw [e] at e2;obtain ⟨rfl,rfl⟩:x=y∧off=o:=by simpa using e2
   omega
theorem bw.at0{w:World}{N n c:Nat}{qs:List Rat}(h:bw w ⟨some ⟨N,0,none⟩,n,c⟩ qs):LIn w ⟨some ⟨N,0,none⟩,n,c⟩ qs N (N+1) :=
 let ⟨rs,h1,h2⟩:=h;⟨rs,h1,h2,Or.inr ⟨N,0,rfl,nXe _,Nat.lt_succ_self _⟩⟩
theorem dw.at{w:World}{L:Nat}{s:SH}{qs:List Rat}(h:dw w (·=L) s.v qs):LIn w s qs L (L+1):=by
 have h1:=h.new (B:=L) (fun k _ e=>nle e.symm);obtain ⟨rs,h2,h3⟩:=h;rcases h2 with ⟨e,rfl⟩|⟨L2,cap,re,e,h4,h5⟩
 ·obtain ⟨rs2,k1,k2,k3⟩:=h1;refine ⟨rs2,k1,k2,Or.inl ?_⟩;have:=congrArg (fun v=>match v with | .slice _ n _=>n|_=>0) e;simpa [SH.v] using this
 ·obtain ⟨rs2,k1,k2,k3⟩:=h1;have e2:=congrArg (fun v=>match v with | .slice a _ _=>a|_=>none) e;simp only at e2;exact ⟨rs2,k1,k2,Or.inr ⟨L2,0,e2,nle h4.symm,zo⟩⟩
theorem kj{w:World}{ops:Array Oper}{rest:List Oper}{o:Oper}{a:Act}{Q:Exit→Act→World→Prop}(hgd:o.guard=none)(s x:Operand)(T:TypeId)(hT:Tryz.prog.underlying T=some (.slice 34))
 (ho:o.op=.call { callee:=.builtin .append,args:=#[s,x],argTypes:=#[T,T] })(L:Nat)(v:Value)(qs:List Rat)(r:RH)(q:Rat)(hs:a.eval s=v)(hown:dw w (·=L) v qs)
 (hx:a.eval x=.slice (some ⟨w.heap.size,0,none⟩) 1 1)(hr:aB w r q)(hl:qs.length≤1073741824)
 (h:∀ (s':SH) L' w',dw w' (·=L') s'.v (qs++[q])→Mut L w w'→(L'=L∨w.heap.size≤L')→L' < w'.heap.size→wpList Tryz.prog ops Q rest (a.put o.dst s'.v) w'):wpList Tryz.prog ops Q (o :: rest) a (w.alloc (.cells #[.bool r.neg,.slice r.a r.n r.c,.slice r.b r.m r.d] 34)):=by
 refine dY hgd s x T hT ho (fun k=>k=L∨w.heap.size≤k) v qs r q hs (hown.mono fun k _ e=>Or.inl e) hx hr hl (fun k hk=>Or.inr hk) ?_;intro s' w' g1 g2 g3;have hm:Mut L w w':=⟨g3,⟨g2.os,g2.tape,g2.output,g2.size,fun k hk hn=>g2.block k hk (fun h=>h.elim hn (fun h4=>Nat.lt_irrefl _ (nXn hk h4)))⟩⟩;obtain ⟨rs,k1,k2⟩:=g1;rcases k1 with ⟨e,rfl⟩|⟨L2,cap,re,e,h4,h5,h6⟩
 ·have h7:=k2.1;simp at h7
 ·exact h s' L2 w' ⟨rs,Or.inr ⟨L2,cap,re,e,rfl,h5,h6⟩,k2⟩ hm h4 h5.lt
theorem dw.fresh{w:World}{L N:Nat}{v:Value}{qs:List Rat}(h:dw w (·=L) v qs):∃ L2,dw w (·=L2) v qs∧((L2=L∧L<w.heap.size)∨L2=N):=by
 obtain ⟨rs,h1,h2⟩:=h;rcases h1 with ⟨e,rfl⟩|⟨L2,cap,re,e,h3,h4,h5⟩
 ·exact ⟨N,⟨[],Or.inl ⟨e,rfl⟩,h2⟩,Or.inr rfl⟩
 ·exact ⟨L,⟨rs,Or.inr ⟨L2,cap,re,e,h3,h4,h5⟩,h2⟩,Or.inl ⟨rfl,by rw [←h3];exact h4.lt⟩⟩
theorem Bl:∀ m:Nat,m<25→((((m:Int)-12:Int):Rat) / 12).num.natAbs<W32∧((((m:Int)-12:Int):Rat) / 12).den<W32:=by decide +kernel
theorem C8{q:Rat}(h:Tw q):Sz 1 q:=by
 obtain ⟨z,h1,h2⟩:=h;have e:q=(((z+12).toNat:Int)-12:Int) / 12:=by
  rw [show (((z+12).toNat:Int)-12:Int)=z by omega,←h1,Rat.div_def,nYd,nYj _ dZ,Rat.mul_one]
 have h3:=Bl (z+12).toNat zo;rw [←e] at h3;exact ⟨by rw [Nat.pow_one];exact h3.1,by rw [Nat.pow_one];exact h3.2⟩
abbrev RT2(x:(SH×SH)×(List Rat×List Rat)):Value:=.tuple #[x.1.1.v,x.1.2.v]
theorem wZ{ds:List Rat}{i:Nat}{x:Rat}(hi:i<ds.length):decide (x ∈ ds.take (i+1))=(decide (x ∈ ds.take i) || decide (x=ds.getD i 0)):=by
 have e:ds.take (i+1)=ds.take i++[ds.getD i 0]:=by
  rw [List.take_add_one,nXd,List.getElem?_eq_getElem hi];rfl
 rw [e];by_cases h1:x ∈ ds.take i
 ·rw [decide_eq_true h1,decide_eq_true (List.mem_append.2 (Or.inl h1))];rfl
 ·rw [decide_eq_false h1];by_cases h2:x=ds.getD i 0
  ·rw [decide_eq_true h2,decide_eq_true (List.mem_append.2 (Or.inr (by rw [h2];exact nXu.2 rfl)))];rfl
  ·rw [decide_eq_false h2,decide_eq_false (fun h=>(List.mem_append.1 h).elim h1 (fun k=>h2 (nXu.1 k)))];rfl
structure RtL (w wr:World) (bt n cap:Nat) (ao:Option Addr) (xp xr:SH) (g:Nat) (a ds:List Rat) (at':Int):Prop where
 hx:Ext w wr
 ha1:0≤at'
 ha2:at'≤n
 ex:∃ (j pb L:Nat) (rl:List Rat),j+g≤3∧LIn wr xp a pb (pb+1)∧pb≠bt∧pb≠L∧L≠bt∧w.heap.size≤L∧w.heap.size≤pb∧dw wr (·=L) xr.v ds∧RoF a rl none∧RoD ds rl∧rl.length≤3*j∧ds.length≤j
set_option maxRecDepth 8000 in
theorem rS(ao:Option Addr)(cap:Nat)(xs:List Int)(w:World)(h:eG w ao xs)(hr:InR xs)(hl:xs.length≤9223372036854775807)(hc:xs.length≤cap)(hcm:cap≤9223372036854775807) :
  au 29 [.slice ao xs.length cap] w RT2 (fun x w'=>(∃ e,LIn w' x.1.1 x.2.1 w.heap.size e)∧bw w' x.1.2 x.2.2∧zq x.2.1 x.2.2):=by
 have HX:=Hi (Ext.refl w);obtain ⟨n,hn⟩:∃ n,n=xs.length:=⟨_,rfl⟩;have HI:Hid (∀ b w1 (at' N:Int),w.heap.size≤b→Ext w w1→w1.heap[b]?=some (.cells #[.slice ao n cap,.int .i64 at'] 103 (0,0))→0≤at'→at'≤n→0<N→N≤9223372036854775807 →
   Calls Tryz.prog 82 #[ptr b,.int .i64 N] w1 (rD b n ao cap N w1)):=Hi (fun b w1 at' N hb he hB h0 h1 hN hN2=>wT b n cap ao xs at' N w1 hB (h.ext he) hr hn.symm zo zo hcm (fun hne p hp=>by have:=h.lt hne p hp;omega) h0 h1 hN hN2)
 rw [←hn] at hl hc ⊢;clear hn h hr;unfold au;go_enter Tryz.func29,Tryz.ntmps29
 go_upto_region 2 with fail
 refine nmA ?_;intro w1 hE BT hz_w1 hr_w1;replace HX:=hE.tr HX;have hs_w1:=hE.size;replace b_BT:=bX3 BT;obtain ⟨bt,hbt⟩:∃ bt,bt=w.heap.size:=⟨_,rfl⟩;have hbtw:w.heap.size≤bt:=zo;have hbt1:bt<w1.heap.size:=zo;rw [←hbt] at BT ⊢;clear hbt b_BT
 go_wp2_with fail
 refine Calls.mono (HI.out bt w1 0 3 hbtw HX.out BT.out zo zo dZ dZ) ?_;rintro e w17 ⟨v17,at17,w170,rfl,hv1,hv2,ha1,ha2,T,hE⟩;replace HX:=Hi (T.ext HX.out zo);replace BT:=Hi (T.bx);have hs_w170:=nle T.size;have hr_w170:=nle T.size.symm;clear T;replace b_BT:=bX3 BT;refine mV2 hE ?_ HX BT;clear HX BT;intro HX BT;have hs_w17:=hE.size;replace b_BT:=bX3 BT;obtain ⟨c0,rfl⟩:∃ m:Nat,v17=(m:Nat):=⟨v17.toNat,zo⟩
 go_wp2_with fail
 refine cM (aO (1+(c0:Int)) _ zo zo) fun x19 w19 hE G19=>?_
 refine mV2 hE ?_ HX BT;clear HX BT;intro HX BT;have hs_w19:=hE.size;replace b_BT:=bX3 BT
 go_upto_region 3 with fail
 refine nmA ?_;intro w20 hE B20 hz_w20 hr_w20;refine mV3 hE ?_ G19 HX BT;clear G19 HX BT;intro G19 HX BT;have hs_w20:=hE.size;replace b_BT:=bX3 BT;replace b_B20:=bX3 B20;have LA:Hid (LIn w20 ⟨some ⟨w19.heap.size,0,none⟩,1,1⟩ [((1+(c0:Int):Int):Rat)] w19.heap.size (w19.heap.size+1)):=Hi (CN B20.out G19.out).at0;have HRF:Hid (RoF [((1+(c0:Int):Int):Rat)] [] none):=Hi (RoF.start zo zo);obtain ⟨a0,hae⟩:∃ a:List Rat,a=[((1+(c0:Int):Int):Rat)]:=⟨_,rfl⟩;rw [←hae] at LA HRF;clear hae;obtain ⟨pb,hpb⟩:∃ b,b=w19.heap.size:=⟨_,rfl⟩;have hpbt:bt<pb:=zo;have hpb20:pb<w20.heap.size:=zo;have hpbw:w.heap.size≤pb:=zo;rw [←hpb] at LA B20 ⊢;clear hpb b_B20
 (try clear b_B20);clear B20
 clear G19
 go_wp2_with fail
 refine Calls.mono (HI.out bt w20 at17 2 hbtw HX.out BT.out ha1 ha2 dZ dZ) ?_;rintro e w22 ⟨v22,at22,w220,rfl,hv3,hv4,ha3,ha4,T,hE⟩;replace HX:=Hi (T.ext HX.out zo);replace BT:=Hi (T.bx);replace LA:=Hi (LA.out.put T zo);have hs_w220:=nle T.size;have hr_w220:=nle T.size.symm;clear T;replace b_BT:=bX3 BT;refine mV3 hE ?_ HX BT LA;clear HX BT LA;intro HX BT LA;have hs_w22:=hE.size;replace b_BT:=bX3 BT;have HC22:=b_BT.1;have ZA:Hid (SzL 2 a0):=Hi (HRF.out.sz (by simp));have ZM:Hid (Sz 1 ((-1:Int):Rat)):=Hi (Sz.int dZ)
 go_upto_if 23 with fail
 go_cut [5] (fun pv wc=>∃ (xp:SH) (a:List Rat) (pb:Nat),pv=xp.v∧Ext w wc∧wc.heap[bt]?=some (.cells #[.slice ao n cap,.int .i64 at22] 103 (0,0))∧LIn wc xp a pb (pb+1)∧pb≠bt∧w.heap.size≤pb∧RoF a [] none)
 case first =>
  by_cases hv:v22=1
  case pos =>
   subst hv
   go_wp2_with fail
   refine cM (aO (-1) _ dZ dZ) fun x25 w25 hE G25=>?_
   refine mV3 hE ?_ HX BT LA;clear HX BT LA;intro HX BT LA;have hs_w25:=hE.size;replace b_BT:=bX3 BT
   go_wp2_with fail
   refine cM (gy (some ⟨pb,0,none⟩) 1 1 a0 x25 ((-1:Int):Rat) _ (LA.out.can.raw ZA.out dZ) (G25.out.raw ZM.out dZ) dZ (ZA.out.mono dZ) (ZM.out.mono dZ)) fun x26 w26 hE G26=>?_
   refine mV4 hE ?_ G25 HX BT LA;clear G25 HX BT LA;intro G25 HX BT LA;have hs_w26:=hE.size;replace b_BT:=bX3 BT;obtain ⟨qb,h1,-,h2⟩:=LIn.one G26.out;have HQ:=Hi h2;clear h2;go_wp2
   go_meet
   case rel=>exact ⟨x26,_,qb,rfl,HX.out,BT.out,HQ.out,zo,zo,HRF.out.neg⟩
  have hvb:(v22 == 1)=false:=by rw [nXs];exact hv
  go_wp2
  go_meet
  case rel=>exact ⟨⟨some ⟨pb,0,none⟩,1,1⟩,a0,pb,rfl,HX.out,BT.out,LA.out,zo,zo,HRF.out⟩
 case rest =>
  obtain ⟨⟨xa,xn,xc⟩,a,pb',rfl,g1,g2,g3,g4,g5,g6⟩:=hcut;clear HX BT LA ZA ZM HRF HC22;have HX:=Hi g1;have BT:=Hi g2;have LP:=Hi g3;have HRF:=Hi g6;clear g1 g2 g3 g6 b_BT;simp only [SH.v];replace b_BT:=bX3 BT
  go_wp2_with fail
  refine Calls.mono (HI.out bt wc at22 4 hbtw HX.out BT.out ha3 ha4 dZ dZ) ?_;rintro e w28 ⟨v28,at28,w280,rfl,hv5,hv6,ha5,ha6,T,hE⟩;replace HX:=Hi (T.ext HX.out zo);replace BT:=Hi (T.bx);replace LP:=Hi (LP.out.put T zo);have hs_w280:=nle T.size;have hr_w280:=nle T.size.symm;clear T;replace b_BT:=bX3 BT;refine mV3 hE ?_ HX BT LP;clear HX BT LP;intro HX BT LP;have hs_w28:=hE.size;replace b_BT:=bX3 BT;obtain ⟨m,rfl⟩:∃ m:Nat,v28=(m:Nat):=⟨v28.toNat,zo⟩;go_wp2
  go_loopg [5,6,7] m (fun g u5 u6 u7 wr=>∃ (xp xr:SH) (a ds:List Rat) (at':Int),u5=xp.v∧u6=xr.v∧u7=.int .i64 (g:Nat)∧wr.heap[bt]?=some (.cells #[.slice ao n cap,.int .i64 at'] 103 (0,0))∧RtL w wr bt n cap ao xp xr g a ds at')
  case atStart=>exact ⟨⟨xa,xn,xc⟩,⟨none,0,0⟩,a,[],at28,rfl,rfl,rfl,BT.out,HX.out,ha5,ha6,0,pb',pb'+bt+1,[],zo,LP.out,zo,zo,zo,zo,zo,dw.nil _ _,HRF.out,RoD.nil,by simp,by simp⟩
  case round =>
   obtain ⟨⟨xa,xn,xc⟩,⟨ya,yn,yc⟩,a,ds,at',rfl,rfl,rfl,g1,g2,hat1,hat2,j,pb,L,rl,hj,g3,h1,h2,h3,h4,h5,g4,g5,g6,h6,h7⟩:=hrel;clear HX BT LP HRF;have HX:=Hi g2;have BT:=Hi g1;have LP:=Hi g3;have HO:=Hi g4;have HRF:=Hi g5;have HRD:=Hi g6;clear g1 g2 g3 g4 g5 g6 b_BT;simp only [SH.v] at HO ⊢;replace b_BT:=bX3 BT;have hszw:=HX.out.size;have hbtr:=b_BT.2.2;by_cases hg0:gk=0
   case pos =>
    subst hg0;have hgz:¬ (0:Int)<((0:Nat):Int):=zo;have HO2:Hid (dw wr (·=L) (SH.v ⟨ya,yn,yc⟩) ds):=Hi HO.out;have LO:Hid (LIn wr ⟨ya,yn,yc⟩ ds L (L+1)):=Hi HO2.out.at;clear HO2;clear HO;have hal:=HRF.out.len;have hxl:=LP.out.len;simp only [dg] at hal hxl;have hrl9:rl.length≤9:=zo;have ZP:Hid (SzL 2 a):=Hi (HRF.out.sz hrl9)
    go_wp2_with fail
    refine Calls.mono (HI.out bt wr at' 2 hbtw HX.out BT.out hat1 hat2 dZ dZ) ?_;rintro e w68 ⟨v68,at68,w680,rfl,hv7,hv8,ha7,ha8,T,hE⟩;replace HX:=Hi (T.ext HX.out zo);replace BT:=Hi (T.bx);replace LP:=Hi (LP.out.put T zo);replace LO:=Hi (LO.out.put T zo);have hs_w680:=nle T.size;have hr_w680:=nle T.size.symm;clear T;replace b_BT:=bX3 BT;refine mV4 hE ?_ HX BT LP LO;clear HX BT LP LO;intro HX BT LP LO;have hs_w68:=hE.size;replace b_BT:=bX3 BT;by_cases hv:v68=1
    case neg =>
     have hvb:(v68 == 1)=false:=by rw [nXs];exact hv
     go_wp2;exact nXa (v:=RT2 ((⟨xa,xn,xc⟩,⟨ya,yn,yc⟩),(a,ds))) (by simp [results,Tryz.results29,go_sem,RT2]) rfl
      ⟨((⟨xa,xn,xc⟩,⟨ya,yn,yc⟩),(a,ds)),rfl,HX.out,⟨_,LP.out.mono zo (nXe _)⟩,LO.out.can,rl,none,HRF.out,HRD.out,hrl9⟩
    subst hv
    go_wp2_with fail
    refine Calls.mono (HI.out bt w68 at68 4 hbtw HX.out BT.out ha7 ha8 dZ dZ) ?_;rintro e w72 ⟨v72,at72,w720,rfl,hv9,hv10,ha9,ha10,T,hE⟩;replace HX:=Hi (T.ext HX.out zo);replace BT:=Hi (T.bx);replace LP:=Hi (LP.out.put T zo);replace LO:=Hi (LO.out.put T zo);have hs_w720:=nle T.size;have hr_w720:=nle T.size.symm;clear T;replace b_BT:=bX3 BT;refine mV4 hE ?_ HX BT LP LO;clear HX BT LP LO;intro HX BT LP LO;have hs_w72:=hE.size;replace b_BT:=bX3 BT;obtain ⟨t,rfl⟩:∃ t:Nat,v72=(t:Nat):=⟨v72.toNat,zo⟩;have ht4:t<4:=zo;have HSX:=Hi (C9 ht4);have HSA:=Hi (yj t ht4)
    go_wp2_with fail
    refine cM (lR (1+(t:Int)) 16 _ zo zo dZ dZ) fun x74 w74 hE G74=>?_
    refine mV4 hE ?_ HX BT LP LO;clear HX BT LP LO;intro HX BT LP LO;have hs_w74:=hE.size;replace b_BT:=bX3 BT;obtain ⟨q,hq⟩:∃ q,q=((1+(t:Int):Int):Rat) / ((16:Int):Rat):=⟨_,rfl⟩;have ZQ:Hid (Sz 1 q):=Hi (by rw [hq];exact ⟨by rw [Nat.pow_one];exact HSA.out.2.2.1,by rw [Nat.pow_one];exact HSA.out.2.2.2⟩);rw [←hq] at G74 HSX;clear hq HSA
    go_wp2_with fail
    refine cM (aO 0 _ dZ dZ) fun x75 w75 hE G75=>?_
    refine mV5 hE ?_ G74 HX BT LP LO;clear G74 HX BT LP LO;intro G74 HX BT LP LO;have hs_w75:=hE.size;replace b_BT:=bX3 BT
    go_wp2_with fail
    refine cM (aO 1 _ dZ dZ) fun x76 w76 hE G76=>?_
    refine mV6 hE ?_ G75 G74 HX BT LP LO;clear G75 G74 HX BT LP LO;intro G75 G74 HX BT LP LO;have hs_w76:=hE.size;replace b_BT:=bX3 BT
    go_wp2_with fail
    refine nmA (F:=fun W=>Calls _ _ _ W _) ?_;intro w77 hE B77 hz_w77 hr_w77;refine mV7 hE ?_ G76 G75 G74 HX BT LP LO;clear G76 G75 G74 HX BT LP LO;intro G76 G75 G74 HX BT LP LO;have hs_w77:=hE.size;replace b_BT:=bX3 BT;replace b_B77:=bX3 B77
    change Calls _ _ _ _ _
    have L3:=Hi (zh B77.out G74.out G75.out G76.out);have ZF:Hid (SzL 2 [q,((0:Int):Rat),((1:Int):Rat)]):=Hi (fun y hy=>by
     rcases List.mem_cons.1 hy with rfl|hy
     ·exact ZQ.out.mono dZ
     ·rcases List.mem_cons.1 hy with rfl|hy
      ·exact (Sz.int dZ).mono dZ
      ·obtain rfl:y=((1:Int):Rat):=by simpa using hy
       exact (Sz.int dZ).mono dZ)
    refine cM (qF xa _ xn xc 3 3 a [q,((0:Int):Rat),((1:Int):Rat)] 2 _ (LP.out.can.raw ZP.out dZ) (L3.out.raw ZF.out dZ) zo dZ ZP.out ZF.out dZ) fun x78 w78 hE G78=>?_
    refine mV8 hE ?_ B77 G76 G75 G74 HX BT LP LO;clear B77 G76 G75 G74 HX BT LP LO;intro B77 G76 G75 G74 HX BT LP LO;replace L3:=mV hE L3;have hs_w78:=hE.size;replace b_BT:=bX3 BT;replace b_B77:=bX3 B77;obtain ⟨za,zn,zc⟩:=x78;have HZ:=Hi (LIn.mono (lo':=w.heap.size) G78.out zo (nXe _));have HRQ:=Hi (HRF.out.quad HSX.out);clear G78;go_wp2;exact nXa (v:=RT2 ((⟨za,zn,zc⟩,⟨ya,yn,yc⟩),(aI a [q,((0:Int):Rat),((1:Int):Rat)],ds))) (by simp [results,Tryz.results29,go_sem,RT2]) rfl
     ⟨((⟨za,zn,zc⟩,⟨ya,yn,yc⟩),(aI a [q,((0:Int):Rat),((1:Int):Rat)],ds)),rfl,HX.out,⟨_,HZ.out⟩,LO.out.can,rl,some q,HRQ.out,HRD.out,hrl9⟩
   obtain ⟨g0,rfl⟩:∃ g0,gk=g0+1:=⟨gk-1,zo⟩;have hgp:(0:Int)<((g0+1:Nat):Int):=zo
   go_wp2_with fail
   refine Calls.mono (HI.out bt wr at' 25 hbtw HX.out BT.out hat1 hat2 dZ dZ) ?_;rintro e w34 ⟨v34,at34,w340,rfl,hv7,hv8,ha7,ha8,T,hE⟩;replace HX:=Hi (T.ext HX.out zo);replace BT:=Hi (T.bx);replace LP:=Hi (LP.out.put T zo);replace HO:=Hi (HO.out.put T (by intro h;(try dsimp only at h);omega));have hs_w340:=nle T.size;have hr_w340:=nle T.size.symm;clear T;replace b_BT:=bX3 BT;refine mV4 hE ?_ HX BT LP HO;clear HX BT LP HO;intro HX BT LP HO;have hs_w34:=hE.size;replace b_BT:=bX3 BT
   go_wp2_with fail
   refine cM (pJ v34 _ zo zo) fun x35 w35 hE G35=>?_
   refine mV4 hE ?_ HX BT LP HO;clear HX BT LP HO;intro HX BT LP HO;have hs_w35:=hE.size;replace b_BT:=bX3 BT;have HTW:Hid (Tw (oL v34)):=Hi (AJ v34);have ZC:=Hi (iB v34);obtain ⟨x,hx⟩:∃ x,x=oL v34:=⟨_,rfl⟩;rw [←hx] at G35 HTW ZC;clear hx;obtain ⟨tn,ta,tl,tc,tb,tm,td⟩:=x35;have hLP:=HO.out;obtain ⟨L2,hO2,hL2⟩:=dw.fresh (N:=w35.heap.size+pb+bt+1) hLP;have hb1:pb≠L2:=zo;have hb2:L2≠bt:=zo;have hb3:w.heap.size≤L2:=zo;have hb4:L2≠w35.heap.size:=zo;clear HO;clear hLP h2 h3 h4 hL2 L;have HO:=Hi hO2;clear hO2;obtain ⟨L,hLe⟩:∃ L,L=L2:=⟨_,rfl⟩;rw [←hLe] at HO hb1 hb2 hb3 hb4;clear hLe
   go_upto_region 10 with fail
   refine nmA ?_;intro w36 hE B8 hz_w36 hr_w36;refine mV5 hE ?_ G35 HX BT LP HO;clear G35 HX BT LP HO;intro G35 HX BT LP HO;have hs_w36:=hE.size;replace b_BT:=bX3 BT;replace b_B8:=bX3 B8;obtain ⟨b8,hb8⟩:∃ b,b=w35.heap.size:=⟨_,rfl⟩;have hb8w:b8<w36.heap.size:=zo;have hb8t:bt<b8:=zo;have hb8r:wr.heap.size≤b8:=zo;have hb8L:b8≠L:=zo;rw [←hb8] at B8 ⊢;clear hb8 b_B8;have HO2:Hid (dw w36 (·=L) (SH.v ⟨ya,yn,yc⟩) ds):=Hi HO.out;have hlen:=HO2.out.len;simp only at hlen;have LO:Hid (LIn w36 ⟨ya,yn,yc⟩ ds L (L+1)):=Hi HO2.out.at;have HX7:=Hi (Ext.refl w36);have ZD:Hid (SzL 1 ds):=Hi (fun q hq=>C8 (HRF.out.tw q ((HRD.out.mem q).1 hq)));go_wp2
   go_loopg [9,38] yn (fun g u9 u38 wy=>∃ i:Nat,i+g=yn∧u9=.bool (decide (x ∈ ds.take i))∧u38=.int .i64 (i:Nat)∧Ext w36 wy)
   case atStart=>exact ⟨0,zo,rfl,rfl,HX7.out⟩
   case round =>
    obtain ⟨i,hi,rfl,rfl,g1⟩:=hrel;clear HX7;have HX7:=Hi g1;have B82:=Hi (g1.block B8.out);have LO2:=Hi (LO.out.ext g1);have HT2:=Hi (G35.out.ext g1);have hyw:=g1.size;clear g1;replace b_B82:=bX3 B82;by_cases h0:gk=0
    case neg =>
     have hin:(i:Int)<yn:=zo;have hiy:i<yn:=zo;have HMS:=Hi (wZ (ds:=ds) (i:=i) (x:=x) zo);obtain ⟨ba,oa,r,hao,hbl,⟨hc1,hc2,hc3⟩,hPc⟩:=LO2.out.celx (k:=i) hiy;obtain ⟨rneg,ra,rn,rc,rb,rm,rd⟩:=r;simp only at hc1 hc2 hc3;have HC:=Hi hPc;have ZI:Hid (Sz 1 (ds.getD i 0)):=Hi (ZD.out.at zo);clear hPc;subst hao
     go_upto_region 14 with fail
     refine nmA ?_;intro w11 hE B11 hz_w11 hr_w11;refine mV5 hE ?_ HX7 B82 LO2 HT2 HC;clear HX7 B82 LO2 HT2 HC;intro HX7 B82 LO2 HT2 HC;have hs_w11:=hE.size;replace b_B82:=bX3 B82;replace b_B11:=bX3 B11;clear hc1 hc2 hc3;obtain ⟨d,hd⟩:∃ d,d=decide (x ∈ ds.take i):=⟨_,rfl⟩;rw [←hd] at HMS ⊢;clear hd;cases d
     case true =>
      have HM2:Hid (decide (x ∈ ds.take (i+1))=true):=Hi (by rw [HMS.out];rfl);go_wp2
      go_roundg (gk-1)
      case measure=>omega
      case rel=>exact ⟨i+1,zo,by rw [HM2.out],by go_num,HX7.out⟩
     case false =>
      go_wp2_with fail
      refine cM (nQ ⟨tn,ta,tl,tc,tb,tm,td⟩ ⟨rneg,ra,rn,rc,rb,rm,rd⟩ x (ds.getD i 0) _ (HT2.out.raw ZC.out dZ) (HC.out.raw ZI.out dZ)) fun x46 w46 hE _=>?_
      refine mV6 hE ?_ B11 HX7 B82 LO2 HT2 HC;clear B11 HX7 B82 LO2 HT2 HC;intro B11 HX7 B82 LO2 HT2 HC;have hs_w46:=hE.size;replace b_B82:=bX3 B82;replace b_B11:=bX3 B11;obtain ⟨c,hcc⟩:∃ c,c=dJ x (ds.getD i 0):=⟨_,rfl⟩;have HM2:Hid (decide (x ∈ ds.take (i+1))=(c == 0)):=Hi (by
       rw [HMS.out,hcc,Bool.false_or];by_cases h:x=ds.getD i 0
       ·rw [decide_eq_true h,nk.2 h];rfl
       ·rw [decide_eq_false h,nXs.2 (fun k=>h (nk.1 k))])
      rw [←hcc];clear hcc HMS;go_wp2
      go_roundg (gk-1)
      case measure=>omega
      case rel=>exact ⟨i+1,zo,by rw [HM2.out],by go_num,HX7.out⟩
    subst h0;obtain rfl:i=yn:=by omega
    have hin:¬ (i:Int)<i:=zo;have HDT:Hid (ds.take i=ds):=Hi (nXm zo);obtain ⟨d,hd⟩:∃ d,d=decide (x ∈ ds.take i):=⟨_,rfl⟩;have HD:Hid (d=decide (x ∈ ds)):=Hi (by rw [hd,HDT.out]);rw [←hd];clear hd HDT;have HXw:=Hi (HX.out.trans HX7.out);have BTw:=Hi (HX7.out.block BT.out);have LPw:=Hi (LP.out.ext HX7.out);have HOw:=Hi (HO.out.ext HX7.out);cases d
    case true =>
     go_wp2
     go_roundg g0
     case measure=>omega
     case rel=>exact ⟨⟨xa,xn,xc⟩,⟨ya,i,yc⟩,a,ds,at34,rfl,rfl,by go_num,BTw.out,HXw.out,ha7,ha8,j,pb,L,rl,zo,LPw.out,h1,hb1,hb2,hb3,h5,HOw.out,HRF.out,HRD.out,h6,h7⟩
    have HNI:Hid (x ∉ ds):=Hi (of_decide_eq_false HD.out.symm)
    go_upto_region 18 with (at_builtin;refine kj rfl (.tmp 51) (.tmp 53) 23 Tryz.underlying23 rfl L _ ds ⟨tn,ta,tl,tc,tb,tm,td⟩ x rfl HOw.out rfl HT2.out zo ?_;intro s' L' y1 q1 q2 q3 q4)
    obtain ⟨za,zn,zc⟩:=s';have HX3:=Hi (q2.ext HXw.out hb3);have BT3:=Hi (q2.rest bt _ zo BTw.out);have B83:=Hi (q2.rest b8 _ hb8L B82.out);have LP3:=Hi (LPw.out.mut q2 zo);have HT3:=Hi (HT2.out.keep q2.keep);have HO3:=Hi q1;have hxn:xn≠0:=by have e1:=LPw.out.len;have e2:=HRF.out.len;simp only at e1;omega
    have hpw:=LPw.out.blt hxn;have hb8s:b8<y1.heap.size:=(nXb.1 B83.out).1;have hq5:=q2.size;have hL1:pb≠L':=zo;have hL2:L'≠bt:=zo;have hL3:w.heap.size≤L':=zo;clear q1 q2 q3 HX7 HXw BTw LPw HOw HX BT LP HO B8 B82 LO LO2 HO2 HT2 HD;simp only [SH.v] at HO3 ⊢;replace b_BT3:=bX3 BT3;replace b_B83:=bX3 B83
    go_wp2_with fail
    refine Calls.mono (HI.out bt y1 at34 3 hbtw HX3.out BT3.out ha7 ha8 dZ dZ) ?_;rintro e w56 ⟨v56,at56,w560,rfl,hv9,hv10,ha9,ha10,T,hE⟩;replace HX3:=Hi (T.ext HX3.out zo);replace BT3:=Hi (T.bx);replace B83:=Hi (T.rest _ _ zo B83.out);replace LP3:=Hi (LP3.out.put T zo);replace HT3:=Hi (HT3.out.keep T.keep);replace HO3:=Hi (HO3.out.put T (by intro h;(try dsimp only at h);omega));have hs_w560:=nle T.size;have hr_w560:=nle T.size.symm;clear T;replace b_BT3:=bX3 BT3;replace b_B83:=bX3 B83;refine mV6 hE ?_ HX3 BT3 B83 LP3 HT3 HO3;clear HX3 BT3 B83 LP3 HT3 HO3;intro HX3 BT3 B83 LP3 HT3 HO3;have hs_w56:=hE.size;replace b_BT3:=bX3 BT3;replace b_B83:=bX3 B83;obtain ⟨k,rfl⟩:∃ m:Nat,v56=(m:Nat):=⟨v56.toNat,zo⟩;have hk2:k≤2:=zo;have hk1:((k+1:Nat):Int)-1=k:=by omega
    go_wp2
    go_loopg [5,12] (k+1) (fun g u5 u12 wz=>∃ (xp:SH) (a' rl':List Rat) (qb:Nat),u5=xp.v∧u12=.int .i64 ((g:Int)-1)∧g≤k+1∧Ext w56 wz∧LIn wz xp a' qb (qb+1)∧qb≠bt∧qb≠L'∧w.heap.size≤qb∧RoF a' rl' none∧rl'.length+g=rl.length+(k+1)∧(∀ y ∈ rl',y=x∨y ∈ rl)∧(∀ y ∈ rl,y ∈ rl')∧(g≤k→x ∈ rl'))
    case atStart=>exact ⟨⟨xa,xn,xc⟩,a,rl,pb,rfl,by rw [hk1],nXe _,Ext.refl _,LP3.out,h1,hL1,h5,HRF.out,zo,fun y hy=>Or.inr hy,fun y hy=>hy,fun h=>absurd h zo⟩
    case round =>
     obtain ⟨⟨pa,pn,pc⟩,a',rl',qb,rfl,rfl,hgk,g1,g2,g3,g4,g5,g6,g7,g8,g9,g10⟩:=hrel;have HX8:=Hi g1;have HXz:=Hi (HX3.out.trans g1);have BTz:=Hi (g1.block BT3.out);have B8z:=Hi (g1.block B83.out);have HTz:=Hi (HT3.out.ext g1);have HOz:=Hi (HO3.out.ext g1);have LPz:=Hi g2;have HRz:=Hi g6;have HM1:=Hi g8;have HM2:=Hi g9;have HM3:=Hi g10;have hszz:=g1.size;clear g1 g2 g6 g8 g9 g10;simp only [SH.v];by_cases h0:gk=0
     case pos =>
      subst h0;have hneg:¬ (0:Int)≤((0:Nat):Int)-1:=zo;have HRD2:=Hi (HRD.out.more HNI.out HM1.out HM2.out (HM3.out (Nat.zero_le _)));go_wp2
      go_roundg g0
      case measure=>omega
      case rel=>exact ⟨⟨pa,pn,pc⟩,⟨za,zn,zc⟩,a',ds++[x],at56,rfl,rfl,by go_num,BTz.out,HXz.out,ha9,ha10,j+1,qb,L',rl',zo,LPz.out,g3,g4,hL2,hL3,g5,HOz.out,HRz.out,HRD2.out,zo,by simp;omega⟩
     obtain ⟨g1,rfl⟩:∃ g1,gk=g1+1:=⟨gk-1,zo⟩;have hg1:((g1+1:Nat):Int)-1=g1:=by omega
     rw [hg1];have hgp:(0:Int)≤(g1:Nat):=zo;have hrl9:rl'.length≤9:=zo;have ZP:Hid (SzL 2 a'):=Hi (HRz.out.sz hrl9);have hal:=HRz.out.len;have hxl:=LPz.out.len;simp only [dg] at hal hxl;have ZF:Hid (SzL 2 [-x,((1:Int):Rat)]):=Hi (fun y hy=>by
      rcases List.mem_cons.1 hy with rfl|hy
      ·exact ZC.out.neg.mono dZ
      ·obtain rfl:y=((1:Int):Rat):=by simpa using hy
       exact (Sz.int dZ).mono dZ)
     replace b_B8z:=bX3 B8z
     go_wp2_with fail
     refine cM (nM ⟨tn,ta,tl,tc,tb,tm,td⟩ x _ (HTz.out.raw ZC.out dZ)) fun x63 w63 hE G63=>?_
     refine mV5 hE ?_ HX8 HXz B8z HTz LPz;clear HX8 HXz B8z HTz LPz;intro HX8 HXz B8z HTz LPz;have hs_w63:=hE.size;replace b_B8z:=bX3 B8z
     go_wp2_with fail
     refine cM (aO 1 _ dZ dZ) fun x64 w64 hE G64=>?_
     refine mV6 hE ?_ G63 HX8 HXz B8z HTz LPz;clear G63 HX8 HXz B8z HTz LPz;intro G63 HX8 HXz B8z HTz LPz;have hs_w64:=hE.size;replace b_B8z:=bX3 B8z
     go_wp2_with fail
     refine nmA (F:=fun W=>Calls _ _ _ W _) ?_;intro w65 hE B65 hz_w65 hr_w65;refine mV7 hE ?_ G64 G63 HX8 HXz B8z HTz LPz;clear G64 G63 HX8 HXz B8z HTz LPz;intro G64 G63 HX8 HXz B8z HTz LPz;have hs_w65:=hE.size;replace b_B8z:=bX3 B8z;replace b_B65:=bX3 B65
     change Calls _ _ _ _ _
     have L2:=Hi (CM B65.out G63.out G64.out);refine cM (qF pa _ pn pc 2 2 a' [-x,((1:Int):Rat)] 2 _ (LPz.out.can.raw ZP.out dZ) (L2.out.raw ZF.out dZ) zo dZ ZP.out ZF.out dZ) fun x66 w66 hE G66=>?_
     refine mV8 hE ?_ B65 G64 G63 HX8 HXz B8z HTz LPz;clear B65 G64 G63 HX8 HXz B8z HTz LPz;intro B65 G64 G63 HX8 HXz B8z HTz LPz;replace L2:=mV hE L2;have hs_w66:=hE.size;replace b_B8z:=bX3 B8z;replace b_B65:=bX3 B65;obtain ⟨ra,rn,rc⟩:=x66;obtain ⟨rb,k1,-,k2⟩:=LIn.one G66.out;have HRn:=Hi k2;have HRq:=Hi (HRz.out.step HTW.out);clear G66 k2;go_wp2
     go_roundg g1
     case measure=>omega
     case rel=>exact ⟨⟨ra,rn,rc⟩,_,x :: rl',rb,rfl,by go_num,zo,HX8.out,HRn.out,zo,zo,zo,HRq.out,by rw [List.length_cons];omega,fun y hy=>(List.mem_cons.1 hy).elim Or.inl (HM1.out y),fun y hy=>List.mem_cons_of_mem _ (HM2.out y hy),fun _=>List.mem_cons_self ..⟩
end Go.Proofs.YtafgmcimcbhhjaaGreat
/- What all joins of this seat share. -/
namespace Go.Proofs.YtafgmcimcbhhjaaGreat
open Go.ChangeShapes Go.WideShapes Go.ChangeAt Go.RowKit Go.Front Go.Joins
theorem own:ownKnob Tryz.prog.godebug=none:=by kernel_rfl
theorem jJ:laidOutB Tryz.prog=true:=by kernel_rfl
theorem jW{n:Int}(h:(Lit.int .i64 n).wf=true):-9223372036854775808≤n∧n≤9223372036854775807:=by
 simp [Lit.wf] at h;exact ⟨h.1,h.2⟩
theorem vU{n:Int}(h:(Lit.int .u8 n).wf=true):0≤n∧n≤255:=by
 simp [Lit.wf] at h;exact ⟨h.1,h.2⟩
theorem wM{H:Type}{enc:TypeId×Value→H}{W:World}{a0:Option Addr}{len0 cap0:Nat}{d:DataW H}{p:List MemPlace}(h0:DataW.Trod enc Tryz.prog W 0 (fun _=>true) true 22 (.slice a0 len0 cap0) d p) :
  ∃ xs:List Int,eG W a0 xs∧InR xs∧xs.length=len0∧len0≤9223372036854775807∧len0≤cap0∧cap0≤9223372036854775807:=by
 obtain ⟨fuel,hf⟩:=h0;rcases open_ints Tryz.underlying22 Tryz.underlying3 kZ hf with ⟨hcs,_⟩|⟨x,l,c,zs,hcs,_,hl,hm,hz,_,hcell,hwz⟩
 ·simp [Value.cells] at hcs;obtain ⟨rfl,rfl,rfl⟩:=hcs;exact ⟨[],Or.inl rfl,fun x hx=>by simp at hx,rfl,dZ,dZ,dZ⟩
 ·simp [Value.cells] at hcs;obtain ⟨rfl,rfl,rfl⟩:=hcs;simp only [maxLen] at hm;have hz':zs.length=cap0:=by simpa using hz
  refine ⟨zs.take len0,?_,fun x hx=>jW (hwz x (List.mem_of_mem_take hx)),by simp;omega,zo,hl,zo⟩;by_cases hp:0<zs.length
  ·obtain ⟨b,off,rfl,hc⟩:=ints_at hcell hp;refine Or.inr ⟨b,off,rfl,fun k hk=>?_⟩;simp only [nXk] at hk;rw [hc k zo];simp [show k<len0 by omega]
  ·left
   have:zs=[]:=nXj.1 zo;rw [this];simp
end Go.Proofs.YtafgmcimcbhhjaaGreat
