/- Sizes of the elliptic prototypes. Plain facts. -/
import Derived.Test.YtafgmcimcbhhjaaGreatQGK16
import Derived.Test.YtafgmcimcbhhjaaGreatQGK15
set_option linter.unusedVariables false
set_option maxHeartbeats 16000000
namespace Go.Proofs.YtafgmcimcbhhjaaGreat
open Go.RowKit Go.Front Go.Num Stab
theorem FrB.scP{S T:Nat}{l:List Rat}{c:Rat}(h:FrB S l)(hc:Sz T c)(hT:1≤T):FrB (S+T) (scP l c):=by
 obtain ⟨h0,D,h1,h2,h3⟩:=h;have hf:FrL (S+T) (D*c.den) (l.map (·*c)):=fun x hx=>by
  obtain ⟨y,hy,rfl⟩:=nYd.1 hx;exact (h3 y hy).mul (tD hc)
 refine ⟨by omega,D*c.den,Nat.mul_pos h1 c.den_pos,?_,FrL.tz hf⟩;rw [Nat.pow_add];exact Nat.mul_lt_mul'' h2 hc.2
theorem FrB.subV{S U:Nat}{p q:List Rat}(hp:FrB S p)(hq:FrB U q):FrB (S+U+1) (subV p q):=hp.add hq.neg
structure ElZ (n:Nat) (e r s:Rat) (K:Nat):Prop where
 zT:Sz (2*K) (elT n s)
 zC:Sz (2*K+6) (aG e)
 z1:Sz (2*K+2) (elT n s+((1:Int):Rat))
 z2:Sz (2*K+2) (elT n s-((1:Int):Rat))
 c1:Sz (4*K+8) ((elT n s+((1:Int):Rat))*aG e)
 c2:Sz (4*K+8) ((elT n s-((1:Int):Rat))*aG e)
 f1:FrB (4*K+13) (scP (bI miQ 1) ((elT n s+((1:Int):Rat))*aG e))
 f2:FrB (4*K+13) (scP (bI miQ 1) ((elT n s-((1:Int):Rat))*aG e))
 fA:FrB (4*K+19) (elA (elT n s) e)
 fB:FrB (4*K+19) (elB (elT n s) e)
 zw:Sz (3*K+4) (elW s)
 zw1:Sz (3*K+6) (elW s+((1:Int):Rat))
 zw2:Sz (3*K+6) (elW s-((1:Int):Rat))
 fAA:FrB (8*K+39) (ar (elA (elT n s) e) (elA (elT n s) e))
 fBB:FrB (8*K+39) (ar (elB (elT n s) e) (elB (elT n s) e))
 fE:FrB (19*K+85) (elE n e s)
 fO:FrB (19*K+85) (elO n e s)
 fEE:FrB (38*K+171) (ar (elE n e s) (elE n e s))
 fOO:FrB (38*K+171) (ar (elO n e s) (elO n e s))
 fR:FrB (39*K+171) (scP (ar (elO n e s) (elO n e s)) r)
 fD:FrB (77*K+343) (elD n e r s)
theorem oo:FrB 5 (bI plQ 1):=(ct (eF 1 (by decide)) (by decide) 1 (by omega)).mono (by decide)
theorem ox:FrB 5 (bI miQ 1):=(ct (eF (-1) (by decide)) (by decide) 1 (by omega)).mono (by decide)
theorem C9{n:Nat}{e r s:Rat}{K:Nat}(hn:n=2∨n=4)(ze:Sz K e)(zr:Sz K r)(zs:Sz K s)(hK:1≤K):ElZ n e r s K:=by
 have Z1:Sz 1 ((1:Int):Rat):=Sz.int (by decide);have Z2:Sz 1 ((2:Int):Rat):=Sz.int (by decide);have zT:Sz (2*K) (elT n s):=by
  unfold elT;split
  ·exact (zs.mul zs).mono (by omega)
  ·exact zs.mono (by omega)
 have zC:Sz (2*K+6) (aG e):=hZ ze hK;have z1:Sz (2*K+2) (elT n s+((1:Int):Rat)):=(zT.add Z1).mono (by omega);have z2:Sz (2*K+2) (elT n s-((1:Int):Rat)):=(zT.sub Z1).mono (by omega);have c1:Sz (4*K+8) ((elT n s+((1:Int):Rat))*aG e):=(z1.mul zC).mono (by omega);have c2:Sz (4*K+8) ((elT n s-((1:Int):Rat))*aG e):=(z2.mul zC).mono (by omega);have f1:FrB (4*K+13) (scP (bI miQ 1) ((elT n s+((1:Int):Rat))*aG e)):=(ox.scP c1 (by omega)).mono (by omega);have f2:FrB (4*K+13) (scP (bI miQ 1) ((elT n s-((1:Int):Rat))*aG e)):=(ox.scP c2 (by omega)).mono (by omega);have fA:FrB (4*K+19) (elA (elT n s) e):=(f1.subV oo).mono (by omega);have fB:FrB (4*K+19) (elB (elT n s) e):=(f2.add oo).mono (by omega);have zw:Sz (3*K+4) (elW s):=((Z2.mul zs).div (Z1.add (zs.mul zs))).mono (by omega);have zw1:Sz (3*K+6) (elW s+((1:Int):Rat)):=(zw.add Z1).mono (by omega);have zw2:Sz (3*K+6) (elW s-((1:Int):Rat)):=(zw.sub Z1).mono (by omega);obtain ⟨lA,lB⟩:=Sg.elAB_len (elT n s) e;have fAA:FrB (8*K+39) (ar (elA (elT n s) e) (elA (elT n s) e)):=(fA.mul fA (by omega)).mono (by omega);have fBB:FrB (8*K+39) (ar (elB (elT n s) e) (elB (elT n s) e)):=(fB.mul fB (by omega)).mono (by omega);have fE:FrB (19*K+85) (elE n e s):=by
  unfold elE;split
  ·exact ((fAA.scP zw2 (by omega)).add fBB).mono (by omega)
  ·exact fB.mono (by omega)
 have fO:FrB (19*K+85) (elO n e s):=by
  unfold elO;split
  ·exact ((fAA.scP zw1 (by omega)).subV fBB).mono (by omega)
  ·exact fA.mono (by omega)
 obtain ⟨lE,lO⟩:=Sg.elEO_len (n:=n) e s;have fEE:FrB (38*K+171) (ar (elE n e s) (elE n e s)):=(fE.mul fE (by omega)).mono (by omega);have fOO:FrB (38*K+171) (ar (elO n e s) (elO n e s)):=(fO.mul fO (by omega)).mono (by omega);have fR:FrB (39*K+171) (scP (ar (elO n e s) (elO n e s)) r):=(fOO.scP zr hK).mono (by omega);exact ⟨zT,zC,z1,z2,c1,c2,f1,f2,fA,fB,zw,zw1,zw2,fAA,fBB,fE,fO,fEE,fOO,fR,(fEE.add fR).mono (by omega)⟩
end Go.Proofs.YtafgmcimcbhhjaaGreat
/- The reference 17: linear, one, power, Valid, Ratio, SameRatio, Same. -/
namespace Go.Proofs.YtafgmcimcbhhjaaGreat
open Go.RowKit Go.Front Go.Num Stab
attribute [local go_sem] XW.cell XW.frozen
set_option maxRecDepth 8000 in
theorem mM(x y:PH)(q:Rat)(u d:List Rat)(p:Int)(w:World)(hx:ry w x q u p d)(hy:ry w y q u p d):aq 108 [x.v,y.v] w (fun _:Unit=>.bool true) (fun _ _=>True):=by
 obtain ⟨⟨xn,xa,xl,xc,xb,xm,xd⟩,⟨xea,xen,xec⟩,xp,⟨xda,xdn,xdc⟩⟩:=x;obtain ⟨⟨yn,ya,yl,yc,yb,ym,yd⟩,⟨yea,yen,yec⟩,yp,⟨yda,ydn,ydc⟩⟩:=y;have HX:=Hi (Ext.refl w);have G1:=Hi hx.1;have G2:=Hi hy.1;have L1:=Hi hx.2.1;have L2:=Hi hx.2.2.2;have L3:=Hi hy.2.1;have L4:=Hi hy.2.2.2;have e1:=hx.2.2.1;have e2:=hy.2.2.1;simp only at G1 G2 L1 L2 L3 L4 e1 e2;subst e1;subst e2;clear hx hy;unfold aq;go_enter Tryz.func108,Tryz.ntmps108
 go_upto_region 1 with fail
 refine ji ?_;intro w1 hE B2 B3 hz_w1 hr_w1;refine mV7 hE ?_ HX G1 G2 L1 L2 L3 L4;clear HX G1 G2 L1 L2 L3 L4;intro HX G1 G2 L1 L2 L3 L4;have hs_w1:=hE.size;clear hE;replace b_B2:=bX3 B2;replace b_B3:=bX3 B3
 go_wp2_with fail
 refine cM ((by have h:=kN ⟨xn,xa,xl,xc,xb,xm,xd⟩ ⟨yn,ya,yl,yc,yb,ym,yd⟩ _ _ _ G1.out G2.out;rw [decide_eq_true rfl] at h;exact h)) fun x2 w2 hE _=>?_
 refine mV8 hE ?_ B2 B3 HX G1 G2 L1 L2 L3;clear B2 B3 HX G1 G2 L1 L2 L3;intro B2 B3 HX G1 G2 L1 L2 L3;replace L4:=mV hE L4;have hs_w2:=hE.size;clear hE;replace b_B2:=bX3 B2;replace b_B3:=bX3 B3
 go_wp2_with fail
 refine cM ((by have h:=fS ⟨xea,xen,xec⟩ ⟨yea,yen,yec⟩ u u _ L1.out L3.out;rw [decide_eq_true rfl] at h;exact h)) fun x3 w3 hE _=>?_
 refine mV8 hE ?_ B2 B3 HX G1 G2 L1 L2 L3;clear B2 B3 HX G1 G2 L1 L2 L3;intro B2 B3 HX G1 G2 L1 L2 L3;replace L4:=mV hE L4;have hs_w3:=hE.size;clear hE;replace b_B2:=bX3 B2;replace b_B3:=bX3 B3
 go_wp2_with fail
 refine cM ((by have h:=fS ⟨xda,xdn,xdc⟩ ⟨yda,ydn,ydc⟩ d d _ L2.out L4.out;rw [decide_eq_true rfl] at h;exact h)) fun x4 w4 hE _=>?_
 refine mV8 hE ?_ B2 B3 HX G1 G2 L1 L2 L3;clear B2 B3 HX G1 G2 L1 L2 L3;intro B2 B3 HX G1 G2 L1 L2 L3;replace L4:=mV hE L4;have hs_w4:=hE.size;clear hE;replace b_B2:=bX3 B2;replace b_B3:=bX3 B3;go_wp2
 go_ret
 exact ⟨(),rfl,HX.out,trivial⟩
set_option maxRecDepth 100000
def z0:Rat:=((0:Int):Rat)
def o1:Rat:=((1:Int):Rat)
def t2:List Rat:=[((2:Int):Rat)]
theorem Ab:dl 1 z0 o1=0:=by decide +kernel
theorem CL:buD 1 z0 o1=t2:=by decide +kernel
theorem CK:chD 1 z0 o1=t2:=by decide +kernel
theorem Ac:inQ 1 z0 o1=o1∧inE 1 z0=[o1]∧inD 1 z0 o1=t2:=by decide +kernel
theorem CJ:cU o1 [o1] 1 t2=true:=by decide +kernel
theorem AA:SzL 1 t2:=fun x hx=>by rw [nXt.1 hx];exact Sz.int (z:=2) (by decide)
theorem AC:FrB 3 t2:=FrB.of (k:=1) (n:=1) AA (by decide)
theorem xI{K S n:Nat}{d:List Rat}(h:FrB S d)(hl:d.length≤n)(hn:n≤1000)(hK:KN K S n):FrK K d∧FrK K (Sg.sqfV d):=by
 obtain ⟨h0,D,h1,h2,h3⟩:=h;refine ⟨wC h0 h1 h2 h3 hl hK,?_⟩;by_cases hz:tz d=[]
 ·have e:Sg.sqfV d=[]:=by
   rw [←xi,hz];decide +kernel
  rw [e];exact ⟨1,1,nXd _,by decide,by decide,fun x hx=>by simp at hx,(hK.self (Nat.zero_le _):KZ K S 0).imp (fun h=>nXe (nXg _ (by omega)) h) (fun h=>nXe (by simp;omega) h)⟩
 ·exact zx h1 h3 hz hl hn hK
theorem Da{K S n:Nat}{d:List Rat}(h:FrB S d)(hl:d.length≤n)(hn:n≤1000)(hK:KN K S n)(h1:K≤3900000)(h2:(d.length+1)*(K / 3)≤25000000):DnK K d.length d:=⟨(xI h hl hn hK).1,(xI h hl hn hK).2,h1,h2⟩
def Al(x:PH×Int)(_:World):Prop:=x.2=12∧x.1=PH0
theorem Al.ext{x:PH×Int}{w w':World}(h:Al x w)(_:Ext w w'):Al x w':=h
instance {x:PH×Int} {w w':World}:Go.Front.Mv w w' (Al x w) (Al x w'):=⟨fun e h=>Al.ext h e⟩

theorem ku(w:World):aq 45 [] w (fun _:Unit=>.bool true) (fun _ _=>True):=by
 have HX:=Hi (Ext.refl w);have Z0:Hid (Sz 1 z0):=Hi (Sz.int (z:=0) (by decide));have Z1:Hid (Sz 1 o1):=Hi (Sz.int (z:=1) (by decide));have Zh:Hid (Sz 1 (((1:Int):Rat) / ((2:Int):Rat))):=Hi jx;unfold aq;go_enter Tryz.func45,Tryz.ntmps45
 go_wp2_with fail
 refine cM (eV 0 _ (by decide) (by decide)) fun x1 w1 hE G1=>?_
 replace HX:=hE.tr HX;have hs_w1:=hE.size;clear hE
 go_wp2_with fail
 refine cM (eV 1 _ (by decide) (by decide)) fun x2 w2 hE G2=>?_
 refine mV2 hE ?_ G1 HX;clear G1 HX;intro G1 HX;have hs_w2:=hE.size;clear hE
 go_upto_region 2 with fail
 refine ji ?_;intro w3 hE B1 B2 hz_w3 hr_w3;refine mV3 hE ?_ G2 G1 HX;clear G2 G1 HX;intro G2 G1 HX;have hs_w3:=hE.size;clear hE;replace b_B1:=bX3 B1;replace b_B2:=bX3 B2;have R0:Hid (aY w3 x1 z0):=Hi (G1.out.raw Z0.out (by decide));have R1:Hid (aY w3 x2 o1):=Hi (G2.out.raw Z1.out (by decide));have C1:Hid (aw w3 x2 o1):=Hi G2.out;clear G1;clear G2;obtain ⟨yn,ya,yl,yc,yb,ym,yd⟩:=x1;obtain ⟨xn,xa,xl,xc,xb,xm,xd⟩:=x2
 go_wp2_with fail
 refine cM (j0 1 ⟨yn,ya,yl,yc,yb,ym,yd⟩ ⟨xn,xa,xl,xc,xb,xm,xd⟩ z0 o1 1 _ R0.out R1.out Z0.out Z1.out (by decide) (by decide)) fun x4 w4 hE G4=>?_
 refine mV6 hE ?_ B1 B2 HX R0 R1 C1;clear B1 B2 HX R0 R1 C1;intro B1 B2 HX R0 R1 C1;have hs_w4:=hE.size;clear hE;replace b_B1:=bX3 B1;replace b_B2:=bX3 B2;obtain ⟨⟨⟨a1,a2,a3,a4,a5,a6,a7⟩,⟨a8,a9,a10⟩,ap,⟨a11,a12,a13⟩⟩,e4⟩:=x4;obtain ⟨he,-,hp⟩:=G4.out;rw [Ab] at he hp;have PA:Hid (ry w4 ⟨⟨a1,a2,a3,a4,a5,a6,a7⟩,⟨a8,a9,a10⟩,ap,⟨a11,a12,a13⟩⟩ o1 [o1] 1 t2):=Hi (by have h:=hp rfl;rw [show (1:Int).toNat=1 from rfl,CL] at h;exact h);simp only at he;subst he;obtain rfl:ap=1:=PA.out.2.2.1;clear hp G4
 go_upto_region 3 with fail
 refine nmA ?_;intro w5 hE B3 hz_w5 hr_w5;refine mV7 hE ?_ B1 B2 HX R0 R1 C1 PA;clear B1 B2 HX R0 R1 C1 PA;intro B1 B2 HX R0 R1 C1 PA;have hs_w5:=hE.size;clear hE;replace b_B1:=bX3 B1;replace b_B2:=bX3 B2;replace b_B3:=bX3 B3
 go_wp2_with fail
 refine cM (mX 1 ⟨yn,ya,yl,yc,yb,ym,yd⟩ ⟨xn,xa,xl,xc,xb,xm,xd⟩ z0 o1 1 _ R0.out R1.out Z0.out Z1.out (by decide) (by decide)) fun x6 w6 hE G6=>?_
 refine mV8 hE ?_ B3 B1 B2 HX R0 R1 C1 PA;clear B3 B1 B2 HX R0 R1 C1 PA;intro B3 B1 B2 HX R0 R1 C1 PA;have hs_w6:=hE.size;clear hE;replace b_B1:=bX3 B1;replace b_B2:=bX3 B2;replace b_B3:=bX3 B3;obtain ⟨⟨⟨b1,b2,b3,b4,b5,b6,b7⟩,⟨b8,b9,b10⟩,bp,⟨b11,b12,b13⟩⟩,e6⟩:=x6;obtain ⟨he,-,hp⟩:=G6.out;rw [Ab] at he hp;have PB:Hid (ry w6 ⟨⟨b1,b2,b3,b4,b5,b6,b7⟩,⟨b8,b9,b10⟩,bp,⟨b11,b12,b13⟩⟩ o1 [o1] 1 t2):=Hi (by have h:=hp rfl;rw [show (1:Int).toNat=1 from rfl,CK] at h;exact h);simp only at he;subst he;obtain rfl:bp=1:=PB.out.2.2.1;clear hp G6
 go_upto_region 4 with fail
 refine nmA ?_;intro w7 hE B5 hz_w7 hr_w7;refine mV8 hE ?_ B3 B1 B2 HX R0 R1 C1 PA;clear B3 B1 B2 HX R0 R1 C1 PA;intro B3 B1 B2 HX R0 R1 C1 PA;replace PB:=mV hE PB;have hs_w7:=hE.size;clear hE;replace b_B1:=bX3 B1;replace b_B2:=bX3 B2;replace b_B3:=bX3 B3;replace b_B5:=bX3 B5
 go_wp2_with fail
 refine cM (pk 1 ⟨yn,ya,yl,yc,yb,ym,yd⟩ ⟨xn,xa,xl,xc,xb,xm,xd⟩ z0 o1 1 _ R0.out R1.out Z0.out Z1.out (by decide) (by decide)) fun x8 w8 hE G8=>?_
 refine mV8 hE ?_ B5 B3 B1 B2 HX R0 R1 C1;clear B5 B3 B1 B2 HX R0 R1 C1;intro B5 B3 B1 B2 HX R0 R1 C1;refine mV2 hE ?_ PA PB;clear PA PB;intro PA PB;have hs_w8:=hE.size;clear hE;replace b_B1:=bX3 B1;replace b_B2:=bX3 B2;replace b_B3:=bX3 B3;replace b_B5:=bX3 B5;obtain ⟨⟨⟨c1,c2,c3,c4,c5,c6,c7⟩,⟨c8,c9,c10⟩,cp,⟨c11,c12,c13⟩⟩,e8⟩:=x8;obtain ⟨he,-,hp⟩:=G8.out;rw [Ab] at he hp;have PC:Hid (ry w8 ⟨⟨c1,c2,c3,c4,c5,c6,c7⟩,⟨c8,c9,c10⟩,cp,⟨c11,c12,c13⟩⟩ o1 [o1] 1 t2):=Hi (by have h:=hp rfl;rw [show (1:Int).toNat=1 from rfl,Ac.1,Ac.2.1,Ac.2.2] at h;exact h);simp only at he;subst he;obtain rfl:cp=1:=PC.out.2.2.1;clear hp G8
 go_upto_region 5 with fail
 refine nmA ?_;intro w9 hE B7 hz_w9 hr_w9;refine mV8 hE ?_ B5 B3 B1 B2 HX R0 R1 C1;clear B5 B3 B1 B2 HX R0 R1 C1;intro B5 B3 B1 B2 HX R0 R1 C1;refine mV3 hE ?_ PA PB PC;clear PA PB PC;intro PA PB PC;have hs_w9:=hE.size;clear hE;replace b_B1:=bX3 B1;replace b_B2:=bX3 B2;replace b_B3:=bX3 B3;replace b_B5:=bX3 B5;replace b_B7:=bX3 B7;have HX9:=Hi (Ext.refl w9);have PA9:=PA;have PB9:=PB;have PC9:=PC;have C19:=C1;clear PA;clear PB;clear PC;clear C1;clear R0;clear R1;refine aQ [(8,6)] _ (by simp only [gA,kx,List.push_toArray,List.cons_append,List.nil_append];exact rfl) (by intro c a d v w h;cases d <;> exact h) 8 (fun opIx=>match opIx with
  | 2=>.spec RH default RH.v (fun s w'=>aw w' s (((1:Int):Rat) / ((2:Int):Rat)))
  | 3=>.spec (PH×Int) ((PH0,0)) (PE) (fun x w'=>Al x w')
  | 7=>.alloc 64 #[.bool false,.slice none 0 0,.slice none 0 0,.slice none 0 0,.int .i64 0,.slice none 0 0]
  | _=>.quiet) (fun|3=>[2]|_=>[]) (by kernel_rfl) (by kernel_rfl) (by kernel_rfl) (fun w0 he0 hz0 hc0 hf0=>?_)
 replace he0:=Hi he0;simp only [pT];refine qQ ?_;refine wps he0.out rfl rfl (fun w1 hW hG=>?_) fun x30=>?_
 ·exact spc [.int .i64 1,.int .i64 2] Tryz.func54 (fZ 1 2 _ (by decide) (by decide) (by decide) (by decide))
 refine qZ ?_;refine wps he0.out rfl rfl (fun w1 hW hG=>?_) fun x31=>?_
 ·have g30:=(hG 2 (by decide):av _ _).get fun _ e g=>g.ext e
  exact spc [.int .i64 3,RH.v ⟨yn,ya,yl,yc,yb,ym,yd⟩,RH.v ⟨xn,xa,xl,xc,xb,xm,xd⟩,x30.v] Tryz.func55 (qR 3 ⟨yn,ya,yl,yc,yb,ym,yd⟩ ⟨xn,xa,xl,xc,xb,xm,xd⟩ x30 _ (by decide) (by decide))
 refine qZ ?_;refine aL rfl rfl (fun w=>by simp [execOp,go_sem,ptr]) (fun b32 hb32 hl32=>?_);refine qZ ?_;refine ak ?_;intro w10 hI;have hE:=he0.out.trans hI.ext;have G30:=gT (hI.facts 2);have G31:=gT (hI.facts 3);have A32:Hid (w10.heap[b32]?=some (.cells #[.bool false,.slice none 0 0,.slice none 0 0,.slice none 0 0,.int .i64 0,.slice none 0 0] 64 (0,0))):=hI.facts 7;rw [hz0] at hl32;clear hI he0 hz0 hc0 hf0;refine mV7 hE ?_ B7 B5 B3 B1 B2 HX HX9;clear B7 B5 B3 B1 B2 HX HX9;intro B7 B5 B3 B1 B2 HX HX9;have hs_w10:=hE.size;clear hE;replace b_B1:=bX3 B1;replace b_B2:=bX3 B2;replace b_B3:=bX3 B3;replace b_B5:=bX3 B5;replace b_B7:=bX3 B7;replace b_A32:=bX3 A32;simp only [pD,ptr];obtain ⟨x31,e31⟩:=x31;obtain ⟨he,hp⟩:=G31.out;simp only at he hp;subst he;subst hp;clear G31;clear G30;simp only [PH0,PE]
 go_upto_region 6 with fail
 refine bN A32.out rfl ?_;intro w11 T;replace HX:=Hi (T.ext HX.out (by omega));replace B1:=Hi (T.rest _ _ (by omega) B1.out);replace B2:=Hi (T.rest _ _ (by omega) B2.out);replace B3:=Hi (T.rest _ _ (by omega) B3.out);replace B5:=Hi (T.rest _ _ (by omega) B5.out);replace B7:=Hi (T.rest _ _ (by omega) B7.out);replace HX9:=Hi (T.ext HX9.out (by omega));replace A32:=Hi (T.bx);have hs_w11:=nle T.size;have hr_w11:=nle T.size.symm;clear T;replace b_B1:=bX3 B1;replace b_B2:=bX3 B2;replace b_B3:=bX3 B3;replace b_B5:=bX3 B5;replace b_B7:=bX3 B7;replace b_A32:=bX3 A32
 (try clear b_A32);clear A32
 go_wp2_with fail
 refine cM (eV 2 _ (by decide) (by decide)) fun x12 w12 hE G12=>?_
 refine mV7 hE ?_ HX B1 B2 B3 B5 B7 HX9;clear HX B1 B2 B3 B5 B7 HX9;intro HX B1 B2 B3 B5 B7 HX9;have hs_w12:=hE.size;clear hE;replace b_B1:=bX3 B1;replace b_B2:=bX3 B2;replace b_B3:=bX3 B3;replace b_B5:=bX3 B5;replace b_B7:=bX3 B7
 go_upto_region 7 with fail
 refine nmA ?_;intro w13 hE B40 hz_w13 hr_w13;refine mV8 hE ?_ G12 HX B1 B2 B3 B5 B7 HX9;clear G12 HX B1 B2 B3 B5 B7 HX9;intro G12 HX B1 B2 B3 B5 B7 HX9;have hs_w13:=hE.size;clear hE;replace b_B1:=bX3 B1;replace b_B2:=bX3 B2;replace b_B3:=bX3 B3;replace b_B5:=bX3 B5;replace b_B7:=bX3 B7;replace b_B40:=bX3 B40;have LT:=Hi (nE B40.out G12.out)
 (try clear b_B40);clear B40
 clear G12;have PA:=Hi (PA9.out.ext HX9.out);have PB:=Hi (PB9.out.ext HX9.out);have PC:=Hi (PC9.out.ext HX9.out);have C1:=Hi (C19.out.ext HX9.out);clear PA9 PB9 PC9 C19;clear HX9;obtain ⟨bl,hbl⟩:∃ b,b=w12.heap.size:=⟨_,rfl⟩;rw [←hbl] at LT ⊢;clear hbl
 go_wp2_with fail
 refine cM ((by have h:=fS ⟨a11,a12,a13⟩ ⟨some ⟨bl,0,none⟩,1,1⟩ t2 t2 _ PA.out.2.2.2 LT.out;rw [decide_eq_true rfl] at h;exact h)) fun x14 w14 hE _=>?_
 refine mV8 hE ?_ HX B1 B2 B3 B5 B7 LT PA;clear HX B1 B2 B3 B5 B7 LT PA;intro HX B1 B2 B3 B5 B7 LT PA;refine mV3 hE ?_ PB PC C1;clear PB PC C1;intro PB PC C1;have hs_w14:=hE.size;clear hE;replace b_B1:=bX3 B1;replace b_B2:=bX3 B2;replace b_B3:=bX3 B3;replace b_B5:=bX3 B5;replace b_B7:=bX3 B7
 go_wp2_with fail
 refine cM (mM ⟨⟨a1,a2,a3,a4,a5,a6,a7⟩,⟨a8,a9,a10⟩,1,⟨a11,a12,a13⟩⟩ ⟨⟨b1,b2,b3,b4,b5,b6,b7⟩,⟨b8,b9,b10⟩,1,⟨b11,b12,b13⟩⟩ o1 [o1] t2 1 _ PA.out PB.out) fun x15 w15 hE _=>?_
 refine mV8 hE ?_ HX B1 B2 B3 B5 B7 LT PA;clear HX B1 B2 B3 B5 B7 LT PA;intro HX B1 B2 B3 B5 B7 LT PA;refine mV3 hE ?_ PB PC C1;clear PB PC C1;intro PB PC C1;have hs_w15:=hE.size;clear hE;replace b_B1:=bX3 B1;replace b_B2:=bX3 B2;replace b_B3:=bX3 B3;replace b_B5:=bX3 B5;replace b_B7:=bX3 B7
 go_wp2_with fail
 refine cM ((by have h:=fS ⟨c11,c12,c13⟩ ⟨some ⟨bl,0,none⟩,1,1⟩ t2 t2 _ PC.out.2.2.2 LT.out;rw [decide_eq_true rfl] at h;exact h)) fun x16 w16 hE _=>?_
 refine mV8 hE ?_ HX B1 B2 B3 B5 B7 LT PA;clear HX B1 B2 B3 B5 B7 LT PA;intro HX B1 B2 B3 B5 B7 LT PA;refine mV3 hE ?_ PB PC C1;clear PB PC C1;intro PB PC C1;have hs_w16:=hE.size;clear hE;replace b_B1:=bX3 B1;replace b_B2:=bX3 B2;replace b_B3:=bX3 B3;replace b_B5:=bX3 B5;replace b_B7:=bX3 B7
 go_wp2_with fail
 refine nmA (F:=fun W=>Calls _ _ _ W _) ?_;intro w17 hE B41 hz_w17 hr_w17;refine mV8 hE ?_ HX B1 B2 B3 B5 B7 LT PA;clear HX B1 B2 B3 B5 B7 LT PA;intro HX B1 B2 B3 B5 B7 LT PA;refine mV3 hE ?_ PB PC C1;clear PB PC C1;intro PB PC C1;have hs_w17:=hE.size;clear hE;replace b_B1:=bX3 B1;replace b_B2:=bX3 B2;replace b_B3:=bX3 B3;replace b_B5:=bX3 B5;replace b_B7:=bX3 B7;replace b_B41:=bX3 B41
 change Calls _ _ _ _ _
 have LO:=Hi (nE (x:=⟨xn,xa,xl,xc,xb,xm,xd⟩) B41.out C1.out)
 (try clear b_B41);clear B41
 refine cM ((by have h:=fS ⟨c8,c9,c10⟩ ⟨some ⟨w16.heap.size,0,none⟩,1,1⟩ [o1] [o1] _ PC.out.2.1 LO.out;rw [decide_eq_true rfl] at h;exact h)) fun x18 w18 hE _=>?_
 refine mV8 hE ?_ HX B1 B2 B3 B5 B7 LT PA;clear HX B1 B2 B3 B5 B7 LT PA;intro HX B1 B2 B3 B5 B7 LT PA;refine mV4 hE ?_ PB PC C1 LO;clear PB PC C1 LO;intro PB PC C1 LO;have hs_w18:=hE.size;clear hE;replace b_B1:=bX3 B1;replace b_B2:=bX3 B2;replace b_B3:=bX3 B3;replace b_B5:=bX3 B5;replace b_B7:=bX3 B7;have LD:=PA.out.2.2.2.len;have LE:=PA.out.2.1.len;simp only at LD LE;obtain rfl:a12=1:=LD.symm;obtain rfl:a9=1:=LE.symm;clear LD LE;have RP:Hid (kE w18 ⟨⟨a1,a2,a3,a4,a5,a6,a7⟩,⟨a8,1,a10⟩,1,⟨a11,1,a13⟩⟩ o1 [o1] t2):=Hi ⟨PA.out.1.raw Z1.out (by decide),PA.out.2.1.raw (k:=1) (fun x hx=>by rw [nXt.1 hx];exact Z1.out) (by decide),PA.out.2.2.2.raw AA (by decide)⟩
 go_wp2_with fail
 refine cM ((by have h:=kO ⟨⟨a1,a2,a3,a4,a5,a6,a7⟩,⟨a8,1,a10⟩,1,⟨a11,1,a13⟩⟩ o1 [o1] t2 10000 _ RP.out (by show 1≤49;decide) (Da AC (n:=1) (by decide) (by decide) (by unfold KN;decide) (by decide) (by decide));rw [show (PH.p ⟨⟨a1,a2,a3,a4,a5,a6,a7⟩,⟨a8,1,a10⟩,1,⟨a11,1,a13⟩⟩)=1 from rfl,CJ] at h;exact h)) fun x20 w20 hE _=>?_
 refine mV8 hE ?_ HX B1 B2 B3 B5 B7 LT PA;clear HX B1 B2 B3 B5 B7 LT PA;intro HX B1 B2 B3 B5 B7 LT PA;refine mV4 hE ?_ PB PC C1 LO;clear PB PC C1 LO;intro PB PC C1 LO;have hs_w20:=hE.size;clear hE;replace b_B1:=bX3 B1;replace b_B2:=bX3 B2;replace b_B3:=bX3 B3;replace b_B5:=bX3 B5;replace b_B7:=bX3 B7;go_wp2
 go_ret
 exact ⟨(),rfl,HX.out,trivial⟩
end Go.Proofs.YtafgmcimcbhhjaaGreat
/- The prototypes of law17's all: which they are, what holds of them, their sizes. Plain facts. -/
namespace Go.Proofs.YtafgmcimcbhhjaaGreat
open Go.RowKit Go.Front Go.Num Stab Sg
def edQ(e:Int):Rat:=((e % 19-9:Int):Rat) / ((10:Int):Rat)
def riQ(r:Int):Rat:=((1+r % 30:Int):Rat) / ((10:Int):Rat)
def seQ(s:Int):Rat:=((1+s % 9:Int):Rat) / ((10:Int):Rat)
def vJ(n:Int):Nat:=(1+n % 5).toNat
theorem By:∀ m:Nat,m<19→-1<(((m:Int)-9:Int):Rat) / ((10:Int):Rat)∧(((m:Int)-9:Int):Rat) / ((10:Int):Rat)<1∧((((m:Int)-9:Int):Rat) / ((10:Int):Rat)).num.natAbs<W32∧((((m:Int)-9:Int):Rat) / ((10:Int):Rat)).den<W32 ∧
  (aG ((((m:Int)-9:Int):Rat) / ((10:Int):Rat))).num.natAbs<W32∧(aG ((((m:Int)-9:Int):Rat) / ((10:Int):Rat))).den<W32∧(bkV ((((m:Int)-9:Int):Rat) / ((10:Int):Rat))).num.natAbs<W32∧(bkV ((((m:Int)-9:Int):Rat) / ((10:Int):Rat))).den<W32:=by decide +kernel
theorem AR:∀ m:Nat,m<30→0<((1+(m:Int):Int):Rat) / ((10:Int):Rat)∧(((1+(m:Int):Int):Rat) / ((10:Int):Rat)).num.natAbs<W32∧(((1+(m:Int):Int):Rat) / ((10:Int):Rat)).den<W32:=by decide +kernel
theorem AN:∀ m:Nat,m<9→0<((1+(m:Int):Int):Rat) / ((10:Int):Rat)∧((1+(m:Int):Int):Rat) / ((10:Int):Rat)<1∧(((1+(m:Int):Int):Rat) / ((10:Int):Rat)).num.natAbs<W32∧(((1+(m:Int):Int):Rat) / ((10:Int):Rat)).den<W32:=by decide +kernel
theorem sz1{q:Rat}(h:q.num.natAbs<W32∧q.den<W32):Sz 1 q:=⟨by rw [Nat.pow_one];exact h.1,by rw [Nat.pow_one];exact h.2⟩
theorem eB(z m:Int)(hm:0<m):∃ n:Nat,z % m=(n:Int)∧(n:Int)<m:=by
 have h1:=Int.emod_nonneg z (show m≠0 by omega);have h2:=Int.emod_lt_of_pos z hm;exact ⟨(z % m).toNat,by omega,by omega⟩
structure EdF (e:Rat):Prop where
 lo:-1<e
 hi:e<1
 z:Sz 1 e
 w:Sz 1 (aG e)
 b:Sz 1 (bkV e)
theorem Bz(e:Int):EdF (edQ e):=by
 obtain ⟨m,h1,h2⟩:=eB e 19 (by decide);unfold edQ;rw [h1];obtain ⟨a,b,c,d,f,g,i,j⟩:=By m (by omega);exact ⟨a,b,sz1 ⟨c,d⟩,sz1 ⟨f,g⟩,sz1 ⟨i,j⟩⟩
theorem AS(r:Int):0<riQ r∧Sz 1 (riQ r):=by
 obtain ⟨m,h1,h2⟩:=eB r 30 (by decide);unfold riQ;rw [h1];obtain ⟨a,b⟩:=AR m (by omega);exact ⟨a,sz1 b⟩
theorem AO(s:Int):0<seQ s∧seQ s<1∧Sz 1 (seQ s):=by
 obtain ⟨m,h1,h2⟩:=eB s 9 (by decide);unfold seQ;rw [h1];obtain ⟨a,b,c⟩:=AN m (by omega);exact ⟨a,b,sz1 c⟩
theorem sF(n:Int):1≤vJ n∧vJ n≤5∧((vJ n:Nat):Int)=1+n % 5:=by
 have h1:=Int.emod_nonneg n (show (5:Int)≠0 by decide);have h2:=Int.emod_lt_of_pos n (show (0:Int)<5 by decide);unfold vJ;omega
theorem oQ{n:Nat}{e r:Rat}(h1:1≤n)(h5:n≤8)(he:EdF e)(hr:0<r):dl (n:Nat) e r=0:=by
 have e1:((1:Int):Rat)=1:=rfl;have e2:((-1:Int):Rat)=-1:=rfl;have a1:=he.lo;have a2:=he.hi;unfold dl;rw [if_neg (by omega),if_neg (fun h=>by rw [go,mu,e1,e2] at h;grind),if_neg (fun h=>by rw [go] at h;grind)]
def elN(n:Nat):Nat:=2+2*(n % 2)
theorem tN(n:Nat):elN n=2∨elN n=4:=by unfold elN;omega
def alG(k n:Nat)(e r:Rat):Rat:=if k=2 then inQ n e r else ((1:Int):Rat)
def alE(k n:Nat)(e q:Rat):List Rat:=if k=2 then inE n e else if k=3 then elE (elN n) e q else [((1:Int):Rat)]
def alP(k n:Nat):Int:=if k=2 then ((n % 2:Nat):Int) else if k=3 then 0 else (n:Int)
def alD(k n:Nat)(e r q:Rat):List Rat:=if k=0 then buD n e r else if k=1 then chD n e r else if k=2 then inD n e r else elD (elN n) e r q
def alI(k:Nat):Bool:=decide (k=2)
theorem BV{k n:Nat}{e r q:Rat}(hk:k<4)(h1:1≤n)(h5:n≤5)(he:EdF e)(hr:0<r)(h0:0<q)(hq:q<1):Prf (alI k) e r (alG k n e r) (alE k n e q) (alP k n) (alD k n e r q):=by
 have hh:k=0∨k=1∨k=2∨k=3:=by omega
 rcases hh with rfl|rfl|rfl|rfl
 ·exact rt h1 h5 ⟨he.lo,he.hi⟩ hr
 ·exact wP h1 h5 ⟨he.lo,he.hi⟩ hr
 ·exact zf h1 h5 ⟨he.lo,he.hi⟩ hr
 ·exact zE (tN n) ⟨he.lo,he.hi⟩ hr h0 hq
section
variable {A B:List Rat} (hA:Au A) (hB:Au B)
include hA hB
theorem l9{g:List Rat}{c:Rat}{n s K:Nat}(hg:SzL s g)(hs:1≤s)(hc:Sz K c)(hn:n≤5):∀ j,j≤n+1→FrB (1+j*(30+(s+(K*5+1))+1)) (iH A B g n c j):=by
 intro j;induction j with
 | zero=>intro _;exact FrB.nil.mono (by omega)
 | succ j ih =>
  intro hj;have h1:=ih (by omega);have h2:Sz (s+(K*5+1)) (g.getD j 0*c ^ j):=(hg.getD hs j).mul ((hc.pow j).mono (by have:=nXf K (show j≤5 by omega);omega));have h3:=((jw hA hB (n:=n) (j:=j) (by omega) (by omega)).scP h2 (by omega));have e:(j+1)*(30+(s+(K*5+1))+1)=j*(30+(s+(K*5+1))+1)+(30+(s+(K*5+1))+1):=nXx _ _;exact (h1.add h3).mono (by rw [e];omega)
end
theorem xj:∀ n:Nat,n<6→1≤n→SzL 1 (sqP n):=by
 intro n h1 h2;rcases Ar h2 (by omega) with rfl|rfl|rfl|rfl|rfl
 ·rw [C6];exact fun x hx=>sz1 (by revert x;decide +kernel)
 ·rw [C5];exact fun x hx=>sz1 (by revert x;decide +kernel)
 ·rw [CZ];exact fun x hx=>sz1 (by revert x;decide +kernel)
 ·rw [CY];exact fun x hx=>sz1 (by revert x;decide +kernel)
 ·rw [CX];exact fun x hx=>sz1 (by revert x;decide +kernel)
theorem oh{n:Nat}(hn:n≤5):FrB 13 (bI plQ n):=(ct (eF 1 (by decide)) (by decide) n (by omega)).mono (by omega)
theorem sS{n:Nat}(hn:n≤5):FrB 13 (bI miQ n):=(ct (eF (-1) (by decide)) (by decide) n (by omega)).mono (by omega)
theorem yx{c:Rat}{n:Nat}(h:Sz 1 c)(hn:n≤5):Sz 6 (c ^ n):=(h.pow n).mono (by omega)
theorem Aa{n:Nat}{e:Rat}(h1:1≤n)(h5:n≤5)(he:EdF e):FrB 229 (chW n e):=by
 have hl:=fy (n:=n) (by omega);exact (l9 bD bB (xj n (by omega) h1) (by decide) he.w h5 _ hl).mono (by have:=nXg (30+(1+(1*5+1))+1) (show (sqP n).length≤6 by omega);omega)
theorem zi{n:Nat}{e:Rat}(h1:1≤n)(h5:n≤5)(he:EdF e):FrB 229 (inW n e):=by
 have hl:=fy (n:=n) (by omega);exact (l9 bB bD (xj n (by omega) h1) (by decide) he.b h5 _ hl).mono (by have:=nXg (30+(1+(1*5+1))+1) (show (sqP n).length≤6 by omega);omega)
theorem zk{n:Nat}{e:Rat}(h5:n≤5)(he:EdF e):FrB 115 (inE n e):=by
 have hl:=lI n;exact (l9 bB bD (xt (n:=n) (by omega)) (by decide) he.b (show n / 2≤5 by omega) _ (by omega)).mono (by have:=nXg (30+(1+(1*5+1))+1) (show (rtP n).length≤3 by omega);omega)
theorem zj{n:Nat}{e:Rat}(h5:n≤5):(inE n e).length≤3:=nXe (dF bB bD _ _ (n / 2) _ (by rw [lI];exact nXd _)) (by omega)
theorem z8{n:Nat}{e:Rat}(h5:n≤5):(chW n e).length≤6:=nXe (dF bD bB _ _ n _ (fy (by omega))) (by omega)
theorem zh{n:Nat}{e:Rat}(h5:n≤5):(inW n e).length≤6:=nXe (dF bB bD _ _ n _ (fy (by omega))) (by omega)
structure AlZ (g:Rat) (e d:List Rat) (p:Int):Prop where
 zg:Sz 3 g
 fe:FrB 115 e
 le:e.length≤3
 fd:FrB 450 d
 ld:d.length≤6
 p0:0≤p
 p5:p≤5
 lp:2*e.length+p.toNat≤7
theorem CH{n:Nat}{e r:Rat}(h5:n≤5)(he:EdF e)(zr:Sz 1 r):FrB 450 (buD n e r)∧(buD n e r).length≤6:=by
 have h1:=(oh h5).add ((sS h5).scP (zr.mul (yx he.w h5)) (by omega));exact ⟨h1.mono (by omega),nXe (cw (n:=n+1) (fI n) (bR _ _ (fo n))) (by omega)⟩
theorem CG{n:Nat}{e r:Rat}(h1:1≤n)(h5:n≤5)(he:EdF e)(zr:Sz 1 r):FrB 450 (chD n e r)∧(chD n e r).length≤6:=by
 have h2:=(oh h5).add ((Aa h1 h5 he).scP zr (by omega));exact ⟨h2.mono (by omega),cw (nXe (fI n) (by omega)) (bR _ _ (z8 h5))⟩
theorem Cw{n:Nat}{e r:Rat}(h1:1≤n)(h5:n≤5)(he:EdF e)(zr:Sz 1 r):FrB 450 (inD n e r)∧(inD n e r).length≤6:=by
 have h2:=(sS h5).add ((zi h1 h5 he).scP zr (by omega));exact ⟨h2.mono (by omega),cw (nXe (fo n) (by omega)) (bR _ _ (zh h5))⟩
theorem Bj{n:Nat}{e r:Rat}(he:EdF e)(zr:Sz 1 r):Sz 3 (inQ n e r):=by
 unfold inQ;split
 ·exact (zr.div he.w).mono (by omega)
 ·exact zr.mono (by omega)
theorem Du{k n:Nat}{e r q:Rat}(hk:k<4)(h1:1≤n)(h5:n≤5)(he:EdF e)(zr:Sz 1 r)(zq:Sz 1 q):AlZ (alG k n e r) (alE k n e q) (alD k n e r q) (alP k n):=by
 have hh:k=0∨k=1∨k=2∨k=3:=by omega
 have Z1:Sz 3 ((1:Int):Rat):=(Sz.int (by decide):Sz 1 ((1:Int):Rat)).mono (by decide);have F1:FrB 115 [((1:Int):Rat)]:=f5.mono (by decide);rcases hh with rfl|rfl|rfl|rfl
 ·obtain ⟨a,b⟩:=CH h5 he zr;exact ⟨Z1,F1,show [((1:Int):Rat)].length≤3 by decide,a,b,Int.natCast_nonneg n,by show (n:Int)≤5;omega,by show 2*1+((n:Nat):Int).toNat≤7;omega⟩
 ·obtain ⟨a,b⟩:=CG h1 h5 he zr;exact ⟨Z1,F1,show [((1:Int):Rat)].length≤3 by decide,a,b,Int.natCast_nonneg n,by show (n:Int)≤5;omega,by show 2*1+((n:Nat):Int).toNat≤7;omega⟩
 ·obtain ⟨a,b⟩:=Cw h1 h5 he zr;have c:=zj (e:=e) h5;exact ⟨Bj he zr,zk h5 he,c,a,b,Int.natCast_nonneg _,by show ((n % 2:Nat):Int)≤5;omega,by show 2*(inE n e).length+((n % 2:Nat):Int).toNat≤7;omega⟩
 ·have hz:=C9 (r:=r) (tN n) he.z zr zq (nXd 1);obtain ⟨a,b⟩:=elEO_len (n:=elN n) e q;have c:=elD_len (n:=elN n) e r q;exact ⟨Z1,hz.fE.mono (by decide),a,hz.fD.mono (by decide),by show (elD (elN n) e r q).length≤6;omega,Int.le_refl 0,by show (0:Int)≤5;decide,by show 2*(elE (elN n) e q).length+(0:Int).toNat≤7;omega⟩
end Go.Proofs.YtafgmcimcbhhjaaGreat
