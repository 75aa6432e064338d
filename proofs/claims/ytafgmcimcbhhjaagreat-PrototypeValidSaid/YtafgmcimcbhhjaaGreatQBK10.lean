import Derived.Test.YtafgmcimcbhhjaaGreatQBK9
set_option linter.unusedVariables false
set_option maxHeartbeats 16000000
set_option maxRecDepth 8000
namespace Go.Proofs.YtafgmcimcbhhjaaGreat
open Go.RowKit Go.Front Go.Num Stab
attribute [local go_sem] XW.cell XW.frozen
abbrev IvV(x:RH×RH):Value:=.agg #[.bool x.1.neg,.slice x.1.a x.1.n x.1.c,.slice x.1.b x.1.m x.1.d,.bool x.2.neg,.slice x.2.a x.2.n x.2.c,.slice x.2.b x.2.m x.2.d]
def loV(a b:Rat):Rat:=if b<a then b else a
def hiV(a b:Rat):Rat:=if b<a then a else b
theorem Ad(a b:Rat):loV a b≤hiV a b:=by
 unfold loV hiV;by_cases h:b<a
 ·rw [if_pos h,if_pos h];grind
 ·rw [if_neg h,if_neg h];grind
theorem mL{a b:Rat}(h:a≤b):loV a b=a:=if_neg (by grind)
theorem mM{a b:Rat}(h:a≤b):hiV a b=b:=if_neg (by grind)
theorem Ac(a b:Rat):loV a b=a∨loV a b=b:=by unfold loV;split <;> simp
theorem Ak(a b:Rat):hiV a b=a∨hiV a b=b:=by unfold hiV;split <;> simp
theorem DC{a b:Rat}(h:b<a):dq a b=1:=by unfold dq;rw [if_neg (by grind),if_neg (by grind)]
theorem Dz{a b:Rat}(h:¬ b<a):dq a b≤0:=by
 unfold dq;split
 ·omega
 ·split
  ·omega
  ·exfalso;grind
theorem bh{w1:World}{b:Nat}{T:TypeId}{c0 c1 c2 c3 c4 c5 v0 v1 v2 v3 v4 v5:Value}{F:World→Prop}(hb:w1.heap[b]?=some (.cells #[c0,c1,c2,c3,c4,c5] T (0,0)))(hn:#[c0,c1,c2,c3,c4,c5].toList.all gN=true)(h:∀ w2,gv w1 b T #[v0,v1,v2,v3,v4,v5] w2→F w2) :
  F ((((((w1.setCell ⟨b,0,none⟩ v0).setCell ⟨b,1,none⟩ v1).setCell ⟨b,2,none⟩ v2).setCell ⟨b,3,none⟩ v3).setCell ⟨b,4,none⟩ v4).setCell ⟨b,5,none⟩ v5) :=
 h _ (gv.of (nXb.1 hb).1 (ai hb hn) ((((((bf.setCell w1 ⟨b,0,none⟩ v0).trans (bf.setCell _ ⟨b,1,none⟩ v1)).trans (bf.setCell _ ⟨b,2,none⟩ v2)).trans (bf.setCell _ ⟨b,3,none⟩ v3)).trans (bf.setCell _ ⟨b,4,none⟩ v4)).trans (bf.setCell _ ⟨b,5,none⟩ v5)) (by simp [World.setCell])
  (aR (aR (aR (aR (aR (aR hb 0 v0) 1 v1) 2 v2) 3 v3) 4 v4) 5 v5))
theorem uj(s t:RH)(a b:Rat)(w:World)(hs:aP w s a)(ht:aP w t b):ak 169 [IvV (s,t)] w PT (fun x w'=>aP w' x.1 (loV a b)∧aP w' x.2 (hiV a b)):=by
 have HX:=Hi (Ext.refl w);have HS:=Hi hs;have HT:=Hi ht;clear hs ht;unfold ak;go_enter Tryz.func169,Tryz.ntmps169;obtain ⟨sn,sa,sl,sc,sb,sm,sd⟩:=s;obtain ⟨tn,ta,tl,tc,tb,tm,td⟩:=t
 go_upto_region 1 with fail
 refine qz ?_;intro w1 hE B1 B2 B3 hz_w1 hr_w1;refine mV3 hE ?_ HX HS HT;clear HX HS HT;intro HX HS HT;replace b_B1:=bX3 B1
 go_wp2_with fail
 refine cM (eb ⟨sn,sa,sl,sc,sb,sm,sd⟩ ⟨tn,ta,tl,tc,tb,tm,td⟩ a b _ HS.out HT.out) fun x8 w8 hE _=>?_
 refine mV6 hE ?_ B1 B2 B3 HX HS HT;clear B1 B2 B3 HX HS HT;intro B1 B2 B3 HX HS HT;replace b_B1:=bX3 B1;replace b_B2:=bX3 B2;replace b_B3:=bX3 B3;by_cases h:b<a
 ·have hlo:Hid (loV a b=b∧hiV a b=a):=Hi ⟨if_pos h,if_pos h⟩;rw [DC h];clear h
  go_upto_region 2 with fail
  go_region
  refine oe B2.out rfl B3.out rfl zo ?_;intro y3 y4 y5 T3 T4 E5;have HY:Hid (Ext w y5):=Hi ((T4.ext (T3.ext HX.out zo) zo).trans E5);have HS5:=Hi (((HS.out.keep T3.keep).keep T4.keep).ext E5);have HT5:=Hi (((HT.out.keep T3.keep).keep T4.keep).ext E5);have C2:=Hi (E5.block (T4.rest _ _ zo T3.bx));have C3:=Hi (E5.block T4.bx);have c_C2:=ab C2.out;have c_C3:=ab C3.out;clear T3 T4 E5 b_B1 b_B2 b_B3;go_wp2;exact nXa (v:=PT (⟨tn,ta,tl,tc,tb,tm,td⟩,⟨sn,sa,sl,sc,sb,sm,sd⟩)) (by simp [results,Tryz.results169,go_sem,PT,c_C2,c_C3]) rfl
   ⟨(⟨tn,ta,tl,tc,tb,tm,td⟩,⟨sn,sa,sl,sc,sb,sm,sd⟩),rfl,HY.out,by rw [hlo.out.1];exact HT5.out,by rw [hlo.out.2];exact HS5.out⟩
 ·have hlo:Hid (loV a b=a∧hiV a b=b):=Hi ⟨if_neg h,if_neg h⟩;have hc:=Dz h;obtain ⟨c,e⟩:∃ c,c=dq a b:=⟨_,rfl⟩;rw [←e] at hc ⊢;clear h e
  go_upto_region 3 with fail
  go_region
  refine oe B2.out rfl B3.out rfl zo ?_;intro y3 y4 y5 T3 T4 E5;have HY:Hid (Ext w y5):=Hi ((T4.ext (T3.ext HX.out zo) zo).trans E5);have HS5:=Hi (((HS.out.keep T3.keep).keep T4.keep).ext E5);have HT5:=Hi (((HT.out.keep T3.keep).keep T4.keep).ext E5);have C2:=Hi (E5.block (T4.rest _ _ zo T3.bx));have C3:=Hi (E5.block T4.bx);have c_C2:=ab C2.out;have c_C3:=ab C3.out;clear T3 T4 E5 b_B1 b_B2 b_B3;go_wp2;exact nXa (v:=PT (⟨sn,sa,sl,sc,sb,sm,sd⟩,⟨tn,ta,tl,tc,tb,tm,td⟩)) (by simp [results,Tryz.results169,go_sem,PT,c_C2,c_C3]) rfl
   ⟨(⟨sn,sa,sl,sc,sb,sm,sd⟩,⟨tn,ta,tl,tc,tb,tm,td⟩),rfl,HY.out,by rw [hlo.out.1];exact HS5.out,by rw [hlo.out.2];exact HT5.out⟩
theorem nu(s t:RH)(a b:Rat)(w:World)(hs:aP w s a)(ht:aP w t b):ak 106 [s.v,t.v] w IvV (fun x w'=>aA w' x.1 (loV a b)∧aA w' x.2 (hiV a b)):=by
 have HX:=Hi (Ext.refl w);have HS:=Hi hs;have HT:=Hi ht;clear hs ht;unfold ak;go_enter Tryz.func106,Tryz.ntmps106;obtain ⟨sn,sa,sl,sc,sb,sm,sd⟩:=s;obtain ⟨tn,ta,tl,tc,tb,tm,td⟩:=t
 go_upto_region 1 with fail
 refine qz ?_;intro w1 hE B2 B3 B4 hz_w1 hr_w1;refine mV3 hE ?_ HX HS HT;clear HX HS HT;intro HX HS HT;replace b_B2:=bX3 B2;replace b_B3:=bX3 B3
 go_wp2_with fail
 refine cM (uj ⟨sn,sa,sl,sc,sb,sm,sd⟩ ⟨tn,ta,tl,tc,tb,tm,td⟩ a b _ HS.out HT.out) fun x7 w7 hE G7=>?_
 refine mV2 hE ?_ B4 HX;clear B4 HX;intro B4 HX;obtain ⟨⟨ln,la,ll,lc,lb,lm,ld⟩,⟨hn,ha,hl,hc,hb,hm,hd⟩⟩:=x7;have HL:=Hi G7.out.1;have HH:=Hi G7.out.2;clear G7
 (try clear b_B2);(try clear B2)
 (try clear b_B3);(try clear B3)
 clear HS;clear HT
 go_upto_region 2 with fail
 refine kE ?_;intro w8 hE B5 B6 hz_w8 hr_w8;refine mV4 hE ?_ B4 HX HL HH;clear B4 HX HL HH;intro B4 HX HL HH;replace b_B5:=bX3 B5;replace b_B6:=bX3 B6;refine wpG 5 (fun opIx=>match opIx with
  | 1=>sR (loV a b)
  | 3=>sR (hiV a b)
  | _=>.quiet) (fun _=>[]) fun w0 he0 hz0 hc0 hf0=>?_
 refine wps he0 (fun w1 hW hG=>?_) fun x20=>?_
 ·exact spc [RH.v ⟨ln,la,ll,lc,lb,lm,ld⟩] Tryz.func78 (cG _ _ _ (HL.out.ext hW))
 refine qZ ?_;refine wps he0 (fun w1 hW hG=>?_) fun x21=>?_
 ·exact spc [RH.v ⟨hn,ha,hl,hc,hb,hm,hd⟩] Tryz.func78 (cG _ _ _ (HH.out.ext hW))
 refine qZ ?_;refine aj ?_;intro w9 hI;have hE:=he0.out.trans hI.ext;have G20:=gT (hI.facts 1);have G21:=gT (hI.facts 3);clear hI he0 hz0 hc0 hf0;refine mV2 hE ?_ B4 HX;clear B4 HX;intro B4 HX;replace b_B4:=bX3 B4;simp only [pD];go_wp2;refine bh (F:=fun W=>bodyPost _ _ _ _ _ W) B4.out rfl ?_;intro w10 T;replace HX:=Hi (T.ext HX.out zo);replace B4:=Hi (T.bx);replace G20:=Hi (G20.out.keep T.keep);replace G21:=Hi (G21.out.keep T.keep);clear T;replace b_B4:=bX3 B4;exact nXa (v:=IvV (x20,x21)) (by simp [results,Tryz.results106,go_sem,b_B4.1]) rfl ⟨(x20,x21),rfl,HX.out,G20.out,G21.out⟩
theorem nt(s t:RH)(a b:Rat)(w:World)(hs:aP w s a)(ht:aP w t b):ak 69 [IvV (s,t)] w IvV (fun x w'=>aA w' x.1 (loV a b)∧aA w' x.2 (hiV a b)):=by
 have HX:=Hi (Ext.refl w);have HS:=Hi hs;have HT:=Hi ht;clear hs ht;unfold ak;go_enter Tryz.func69,Tryz.ntmps69;obtain ⟨sn,sa,sl,sc,sb,sm,sd⟩:=s;obtain ⟨tn,ta,tl,tc,tb,tm,td⟩:=t
 go_upto_region 1 with fail
 refine kE ?_;intro w1 hE B1 B2 hz_w1 hr_w1;refine mV3 hE ?_ HX HS HT;clear HX HS HT;intro HX HS HT;replace b_B1:=bX3 B1
 go_wp2_with fail
 refine cM (nu ⟨sn,sa,sl,sc,sb,sm,sd⟩ ⟨tn,ta,tl,tc,tb,tm,td⟩ a b _ HS.out HT.out) fun x7 w7 hE G7=>?_
 refine mV2 hE ?_ B2 HX;clear B2 HX;intro B2 HX;replace b_B2:=bX3 B2;have HL:=Hi G7.out.1;have HH:=Hi G7.out.2;clear G7;go_wp2;refine bh (F:=fun W=>bodyPost _ _ _ _ _ W) B2.out rfl ?_;intro w10 T;replace HX:=Hi (T.ext HX.out zo);replace B2:=Hi (T.bx);replace HL:=Hi (HL.out.keep T.keep);replace HH:=Hi (HH.out.keep T.keep);clear T;replace b_B2:=bX3 B2;exact nXa (v:=IvV x7) (by simp [results,Tryz.results69,go_sem,b_B2.1]) rfl ⟨x7,rfl,HX.out,HL.out,HH.out⟩
structure PH where
 g:RH
 e:SH
 p:Int
 d:SH
abbrev PH.v(x:PH):Value:=.agg #[.bool x.g.neg,.slice x.g.a x.g.n x.g.c,.slice x.g.b x.g.m x.g.d,.slice x.e.a x.e.n x.e.c,.int .i64 x.p,.slice x.d.a x.d.n x.d.c]
def PH0:PH:=⟨⟨false,none,0,0,none,0,0⟩,⟨none,0,0⟩,0,⟨none,0,0⟩⟩
abbrev PE(x:PH×Int):Value:=.tuple #[x.1.v,.int .i64 x.2]
def uB(w:World)(x:PH)(q:Rat)(e:List Rat)(p:Int)(d:List Rat):Prop:=aA w x.g q∧aD w x.e e∧x.p=p∧aD w x.d d
theorem uB.ext{w w':World}{x:PH}{q:Rat}{e d:List Rat}{p:Int}(h:uB w x q e p d)(he:Ext w w'):uB w' x q e p d:=⟨h.1.ext he,h.2.1.ext he,h.2.2.1,h.2.2.2.ext he⟩
instance {w w':World} {x:PH} {q:Rat} {e d:List Rat} {p:Int}:Go.Front.Mv w w' (uB w x q e p d) (uB w' x q e p d):=⟨fun e h=>uB.ext h e⟩

def MkP(e:Int)(q:Rat)(u:List Rat)(p:Int)(d:List Rat)(x:PH×Int)(w:World):Prop:=x.2=e∧(e≠0→x.1=PH0)∧(e=0→uB w x.1 q u p d)
theorem MkP.ext{e:Int}{q:Rat}{u d:List Rat}{p:Int}{x:PH×Int}{w w':World}(h:MkP e q u p d x w)(he:Ext w w'):MkP e q u p d x w':=⟨h.1,h.2.1,fun h0=>(h.2.2 h0).ext he⟩
instance {e:Int} {q:Rat} {u d:List Rat} {p:Int} {x:PH×Int} {w w':World}:Go.Front.Mv w w' (MkP e q u p d x w) (MkP e q u p d x w'):=⟨fun e h=>MkP.ext h e⟩

def aG(e:Rat):Rat:=(((1:Int):Rat)+e) / (((1:Int):Rat)-e)
def scP(l:List Rat)(c:Rat):List Rat:=tz (l.map (·*c))
def buD(n:Nat)(e r:Rat):List Rat:=br (bL plQ n) (scP (bL miQ n) (r*aG e ^ n))
theorem iW{a b:Rat}:dq a b≤0↔a≤b:=by
 unfold dq;by_cases h:a<b
 ·rw [if_pos h];exact ⟨fun _=>Rat.le_of_lt h,fun _=>by decide⟩
 ·rw [if_neg h];split
  ·rename_i h1;subst h1;exact ⟨fun _=>Rat.le_refl,fun _=>by decide⟩
  ·rename_i h1
   exact ⟨fun h2=>absurd h2 dZ,fun h2=>absurd (Rat.lt_of_le_of_ne h2 h1) h⟩
theorem oP{a b:Rat}:0≤dq a b↔b≤a:=by
 unfold dq;by_cases h:a<b
 ·rw [if_pos h];exact ⟨fun h2=>absurd h2 dZ,fun h2=>absurd h (Rat.not_lt.2 h2)⟩
 ·rw [if_neg h];split
  ·rename_i h1;subst h1;exact ⟨fun _=>Rat.le_refl,fun _=>by decide⟩
  ·exact ⟨fun _=>Rat.not_lt.1 h,fun _=>by decide⟩
theorem jt{n:Int}{e r:Rat}(h:dP n e r=0):1≤n∧n≤8∧-1<e∧e<1∧0<r:=by
 unfold dP at h;by_cases h1:n<1∨8<n
 ·rw [if_pos h1] at h;exact absurd h dZ
 rw [if_neg h1] at h;by_cases h2:dq e ((-1:Int):Rat)≤0∨0≤dq e ((1:Int):Rat)
 ·rw [if_pos h2] at h;exact absurd h dZ
 rw [if_neg h2] at h;by_cases h3:dq r 0≤0
 ·rw [if_pos h3] at h;exact absurd h dZ
 rw [iW] at h3;have h4:¬ e≤((-1:Int):Rat):=fun h=>h2 (Or.inl (iW.2 h))
 have h5:¬ ((1:Int):Rat)≤e:=fun h=>h2 (Or.inr (oP.2 h))
 exact ⟨zo,zo,Rat.not_le.1 h4,Rat.not_le.1 h5,Rat.not_le.1 h3⟩
theorem jx{e:Rat}(h:e<1):((1:Int):Rat)-e≠0:=fun h0=>by
 have h1:((1:Int):Rat)=1:=rfl;rw [h1] at h0;grind
theorem bN(l:List Rat)(c:Rat){n:Nat}(h:l.length≤n):(scP l c).length≤n:=nXf (ae _) (by rw [nXl];exact h)
theorem vq{l:List Rat}{c:Rat}{s k:Nat}(h:SzL s l)(hc:Sz k c):SzL (s+k) (scP l c):=SzL.tz (h.scale hc)
theorem vS{n:Nat}(hn:n≤48):FrB 99 (bL plQ n):=(cN (fM 1 dZ) dZ n zo).mono zo
theorem Bo{n:Nat}(hn:n≤48):FrB 99 (bL miQ n):=(cN (fM (-1) dZ) dZ n zo).mono zo
theorem iu(n:Nat):(bL plQ n).length≤n+1:=dI dZ n
theorem ft(n:Nat):(bL miQ n).length≤n+1:=dI dZ n
theorem Cn{c:Rat}{K n:Nat}(h:Sz K c)(hn:n≤8):Sz (K*8+1) (c ^ n):=(h.pow n).mono (by have:=nXg K hn;omega)
theorem jy{e:Rat}{K:Nat}(h:Sz K e)(hK:1≤K):Sz (2*K+6) (aG e):=BU h hK
theorem l7(n:Int)(s t:RH)(e r:Rat)(K:Nat)(w:World)(hs:aP w s e)(ht:aP w t r)(ze:Sz K e)(zr:Sz K r)(hK:1≤K)(hK2:K≤1000) :
  ak 97 [.int .i64 n,s.v,t.v] w PE (MkP (dP n e r) ((1:Int):Rat) [((1:Int):Rat)] n (buD n.toNat e r)):=by
 obtain ⟨sn,sa,sl,sc,sb,sm,sd⟩:=s;obtain ⟨tn,ta,tl,tc,tb,tm,td⟩:=t;have HX:=Hi (Ext.refl w);have HS:=Hi hs;have HT:=Hi ht;have ZE:=Hi ze;have ZR:=Hi zr;have HO:=Hi (jt (n:=n) (e:=e) (r:=r));obtain ⟨wv,hw⟩:∃ v,v=dP n e r:=⟨_,rfl⟩;rw [←hw] at HO ⊢;have HW:=Hi hw;clear hs ht ze zr hw;unfold ak;go_enter Tryz.func97,Tryz.ntmps97
 go_upto_region 1 with fail
 refine qz ?_;intro w1 hE B4 B5 B6 hz_w1 hr_w1;refine mV3 hE ?_ HX HS HT;clear HX HS HT;intro HX HS HT;replace b_B4:=bX3 B4;replace b_B5:=bX3 B5
 go_wp2_with fail
 refine cM (fZ n ⟨sn,sa,sl,sc,sb,sm,sd⟩ ⟨tn,ta,tl,tc,tb,tm,td⟩ e r _ HS.out HT.out) fun x2 w2 hE _=>?_
 refine mV6 hE ?_ B4 B5 B6 HX HS HT;clear B4 B5 B6 HX HS HT;intro B4 B5 B6 HX HS HT;have hs_w2:=hE.size;replace b_B4:=bX3 B4;replace b_B5:=bX3 B5;replace b_B6:=bX3 B6;rw [←HW.out];by_cases h0:wv=0
 case neg =>
  have hb:((wv:Int) == 0)=false:=by rw [nXs];exact h0
  have HN:=Hi h0;go_wp2;refine bh (F:=fun W=>bodyPost _ _ _ _ _ W) B6.out rfl ?_;intro w3 T;replace HX:=Hi (T.ext HX.out zo);replace B6:=Hi (T.bx);clear T;replace b_B6:=bX3 B6;exact nXa (v:=PE (PH0,wv)) (by simp [results,Tryz.results97,go_sem,b_B6.1,PH0]) rfl ⟨(PH0,wv),rfl,HX.out,rfl,fun _=>rfl,fun h=>absurd h HN.out⟩
 obtain ⟨k1,k2,k3,k4,k5⟩:=HO.out h0;subst h0;obtain ⟨m,rfl⟩:∃ m:Nat,n=(m:Nat):=⟨n.toNat,zo⟩;have HD:Hid (buD (m:Int).toNat e r=br (bL plQ m) (scP (bL miQ m) (r*aG e ^ m))):=Hi (by rw [Int.toNat_natCast];rfl);have hm8:m≤8:=zo;have KD:=Hi (jx k4);have ZW:=Hi (jy ZE.out hK);have ZN:=Hi (Cn ZW.out hm8);have ZC:=Hi (ZR.out.mul ZN.out);have FM:=Hi (Bo (n:=m) zo);have FP:=Hi (vS (n:=m) zo);have ZS:=Hi (vq FM.out.sz ZC.out);have LM:=Hi (ft m);have LP:=Hi (iu m);have LS:=Hi (bN (bL miQ m) (r*aG e ^ m) (ft m));clear HO k1 k2 k3 k4 k5
 go_upto_region 4 with fail
 refine wpG 7 (fun opIx=>match opIx with
  | 2=>sR (aG e)
  | 4=>sR (aG e ^ m)
  | 5=>sR (r*aG e ^ m)
  | 6=>.alloc 34 #[.bool false,.slice none 0 0,.slice none 0 0]
  | _=>.quiet) (fun|4=>[2]|5=>[4]|_=>[]) fun w0 he0 hz0 hc0 hf0=>?_
 refine wps he0 (fun w1 hW hG=>?_) fun x20=>?_
 ·exact spc [RH.v ⟨sn,sa,sl,sc,sb,sm,sd⟩] Tryz.func115 (iq ⟨sn,sa,sl,sc,sb,sm,sd⟩ e K _ (HS.out.ext hW) ZE.out hK zo KD.out)
 refine qZ ?_;refine wps he0 (fun w1 hW hG=>?_) fun x21=>?_
 ·have g20:=gS (hG 2 dZ);exact spc [x20.v,.int .i64 (m:Nat)] Tryz.func159 (kr x20 _ (2*K+6) m _ (g20.raw ZW.out zo) ZW.out zo zo zo)
 refine qZ ?_;refine wps he0 (fun w1 hW hG=>?_) fun x22=>?_
 ·have g21:=gS (hG 4 dZ);exact spc [RH.v ⟨tn,ta,tl,tc,tb,tm,td⟩,x21.v] Tryz.func85 (aV _ x21 _ _ _ (HT.out.ext hW) (g21.raw ZN.out zo))
 refine qZ ?_;refine aQ rfl rfl (fun w=>by simp [execOp,go_sem,ptr]) (fun b23 hb23 hl23=>?_);refine qZ ?_;refine aj ?_;intro w3 hI;have hE:=he0.out.trans hI.ext;have G22:=gT (hI.facts 5);have A23:Hid (w3.heap[b23]?=some (.cells #[.bool false,.slice none 0 0,.slice none 0 0] 34 (0,0))):=hI.facts 6;rw [hz0] at hl23;clear hI he0 hz0 hc0 hf0;refine mV2 hE ?_ HX B6;clear HX B6;intro HX B6;have hs_w3:=hE.size;replace b_A23:=bX3 A23;simp only [pD,ptr]
 go_upto_region 5 with fail
 refine aU A23.out rfl ?_;intro w4 T;replace HX:=Hi (T.ext HX.out zo);replace B6:=Hi (T.rest _ _ zo B6.out);replace G22:=Hi (G22.out.keep T.keep);replace A23:=Hi (T.bx);have hs_w4:=nle T.size;have hr_w4:=nle T.size.symm;clear T;replace b_A23:=bX3 A23;refine wpG 7 (fun opIx=>match opIx with
  | 1=>.spec (SH) (default) (SH.v) (fun x w'=>aD w' x (bL plQ m))
  | 3=>.spec (SH) (default) (SH.v) (fun x w'=>aD w' x (bL miQ m))
  | 5=>.spec (SH) (default) (SH.v) (fun x w'=>aD w' x (scP (bL miQ m) (r*aG e ^ m)))
  | 6=>.spec (SH) (default) (SH.v) (fun x w'=>bW w4.heap.size w' x (buD (m:Int).toNat e r))
  | _=>.quiet) (fun|5=>[3]|6=>[1,5]|_=>[]) fun w0 he0 hz0 hc0 hf0=>?_
 refine wps he0 (fun w1 hW hG=>?_) fun x30=>?_
 ·exact spc [.int .i64 (m:Nat)] Tryz.func101 (dH m _ zo)
 refine qZ ?_;refine wps he0 (fun w1 hW hG=>?_) fun x31=>?_
 ·exact spc [.int .i64 (m:Nat)] Tryz.func117 (dC m _ zo)
 refine qZ ?_;refine wps he0 (fun w1 hW hG=>?_) fun x32=>?_
 ·have g31:=gS (hG 3 dZ);exact spc [x31.v,x22.v] Tryz.func102 ((bK x31.a x31.n x31.c (bL miQ m) x22 (r*aG e ^ m) _ (g31.raw FM.out.sz dZ) ((G22.out.ext hW).raw ZC.out zo) (by have h:=g31.len;have h2:=LM.out;omega) (FM.out.sz.mono dZ) (ZC.out.mono zo)).weak (fun _ _ _ h=>h.can))
 refine qZ ?_;refine wps he0 (fun w1 hW hG=>?_) fun x33=>?_
 ·have g30:=gS (hG 1 dZ);have g32:=gS (hG 5 dZ);exact spc [x30.v,x32.v] Tryz.func119 ((eG x30.a x32.a x30.n x30.c x32.n x32.c _ _ _ (g30.raw FP.out.sz dZ) (g32.raw ZS.out zo) (by have h:=g30.len;have h2:=LP.out;omega) (by have h:=g32.len;have h2:=LS.out;omega) (FP.out.sz.mono dZ) (ZS.out.mono zo)).weak (fun _ _ _ h=>by rw [HD.out];exact h.mono hW.size))
 refine qZ ?_;refine aj ?_;intro w5 hI;have hE:=he0.out.trans hI.ext;have G33:=gT (hI.facts 6);clear hI he0 hz0 hc0 hf0;refine mV2 hE ?_ HX B6;clear HX B6;intro HX B6;have hs_w5:=hE.size;simp only [pD];obtain ⟨da,dn,dc⟩:=x33;have LD:=Hi G33.out;clear G33;simp only [SH.v]
 go_wp2_with fail
 refine cM (aL 1 _ dZ dZ) fun x40 w40 hE G40=>?_
 refine mV3 hE ?_ HX B6 LD;clear HX B6 LD;intro HX B6 LD;have hs_w40:=hE.size
 go_wp2_with fail
 refine cM (n8 _) fun x41 w41 hE G41=>?_
 refine mV4 hE ?_ G40 HX B6 LD;clear G40 HX B6 LD;intro G40 HX B6 LD;replace b_B6:=bX3 B6;obtain ⟨oa,on,oc⟩:=x41;simp only [SH.v];go_wp2;refine bh (F:=fun W=>bodyPost _ _ _ _ _ W) B6.out rfl ?_;intro w6 T;replace HX:=Hi (T.ext HX.out zo);replace B6:=Hi (T.bx);replace LD:=Hi (LD.out.put T zo);replace G40:=Hi (G40.out.keep T.keep);replace G41:=Hi (G41.out.put T zo);clear T;replace b_B6:=bX3 B6;exact nXa (v:=PE (⟨x40,⟨oa,on,oc⟩,(m:Int),⟨da,dn,dc⟩⟩,0)) (by simp [results,Tryz.results97,go_sem,b_B6.1]) rfl ⟨(⟨x40,⟨oa,on,oc⟩,(m:Int),⟨da,dn,dc⟩⟩,0),rfl,HX.out,rfl,fun h=>absurd rfl h,fun _=>⟨G40.out,G41.out.can,rfl,LD.out.can⟩⟩
def chW(n:Nat)(e:Rat):List Rat:=jW miQ plQ (sqP n) n (aG e) (sqP n).length
def chD(n:Nat)(e r:Rat):List Rat:=br (bL plQ n) (scP (chW n e) r)
theorem ig{n:Nat}(h:n≤8):(sqP n).length≤n+1:=by
 have key:∀ m:Nat,m<9→(sqP m).length≤m+1:=by decide +kernel
 exact key n zo
theorem pC(n:Int)(s t:RH)(e r:Rat)(K:Nat)(w:World)(hs:aP w s e)(ht:aP w t r)(ze:Sz K e)(zr:Sz K r)(hK:1≤K)(hK2:K≤1000) :
  ak 98 [.int .i64 n,s.v,t.v] w PE (MkP (dP n e r) ((1:Int):Rat) [((1:Int):Rat)] n (chD n.toNat e r)):=by
 obtain ⟨sn,sa,sl,sc,sb,sm,sd⟩:=s;obtain ⟨tn,ta,tl,tc,tb,tm,td⟩:=t;have HX:=Hi (Ext.refl w);have HS:=Hi hs;have HT:=Hi ht;have ZE:=Hi ze;have ZR:=Hi zr;have HO:=Hi (jt (n:=n) (e:=e) (r:=r));obtain ⟨wv,hw⟩:∃ v,v=dP n e r:=⟨_,rfl⟩;rw [←hw] at HO ⊢;have HW:=Hi hw;clear hs ht ze zr hw;unfold ak;go_enter Tryz.func98,Tryz.ntmps98
 go_upto_region 1 with fail
 refine qz ?_;intro w1 hE B4 B5 B6 hz_w1 hr_w1;refine mV3 hE ?_ HX HS HT;clear HX HS HT;intro HX HS HT;replace b_B4:=bX3 B4;replace b_B5:=bX3 B5
 go_wp2_with fail
 refine cM (fZ n ⟨sn,sa,sl,sc,sb,sm,sd⟩ ⟨tn,ta,tl,tc,tb,tm,td⟩ e r _ HS.out HT.out) fun x2 w2 hE _=>?_
 refine mV6 hE ?_ B4 B5 B6 HX HS HT;clear B4 B5 B6 HX HS HT;intro B4 B5 B6 HX HS HT;replace b_B4:=bX3 B4;replace b_B6:=bX3 B6;rw [←HW.out];by_cases h0:wv=0
 case neg =>
  have hb:((wv:Int) == 0)=false:=by rw [nXs];exact h0
  have HN:=Hi h0;go_wp2;refine bh (F:=fun W=>bodyPost _ _ _ _ _ W) B6.out rfl ?_;intro w3 T;replace HX:=Hi (T.ext HX.out zo);replace B6:=Hi (T.bx);clear T;replace b_B6:=bX3 B6;exact nXa (v:=PE (PH0,wv)) (by simp [results,Tryz.results98,go_sem,b_B6.1,PH0]) rfl ⟨(PH0,wv),rfl,HX.out,rfl,fun _=>rfl,fun h=>absurd h HN.out⟩
 obtain ⟨k1,k2,k3,k4,k5⟩:=HO.out h0;subst h0;obtain ⟨m,rfl⟩:∃ m:Nat,n=(m:Nat):=⟨n.toNat,zo⟩;have hm1:1≤m:=zo;have hm8:m≤8:=zo;have KD:=Hi (jx k4);have ZW:=Hi (jy ZE.out hK);have ZQ:=Hi (AW hm8);have LQ:=Hi (ig hm8);obtain ⟨g,hg⟩:∃ g,g=sqP m:=⟨_,rfl⟩;obtain ⟨c,hc⟩:∃ c,c=aG e:=⟨_,rfl⟩;have HD:Hid (chD (m:Int).toNat e r=br (bL plQ m) (scP (jW miQ plQ g m c g.length) r)):=Hi (by rw [Int.toNat_natCast,hg,hc];rfl);have HSq:Hid (∀ w,ak 161 [.int .i64 (m:Nat)] w SH.v (fun x w'=>aD w' x g)):=Hi (fun w=>by rw [hg];exact lX m w hm1 hm8);have HWp:Hid (∀ w1,aP w1 ⟨sn,sa,sl,sc,sb,sm,sd⟩ e→ak 115 [RH.v ⟨sn,sa,sl,sc,sb,sm,sd⟩] w1 RH.v (fun x w'=>aA w' x c)):=Hi (fun w1 h=>by rw [hc];exact iq ⟨sn,sa,sl,sc,sb,sm,sd⟩ e K _ h ZE.out hK zo KD.out);rw [←hg] at ZQ LQ;rw [←hc] at ZW;clear hg hc HO k1 k2 k3 k4 k5 KD;have FP:=Hi (vS (n:=m) zo);have LP:=Hi (iu m)
 go_wp2_with fail
 refine cM (HWp.out _ HS.out) fun x3 w3 hE G3=>?_
 refine mV4 hE ?_ B5 HT HX B6;clear B5 HT HX B6;intro B5 HT HX B6
 go_upto_region 5 with fail
 refine nmA ?_;intro w4 hE B9 hz_w4 hr_w4;refine mV5 hE ?_ G3 B5 HT HX B6;clear G3 B5 HT HX B6;intro G3 B5 HT HX B6;replace b_B9:=bX3 B9;have RC:Hid (aP w4 x3 c):=Hi (G3.out.raw ZW.out zo);clear G3;obtain ⟨cn,ca,cl,cc,cb,cm,cd⟩:=x3;obtain ⟨b9,hb9⟩:∃ b9,b9=w3.heap.size:=⟨_,rfl⟩;rw [←hb9] at B9 ⊢;clear hb9 b_B9
 go_wp2_with fail
 refine cM (HSq.out _) fun x5 w5 hE G5=>?_
 refine mV6 hE ?_ B9 B5 HT HX B6 RC;clear B9 B5 HT HX B6 RC;intro B9 B5 HT HX B6 RC;obtain ⟨ga,gn,gc⟩:=x5;simp only [SH.v];have hgn:=G5.out.len;simp only at hgn;have hgm:=LQ.out;rw [hgn] at hgm;have HGn:=Hi hgn;have hgle:=G5.out.le;have hgmx:=G5.out.max;simp only at hgle hgmx;have HX5:=HX;have B65:=B6;have B55:=B5;have HT5:=HT;have RC5:=RC;have G55:=G5;have B95:=B9;have HD5:Hid (chD (m:Int).toNat e r=br (bL plQ m) (scP (jW miQ plQ g m c gn) r)):=Hi (by rw [HD.out,hgn]);clear hgn HD HSq HWp;clear HS
 (try clear b_B4);(try clear B4)
 clear HX
 (try clear b_B6);(try clear B6)
 (try clear b_B5);(try clear B5)
 clear HT;clear RC;clear G5
 (try clear b_B9);(try clear B9)
 go_wp2
 go_loopg [10,28] gn (fun g' v i wr=>∃ (j:Nat) (s:SH),v=s.v∧j+g'=gn∧i=.int .i64 (j:Nat)∧Ext w5 wr∧aD wr s (jW miQ plQ g m c j))
 case atStart=>exact ⟨0,⟨none,0,0⟩,rfl,zo,rfl,Ext.refl _,(bW.nil 0 _).can⟩
 case round =>
  obtain ⟨j,⟨oa,on,oc⟩,rfl,hj,rfl,g1,g5⟩:=hrel;have HX0:=Hi g1;have HX:=Hi (HX5.out.trans g1);have LG:=Hi (G55.out.ext g1);have HT:=Hi (HT5.out.ext g1);have RC:=Hi (RC5.out.ext g1);have B5:=Hi (g1.block B55.out);have B6:=Hi (g1.block B65.out);have B9:=Hi (g1.block B95.out);have LO:=Hi g5;have hon:=g5.len;have hsl:=ek bP bO g c m j zo;simp only at hon;have hon2:on≤9:=zo;clear g1 g5 hon hsl;simp only [SH.v];replace b_B5:=bX3 B5;replace b_B6:=bX3 B6;by_cases h0:gk=0
  case pos =>
   subst h0;obtain rfl:j=gn:=by omega
   have ZIn:Hid (SzL 1000000 (jW miQ plQ g m c j)):=Hi ((oD bP bO ZQ.out dZ ZW.out hm8 j zo).mono (by have:=nXy (show j≤9 by omega) (show 30+(60+((2*K+6)*8+1))+1≤16140 by omega);omega));have LIn':Hid ((jW miQ plQ g m c j).length≤m+1):=Hi (ek bP bO g c m j zo);have ZSc:=Hi (vq ZIn.out ZR.out);have LSc:=Hi (bN (jW miQ plQ g m c j) r LIn'.out);clear LG;clear RC
   (try clear b_B9);(try clear B9)
   go_upto_region 12 with fail
   have h6r:w.heap.size+2<wr.heap.size:=b_B6.2.2;refine wpG 6 (fun opIx=>match opIx with
    | 1=>.spec (SH) (default) (SH.v) (fun x w'=>aD w' x (bL plQ m))
    | 4=>.spec (SH) (default) (SH.v) (fun x w'=>aD w' x (scP (jW miQ plQ g m c j) r))
    | 5=>.spec (SH) (default) (SH.v) (fun x w'=>bW wr.heap.size w' x (chD (m:Int).toNat e r))
    | _=>.quiet) (fun|5=>[1,4]|_=>[]) fun w0 he0 hz0 hc0 hf0=>?_
   refine wps he0 (fun w1 hW hG=>?_) fun x50=>?_
   ·exact spc [.int .i64 (m:Nat)] Tryz.func101 (dH m _ zo)
   refine qZ ?_;refine wps he0 (fun w1 hW hG=>?_) fun x51=>?_
   ·exact spc [.slice oa on oc,RH.v ⟨tn,ta,tl,tc,tb,tm,td⟩] Tryz.func102 ((bK oa on oc (jW miQ plQ g m c j) ⟨tn,ta,tl,tc,tb,tm,td⟩ r _ ((LO.out.ext hW).raw ZIn.out dZ) (HT.out.ext hW) zo (ZIn.out.mono dZ) (ZR.out.mono zo)).weak (fun _ _ _ h=>h.can))
   refine qZ ?_;refine wps he0 (fun w1 hW hG=>?_) fun x52=>?_
   ·have g50:=gS (hG 1 dZ);have g51:=gS (hG 4 dZ);exact spc [x50.v,x51.v] Tryz.func119 ((eG x50.a x51.a x50.n x50.c x51.n x51.c _ _ _ (g50.raw FP.out.sz dZ) (g51.raw ZSc.out zo) (by have h:=g50.len;have h2:=LP.out;omega) (by have h:=g51.len;have h2:=LSc.out;omega) (FP.out.sz.mono dZ) (ZSc.out.mono zo)).weak (fun _ _ _ h=>by rw [HD5.out];exact h.mono hW.size))
   refine qZ ?_;refine aj ?_;intro w15 hI;have hE:=he0.out.trans hI.ext;have G52:=gT (hI.facts 5);clear hI he0 hz0 hc0 hf0;refine mV2 hE ?_ HX B6;clear HX B6;intro HX B6;have hs_w15:=hE.size;simp only [pD];obtain ⟨da,dn,dc⟩:=x52;have LD:=Hi G52.out;clear G52;clear LO;simp only [SH.v]
   go_wp2_with fail
   refine cM (aL 1 _ dZ dZ) fun x60 w60 hE G60=>?_
   refine mV3 hE ?_ HX B6 LD;clear HX B6 LD;intro HX B6 LD;have hs_w60:=hE.size
   go_wp2_with fail
   refine cM (n8 _) fun x61 w61 hE G61=>?_
   refine mV4 hE ?_ G60 HX B6 LD;clear G60 HX B6 LD;intro G60 HX B6 LD;replace b_B6:=bX3 B6;obtain ⟨ua,un,uc⟩:=x61;simp only [SH.v];go_wp2;clear HX0;refine bh (F:=fun W=>bodyPost _ _ _ _ _ W) B6.out rfl ?_;intro w16 T;replace HX:=Hi (T.ext HX.out zo);replace B6:=Hi (T.bx);replace LD:=Hi (LD.out.put T zo);replace G60:=Hi (G60.out.keep T.keep);replace G61:=Hi (G61.out.put T zo);clear T;replace b_B6:=bX3 B6;exact nXa (v:=PE (⟨x60,⟨ua,un,uc⟩,(m:Int),⟨da,dn,dc⟩⟩,0)) (by simp [results,Tryz.results98,go_sem,b_B6.1]) rfl ⟨(⟨x60,⟨ua,un,uc⟩,(m:Int),⟨da,dn,dc⟩⟩,0),rfl,HX.out,rfl,fun h=>absurd rfl h,fun _=>⟨G60.out,G61.out.can,rfl,LD.out.can⟩⟩
  clear HX
  (try clear b_B5);(try clear B5)
  (try clear b_B6);(try clear B6)
  clear HT;have hjg:(j:Int)<gn:=zo;have hjn:j≤m:=zo;obtain ⟨i,hi⟩:∃ i,i=m-j:=⟨_,rfl⟩;have hii:(m:Int)-j=i:=by omega
  have hi8:i≤48:=zo;have HIM:Hid (rE miQ plQ m j=aq (bL miQ j) (bL plQ i)):=Hi (by rw [hi];rfl);have F1:Hid (FrB 30 (bL miQ j)):=Hi ((cN bP.1 bP.2 j zo).mono zo);have F2:Hid (FrB 30 (bL plQ i)):=Hi ((cN bO.1 bO.2 i zo).mono zo);have N1:Hid ((bL miQ j).length≤9):=Hi (nXf (dI bP.2 j) zo);have N2:Hid ((bL plQ i).length≤9):=Hi (nXf (dI bO.2 i) zo);clear hi;have ZM:Hid (FrB 30 (rE miQ plQ m j)):=Hi (k6 bP bO hjn hm8);have NM:Hid ((rE miQ plQ m j).length≤9):=Hi (nXf (oF bP bO hjn) zo);have ZCj:Hid (Sz 100000 (g.getD j 0*c ^ j)):=Hi ((rF ZQ.out dZ ZW.out (show j≤8 by omega)).mono zo);have ZTj:Hid (SzL 100100 (uq miQ plQ g m c j)):=Hi ((rD bP bO ZQ.out dZ ZW.out hjn hm8).mono zo);have NT:Hid ((uq miQ plQ g m c j).length≤9):=Hi (nXf (oC bP bO g c hjn) zo);have ZP:Hid (SzL 1000000 (jW miQ plQ g m c j)):=Hi ((oD bP bO ZQ.out dZ ZW.out hm8 j zo).mono (by have:=nXy (show j≤9 by omega) (show 30+(60+((2*K+6)*8+1))+1≤16140 by omega);omega));have ZPw:Hid (Sz 90000 (c ^ j)):=Hi ((ZW.out.pow j).mono (by have:=nXy (show 2*K+6≤2006 by omega) (show j≤8 by omega);omega));have ZGj:Hid (Sz 60 (g.getD j 0)):=Hi (ZQ.out.getD dZ j);obtain ⟨b,off,rr,hao,hat,hP⟩:=LG.out.at (k:=j) zo;obtain ⟨hc1,hc2,hc3⟩:=hat;obtain ⟨rneg,ra,rn,rc,rb,rm,rd⟩:=rr;simp only at hc1 hc2 hc3 hao;subst hao;have RP:=Hi hP;clear hP
  go_upto_region 9 with fail
  refine nmA ?_;intro y1 hE B12 hz_y1 hr_y1;refine mV5 hE ?_ HX0 RC B9 LO RP;clear HX0 RC B9 LO RP;intro HX0 RC B9 LO RP;clear hc1 hc2 hc3
  go_wp2_with fail
  refine cM (dC j _ zo) fun x21 w21 hE G21=>?_
  refine mV6 hE ?_ B12 HX0 RC B9 LO RP;clear B12 HX0 RC B9 LO RP;intro B12 HX0 RC B9 LO RP
  go_wp2_with fail
  refine cM (dH i _ hi8) fun x22 w22 hE G22=>?_
  refine mV7 hE ?_ G21 B12 HX0 RC B9 LO RP;clear G21 B12 HX0 RC B9 LO RP;intro G21 B12 HX0 RC B9 LO RP;obtain ⟨ua,un,uc⟩:=x21;obtain ⟨va,vn,vc⟩:=x22;simp only [SH.v];have hun:un≤9:=by have h:=G21.out.len;have h2:=N1.out;unfold miQ at h2;simp only at h;omega
  have hvn:vn≤9:=by have h:=G22.out.len;have h2:=N2.out;unfold plQ at h2;simp only at h;omega
  go_wp2_with fail
  refine cM ((eR ua va un uc vn vc (bL miQ j) (bL plQ i) 30 30 _ (G21.out.raw F1.out.sz dZ) (G22.out.raw F2.out.sz dZ) zo zo F1.out F2.out dZ).weak (ψ:=fun x w'=>aD w' x (rE miQ plQ m j)) (fun _ _ _ h=>by rw [HIM.out];exact h.can)) fun x23 w23 hE G23=>?_
  refine mV6 hE ?_ B12 HX0 RC B9 LO RP;clear B12 HX0 RC B9 LO RP;intro B12 HX0 RC B9 LO RP;replace b_B9:=bX3 B9;replace b_B12:=bX3 B12;obtain ⟨ma,mn,mc⟩:=x23;simp only [SH.v];have hmn:mn≤9:=by have h:=G23.out.len;have h2:=NM.out;simp only at h;omega
  clear G21;clear G22
  go_upto_region 10 with fail
  refine wpG 9 (fun opIx=>match opIx with
   | 5=>sR (c ^ j)
   | 6=>sR (g.getD j 0*c ^ j)
   | 7=>.spec (SH) (default) (SH.v) (fun x w'=>aD w' x (uq miQ plQ g m c j))
   | 8=>.spec (SH) (default) (SH.v) (fun x w'=>aD w' x (jW miQ plQ g m c (j+1)))
   | _=>.quiet) (fun|6=>[5]|7=>[6]|8=>[7]|_=>[]) fun w0 he0 hz0 hc0 hf0=>?_
  refine wps he0 (fun w1 hW hG=>?_) fun x31=>?_
  ·exact spc [RH.v ⟨cn,ca,cl,cc,cb,cm,cd⟩,.int .i64 (j:Nat)] Tryz.func159 (kr ⟨cn,ca,cl,cc,cb,cm,cd⟩ c (2*K+6) j _ (RC.out.ext hW) ZW.out zo zo zo)
  refine qZ ?_;refine wps he0 (fun w1 hW hG=>?_) fun x32=>?_
  ·have g31:=gS (hG 5 dZ);exact spc [RH.v ⟨rneg,ra,rn,rc,rb,rm,rd⟩,x31.v] Tryz.func85 (aV _ x31 _ _ _ ((RP.out.ext hW).raw ZGj.out dZ) (g31.raw ZPw.out dZ))
  refine qZ ?_;refine wps he0 (fun w1 hW hG=>?_) fun x33=>?_
  ·have g32:=gS (hG 6 dZ);exact spc [.slice ma mn mc,x32.v] Tryz.func102 ((bK ma mn mc (rE miQ plQ m j) x32 (g.getD j 0*c ^ j) _ ((G23.out.ext hW).raw ZM.out.sz dZ) (g32.raw ZCj.out dZ) zo (ZM.out.sz.mono dZ) (ZCj.out.mono dZ)).weak (fun _ _ _ h=>h.can))
  refine qZ ?_;refine wps he0 (fun w1 hW hG=>?_) fun x34=>?_
  ·have g33:=gS (hG 7 dZ);exact spc [.slice oa on oc,x33.v] Tryz.func119 ((eG oa x33.a on oc x33.n x33.c (jW miQ plQ g m c j) (uq miQ plQ g m c j) _ ((LO.out.ext hW).raw ZP.out dZ) (g33.raw ZTj.out dZ) zo (by have h:=g33.len;have h2:=NT.out;omega) (ZP.out.mono dZ) (ZTj.out.mono dZ)).weak (fun _ _ _ h=>h.can))
  refine qZ ?_;refine aj ?_;intro y2 hI;have hE:=he0.out.trans hI.ext;have G34:=gT (hI.facts 8);clear hI he0 hz0 hc0 hf0;replace HX0:=hE.tr HX0;simp only [pD];obtain ⟨xa,xn,xc⟩:=x34;have GN:=Hi G34.out;clear G34;simp only [SH.v];go_wp2
  go_roundg (gk-1)
  case measure=>omega
  case rel=>exact ⟨j+1,⟨xa,xn,xc⟩,rfl,zo,by go_num,HX0.out,GN.out⟩
end Go.Proofs.YtafgmcimcbhhjaaGreat
