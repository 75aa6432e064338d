/- Intervals: ends, Make, Trim of package interval. -/
import Derived.Test.YtofhkmcllihgmaaGreatQUK3
import Derived.Test.YtofhkmcllihgmaaGreatQUK2
import Derived.Test.YtofhkmcllihgmaaGreatQUM22
import Derived.Test.YtofhkmcllihgmaaGreatQUM3
set_option linter.unusedVariables false
set_option maxRecDepth 8000
set_option maxHeartbeats 2000000
namespace Go.Proofs.YtofhkmcllihgmaaGreat
open Go.RowKit Go.Front Go.Num Stab
attribute [local go_sem] XW.cell XW.frozen
abbrev IvV(x:RH×RH):Value:=.agg #[.bool x.1.neg,.slice x.1.a x.1.n x.1.c,.slice x.1.b x.1.m x.1.d,.bool x.2.neg,.slice x.2.a x.2.n x.2.c,.slice x.2.b x.2.m x.2.d]
def loV(a b:Rat):Rat:=if b<a then b else a
def hiV(a b:Rat):Rat:=if b<a then a else b
theorem kE(a b:Rat):loV a b≤hiV a b:=by
 unfold loV hiV;by_cases h:b<a
 ·rw [if_pos h,if_pos h];grind
 ·rw [if_neg h,if_neg h];grind
theorem gL{a b:Rat}(h:a≤b):loV a b=a:=if_neg (by grind)
theorem gN{a b:Rat}(h:a≤b):hiV a b=b:=if_neg (by grind)
theorem ox(a b:Rat):loV a b=a∨loV a b=b:=by unfold loV;split <;> simp
theorem rK(a b:Rat):hiV a b=a∨hiV a b=b:=by unfold hiV;split <;> simp
theorem oN{a b:Rat}(h:b<a):dM a b=1:=by unfold dM;rw [if_neg (by grind),if_neg (by grind)]
theorem oM{a b:Rat}(h:¬ b<a):dM a b≤0:=by
 unfold dM;split
 ·omega
 ·split
  ·omega
  ·exfalso;grind
theorem bK{w1:World}{b:Nat}{T:TypeId}{c0 c1 c2 c3 c4 c5 v0 v1 v2 v3 v4 v5:Value}{F:World→Prop}(hb:w1.heap[b]?=some (.cells #[c0,c1,c2,c3,c4,c5] T (0,0)))(hn:#[c0,c1,c2,c3,c4,c5].toList.all eX=true)(h:∀ w2,dN w1 b T #[v0,v1,v2,v3,v4,v5] w2→F w2) :
  F ((((((w1.setCell ⟨b,0,none⟩ v0).setCell ⟨b,1,none⟩ v1).setCell ⟨b,2,none⟩ v2).setCell ⟨b,3,none⟩ v3).setCell ⟨b,4,none⟩ v4).setCell ⟨b,5,none⟩ v5) :=
 h _ (dN.of (Array.getElem?_eq_some_iff.1 hb).1 (ai hb hn) ((((((aJ.setCell w1 ⟨b,0,none⟩ v0).trans (aJ.setCell _ ⟨b,1,none⟩ v1)).trans (aJ.setCell _ ⟨b,2,none⟩ v2)).trans (aJ.setCell _ ⟨b,3,none⟩ v3)).trans (aJ.setCell _ ⟨b,4,none⟩ v4)).trans (aJ.setCell _ ⟨b,5,none⟩ v5)) (by simp [World.setCell])
  (aG (aG (aG (aG (aG (aG hb 0 v0) 1 v1) 2 v2) 3 v3) 4 v4) 5 v5))
theorem rH(s t:RH)(a b:Rat)(w:World)(hs:aO w s a)(ht:aO w t b):au 253 [IvV (s,t)] w PT (fun x w'=>aO w' x.1 (loV a b)∧aO w' x.2 (hiV a b)):=by
 have HX:=Hi (Ext.refl w);have HS:=Hi hs;have HT:=Hi ht;clear hs ht;unfold au;go_enter Tryz.func253,Tryz.ntmps253;obtain ⟨sn,sa,sl,sc,sb,sm,sd⟩:=s;obtain ⟨tn,ta,tl,tc,tb,tm,td⟩:=t
 go_upto_region 1 with fail
 refine vz ?_;intro w1 hE B1 B2 B3 hz_w1 hr_w1;refine mV3 hE ?_ HX HS HT;clear HX HS HT;intro HX HS HT;have hs_w1:=hE.size;clear hE;replace b_B1:=Front.b3 B1;replace b_B2:=Front.b3 B2;replace b_B3:=Front.b3 B3
 go_wp2_with fail
 refine cM (lI ⟨sn,sa,sl,sc,sb,sm,sd⟩ ⟨tn,ta,tl,tc,tb,tm,td⟩ a b _ HS.out HT.out) fun x8 w8 hE _=>?_
 revert B1 B2 B3 HX HS HT;refine mV6 hE ?_;intro B1 B2 B3 HX HS HT
 have hs_w8:=hE.size;clear hE;replace b_B1:=Front.b3 B1;replace b_B2:=Front.b3 B2;replace b_B3:=Front.b3 B3;by_cases h:b<a
 ·have hlo:Hid (loV a b=b∧hiV a b=a):=Hi ⟨if_pos h,if_pos h⟩;rw [oN h];clear h
  go_upto_region 2 with fail
  go_region
  refine s5 B2.out rfl B3.out rfl (by omega) ?_;intro y3 y4 y5 T3 T4 E5;have HY:Hid (Ext w y5):=Hi ((T4.ext (T3.ext HX.out (by omega)) (by omega)).trans E5);have HS5:=Hi (((HS.out.keep T3.keep).keep T4.keep).ext E5);have HT5:=Hi (((HT.out.keep T3.keep).keep T4.keep).ext E5);have C2:=Hi (E5.block (T4.rest _ _ (by omega) T3.bx));have C3:=Hi (E5.block T4.bx);have c_C2:=ae C2.out;have c_C3:=ae C3.out;clear T3 T4 E5 b_B1 b_B2 b_B3;go_wp2;exact bodyPost_ret (v:=PT (⟨tn,ta,tl,tc,tb,tm,td⟩,⟨sn,sa,sl,sc,sb,sm,sd⟩)) (by simp [results,Tryz.results253,go_sem,PT,c_C2,c_C3]) rfl
   ⟨(⟨tn,ta,tl,tc,tb,tm,td⟩,⟨sn,sa,sl,sc,sb,sm,sd⟩),rfl,HY.out,by rw [hlo.out.1];exact HT5.out,by rw [hlo.out.2];exact HS5.out⟩
 ·have hlo:Hid (loV a b=a∧hiV a b=b):=Hi ⟨if_neg h,if_neg h⟩;have hc:=oM h;obtain ⟨c,e⟩:∃ c,c=dM a b:=⟨_,rfl⟩;rw [←e] at hc ⊢;have hc2:¬ 0<c:=by omega
  clear h e
  go_upto_region 3 with fail
  go_region
  refine s5 B2.out rfl B3.out rfl (by omega) ?_;intro y3 y4 y5 T3 T4 E5;have HY:Hid (Ext w y5):=Hi ((T4.ext (T3.ext HX.out (by omega)) (by omega)).trans E5);have HS5:=Hi (((HS.out.keep T3.keep).keep T4.keep).ext E5);have HT5:=Hi (((HT.out.keep T3.keep).keep T4.keep).ext E5);have C2:=Hi (E5.block (T4.rest _ _ (by omega) T3.bx));have C3:=Hi (E5.block T4.bx);have c_C2:=ae C2.out;have c_C3:=ae C3.out;clear T3 T4 E5 b_B1 b_B2 b_B3;go_wp2;exact bodyPost_ret (v:=PT (⟨sn,sa,sl,sc,sb,sm,sd⟩,⟨tn,ta,tl,tc,tb,tm,td⟩)) (by simp [results,Tryz.results253,go_sem,PT,c_C2,c_C3]) rfl
   ⟨(⟨sn,sa,sl,sc,sb,sm,sd⟩,⟨tn,ta,tl,tc,tb,tm,td⟩),rfl,HY.out,by rw [hlo.out.1];exact HS5.out,by rw [hlo.out.2];exact HT5.out⟩
theorem kX(s t:RH)(a b:Rat)(w:World)(hs:aO w s a)(ht:aO w t b):au 171 [s.v,t.v] w IvV (fun x w'=>aw w' x.1 (loV a b)∧aw w' x.2 (hiV a b)):=by
 have HX:=Hi (Ext.refl w);have HS:=Hi hs;have HT:=Hi ht;clear hs ht;unfold au;go_enter Tryz.func171,Tryz.ntmps171;obtain ⟨sn,sa,sl,sc,sb,sm,sd⟩:=s;obtain ⟨tn,ta,tl,tc,tb,tm,td⟩:=t
 go_upto_region 1 with fail
 refine vz ?_;intro w1 hE B2 B3 B4 hz_w1 hr_w1;refine mV3 hE ?_ HX HS HT;clear HX HS HT;intro HX HS HT;have hs_w1:=hE.size;clear hE;replace b_B2:=Front.b3 B2;replace b_B3:=Front.b3 B3;replace b_B4:=Front.b3 B4
 go_wp2_with fail
 refine cM (rH ⟨sn,sa,sl,sc,sb,sm,sd⟩ ⟨tn,ta,tl,tc,tb,tm,td⟩ a b _ HS.out HT.out) fun x7 w7 hE G7=>?_
 revert B2 B3 B4 HX HS HT;refine mV6 hE ?_;intro B2 B3 B4 HX HS HT
 have hs_w7:=hE.size;clear hE;replace b_B2:=Front.b3 B2;replace b_B3:=Front.b3 B3;replace b_B4:=Front.b3 B4;obtain ⟨⟨ln,la,ll,lc,lb,lm,ld⟩,⟨hn,ha,hl,hc,hb,hm,hd⟩⟩:=x7;have HL:=Hi G7.out.1;have HH:=Hi G7.out.2;clear G7
 (try clear b_B2);clear B2
 (try clear b_B3);clear B3
 clear HS;clear HT
 go_upto_region 2 with fail
 refine iK ?_;intro w8 hE B5 B6 hz_w8 hr_w8;refine mV4 hE ?_ B4 HX HL HH;clear B4 HX HL HH;intro B4 HX HL HH;have hs_w8:=hE.size;clear hE;replace b_B4:=Front.b3 B4;replace b_B5:=Front.b3 B5;replace b_B6:=Front.b3 B6;refine wpG 5 (fun opIx=>match opIx with
  | 1=>.spec RH default RH.v (fun s w'=>aw w' s (loV a b))
  | 3=>.spec RH default RH.v (fun s w'=>aw w' s (hiV a b))
  | _=>.quiet) (fun _=>[]) fun w0 he0 hz0 hc0 hf0=>?_
 refine wps he0.out rfl rfl (fun w1 hW hG=>?_) fun x20=>?_
 ·exact spc [RH.v ⟨ln,la,ll,lc,lb,lm,ld⟩] Tryz.func127 (ik _ _ _ (HL.out.ext hW))
 refine qZ ?_;refine wps he0.out rfl rfl (fun w1 hW hG=>?_) fun x21=>?_
 ·exact spc [RH.v ⟨hn,ha,hl,hc,hb,hm,hd⟩] Tryz.func127 (ik _ _ _ (HH.out.ext hW))
 refine qZ ?_;refine wpF_nil ?_;intro w9 hI;have hE:=he0.out.trans hI.ext;have G20:=gT (hI.facts 1);have G21:=gT (hI.facts 3);clear hI he0 hz0 hc0 hf0
 revert B5 B6 B4 HX HL HH;refine mV6 hE ?_;intro B5 B6 B4 HX HL HH
 have hs_w9:=hE.size;clear hE;replace b_B4:=Front.b3 B4;replace b_B5:=Front.b3 B5;replace b_B6:=Front.b3 B6;simp only [pD];go_wp2;refine bK (F:=fun W=>bodyPost _ _ _ _ _ W) B4.out rfl ?_;intro w10 T;replace HX:=Hi (T.ext HX.out (by omega));replace B4:=Hi (T.bx);replace HL:=Hi (HL.out.keep T.keep);replace HH:=Hi (HH.out.keep T.keep);replace B5:=Hi (T.rest _ _ (by omega) B5.out);replace B6:=Hi (T.rest _ _ (by omega) B6.out);replace G20:=Hi (G20.out.keep T.keep);replace G21:=Hi (G21.out.keep T.keep);have hs_w10:=nle T.size;have hr_w10:=nle T.size.symm;clear T;replace b_B4:=Front.b3 B4;replace b_B5:=Front.b3 B5;replace b_B6:=Front.b3 B6;exact bodyPost_ret (v:=IvV (x20,x21)) (by simp [results,Tryz.results171,go_sem,b_B4.1]) rfl ⟨(x20,x21),rfl,HX.out,G20.out,G21.out⟩
theorem eU(s t:RH)(a b:Rat)(w:World)(hs:aO w s a)(ht:aO w t b):au 107 [IvV (s,t)] w IvV (fun x w'=>aw w' x.1 (loV a b)∧aw w' x.2 (hiV a b)):=by
 have HX:=Hi (Ext.refl w);have HS:=Hi hs;have HT:=Hi ht;clear hs ht;unfold au;go_enter Tryz.func107,Tryz.ntmps107;obtain ⟨sn,sa,sl,sc,sb,sm,sd⟩:=s;obtain ⟨tn,ta,tl,tc,tb,tm,td⟩:=t
 go_upto_region 1 with fail
 refine iK ?_;intro w1 hE B1 B2 hz_w1 hr_w1;refine mV3 hE ?_ HX HS HT;clear HX HS HT;intro HX HS HT;have hs_w1:=hE.size;clear hE;replace b_B1:=Front.b3 B1;replace b_B2:=Front.b3 B2
 go_wp2_with fail
 refine cM (kX ⟨sn,sa,sl,sc,sb,sm,sd⟩ ⟨tn,ta,tl,tc,tb,tm,td⟩ a b _ HS.out HT.out) fun x7 w7 hE G7=>?_
 revert B1 B2 HX HS HT;refine mV5 hE ?_;intro B1 B2 HX HS HT
 have hs_w7:=hE.size;clear hE;replace b_B1:=Front.b3 B1;replace b_B2:=Front.b3 B2;have HL:=Hi G7.out.1;have HH:=Hi G7.out.2;clear G7;go_wp2;refine bK (F:=fun W=>bodyPost _ _ _ _ _ W) B2.out rfl ?_;intro w10 T;replace HX:=Hi (T.ext HX.out (by omega));replace HS:=Hi (HS.out.keep T.keep);replace HT:=Hi (HT.out.keep T.keep);replace B1:=Hi (T.rest _ _ (by omega) B1.out);replace B2:=Hi (T.bx);replace HL:=Hi (HL.out.keep T.keep);replace HH:=Hi (HH.out.keep T.keep);have hs_w10:=nle T.size;have hr_w10:=nle T.size.symm;clear T;replace b_B1:=Front.b3 B1;replace b_B2:=Front.b3 B2;exact bodyPost_ret (v:=IvV x7) (by simp [results,Tryz.results107,go_sem,b_B2.1]) rfl ⟨x7,rfl,HX.out,HL.out,HH.out⟩
end Go.Proofs.YtofhkmcllihgmaaGreat
/- What package bernstein and its reference compute. Plain facts. -/
set_option linter.unusedVariables false
namespace Go.Proofs.YtofhkmcllihgmaaGreat
open Go.RowKit Go.Front Go.Num Stab
def hq(p:List Rat)(a w:Rat):Nat→Nat→Rat
 | 0,_=>0
 | j+1,0=>hq p a w j 0*a+p.getD (p.length-1-j) 0
 | j+1,k+1=>hq p a w j (k+1)*a+hq p a w j k*w
theorem tM{p:List Rat}{a w:Rat}{j k:Nat}(h:j≤k):hq p a w j k=0:=by
 induction j generalizing k with
 | zero=>rfl
 | succ j ih =>
  obtain ⟨k,rfl⟩:∃ i,k=i+1:=⟨k-1,by omega⟩;show hq p a w j (k+1)*a+hq p a w j k*w=0;rw [ih (by omega),ih (by omega)];grind
theorem Dd{p:List Rat}{a w:Rat}{j:Nat}(h:j≤p.length)(t:Rat):evV (row j (hq p a w j)) t=evV (p.drop (p.length-j)) (a+t*w):=by
 induction j with
 | zero=>rw [Nat.sub_zero,List.drop_eq_nil_of_le (Nat.le_refl _)];rfl
 | succ j ih =>
  have ih:=ih (by omega);have e1:=Aw (p:=p) (i:=p.length-1-j) (by omega) (a+t*w);rw [show p.length-1-j+1=p.length-j by omega,←ih,show p.length-1-j=p.length-(j+1) by omega] at e1;rw [e1,xx,xx,aF,aF,dO];rw [bM _ (by omega)];show (hq p a w j 0*a+p.getD (p.length-1-j) 0)*t ^ 0+_=_;have e2:sm j (fun i=>(row (j+1) (hq p a w (j+1))).getD (i+1) 0*t ^ (i+1))=a*sm j (fun i=>hq p a w j (i+1)*t ^ (i+1))+(t*w)*sm j (fun i=>hq p a w j i*t ^ i):=by
   rw [←gx,←gx,←mC];refine sm_congr (fun i hi=>?_);rw [bM _ (by omega)];show (hq p a w j (i+1)*a+hq p a w j i*w)*t ^ (i+1)=_;rw [Rat.pow_succ];grind
  have e3:sm j (fun i=>(row j (hq p a w j)).getD i 0*t ^ i)=sm j (fun i=>hq p a w j i*t ^ i):=sm_congr (fun i hi=>by rw [bM _ hi]);have e4:sm j (fun i=>hq p a w j i*t ^ i)=hq p a w j 0*t ^ 0+sm j (fun i=>hq p a w j (i+1)*t ^ (i+1)):=by
   rw [←dO j (fun i=>hq p a w j i*t ^ i)];show _=sm j _+hq p a w j j*t ^ j;rw [tM (Nat.le_refl _)];grind
  rw [e2,e3,e4,Rat.pow_zero];rw [show p.length-1-j=p.length-(j+1) by omega];grind
def fc:Nat→Nat
 | 0=>1
 | n+1=>fc n*(n+1)
theorem uh(n:Nat):0<fc n:=by
 induction n with
 | zero=>decide
 | succ n ih=>exact Nat.mul_pos ih (Nat.succ_pos _)
theorem AQ{n k:Nat}(h:k≤n):ch n k*(fc k*fc (n-k))=fc n:=by
 induction n generalizing k with
 | zero =>
  obtain rfl:k=0:=by omega
  rfl
 | succ n ih =>
  rcases Nat.eq_zero_or_pos k with rfl|h0
  ·rw [kt,Nat.sub_zero];show 1*(1*fc (n+1))=_;omega
  ·obtain ⟨k,rfl⟩:∃ j,k=j+1:=⟨k-1,by omega⟩;show (ch n k+ch n (k+1))*(fc k*(k+1)*fc (n+1-(k+1)))=fc n*(n+1);rw [show n+1-(k+1)=n-k by omega,Nat.add_mul];have e1:=ih (k:=k) (by omega);have e3:ch n k*(fc k*(k+1)*fc (n-k))=fc n*(k+1):=by
    rw [←e1]
    ac_rfl
   rw [e3];by_cases hk:k+1≤n
   ·have e2:=ih (k:=k+1) hk;obtain ⟨m,hm⟩:∃ m,n-k=m+1:=⟨n-k-1,by omega⟩;have hm2:n-(k+1)=m:=by omega
    rw [hm2] at e2;have e4:ch n (k+1)*(fc k*(k+1)*fc (n-k))=fc n*(n-k):=by
     rw [hm,←e2];show ch n (k+1)*(fc k*(k+1)*(fc m*(m+1)))=ch n (k+1)*(fc k*(k+1)*fc m)*(m+1)
     ac_rfl
    rw [e4,←Nat.mul_add]
    congr 1
    omega
   ·rw [uR (n:=n) (k:=k+1) (by omega),Nat.zero_mul,Nat.add_zero]
    congr 1
    omega
def bcV(p:List Rat)(a w:Rat)(i:Nat):Rat:=bt (fun k=>hq p a w p.length k*((ch (p.length-1) k:Rat))⁻¹) i
theorem xU{p:List Rat}(h:p≠[])(a w t:Rat):vl (p.length-1) (bcV p a w) t=evV p (a+t*w):=by
 have hl:0<p.length:=List.length_pos_iff.2 h;show vl (p.length-1) (bt _) t=_;rw [zg,show p.length-1+1=p.length by omega];have e:=Dd (p:=p) (a:=a) (w:=w) (j:=p.length) (Nat.le_refl _) t;rw [Nat.sub_self,List.drop_zero] at e;rw [←e];refine congrArg (fun l=>evV l t) (aR (fun k hk=>?_));have h1:=Rat.mul_inv_cancel _ (wD (uQ (n:=p.length-1) (k:=k) (by omega)));rw [Rat.mul_comm (hq p a w p.length k),←Rat.mul_assoc,h1,Rat.one_mul]
theorem uZ{p:List Rat}(h:p≠[]){a w:Rat}{b:Nat→Rat}(hb:∀ t,vl (p.length-1) b t=evV p (a+t*w)):∀ i,i<p.length→b i=bcV p a w i:=by
 intro i hi;exact Be (n:=p.length-1) (fun t=>by rw [hb,xU h]) i (by omega)
theorem u6{p:List Rat}(h:p≠[])(a w:Rat):∀ i,i<p.length→lfb (bcV p a w) i=bcV p a (w*hf) i :=
 uZ h (fun t=>by rw [Bc,xU h];congr 1;grind)
theorem qJ{p:List Rat}(h:p≠[])(a w:Rat):∀ i,i<p.length→rtb (p.length-1) (bcV p a w) i=bcV p (a+w*hf) (w*hf) i :=
 uZ h (fun t=>by rw [Bb,xU h];congr 1;grind)
def bsf(m:Nat)(v:Nat→Rat)(i:Nat):Rat:=upn (min m i) 1 v (i-min m i)
theorem Bf(n:Nat)(c:Rat)(u:Nat→Rat):upn (n+1) c u=up c (upn n c u):=by
 induction n generalizing u with
 | zero=>rfl
 | succ n ih=>exact ih (up c u)
theorem qF(v:Nat→Rat)(i:Nat):bsf 0 v i=v i:=by unfold bsf;rw [Nat.zero_min];rfl
theorem mj{m:Nat}{v:Nat→Rat}{i:Nat}(h:i≤m):bsf m v i=bt v i:=by unfold bsf;rw [Nat.min_eq_right h,Nat.sub_self];rfl
theorem qH{m:Nat}{v:Nat→Rat}{i:Nat}(h:i≤m):bsf (m+1) v i=bsf m v i:=by rw [mj h,mj (by omega)]
theorem qG{m:Nat}{v:Nat→Rat}{i:Nat}(h:m<i):bsf (m+1) v i=bsf m v i+bsf m v (i-1):=by
 unfold bsf;rw [Nat.min_eq_left (show m+1≤i by omega),Nat.min_eq_left (show m≤i by omega),Nat.min_eq_left (show m≤i-1 by omega),Bf];unfold up;rw [show i-(m+1)=i-1-m by omega,show i-m=i-1-m+1 by omega];grind
def bsv(n:Nat)(c:Nat→Rat)(k:Nat):Rat:=c k*(((fc k:Nat):Rat)*((fc (n-k):Nat):Rat))
theorem Cv{n:Nat}{c q:Nat→Rat}{K:Rat}(h:∀ k,k≤n→c k=K*q k){i:Nat}(hi:i≤n):bt (bsv n c) i=K*(fc n:Rat)*bt (fun k=>q k*((ch n k:Rat))⁻¹) i:=by
 rw [uU,uU,←gx];refine sm_congr (fun k hk=>?_);unfold bsv;rw [h k (by omega),←AQ (n:=n) (k:=k) (by omega),Rat.natCast_mul,Rat.natCast_mul];have h1:=Rat.mul_inv_cancel _ (wD (uQ (n:=n) (k:=k) (by omega)));have e:((ch n k:Nat):Rat)*(((fc k:Nat):Rat)*((fc (n-k):Nat):Rat))*(q k*((ch n k:Nat):Rat)⁻¹)=(((ch n k:Nat):Rat)*((ch n k:Nat):Rat)⁻¹)*(q k*(((fc k:Nat):Rat)*((fc (n-k):Nat):Rat))):=by grind
 rw [show K*(((ch n k:Nat):Rat)*(((fc k:Nat):Rat)*((fc (n-k):Nat):Rat)))*(((ch i k:Nat):Rat)*(q k*((ch n k:Nat):Rat)⁻¹))=K*((ch i k:Nat):Rat)*(((ch n k:Nat):Rat)*(((fc k:Nat):Rat)*((fc (n-k):Nat):Rat))*(q k*((ch n k:Nat):Rat)⁻¹)) by grind,e,h1];grind
def hc(p:List Rat)(a w F G:Rat)(j k:Nat):Rat:=F*G ^ (j-1)*hq p a w j k
theorem tP(p:List Rat)(a w F G:Rat)(k:Nat):hc p a w F G 0 k=0:=by unfold hc;show _*(0:Rat)=0;grind
theorem tQ{p:List Rat}{a w F G:Rat}{j k:Nat}(h:j≤k):hc p a w F G j k=0:=by unfold hc;rw [tM h];grind
theorem qh(p:List Rat)(a w F G:Rat)(j:Nat):hc p a w F G (j+1) 0=hc p a w F G j 0*(a*G)+p.getD (p.length-1-j) 0*F*G ^ j:=by
 unfold hc;rw [Nat.add_sub_cancel];show F*G ^ j*(hq p a w j 0*a+p.getD (p.length-1-j) 0)=_;rcases Nat.eq_zero_or_pos j with rfl|h0
 ·show F*G ^ 0*((0:Rat)*a+_)=_*(0:Rat)*_+_;grind
 ·obtain ⟨j,rfl⟩:∃ i,j=i+1:=⟨j-1,by omega⟩;rw [Nat.add_sub_cancel,Rat.pow_succ];grind
theorem tR(p:List Rat)(a w F G:Rat)(j k:Nat):hc p a w F G (j+1) (k+1)=hc p a w F G j (k+1)*(a*G)+hc p a w F G j k*(w*G):=by
 unfold hc;rw [Nat.add_sub_cancel];show F*G ^ j*(hq p a w j (k+1)*a+hq p a w j k*w)=_;rcases Nat.eq_zero_or_pos j with rfl|h0
 ·show F*G ^ 0*((0:Rat)*a+(0:Rat)*w)=_*(0:Rat)*_+_*(0:Rat)*_;grind
 ·obtain ⟨j,rfl⟩:∃ i,j=i+1:=⟨j-1,by omega⟩;rw [Nat.add_sub_cancel,Rat.pow_succ];grind
def grV(a b:Rat):Rat:=fu [a,(b-a).abs]
def lcK(p:List Rat)(a b:Rat):Rat:=fu p*grV a b ^ (p.length-1)*(fc (p.length-1):Rat)
def lcW(p:List Rat)(a b:Rat):List Rat:=row p.length (bt (bsv (p.length-1) (hc p a (b-a) (fu p) (grV a b) p.length)))
theorem C8{p:List Rat}{a b:Rat}:lcW p a b=row p.length (fun i=>lcK p a b*bcV p a (b-a) i):=by
 unfold lcW;refine aR (fun i hi=>?_);rw [Cv (n:=p.length-1) (c:=hc p a (b-a) (fu p) (grV a b) p.length) (K:=fu p*grV a b ^ (p.length-1)) (q:=hq p a (b-a) p.length) (fun k _=>rfl) (by omega)];rfl
theorem yT(l:List Rat):Wh (fu l)∧∀ x ∈ l,Wh (fu l*x):=by
 induction l using snoc_ind with
 | h0=>exact ⟨rfl,fun x hx=>by simp at hx⟩
 | h1 l r ih =>
  rw [iz];unfold A3;refine ⟨ih.1.mul (Wh.int _),fun x hx=>?_⟩;rcases List.mem_append.1 hx with h|h
  ·rw [show fu l*(((fu l*r).den:Int):Rat)*x=(fu l*x)*(((fu l*r).den:Int):Rat) by grind];exact (ih.2 x h).mul (Wh.int _)
  ·rw [List.mem_singleton.1 h,show fu l*(((fu l*r).den:Int):Rat)*r=(fu l*r)*(((fu l*r).den:Nat):Rat) by
    rw [show (((fu l*r).den:Int):Rat)=(((fu l*r).den:Nat):Rat) from rfl];grind,low]
   exact Wh.int _
theorem qA(l:List Rat):0<fu l:=by
 induction l using snoc_ind with
 | h0=>decide
 | h1 l r ih =>
  rw [iz];unfold A3;refine Rat.mul_pos ih ?_;have:=(fu l*r).den_pos
  exact_mod_cast this
theorem pI{G:Rat}(h:0<G)(n:Nat):0<G ^ n:=by
 induction n with
 | zero=>rw [Rat.pow_zero];decide
 | succ n ih=>rw [Rat.pow_succ];exact Rat.mul_pos ih h
theorem wE{n:Nat}(h:0<n):0<(n:Rat):=by exact_mod_cast h
theorem oy(p:List Rat)(a b:Rat):0<lcK p a b:=Rat.mul_pos (Rat.mul_pos (qA _) (pI (qA _) _)) (wE (uh _))
theorem Wz.of{S:Nat}{q:Rat}(h:Wh q)(k:Sz S q):Wz S q:=⟨h,k.1⟩
theorem Wz.pow{S:Nat}{G:Rat}(h:Wz S G)(n:Nat):Wz (1+n*S) (G ^ n):=by
 induction n with
 | zero=>rw [Rat.pow_zero];exact Wz.one.mono (by omega)
 | succ n ih=>rw [Rat.pow_succ,Nat.succ_mul];exact (ih.mul h).mono (by omega)
theorem Df{p:List Rat}{a w F G:Rat}{U V:Nat}(ha:Wz V (a*G))(hw:Wz V (w*G))(hp:∀ j k,j<p.length→Wz U (p.getD k 0*F*G ^ j))(j:Nat)(hj:j≤p.length):∀ k,Wz (U+j*(V+1)) (hc p a w F G j k):=by
 induction j with
 | zero=>intro k;rw [tP];exact Wz.zero _
 | succ j ih =>
  have ih:=ih (by omega);have hU:U≤U+j*(V+1):=by omega
  intro k;rcases Nat.eq_zero_or_pos k with rfl|h0
  ·rw [qh,Nat.succ_mul];exact (((ih 0).mul ha).add ((hp j _ (by omega)).mono (by omega))).mono (by omega)
  ·obtain ⟨k,rfl⟩:∃ i,k=i+1:=⟨k-1,by omega⟩;rw [tR,Nat.succ_mul];exact (((ih (k+1)).mul ha).add ((ih k).mul hw)).mono (by omega)
theorem Dh:∀ n:Nat,n≤8→fc n<W32:=by decide
theorem oE{n:Nat}(h:n≤8):Wz 1 ((fc n:Nat):Rat):=Wz.int (z:=(fc n:Int)) (by rw [Int.natAbs_natCast,Nat.pow_one];exact Dh n h)
theorem yX{n S:Nat}{c:Nat→Rat}(hn:n≤8)(h:∀ k,Wz S (c k))(m:Nat):∀ i,i≤n→Wz (S+2+m) (bsf m (bsv n c) i):=by
 induction m with
 | zero =>
  intro i hi;rw [qF];unfold bsv;exact ((h i).mul ((oE (by omega)).mul (oE (by omega)))).mono (by omega)
 | succ m ih =>
  intro i hi;by_cases hm:i≤m
  ·rw [qH hm];exact (ih i hi).mono (by omega)
  ·rw [qG (by omega)];exact ((ih i hi).add (ih (i-1) (by omega))).mono (by omega)
def suf(n:Nat)(c:Nat→Rat)(j i:Nat):Rat:=(2:Rat) ^ (min j (n-i))*csn (min j (n-i)) hf c i
theorem pi(n:Nat)(c:Nat→Rat)(i:Nat):suf n c 0 i=c i:=by
 unfold suf;rw [Nat.zero_min,Rat.pow_zero];show 1*c i=c i;grind
theorem po{n j i:Nat}{c:Nat→Rat}(h:n-j≤i):suf n c (j+1) i=suf n c j i:=by
 unfold suf;rw [Nat.min_eq_right (show n-i≤j+1 by omega),Nat.min_eq_right (show n-i≤j by omega)]
theorem pj{n j i:Nat}{c:Nat→Rat}(h:i<n-j):suf n c (j+1) i=suf n c j i+suf n c j (i+1):=by
 unfold suf;rw [Nat.min_eq_left (show j+1≤n-i by omega),Nat.min_eq_left (show j≤n-i by omega),Nat.min_eq_left (show j≤n-(i+1) by omega),xI,Rat.pow_succ];unfold cs;have:=hf2;grind
theorem pJ(a b:Nat):(2:Rat) ^ a*(2:Rat) ^ b=(2:Rat) ^ (a+b):=by
 induction b with
 | zero=>rw [Rat.pow_zero,Nat.add_zero];grind
 | succ b ih=>rw [←Nat.add_assoc,Rat.pow_succ,Rat.pow_succ,←ih];grind
theorem pk{n j:Nat}{c:Nat→Rat}(h:j≤n):suf n c j 0*(2:Rat) ^ (n-j)=(2:Rat) ^ n*lfb c j:=by
 unfold suf lfb;rw [Nat.min_eq_left (show j≤n-0 by omega),show (2:Rat) ^ n=(2:Rat) ^ (j+(n-j)) by rw [show j+(n-j)=n by omega],←pJ];grind
theorem mA{n j:Nat}{c:Nat→Rat}(h:j≤n):suf n c j (n-j)*(2:Rat) ^ (n-j)=(2:Rat) ^ n*rtb n c (n-j):=by
 unfold suf rtb;rw [show n-(n-j)=j by omega,Nat.min_self,show (2:Rat) ^ n=(2:Rat) ^ (j+(n-j)) by rw [show j+(n-j)=n by omega],←pJ];grind
theorem pg{k:Nat}(h:k≤8):Wz 1 ((2:Rat) ^ k):=by
 have:∀ k:Nat,k≤8→((2:Rat) ^ k).den=1∧((2:Rat) ^ k).num.natAbs<W32:=by decide +kernel
 exact ⟨(this k h).1,by rw [Nat.pow_one];exact (this k h).2⟩
theorem yi{n S:Nat}{c:Nat→Rat}(h:∀ k,k≤n→Wz S (c k))(j:Nat):∀ i,i≤n→Wz (S+j) (suf n c j i):=by
 induction j with
 | zero=>intro i hi;rw [pi];exact h i hi
 | succ j ih =>
  intro i hi;by_cases hj:n-j≤i
  ·rw [po hj];exact (ih i hi).mono (by omega)
  ·rw [pj (by omega)];exact ((ih i hi).add (ih (i+1) (by omega))).mono (by omega)
def hlL(l:List Rat):List Rat:=row l.length (fun j=>(2:Rat) ^ (l.length-1)*lfb (fun i=>l.getD i 0) j)
def hlR(l:List Rat):List Rat:=row l.length (fun j=>(2:Rat) ^ (l.length-1)*rtb (l.length-1) (fun i=>l.getD i 0) j)
theorem De{l:List Rat}{S:Nat}(hl:l.length≤9)(h:∀ x ∈ l,Wz S x):(∀ x ∈ hlL l,Wz (S+9) x)∧(∀ x ∈ hlR l,Wz (S+9) x):=by
 have hc:∀ k,k≤l.length-1→Wz S (l.getD k 0):=fun k hk=>by
  by_cases h2:k<l.length
  ·rw [List.getD_eq_getElem?_getD,List.getElem?_eq_getElem h2];exact h _ (List.getElem_mem h2)
  ·rw [bs (by omega)];exact Wz.zero _
 have h1:=yi (c:=fun i=>l.getD i 0) hc;constructor
 ·intro x hx;obtain ⟨j,hj,rfl⟩:=List.mem_map.1 hx;have hj:=List.mem_range.1 hj;rw [←pk (by omega)];exact ((h1 j 0 (by omega)).mul (pg (k:=l.length-1-j) (by omega))).mono (by omega)
 ·intro x hx;obtain ⟨i,hi,rfl⟩:=List.mem_map.1 hx;have hi:=List.mem_range.1 hi;have e:=mA (n:=l.length-1) (j:=l.length-1-i) (c:=fun i=>l.getD i 0) (by omega);rw [show l.length-1-(l.length-1-i)=i by omega] at e;rw [←e];exact ((h1 (l.length-1-i) i (by omega)).mul (pg (k:=i) (by omega))).mono (by omega)
def gR(l:List Rat):Bool:=l.all (fun x=>decide (0<x))
def mdV(a b:Rat):Rat:=(a+b)*(((1:Int):Rat) / ((2:Int):Rat))
def cvV:Nat→Rat→Rat→List Rat→Option (List Rat)
 | 0,lo,hi,l=>if gR l then some [loV lo hi,hiV lo hi] else none
 | d+1,lo,hi,l=>if gR l then some [loV lo hi,hiV lo hi] else
  if gR [l.getD 0 0,l.getD (l.length-1) 0] then
   match cvV d lo (mdV lo hi) (hlL l) with
   | none=>none
   | some x=>match cvV d (mdV lo hi) hi (hlR l) with
    | none=>none
    | some y=>some (x++y)
  else none
end Go.Proofs.YtofhkmcllihgmaaGreat
/- Frac -/
set_option linter.unusedVariables false
namespace Go.Proofs.YtofhkmcllihgmaaGreat
open Go.RowKit Go.Front Go.Num
attribute [local go_sem] XW.cell XW.frozen
theorem Ar(a b:Int):(a:Rat) / (b:Rat)=mkRat (sg (decide (a<0) != decide (b<0)) a.natAbs) b.natAbs:=by
 by_cases h:b<0
 ·have h1:sg (decide (a<0) != decide (b<0)) a.natAbs=-a:=by
   rw [decide_eq_true h];unfold sg;by_cases ha:a<0
   ·rw [decide_eq_true ha];simp;omega
   ·rw [decide_eq_false ha];simp;omega
  have h2:((b.natAbs:Nat):Int)=-b:=by omega
  rw [h1,Rat.mkRat_eq_div];rw [show ((b.natAbs:Nat):Rat)=(((b.natAbs:Nat):Int):Rat) from rfl,h2,Rat.intCast_neg,Rat.intCast_neg,Rat.div_def,Rat.div_def];have hb:(b:Rat)≠0:=by intro h0;have:=Rat.intCast_eq_zero_iff.1 h0;omega
  have hb2:-(b:Rat)≠0:=by intro h0;apply hb;grind
  have p1:=Rat.mul_inv_cancel _ hb;have p2:=Rat.mul_inv_cancel _ hb2;grind
 ·have h1:sg (decide (a<0) != decide (b<0)) a.natAbs=a:=by
   rw [decide_eq_false h];unfold sg;by_cases ha:a<0
   ·rw [decide_eq_true ha];simp;omega
   ·rw [decide_eq_false ha];simp;omega
  have h2:((b.natAbs:Nat):Int)=b:=by omega
  rw [h1,Rat.mkRat_eq_div];rw [show ((b.natAbs:Nat):Rat)=(((b.natAbs:Nat):Int):Rat) from rfl,h2]
set_option maxRecDepth 4000 in
set_option maxHeartbeats 1000000 in
theorem sL(n d:Int)(w:World)(h1:-9223372036854775808≤n)(h2:n≤9223372036854775807)(k1:-9223372036854775808≤d)(k2:d≤9223372036854775807)(hd:d≠0):au 155 [.int .i64 n,.int .i64 d] w RH.v (fun r w'=>aw w' r ((n:Rat) / (d:Rat))):=by
 have hdb:(d == 0)=false:=by simpa using hd
 have HQ:=Hi (Ar n d);have HD:Hid (d.natAbs≠0):=Hi (by omega);have HN1:Hid (n.natAbs<W32 ^ 2):=Hi (by unfold W32;omega);have HD1:Hid (d.natAbs<W32 ^ 2):=Hi (by unfold W32;omega);unfold au;go_enter Tryz.func155,Tryz.ntmps155
 go_wp2_with fail
 refine cM (oA n _ h1 h2) fun x1 w1 hE G1=>?_
 obtain ⟨hcw,hfw⟩:=ak hE;have hsw:=hE.size
 (try simp only [World.size_alloc] at hsw)
 have hs0:w.heap.size<w1.heap.size:=by omega
 have hB:=hE.block (heap_alloc_new _ _);have HB:Hid (w1.heap[w.heap.size]?=some _):=Hi hB;clear hB;have E1:=Hi ((Ext.al1).trans hE);have X1:=Hi hE;clear hE
 go_wp2_with fail
 refine cM (oA d _ k1 k2) fun x2 w2 hE G2=>?_
 obtain ⟨hcw,hfw⟩:=ak hE;have hsw:=hE.size
 (try simp only [World.size_alloc] at hsw)
 have hs0:w.heap.size<w2.heap.size:=by omega
 replace HB:=hE.bl HB;have cR:=ae HB.out;have fR:=af HB.out;have E2:=Hi ((E1.out).trans hE);have X2:=Hi hE;clear hE
 go_wp2_with fail
 refine cM (i9 x1 x2 _) fun x3 w3 hE G3=>?_
 obtain ⟨hcw,hfw⟩:=ak hE;have hsw:=hE.size
 (try simp only [World.size_alloc] at hsw)
 have hs0:w.heap.size<w3.heap.size:=by omega
 replace HB:=hE.bl HB;have cR:=ae HB.out;have fR:=af HB.out;have E3:=Hi ((E2.out).trans hE);have X3:=Hi hE;clear hE;have RP:Hid (vh w3 ⟨x1.neg != x2.neg,x1.a,x1.n,x1.c,x2.a,x2.n,x2.c⟩ ((n:Rat) / (d:Rat))):=Hi (by
  have a1:=(G1.out.ext X2.out).ext X3.out;have a2:=G2.out.ext X3.out;refine ⟨_,_,a1.2,a2.2,?_,?_,?_,?_⟩
  ·rw [ag,ag,a1.1,a2.1];exact HQ.out
  ·rw [ag];exact HD.out
  ·exact U32.nle a1.2 HN1.out (by decide)
  ·exact U32.nle a2.2 HD1.out (by decide))
 go_wp2_with fail
 refine cM (dX ⟨x1.neg != x2.neg,x1.a,x1.n,x1.c,x2.a,x2.n,x2.c⟩ _ _ RP.out) fun x4 w4 hE G4=>?_
 obtain ⟨hcw,hfw⟩:=ak hE;have hsw:=hE.size
 (try simp only [World.size_alloc] at hsw)
 have hs0:w.heap.size<w4.heap.size:=by omega
 replace HB:=hE.bl HB;have cR:=ae HB.out;have fR:=af HB.out;have E4:=Hi ((E3.out).trans hE);have X4:=Hi hE;clear hE;have HX:=E4;go_wp2;have hF:=((((Fin.start (L:=w.heap.size) HX.out (ai HB.out rfl)).set (by omega) (i:=0) (v:=.bool x4.neg) rfl).set (by omega) (i:=1) (v:=.slice x4.a x4.n x4.c) rfl).set (by omega) (i:=2) (v:=.slice x4.b x4.m x4.d) rfl);exact bodyPost_ret (v:=x4.v) (by simp [results,Tryz.results155,go_sem,ae HB.out]) rfl ⟨x4,rfl,hF.ext,G4.out.keep hF.keep⟩
end Go.Proofs.YtofhkmcllihgmaaGreat
/- Package bernstein: denominator, common, positive; interval.Width, Mid. -/
set_option linter.unusedVariables false
set_option maxRecDepth 8000
set_option maxHeartbeats 4000000
namespace Go.Proofs.YtofhkmcllihgmaaGreat
open Go.RowKit Go.Front Go.Num Stab
attribute [local go_sem] XW.cell XW.frozen
theorem xT(t:RH)(q:Rat)(w:World)(h:aw w t q):au 263 [t.v] w RH.v (fun x w'=>aw w' x ((q.den:Int):Rat)):=by
 obtain ⟨neg,a,n,c,b,m,d⟩:=t;have H:=Hi h;have HX:=Hi (Ext.refl w);clear h;unfold au;go_enter Tryz.func263,Tryz.ntmps263
 go_upto_region 1 with fail
 refine iK ?_;intro w1 hE B1 B2 hz_w1 hr_w1
 revert H HX;refine mV2 hE ?_;intro H HX
 have hs_w1:=hE.size;clear hE;replace b_B1:=Front.b3 B1;replace b_B2:=Front.b3 B2;go_wp2;refine aI (F:=fun W=>bodyPost _ _ _ _ _ (W.alloc _)) B2.out rfl ?_;intro w2 T;have hz2:=T.size;replace HX:=Hi (T.ext HX.out (by omega));replace H:=Hi (H.out.keep T.keep);replace B1:=Hi (T.rest _ _ (by omega) B1.out);replace B2:=Hi (T.bx);have hs_w2:=nle T.size;have hr_w2:=nle T.size.symm;clear T;replace b_B1:=Front.b3 B1;replace b_B2:=Front.b3 B2;rw [←hz2];clear hz2;refine pO ?_;intro w3 hE hB0 hz;clear hz;have HO:=Hi (v7 hB0);clear hB0
 revert HX H B1 B2;refine mV4 hE ?_;intro HX H B1 B2
 have hs_w3:=hE.size;clear hE;replace b_B1:=Front.b3 B1;replace b_B2:=Front.b3 B2;exact bodyPost_ret (v:=RH.v ⟨false,b,m,d,some ⟨w2.heap.size,0,none⟩,1,1⟩) (by simp [results,Tryz.results263,go_sem,ae B2.out]) rfl
  ⟨⟨false,b,m,d,some ⟨w2.heap.size,0,none⟩,1,1⟩,rfl,HX.out,
   ⟨by rw [Rat.num_intCast];exact (decide_eq_false (by omega)).symm,by rw [Rat.num_intCast];exact H.out.2.2,by rw [Rat.den_intCast];exact HO.out⟩⟩
theorem kv(ao:Option Addr)(n cap:Nat)(l:List Rat)(s:Nat)(w:World)(h:ce w ⟨ao,n,cap⟩ l)(hn:n≤1000)(hz:SzL s l)(hs:s≤1000) :
  au 203 [.slice ao n cap] w RH.v (fun x w'=>aw w' x (fu l)):=by
 have H:=Hi h;have HX:=Hi (Ext.refl w);have hle:=h.le;have hmx:=h.max;have Hlen:=Hi h.len;simp only at hle hmx Hlen;have HZ:=Hi hz;have hns:n*s≤1000*1000:=Nat.mul_le_mul hn hs;have HS:Hid (∀ j,j≤n→Sz 4194304 (fu (l.take j))):=Hi (fun j hj=>(uK hz j (by rw [Hlen.out];exact hj)).mono (Nat.le_trans (AR hj) (by unfold cg;omega)));clear h hz;unfold au;go_enter Tryz.func203,Tryz.ntmps203
 go_upto_region 1 with fail
 refine nmA ?_;intro w1 hE B2 hz_w1 hr_w1;replace HX:=hE.tr HX;have hs_w1:=hE.size;clear hE;replace b_B2:=Front.b3 B2
 go_wp2_with fail
 refine cM (fL 1 _ (by decide) (by decide)) fun x2 w2 hE G2=>?_
 revert B2 HX;refine mV2 hE ?_;intro B2 HX
 have hs_w2:=hE.size;clear hE;replace b_B2:=Front.b3 B2
 go_upto_region 2 with fail
 refine nmA ?_;intro y3 hE B3 hz_y3 hr_y3
 revert G2 B2 HX;refine mV3 hE ?_;intro G2 B2 HX
 have hs_y3:=hE.size;clear hE;replace b_B2:=Front.b3 B2;replace b_B3:=Front.b3 B3;obtain ⟨b2,hb2⟩:∃ b2,b2=w.heap.size:=⟨_,rfl⟩;obtain ⟨b3,hb3⟩:∃ b3,b3=w2.heap.size:=⟨_,rfl⟩;have hw2:w.heap.size≤b2:=by omega
 have hw3:w.heap.size≤b3:=by omega
 have hne:b2≠b3:=by omega
 rw [←hb2] at B2 ⊢;rw [←hb3] at B3 ⊢;clear hb2 hb3 b_B2 b_B3;go_wp2
 go_loopg [9] n (fun g i wr=>∃ (j:Nat) (x:RH),j+g=n∧i=.int .i64 (j:Nat)∧Ext w wr∧wr.heap[b2]?=some (.cells #[.bool false,.slice none 0 0,.slice none 0 0] 30 (0,0))∧wr.heap[b3]?=some (.cells #[.bool x.neg,.slice x.a x.n x.c,.slice x.b x.m x.d] 30 (0,0))∧aw wr x (fu (l.take j)))
 case atStart=>exact ⟨0,x2,by omega,rfl,HX.out,B2.out,B3.out,G2.out⟩
 case round =>
  obtain ⟨j,x,hj,rfl,g1,g2,g3,g4⟩:=hrel;clear HX B2 B3 G2;have HX:=Hi g1;have B2:=Hi g2;have B3:=Hi g3;have GM:=Hi g4;clear g1 g2 g3 g4;replace b_B2:=Front.b3 B2;replace b_B3:=Front.b3 B3;have hb2r:=b_B2.2.2;have hb3r:=b_B3.2.2;by_cases h0:gk=0
  ·subst h0;obtain rfl:j=n:=by omega
   have HE:Hid (l.take j=l):=Hi (List.take_of_length_le (by rw [Hlen.out];exact Nat.le_refl _));rw [HE.out] at GM;go_wp2;have hF:=((((Fin.start (L:=b2) HX.out (ai B2.out rfl)).set (by omega) (i:=0) (v:=.bool x.neg) rfl).set (by omega) (i:=1) (v:=.slice x.a x.n x.c) rfl).set (by omega) (i:=2) (v:=.slice x.b x.m x.d) rfl);exact bodyPost_ret (v:=x.v) (by simp [results,Tryz.results203,go_sem,ae B2.out]) rfl ⟨x,rfl,hF.ext,GM.out.keep hF.keep⟩
  ·obtain ⟨b,off,r,hao,hbl,⟨hc1,hc2,hc3⟩,hP⟩:=(H.out.ext HX.out).lin.celx (k:=j) (by omega);obtain ⟨rneg,ra,rn,rc,rb,rm,rd⟩:=r;simp only at hc1 hc2 hc3;subst hao;have RP:=Hi hP;clear hP;have hjn:(j:Int)<n:=by omega
   have ZM:=Hi (HS.out j (by omega));have ZX:=Hi (HZ.out.at (i:=j) (by rw [Hlen.out];omega));obtain ⟨m,hm⟩:∃ m,m=fu (l.take j):=⟨_,rfl⟩;obtain ⟨v,hv⟩:∃ v,v=l.getD j 0:=⟨_,rfl⟩;rw [←hm] at GM ZM;rw [←hv] at RP ZX;have HMv:Hid (fu (l.take (j+1))=A3 m v):=Hi (by rw [←cT (by rw [Hlen.out];omega),iz,hm,hv]);clear hm hv
   go_upto_region 5 with fail
   refine nmA ?_;intro y1 hE B5 hz_y1 hr_y1;refine mV5 hE ?_ HX B2 B3 GM RP;clear HX B2 B3 GM RP;intro HX B2 B3 GM RP;have hs_y1:=hE.size;clear hE;replace b_B2:=Front.b3 B2;replace b_B3:=Front.b3 B3;replace b_B5:=Front.b3 B5;obtain ⟨xneg,xa,xn,xc,xb,xm,xd⟩:=x;refine wpG 6 (fun opIx=>match opIx with
    | 3=>.spec RH default RH.v (fun s w'=>aw w' s (m*v))
    | 4=>.spec RH default RH.v (fun s w'=>aw w' s ((((m*v).den:Int):Rat)))
    | 5=>.spec RH default RH.v (fun s w'=>aw w' s (m*(((m*v).den:Int):Rat)))
    | _=>.quiet) (fun|4=>[3]|5=>[4]|_=>[]) fun w0 he0 hz0 hc0 hf0=>?_
   refine wps he0.out rfl rfl (fun w1 hW hG=>?_) fun x16=>?_
   ·exact spc [RH.v ⟨xneg,xa,xn,xc,xb,xm,xd⟩,RH.v ⟨rneg,ra,rn,rc,rb,rm,rd⟩] Tryz.func139 (bj _ _ _ _ _ ((GM.out.ext hW).raw ZM.out (by omega)) ((RP.out.ext hW).raw ZX.out (by omega)))
   refine qZ ?_;refine wps he0.out rfl rfl (fun w1 hW hG=>?_) fun x17=>?_
   ·have g16:=(hG 3 (by decide):ay _ _).get fun _ e g=>g.ext e
    exact spc [x16.v] Tryz.func263 (xT x16 _ _ g16)
   refine qZ ?_;refine wps he0.out rfl rfl (fun w1 hW hG=>?_) fun x18=>?_
   ·have g17:=(hG 4 (by decide):ay _ _).get fun _ e g=>g.ext e
    exact spc [RH.v ⟨xneg,xa,xn,xc,xb,xm,xd⟩,x17.v] Tryz.func139 (bj _ x17 _ _ _ ((GM.out.ext hW).raw ZM.out (by omega)) (g17.raw (ZM.out.mul ZX.out).denz (by omega)))
   refine qZ ?_;refine wpF_nil ?_;intro y4 hI;have hE:=he0.out.trans hI.ext;have G16:=gT (hI.facts 3);have G17:=gT (hI.facts 4);have G18:=gT (hI.facts 5);clear hI he0 hz0 hc0 hf0;refine mV6 hE ?_ B5 HX B2 B3 RP GM;clear B5 HX B2 B3 RP GM;intro B5 HX B2 B3 RP GM;have hs_y4:=hE.size;clear hE;replace b_B2:=Front.b3 B2;replace b_B3:=Front.b3 B3;replace b_B5:=Front.b3 B5;simp only [pD]
   go_upto_region 6 with fail
   refine aI B3.out rfl ?_;intro y8 T;replace HX:=Hi (T.ext HX.out (by omega));replace B2:=Hi (T.rest _ _ (by omega) B2.out);replace B3:=Hi (T.bx);replace GM:=Hi (GM.out.keep T.keep);replace RP:=Hi (RP.out.keep T.keep);replace B5:=Hi (T.rest _ _ (by omega) B5.out);replace G16:=Hi (G16.out.keep T.keep);replace G17:=Hi (G17.out.keep T.keep);replace G18:=Hi (G18.out.keep T.keep);have hs_y8:=nle T.size;have hr_y8:=nle T.size.symm;clear T;replace b_B2:=Front.b3 B2;replace b_B3:=Front.b3 B3;replace b_B5:=Front.b3 B5;go_wp2
   go_roundg (gk-1)
   case measure=>omega
   case rel=>exact ⟨j+1,x18,by omega,by go_num,HX.out,B2.out,B3.out,by rw [HMv.out];exact G18.out⟩
theorem tE(s t:RH)(a b:Rat)(T:Nat)(w:World)(hs:aO w s a)(ht:aO w t b)(za:Sz T a)(zb:Sz T b)(hT:T≤10000000):au 204 [IvV (s,t)] w RH.v (fun x w'=>aw w' x (b-a).abs):=by
 have HX:=Hi (Ext.refl w);have HS:=Hi hs;have HT:=Hi ht;have ZA:=Hi (zb.sub za);clear hs ht za zb;unfold au;go_enter Tryz.func204,Tryz.ntmps204;obtain ⟨sn,sa,sl,sc,sb,sm,sd⟩:=s;obtain ⟨tn,ta,tl,tc,tb,tm,td⟩:=t
 go_upto_region 1 with fail
 refine iK ?_;intro w1 hE B1 B2 hz_w1 hr_w1;refine mV3 hE ?_ HX HS HT;clear HX HS HT;intro HX HS HT;have hs_w1:=hE.size;clear hE;replace b_B1:=Front.b3 B1;replace b_B2:=Front.b3 B2
 go_wp2_with fail
 refine cM (vS ⟨tn,ta,tl,tc,tb,tm,td⟩ ⟨sn,sa,sl,sc,sb,sm,sd⟩ b a _ HT.out HS.out) fun x7 w7 hE G7=>?_
 revert B1 B2 HX HS HT;refine mV5 hE ?_;intro B1 B2 HX HS HT
 have hs_w7:=hE.size;clear hE;replace b_B1:=Front.b3 B1;replace b_B2:=Front.b3 B2
 go_wp2_with fail
 refine cM (vZ x7 _ _ (G7.out.raw ZA.out (by omega))) fun x8 w8 hE G8=>?_
 revert G7 B1 B2 HX HS HT;refine mV6 hE ?_;intro G7 B1 B2 HX HS HT
 have hs_w8:=hE.size;clear hE;replace b_B1:=Front.b3 B1;replace b_B2:=Front.b3 B2;go_wp2;refine aI (F:=fun W=>bodyPost _ _ _ _ _ W) B2.out rfl ?_;intro w10 T;replace HX:=Hi (T.ext HX.out (by omega));replace HS:=Hi (HS.out.keep T.keep);replace HT:=Hi (HT.out.keep T.keep);replace B1:=Hi (T.rest _ _ (by omega) B1.out);replace B2:=Hi (T.bx);replace G7:=Hi (G7.out.keep T.keep);replace G8:=Hi (G8.out.keep T.keep);have hs_w10:=nle T.size;have hr_w10:=nle T.size.symm;clear T;replace b_B1:=Front.b3 B1;replace b_B2:=Front.b3 B2;exact bodyPost_ret (v:=RH.v x8) (by simp [results,Tryz.results204,go_sem,b_B2.1]) rfl ⟨x8,rfl,HX.out,G8.out⟩
theorem tF(s t:RH)(a b:Rat)(T:Nat)(w:World)(hs:aO w s a)(ht:aO w t b)(za:Sz T a)(zb:Sz T b)(hT:T≤10000000):au 208 [IvV (s,t)] w RH.v (fun x w'=>aw w' x (mdV a b)):=by
 unfold mdV;have HX:=Hi (Ext.refl w);have HS:=Hi hs;have HT:=Hi ht;have ZA:=Hi (za.add zb);have ZH:Hid (Sz 2 (((1:Int):Rat) / ((2:Int):Rat))):=Hi ((Sz.int (by decide)).div (Sz.int (by decide)));clear hs ht za zb;unfold au;go_enter Tryz.func208,Tryz.ntmps208;obtain ⟨sn,sa,sl,sc,sb,sm,sd⟩:=s;obtain ⟨tn,ta,tl,tc,tb,tm,td⟩:=t
 go_upto_region 1 with fail
 refine iK ?_;intro w1 hE B1 B2 hz_w1 hr_w1;refine mV3 hE ?_ HX HS HT;clear HX HS HT;intro HX HS HT;have hs_w1:=hE.size;clear hE;replace b_B1:=Front.b3 B1;replace b_B2:=Front.b3 B2
 go_wp2_with fail
 refine cM (fh ⟨sn,sa,sl,sc,sb,sm,sd⟩ ⟨tn,ta,tl,tc,tb,tm,td⟩ a b _ HS.out HT.out) fun x7 w7 hE G7=>?_
 revert B1 B2 HX HS HT;refine mV5 hE ?_;intro B1 B2 HX HS HT
 have hs_w7:=hE.size;clear hE;replace b_B1:=Front.b3 B1;replace b_B2:=Front.b3 B2
 go_wp2_with fail
 refine cM (sL 1 2 _ (by decide) (by decide) (by decide) (by decide) (by decide)) fun x8 w8 hE G8=>?_
 revert G7 B1 B2 HX HS HT;refine mV6 hE ?_;intro G7 B1 B2 HX HS HT
 have hs_w8:=hE.size;clear hE;replace b_B1:=Front.b3 B1;replace b_B2:=Front.b3 B2
 go_wp2_with fail
 refine cM (bj x7 x8 _ _ _ (G7.out.raw ZA.out (by omega)) (G8.out.raw ZH.out (by decide))) fun x9 w9 hE G9=>?_
 revert G8 G7 B1 B2 HX HS HT;refine mV7 hE ?_;intro G8 G7 B1 B2 HX HS HT
 have hs_w9:=hE.size;clear hE;replace b_B1:=Front.b3 B1;replace b_B2:=Front.b3 B2;go_wp2;refine aI (F:=fun W=>bodyPost _ _ _ _ _ W) B2.out rfl ?_;intro w10 T;replace HX:=Hi (T.ext HX.out (by omega));replace HS:=Hi (HS.out.keep T.keep);replace HT:=Hi (HT.out.keep T.keep);replace B1:=Hi (T.rest _ _ (by omega) B1.out);replace B2:=Hi (T.bx);replace G7:=Hi (G7.out.keep T.keep);replace G8:=Hi (G8.out.keep T.keep);replace G9:=Hi (G9.out.keep T.keep);have hs_w10:=nle T.size;have hr_w10:=nle T.size.symm;clear T;replace b_B1:=Front.b3 B1;replace b_B2:=Front.b3 B2;exact bodyPost_ret (v:=RH.v x9) (by simp [results,Tryz.results208,go_sem,b_B2.1]) rfl ⟨x9,rfl,HX.out,G9.out⟩
theorem sV{l:List Rat}{j:Nat}(h:j<l.length):gR (l.take (j+1))=(gR (l.take j) && decide (0<l.getD j 0)):=by
 rw [←cT h];unfold gR;rw [List.all_append];simp
theorem qB{q:Rat}:dM q 0≤0↔¬ 0<q:=by
 constructor
 ·intro h h1;rw [oN h1] at h;omega
 ·intro h;exact oM h
theorem mp(ao:Option Addr)(n cap:Nat)(l:List Rat)(s:Nat)(w:World)(h:ce w ⟨ao,n,cap⟩ l)(hn:n≤1000)(hz:SzL s l)(hs:s≤10000000) :
  au 110 [.slice ao n cap] w (fun _:Unit=>.bool (gR l)) (fun _ _=>True):=by
 have H:=Hi h;have HX:=Hi (Ext.refl w);have hle:=h.le;have hmx:=h.max;have Hlen:=Hi h.len;simp only at hle hmx Hlen;have HZ:=Hi hz;clear h hz;unfold au;go_enter Tryz.func110,Tryz.ntmps110;go_wp2
 go_loopg [7] n (fun g i wr=>∃ (j:Nat),j+g=n∧i=.int .i64 (j:Nat)∧Ext w wr∧Hid (gR (l.take j)=true))
 case atStart=>exact ⟨0,by omega,rfl,HX.out,Hi rfl⟩
 case round =>
  obtain ⟨j,hj,rfl,g1,HP⟩:=hrel;clear HX;have HX:=Hi g1;clear g1;by_cases h0:gk=0
  ·subst h0;obtain rfl:j=n:=by omega
   have HE:Hid (l.take j=l):=Hi (List.take_of_length_le (by rw [Hlen.out];exact Nat.le_refl _));rw [HE.out] at HP;go_wp2
   go_ret
   exact ⟨(),by rw [HP.out];rfl,HX.out,trivial⟩
  ·obtain ⟨b,off,r,hao,hbl,⟨hc1,hc2,hc3⟩,hP⟩:=(H.out.ext HX.out).lin.celx (k:=j) (by omega);obtain ⟨rneg,ra,rn,rc,rb,rm,rd⟩:=r;simp only at hc1 hc2 hc3;subst hao;have RP:=Hi hP;clear hP;have hjn:(j:Int)<n:=by omega
   have ZX:=Hi (HZ.out.at (i:=j) (by rw [Hlen.out];omega));have HMv:Hid (gR (l.take (j+1))=decide (0<l.getD j 0)):=Hi (by rw [sV (by rw [Hlen.out];omega),HP.out,Bool.true_and]);have HMw:Hid (¬ 0<l.getD j 0→gR l=false):=Hi (fun hh=>by
    cases e:gR l with
    | false=>rfl
    | true =>
     exfalso;unfold gR at e;rw [List.all_eq_true] at e;have hjl:j<l.length:=by rw [Hlen.out];omega
     have:=e (l.getD j 0) (by rw [List.getD_eq_getElem?_getD,List.getElem?_eq_getElem hjl];exact List.getElem_mem hjl);exact hh (of_decide_eq_true this))
   obtain ⟨v,hv⟩:∃ v,v=l.getD j 0:=⟨_,rfl⟩;rw [←hv] at RP ZX HMv HMw;clear hv
   go_upto_region 4 with fail
   refine nmA ?_;intro y1 hE B5 hz_y1 hr_y1;refine mV2 hE ?_ HX RP;clear HX RP;intro HX RP;have hs_y1:=hE.size;clear hE;replace b_B5:=Front.b3 B5
   go_wp2_with fail
   refine cM (mJ ⟨rneg,ra,rn,rc,rb,rm,rd⟩ v _ (RP.out.raw ZX.out (by omega))) fun x6 w6 hE _=>?_
   revert B5 HX RP;refine mV3 hE ?_;intro B5 HX RP
   have hs_w6:=hE.size;clear hE;replace b_B5:=Front.b3 B5;by_cases hv:0<v
   case pos =>
    have hc:¬ dM v 0≤0:=fun h=>qB.1 h hv
    rw [decide_eq_true hv] at HMv;obtain ⟨c,e⟩:∃ c,c=dM v 0:=⟨_,rfl⟩;rw [←e] at hc ⊢;clear e hv HMw;go_wp2
    go_roundg (gk-1)
    case measure=>omega
    case rel=>exact ⟨j+1,by omega,by go_num,HX.out,HMv⟩
   have hc:dM v 0≤0:=qB.2 hv;have HMx:=Hi (HMw.out hv);obtain ⟨c,e⟩:∃ c,c=dM v 0:=⟨_,rfl⟩;rw [←e] at hc ⊢;clear e hv HMw HMv;go_wp2
   go_ret
   exact ⟨(),by rw [HMx.out];rfl,HX.out,trivial⟩
end Go.Proofs.YtofhkmcllihgmaaGreat
