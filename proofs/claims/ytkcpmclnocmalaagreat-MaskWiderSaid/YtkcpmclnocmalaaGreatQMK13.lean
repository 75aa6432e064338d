import Derived.Test.YtkcpmclnocmalaaGreatQMK12
set_option linter.unusedVariables false
set_option maxHeartbeats 8000000
set_option maxRecDepth 8000
namespace Go.Proofs.YtkcpmclnocmalaaGreat
open Go.RowKit Go.Front Go.Num
attribute [local go_sem] XW.cell XW.frozen
theorem fG.rawn{w:World}{s:IH}{z:Int}(h:fG w s z){w':World}{t:IH}{y:Int}(k:fo w' t y)(hz:z.natAbs≤y.natAbs):fo w s z:=by
 obtain ⟨ds,h1,h2,h3⟩:=k;have h4:=iz h1 t.neg;rw [←h2] at h4;exact h.rawk (k:=t.n) (nYl hz h4) h3
theorem vz(s t:IH)(z y:Int)(w:World)(h:fo w s z)(k:fo w t y):ar 148 [s.v,t.v] w IH.v (fun s w'=>fG w' s (z-y)):=by
 obtain ⟨neg,ao,n,c⟩:=s;obtain ⟨neg',bo,m,d⟩:=t;have HR:=Hi h;have KR:=Hi k;have HX:=Hi (Ext.refl w);have HV:Hid (z-y=z+-y):=Hi zo;clear h k;unfold ar;go_enter Tryz.func148,Tryz.ntmps148
 go_upto_region 1 with fail
 refine sO ?_;intro w1 hE B2 B3 B4 hz_w1 hr_w1;refine mV3 hE ?_ HR KR HX;clear HR KR HX;intro HR KR HX;have hs_w1:=hE.size;replace b_B2:=bX3 B2;replace b_B3:=bX3 B3;replace b_B4:=bX3 B4;refine wpG 4 (fun opIx=>match opIx with
  | 2=>sI (-y)
  | 3=>sI (z+-y)
  | _=>.quiet) (fun|3=>[2]|_=>[]) fun w0 he0 hz0 hc0 hf0=>?_
 refine wps he0 (fun w1 hW hG=>?_) fun x2=>?_
 ·exact spc [IH.v ⟨neg',bo,m,d⟩] Tryz.func93 (oB ⟨neg',bo,m,d⟩ y _ (KR.out.ext hW))
 refine qZ ?_;refine wps he0 (fun w1 hW hG=>?_) fun x3=>?_
 ·have g2:=gS (hG 2 dZ);exact spc [IH.v ⟨neg,ao,n,c⟩,x2.v] Tryz.func45 (oC ⟨neg,ao,n,c⟩ x2 z (-y) _ (HR.out.ext hW) (g2.rawn KR.out zo))
 refine qZ ?_;refine aq ?_;intro w2 hI;have hE:=he0.out.trans hI.ext;have G2:=gT (hI.facts 2);have G3:=gT (hI.facts 3);clear hI he0 hz0 hc0 hf0;refine mV6 hE ?_ B2 B3 B4 HX HR KR;clear B2 B3 B4 HX HR KR;intro B2 B3 B4 HX HR KR;have hs_w2:=hE.size;replace b_B2:=bX3 B2;replace b_B3:=bX3 B3;replace b_B4:=bX3 B4;simp only [pD];rw [←HV.out] at G3;go_wp2;have hF:=((Fin.start (L:=w.heap.size+2) HX.out (ai B4.out rfl)).set zo (i:=0) (v:=.bool x3.neg) rfl).set zo (i:=1) (v:=.slice x3.a x3.n x3.c) rfl;exact nXa (v:=x3.v) (by simp [results,Tryz.results148,go_sem,ae B4.out]) rfl ⟨x3,rfl,hF.ext,G3.out.keep hF.keep⟩
theorem zI(z y:Int):bU (z-y) 0=bU z y:=by
 unfold bU;split
 ·rw [if_pos zo]
 ·split
  ·rw [if_neg zo,if_pos zo]
  ·rw [if_neg zo,if_neg zo]
theorem vC(s t:IH)(z y:Int)(k:Nat)(w:World)(h:fo w s z)(g:fo w t y)(hz:z.natAbs<W32 ^ k)(hy:y.natAbs<W32 ^ k)(hk:k≤1073741823)(hk1:1≤k):ar 102 [s.v,t.v] w (fun _:Unit=>.int .i64 (bU z y)) (fun _ _=>True):=by
 obtain ⟨neg,ao,n,c⟩:=s;obtain ⟨neg',bo,m,d⟩:=t;have HR:=Hi h;have KR:=Hi g;have HX:=Hi (Ext.refl w);have HV:=Hi (zI z y);have HL:Hid ((z-y).natAbs<W32 ^ (k+1)):=Hi (by
  have h5:W32 ^ k*2≤W32 ^ (k+1):=by rw [nXu];exact nXg _ dZ
  omega)
 clear h g hz hy;unfold ar;go_enter Tryz.func102,Tryz.ntmps102
 go_wp2_with fail
 refine eX (F:=fun W=>Calls _ _ _ W _) ?_;intro w1 hE B2 B3 hz_w1 hr_w1;refine mV3 hE ?_ HR KR HX;clear HR KR HX;intro HR KR HX;have hs_w1:=hE.size;replace b_B2:=bX3 B2;replace b_B3:=bX3 B3
 change Calls _ _ _ _ _
 refine cM (vz ⟨neg,ao,n,c⟩ ⟨neg',bo,m,d⟩ z y _ HR.out KR.out) fun x2 w2 hE G2=>?_
 refine mV5 hE ?_ B2 B3 HR KR HX;clear B2 B3 HR KR HX;intro B2 B3 HR KR HX;have hs_w2:=hE.size;replace b_B2:=bX3 B2;replace b_B3:=bX3 B3
 go_wp2_with fail
 refine cM (dO x2 (z-y) _ (G2.out.rawk HL.out zo)) fun x3 w3 hE _=>?_
 refine mV6 hE ?_ G2 B2 B3 HR KR HX;clear G2 B2 B3 HR KR HX;intro G2 B2 B3 HR KR HX;have hs_w3:=hE.size;replace b_B2:=bX3 B2;replace b_B3:=bX3 B3;rw [HV.out];go_wp2
 go_ret
 exact ⟨(),rfl,HX.out,trivial⟩
theorem wG{z e z' e':Int}{q r:Rat}(h0:0<e)(k0:0<e')(h:(z:Rat) / (e:Rat)=q)(k:(z':Rat) / (e':Rat)=r):bU (z*e') (z'*e)=cG q r:=by
 have f:∀ (a b:Int),0<b→(a:Rat) / (b:Rat)=mkRat a b.natAbs:=fun a b hb=>by
  rw [Rat.mkRat_eq_div]
  congr 1
  rw [←Rat.intCast_natCast,Int.natAbs_of_nonneg zo]
 rw [←h,←k,f z e h0,f z' e' k0,pW zo zo];rw [Int.natAbs_of_nonneg zo,Int.natAbs_of_nonneg zo]
theorem wU{a b:Int}(h:Big a)(k:Big b):(a*b).natAbs<W32 ^ (tA+tA):=by
 rw [Int.natAbs_mul];exact jc h k
theorem nD:tA+tA≤1073741823∧tA+tA≤1073741824∧1≤tA+tA:=by unfold tA;omega
theorem uy(s t:RH)(q r:Rat)(w:World)(h:aX w s q)(k:aX w t r):ar 51 [s.v,t.v] w (fun _:Unit=>.int .i64 (cG q r)) (fun _ _=>True):=by
 obtain ⟨neg,ao,n,c,bo,m,d⟩:=s;obtain ⟨neg',ao',n',c',bo',m',d'⟩:=t;have HR:=Hi h;have KR:=Hi k;have HX:=Hi (Ext.refl w);clear h k;unfold ar;go_enter Tryz.func51,Tryz.ntmps51
 go_wp2_with fail
 refine eX (F:=fun W=>Calls _ _ _ W _) ?_;intro w1 hE B2 B3 hz_w1 hr_w1;refine mV3 hE ?_ HR KR HX;clear HR KR HX;intro HR KR HX;have hs_w1:=hE.size;replace b_B2:=bX3 B2;replace b_B3:=bX3 B3
 change Calls _ _ _ _ _
 refine cM (dW ⟨neg,ao,n,c,bo,m,d⟩ q _ HR.out) fun x2 w2 hE G2=>?_
 refine mV5 hE ?_ B2 B3 HR KR HX;clear B2 B3 HR KR HX;intro B2 B3 HR KR HX;have hs_w2:=hE.size;replace b_B2:=bX3 B2;replace b_B3:=bX3 B3;obtain ⟨⟨an,aa,al,ac⟩,⟨bn,ba,bl,bc⟩⟩:=x2;obtain ⟨z,e,g1,g2,p3,g4,p5,p6⟩:=G2.out.div;have J1:=Hi g1;have J2:=Hi g2;have J4:=Hi g4;have P3:=Hi p3;have P5:=Hi p5;have P6:=Hi p6;clear g1 g2 g4 p3 p5 p6 G2;simp only [PP]
 go_upto_region 2 with fail
 refine eX ?_;intro y3 hE B5 B6 hz_y3 hr_y3;refine mV7 hE ?_ B2 B3 HR KR HX J1 J2;clear B2 B3 HR KR HX J1 J2;intro B2 B3 HR KR HX J1 J2;have hs_y3:=hE.size;replace b_B2:=bX3 B2;replace b_B3:=bX3 B3;replace b_B5:=bX3 B5;replace b_B6:=bX3 B6
 go_wp2_with fail
 refine cM (dW ⟨neg',ao',n',c',bo',m',d'⟩ r _ KR.out) fun x4 w4 hE G4=>?_
 refine mV8 hE ?_ B5 B6 B2 B3 HR KR HX J1;clear B5 B6 B2 B3 HR KR HX J1;intro B5 B6 B2 B3 HR KR HX J1;replace J2:=mV hE J2;have hs_w4:=hE.size;replace b_B2:=bX3 B2;replace b_B3:=bX3 B3;replace b_B5:=bX3 B5;replace b_B6:=bX3 B6;obtain ⟨⟨an',aa',al',ac'⟩,⟨bn',ba',bl',bc'⟩⟩:=x4;obtain ⟨z',e',g1,g2,p3,g4,p5,p6⟩:=G4.out.div;have K1:=Hi g1;have K2:=Hi g2;have K4:=Hi g4;have Q3:=Hi p3;have Q5:=Hi p5;have Q6:=Hi p6;clear g1 g2 g4 p3 p5 p6 G4;simp only [PP]
 go_upto_region 3 with fail
 refine eX ?_;intro y5 hE B7 B8 hz_y5 hr_y5;refine mV8 hE ?_ B5 B6 B2 B3 HR KR HX J1;clear B5 B6 B2 B3 HR KR HX J1;intro B5 B6 B2 B3 HR KR HX J1;refine mV3 hE ?_ J2 K1 K2;clear J2 K1 K2;intro J2 K1 K2;have hs_y5:=hE.size;replace b_B2:=bX3 B2;replace b_B3:=bX3 B3;replace b_B5:=bX3 B5;replace b_B6:=bX3 B6;replace b_B7:=bX3 B7;replace b_B8:=bX3 B8;have HV:=Hi (wG P3.out Q3.out J4.out K4.out);have M1:=Hi (wU P5.out Q6.out);have M2:=Hi (wU Q5.out P6.out);clear J4 K4;refine wpG 7 (fun opIx=>match opIx with
  | 2=>sI (z*e')
  | 5=>sI (z'*e)
  | 6=>sU (.int .i64 (cG q r))
  | _=>.quiet) (fun|6=>[2,5]|_=>[]) fun w0 he0 hz0 hc0 hf0=>?_
 refine wps he0 (fun w1 hW hG=>?_) fun x2=>?_
 ·exact spc [IH.v ⟨an,aa,al,ac⟩,IH.v ⟨bn',ba',bl',bc'⟩] Tryz.func46 (eP _ _ _ _ _ (J1.out.ext hW) (K2.out.ext hW))
 refine qZ ?_;refine wps he0 (fun w1 hW hG=>?_) fun x5=>?_
 ·exact spc [IH.v ⟨an',aa',al',ac'⟩,IH.v ⟨bn,ba,bl,bc⟩] Tryz.func46 (eP _ _ _ _ _ (K1.out.ext hW) (J2.out.ext hW))
 refine qZ ?_;refine wps he0 (fun w1 hW hG=>?_) fun x6=>?_
 ·have g2:=gS (hG 2 dZ);have g5:=gS (hG 5 dZ);exact spc [x2.v,x5.v] Tryz.func102 (HV.out ▸ vC x2 x5 _ _ (tA+tA) _ (g2.rawk M1.out nD.2.1) (g5.rawk M2.out nD.2.1) M1.out M2.out nD.1 nD.2.2)
 refine qZ ?_;refine aq ?_;intro w6 hI;have hE:=he0.out.trans hI.ext;have G2:=gT (hI.facts 2);have G5:=gT (hI.facts 5);clear hI he0 hz0 hc0 hf0;refine mV8 hE ?_ B7 B8 B5 B6 B2 B3 HR KR;clear B7 B8 B5 B6 B2 B3 HR KR;intro B7 B8 B5 B6 B2 B3 HR KR;refine mV5 hE ?_ HX J1 K2 K1 J2;clear HX J1 K2 K1 J2;intro HX J1 K2 K1 J2;have hs_w6:=hE.size;replace b_B2:=bX3 B2;replace b_B3:=bX3 B3;replace b_B5:=bX3 B5;replace b_B6:=bX3 B6;replace b_B7:=bX3 B7;replace b_B8:=bX3 B8;simp only [pD];go_wp2
 go_ret
 exact ⟨(),rfl,HX.out,trivial⟩
theorem lU(s t:RH)(q r:Rat)(w:World)(h:aX w s q)(k:aX w t r):ar 19 [s.v,t.v] w (fun _:Unit=>.bool (decide (q<r))) (fun _ _=>True):=by
 obtain ⟨neg,ao,n,c,bo,m,d⟩:=s;obtain ⟨neg',ao',n',c',bo',m',d'⟩:=t;have HR:=Hi h;have KR:=Hi k;have HX:=Hi (Ext.refl w);have HV:Hid (decide (cG q r<0)=decide (q<r)):=Hi (by
  unfold cG;by_cases h:q<r
  ·rw [if_pos h,decide_eq_true h];rfl
  ·rw [if_neg h,decide_eq_false h];split <;> rfl)
 clear h k;unfold ar;go_enter Tryz.func19,Tryz.ntmps19
 go_wp2_with fail
 refine eX (F:=fun W=>Calls _ _ _ W _) ?_;intro w1 hE B2 B3 hz_w1 hr_w1;refine mV3 hE ?_ HR KR HX;clear HR KR HX;intro HR KR HX;have hs_w1:=hE.size;replace b_B2:=bX3 B2;replace b_B3:=bX3 B3
 change Calls _ _ _ _ _
 refine cM (uy ⟨neg,ao,n,c,bo,m,d⟩ ⟨neg',ao',n',c',bo',m',d'⟩ q r _ HR.out KR.out) fun x2 w2 hE _=>?_
 refine mV5 hE ?_ B2 B3 HR KR HX;clear B2 B3 HR KR HX;intro B2 B3 HR KR HX;have hs_w2:=hE.size;replace b_B2:=bX3 B2;replace b_B3:=bX3 B3;obtain ⟨v,hv⟩:∃ v,v=cG q r:=⟨_,rfl⟩;rw [←hv] at HV ⊢;clear hv;go_wp2
 go_ret
 exact ⟨(),by rw [←HV.out];rfl,HX.out,trivial⟩
open Stab
theorem BQ{a:List Rat}{X:Nat}(ha:∀ x ∈ a,Wz X x)(ht:tz a=a)(hX:1≤X):∃ D,0<D∧D<W32 ^ X∧FrL X D (cI a):=by
 have hf:FrL X 1 a:=fun x hx=>Fr.one (ha x hx)
 by_cases h:tz a=[]
 ·refine ⟨1,dZ,Nat.one_lt_pow zo dZ,?_⟩;have:cI a=[]:=by unfold cI;rw [if_pos h]
  rw [this];exact fun x hx=>by simp at hx
 ·exact ⟨ldD (tz a) 1,vj hf.tz (ci h) dZ,AA hf.tz,uT hf⟩
open Sg
theorem BR{q:List Rat}{L:Nat}(hq:cI q=q)(hw:∀ x ∈ ay q,Wz L x)(hL:1≤L):∃ D,0<D∧D<W32 ^ L∧FrL L D q:=by
 obtain ⟨D,h1,h2,h3⟩:=BQ hw (bq q) hL;rw [(lR q).mon,hq] at h3;exact ⟨D,h1,h2,h3⟩
def KN(K S n:Nat):Prop:=3*((((S+1)*(2*n+1)+2)*(2*n)+(S+1)*(2*n+1)+2)*(2*n+3))≤K
theorem DG{K S S' n n':Nat}(h:3*(((S+2)*(2*n)+S+2)*(2*n+3))≤K)(hS:S'≤S)(hn:n'≤n):KZ K S' n':=by
 right
 refine nXf (nXg 3 (nXy ?_ zo)) h;have:(S'+2)*(2*n')≤(S+2)*(2*n):=nXy zo zo;omega
theorem KN.kz{K S S' n n':Nat}(h:KN K S n)(hS:S'≤(S+1)*(2*n+1))(hn:n'≤n):KZ K S' n':=DG (S:=(S+1)*(2*n+1)) h hS hn
theorem KN.self{K S n n':Nat}(h:KN K S n)(hn:n'≤n):KZ K S n':=h.kz (by
 have:(S+1)*1≤(S+1)*(2*n+1):=nXg _ zo;omega) hn
theorem vX{K S n:Nat}{p q:List Rat}(hp:∀ x ∈ p,Wz S x)(hp0:tz p≠[])(hl:p.length≤n)(hn:n≤1000)(hK:KN K S n)(hd:Dv (evV q) (evV p))(hm:cI q=q):FrK K q:=by
 have h1:=zp hp hp0 hd zo;have h2:=gD hd hp0;have h3:=aj p;have h4:tz q=q:=by rw [←hm,gu]
 rw [h4] at h2;have hL:1≤(S+1)*(2*p.length+1):=Nat.mul_pos zo zo;have hL2:(S+1)*(2*p.length+1)≤(S+1)*(2*n+1):=nXg _ zo;obtain ⟨D,d1,d2,d3⟩:=BR hm h1 hL;exact ⟨_,D,hL,d1,d2,d3,hK.kz hL2 zo⟩
theorem D6{p q:List Rat}(h0:tz p≠[])(h:Dv (evV q) (evV p)):Dv (evV q) (evV (ay p)):=by
 obtain ⟨c,hc,h1⟩:=h;have hm:=bs h0;refine ⟨_,hc.smul (aR p)⁻¹,fun x=>?_⟩;have h2:=cr p x;have h3:=nYk (aR p) (fun k=>by rw [k] at hm;exact absurd hm Rat.lt_irrefl);rw [h1 x] at h2;have h4:(aR p)⁻¹*(evV q x*c x)=evV (ay p) x:=by rw [h2,←nYe,nYd _ (aR p),h3,Rat.one_mul]
 rw [←h4];grind
theorem Ai{p:List Rat}(h0:tz p≠[]):Dv (evV (sqfV p)) (evV p):=by
 obtain ⟨g,q1,hg,-,-,h1,-⟩:=(tV h0).dv;exact ⟨g,hg,fun x=>by rw [h1 x];grind⟩
theorem tW(p:List Rat):cI (sqfV p)=sqfV p:=jY _
theorem rI{K S D n:Nat}{p:List Rat}(hS:1≤S)(hD:0<D)(hD2:D<W32 ^ S)(hf:FrL S D p)(hl:p.length≤n)(hK:KN K S n):FrK K p:=⟨S,D,hS,hD,hD2,hf,hK.self hl⟩
theorem Cd{K S D n:Nat}{p:List Rat}(hD:0<D)(hf:FrL S D p)(h0:tz p≠[])(hl:p.length≤n)(hn:n≤1000)(hK:KN K S n):FrK K (sqfV p):=by
 refine vX (p:=ay p) (d9 (fun x hx=>hf x (fU hx)) hD) (by rw [bq];exact fun k=>h0 (spl_ne.1 k)) ?_ hn hK (D6 h0 (Ai h0)) (tW p);rw [aG];exact nXf (aj p) hl
theorem Dm{K S n:Nat}{p:List Rat}(hp:∀ x ∈ p,Wz S x)(hp0:tz p≠[])(hl:p.length≤n)(hn:n≤1000)(hK:KN K S n):∀ (m:Nat) (q:List Rat),FrK K q→tz q≠[]→Dv (evV q) (evV p)→OkC K m q:=by
 intro m;induction m with
 | zero=>intro q _ _ _;trivial
 | succ m ih =>
  intro q h1 h2 h3;have hg:FrK K (aV q (derL q)):=vX hp hp0 hl hn hK ((k9 q).trans h3) (nk _ _);exact ⟨h1,vX hp hp0 hl hn hK ((Ai h2).trans h3) (tW q),ih _ hg (jh h2) ((k9 q).trans h3)⟩
end Go.Proofs.YtkcpmclnocmalaaGreat
/- Masks in plain words. -/
namespace Go.Proofs.YtkcpmclnocmalaaGreat
open Go.RowKit Go.Front Go.Num Stab
def abV(nu de:List Rat)(c:Rat):List Rat:=fY nu (tz (de.map (·*c)))
def beV(nu de:List Rat)(c:Rat):List Rat:=fY (tz (de.map (·*c))) nu
def bdT(nu de:List Rat)(a b c d:Rat):Bool:=Sg.posV de a b && Sg.nngV (abV nu de c) a b && Sg.nngV (beV nu de d) a b
def ng(nu de:List Rat)(qs:List Rat):Nat→Bool
 | 0=>true
 | k+1=>ng nu de qs k && bdT nu de (qs.getD (4*k) 0) (qs.getD (4*k+1) 0) (qs.getD (4*k+2) 0) (qs.getD (4*k+3) 0)
theorem AG{nu de qs:List Rat}{n:Nat}(h:ng nu de qs n=true){k:Nat}(hk:k<n):bdT nu de (qs.getD (4*k) 0) (qs.getD (4*k+1) 0) (qs.getD (4*k+2) 0) (qs.getD (4*k+3) 0)=true:=by
 induction n with
 | zero=>omega
 | succ n ih =>
  rw [ng,Bool.and_eq_true] at h;rcases Nat.lt_or_ge k n with h1|h1
  ·exact ih h.1 h1
  ·obtain rfl:k=n:=by omega
   exact h.2
theorem BZ{nu de qs:List Rat}{n:Nat}(h:∀ k,k<n→bdT nu de (qs.getD (4*k) 0) (qs.getD (4*k+1) 0) (qs.getD (4*k+2) 0) (qs.getD (4*k+3) 0)=true):ng nu de qs n=true:=by
 induction n with
 | zero=>rfl
 | succ n ih=>rw [ng,ih (fun k hk=>h k zo),h n zo];rfl
theorem yY{T:Nat}{x:Rat}(h:Sz T x):Fr T x.den x:=by
 refine Fr.int (z:=x.num) h.1 ?_;exact low x
theorem Ce{S T:Nat}{l:List Rat}{c:Rat}(h:FrB S l)(hc:Sz T c)(hT:1≤T):FrB (S+T) (tz (l.map (·*c))):=by
 obtain ⟨h0,D,h1,h2,h3⟩:=h;have hf:FrL (S+T) (D*c.den) (l.map (·*c)):=fun x hx=>by
  obtain ⟨y,hy,rfl⟩:=nYg.1 hx;exact (h3 y hy).mul (yY hc)
 refine ⟨zo,D*c.den,Nat.mul_pos h1 c.den_pos,?_,FrL.tz hf⟩;rw [Nat.pow_add];exact Nat.mul_lt_mul'' h2 hc.2
structure MkZ (S:Nat) (p:List Rat):Prop where
 fb:FrB S p
 ln:p.length≤7
theorem Av{p q:List Rat}(hp:p.length≤7)(hq:q.length≤7):(cY p q).length≤7:=by
 unfold cY;exact nXf (aj _) (by rw [nXl,nXt];omega)
theorem MkZ.sc{S T:Nat}{p:List Rat}{c:Rat}(h:MkZ S p)(hc:Sz T c)(hT:1≤T):MkZ (S+T) (tz (p.map (·*c))):=⟨Ce h.fb hc hT,nXf (aj _) (by rw [nXl];exact h.ln)⟩
theorem MkZ.sub{S U:Nat}{p q:List Rat}(h:MkZ S p)(k:MkZ U q):MkZ (S+U+1) (fY p q):=⟨h.fb.add k.fb.neg,Av h.ln (by rw [nXl];exact k.ln)⟩
theorem MkZ.ab{S U T:Nat}{nu de:List Rat}{c:Rat}(h:MkZ S nu)(k:MkZ U de)(hc:Sz T c)(hT:1≤T):MkZ (S+(U+T)+1) (abV nu de c):=h.sub (k.sc hc hT)
theorem MkZ.be{S U T:Nat}{nu de:List Rat}{c:Rat}(h:MkZ S nu)(k:MkZ U de)(hc:Sz T c)(hT:1≤T):MkZ (U+T+S+1) (beV nu de c):=(k.sc hc hT).sub h
theorem CP(nu de:List Rat)(c:Rat):tz (abV nu de c)=abV nu de c:=bQ _
theorem wV(nu de:List Rat)(c:Rat):tz (beV nu de c)=beV nu de c:=bQ _
theorem MkZ.pok{S:Nat}{p:List Rat}(h:MkZ S p)(ht:tz p=p)(hS:S≤605)(P:Nat):PoK 7000000 P p:=by
 have hK:KN 7000000 S 7:=by unfold KN;omega
 obtain ⟨h1,D,h2,h3,h4⟩:=h.fb;have hfr:FrK 7000000 p:=rI h1 h2 h3 h4 h.ln hK;have hw:∀ x ∈ ay p,Wz S x:=d9 (fun x hx=>h4 x (fU hx)) h2;have hl:(ay p).length≤7:=by rw [aG,ht];exact h.ln
 have hf:FrK 7000000 (ay p):=rI h1 (show 0<1 by decide) (by have:=nXp (n:=W32) dZ h1;rw [Nat.pow_one] at this;exact nXn dZ this) (fun x hx=>Fr.one (hw x hx)) hl hK;by_cases h0:p=[]
 ·subst h0;have e:ay []=[]:=Sg.spl_ne.2 rfl;have e1:Sg.sqfV []=[]:=by decide +kernel
  have e2:aV [] (Sg.derL [])=[]:=by decide +kernel
  refine ⟨ht,hfr,by rw [e1];exact hfr,?_⟩;rw [e];generalize 2*(P+1)=m;induction m with
  | zero=>trivial
  | succ m ih=>exact ⟨hfr,by rw [e1];exact hfr,by rw [e2];exact ih⟩
 ·have hp0:tz p≠[]:=by rw [ht];exact h0
  have hne:tz (ay p)≠[]:=by rw [bq];exact fun k=>hp0 (Sg.spl_ne.1 k)
  exact ⟨ht,hfr,Cd h2 h4 hp0 h.ln dZ hK,Dm hw hne hl dZ hK _ _ hf hne ⟨_,Sg.Pf.const 1,fun x=>by grind⟩⟩
attribute [local go_sem] XW.cell XW.frozen
attribute [local irreducible] Go.Front.wpF
def xr(K n:Nat)(qs:List Rat):Prop:=∀ k,k<n→tB K (qs.getD (4*k) 0) (qs.getD (4*k+1) 0) (qs.getD (4*k+2) 0) (qs.getD (4*k+3) 0)
abbrev QV(x:SH×SH):Value:=.agg #[x.1.v,x.2.v]
theorem sQ(ba:Option Addr)(bn bc:Nat)(qs:List Rat)(K:Nat)(w:World)(h:fq w ⟨ba,bn,bc⟩ qs)(hk:xr K bn qs)(h1:1≤bn)(h8:bn≤8)(hK1:1≤K)(hK:K≤1000000) :
  ar 54 [.slice ba bn bc] w (fun _:Unit=>.bool true) (fun _ _=>True):=by
 have HX:=Hi (Ext.refl w);have LB:=Hi h;have HK:=Hi hk;clear h hk;unfold ar;go_enter Tryz.func54,Tryz.ntmps54;go_wp2
 go_loopg [7] bn (fun g i wr=>∃ j:Nat,j+g=bn∧i=.int .i64 (j:Nat)∧Ext w wr)
 case atStart=>exact ⟨0,zo,rfl,HX.out⟩
 case round =>
  obtain ⟨j,hj,rfl,g1⟩:=hrel;have LB2:=Hi (LB.out.ext g1);clear HX;have HX:=Hi g1;clear g1;by_cases hg:gk=0
  case pos =>
   subst hg;obtain rfl:j=bn:=by omega
   have hin:¬ (j:Int)<(j:Int):=zo;have hb1:decide ((1:Int)≤(j:Int))=true:=by rw [decide_eq_true_eq];omega
   have hb8:(j:Int)≤8:=zo;have hb2:(1:Int)≤(j:Int):=zo;go_wp2
   go_ret
   exact ⟨(),rfl,HX.out,trivial⟩
  have hin:(j:Int)<bn:=zo;obtain ⟨bw,off,⟨⟨sn,sa,sl,sc,sb,sm,sd⟩,⟨tn,ta,tl,tc,tb,tm,td⟩,⟨un,ua,ul,uc,ub,um,ud⟩,⟨vn,va,vl,vc,vb,vm,vd⟩⟩,hao,hbl,⟨f1,f2,f3,f4,f5,f6,f7,f8,f9,f10,f11,f12⟩,hB⟩:=LB2.out.at (k:=j) zo;have HB:Hid (fS wr ⟨⟨sn,sa,sl,sc,sb,sm,sd⟩,⟨tn,ta,tl,tc,tb,tm,td⟩,⟨un,ua,ul,uc,ub,um,ud⟩,⟨vn,va,vl,vc,vb,vm,vd⟩⟩ _ _ _ _):=Hi hB;simp only at f1 f2 f3 f4 f5 f6 f7 f8 f9 f10 f11 f12;subst hao;clear hB
  go_upto_region 4 with fail
  refine nmA ?_;intro w1 hE B4 hz_w1 hr_w1;refine mV3 hE ?_ LB2 HX HB;clear LB2 HX HB;intro LB2 HX HB;have hs_w1:=hE.size;replace b_B4:=bX3 B4;clear f1 f2 f3 f4 f5 f6 f7 f8 f9 f10 f11 f12
  go_wp2_with fail
  refine cM (p9 ⟨⟨sn,sa,sl,sc,sb,sm,sd⟩,⟨tn,ta,tl,tc,tb,tm,td⟩,⟨un,ua,ul,uc,ub,um,ud⟩,⟨vn,va,vl,vc,vb,vm,vd⟩⟩ _ _ _ _ K _ HB.out (HK.out j zo) hK1 hK) fun x12 w12 hE _=>?_
  refine mV4 hE ?_ B4 LB2 HX HB;clear B4 LB2 HX HB;intro B4 LB2 HX HB;have hs_w12:=hE.size;replace b_B4:=bX3 B4;go_wp2
  go_roundg (gk-1)
  case measure=>omega
  case rel=>exact ⟨j+1,zo,by go_num,HX.out⟩
theorem gw(na da ba:Option Addr)(nn nc dn dc bn bc:Nat)(nu de qs:List Rat)(K:Nat)(w:World)(hn:bg w ⟨na,nn,nc⟩ nu)(hd:bg w ⟨da,dn,dc⟩ de)(h:fq w ⟨ba,bn,bc⟩ qs)(hk:xr K bn qs)(h1:1≤bn)(h8:bn≤8)(hK1:1≤K)(hK:K≤1000000)
 (zn:SzL K nu)(zd:SzL K de)(ln:nn≤7)(ld:dn≤7)(td:tz de=de)(d0:de≠[]) :
  ar 36 [QV (⟨na,nn,nc⟩,⟨da,dn,dc⟩),.slice ba bn bc] w (fun _:Unit=>.int .i64 0) (fun _ _=>True):=by
 have HX:=Hi (Ext.refl w);have LN:=Hi (hn.raw zn zo);have LD:=Hi (hd.raw zd zo);have LB:=Hi h;have HK:=Hi hk;obtain ⟨N,hN⟩:∃ N,N=(tz nu).length:=⟨_,rfl⟩;obtain ⟨D,hD⟩:∃ D,D=(tz de).length:=⟨_,rfl⟩;have hN7:N≤7:=by have:=aj nu;have h2:=hn.len;simp only at h2;omega
 have hD7:D≤7:=by have:=aj de;have h2:=hd.len;simp only at h2;omega
 have hD0:0<D:=by rw [hD,td];exact nYh.2 d0
 have hi1:¬ (48:Int)<(N:Int)-1:=zo;have hi2:¬ (48:Int)<(D:Int)-1:=zo;have hi3:¬ (D:Int)-1<0:=zo;clear hn hd h hk zn zd td d0 hN7 hD7 hD0;unfold ar;simp only [QV,SH.v];go_enter Tryz.func36,Tryz.ntmps36
 go_upto_region 1 with fail
 refine nmA ?_;intro w1 hE B2 hz_w1 hr_w1;refine mV4 hE ?_ HX LN LD LB;clear HX LN LD LB;intro HX LN LD LB;have hs_w1:=hE.size;replace b_B2:=bX3 B2
 go_wp2_with fail
 refine cM (sQ ba bn bc qs K _ LB.out HK.out h1 h8 hK1 hK) fun x7 w7 hE _=>?_
 refine mV5 hE ?_ B2 HX LN LD LB;clear B2 HX LN LD LB;intro B2 HX LN LD LB;have hs_w7:=hE.size;replace b_B2:=bX3 B2
 go_wp2_with fail
 refine cM (cV na nn nc nu _ LN.out) fun x12 w12 hE _=>?_
 refine mV5 hE ?_ B2 HX LN LD LB;clear B2 HX LN LD LB;intro B2 HX LN LD LB;have hs_w12:=hE.size;replace b_B2:=bX3 B2;rw [←hN]
 go_wp2_with fail
 refine cM (cV da dn dc de _ LD.out) fun x17 w17 hE _=>?_
 refine mV5 hE ?_ B2 HX LN LD LB;clear B2 HX LN LD LB;intro B2 HX LN LD LB;have hs_w17:=hE.size;replace b_B2:=bX3 B2;rw [←hD]
 go_wp2_with fail
 refine cM (cV da dn dc de _ LD.out) fun x23 w23 hE _=>?_
 refine mV5 hE ?_ B2 HX LN LD LB;clear B2 HX LN LD LB;intro B2 HX LN LD LB;have hs_w23:=hE.size;replace b_B2:=bX3 B2;rw [←hD];clear hN hD;go_wp2
 go_ret
 exact ⟨(),rfl,HX.out,trivial⟩
theorem sT(na da:Option Addr)(nn nc dn dc:Nat)(x:BdH)(nu de:List Rat)(a b c d:Rat)(S:Nat)(w:World)(hn:bg w ⟨na,nn,nc⟩ nu)(hd:bg w ⟨da,dn,dc⟩ de)(hb:fS w x a b c d)(zn:SzL S nu)(zd:MkZ S de)(zc:Sz S c)(hS1:1≤S)(hS:S≤1000000)(ln:nn≤7) :
  ar 39 [QV (⟨na,nn,nc⟩,⟨da,dn,dc⟩),BdV x] w SH.v (fun s w'=>ct w.heap.size w' s (abV nu de c)):=by
 obtain ⟨⟨sn,sa,sl,sc,sb,sm,sd⟩,⟨tn,ta,tl,tc,tb,tm,td⟩,⟨un,ua,ul,uc,ub,um,ud⟩,⟨vn,va,vl,vc,vb,vm,vd⟩⟩:=x;have HX:=Hi (Ext.refl w);have LN:=Hi (hn.raw zn zo);have LD:=Hi (hd.raw zd.fb.sz zo);have HU:=Hi (hb.2.2.1.raw zc zo);have ZN:=Hi zn;have ZD:=Hi zd.fb.sz;have ZC:=Hi zc;have ld:dn≤7:=by have:=hd.len;have h2:=zd.ln;simp only at this;omega
 have ZM:=Hi (zd.sc zc hS1);clear hn hd hb zn zd zc;unfold ar;simp only [QV,SH.v];go_enter Tryz.func39,Tryz.ntmps39
 go_upto_region 1 with fail
 refine eX ?_;intro w1 hE B2 B3 hz_w1 hr_w1;refine mV4 hE ?_ HX LN LD HU;clear HX LN LD HU;intro HX LN LD HU;have hs_w1:=hE.size;replace b_B2:=bX3 B2;replace b_B3:=bX3 B3;refine wpG 8 (fun opIx=>match opIx with
  | 6=>.spec (SH) (default) (SH.v) (fun x w'=>bg w' x (tz (de.map (·*c))))
  | 7=>.spec (SH) (default) (SH.v) (fun x w'=>ct w.heap.size w' x (abV nu de c))
  | _=>.quiet) (fun|7=>[6]|_=>[]) fun w0 he0 hz0 hc0 hf0=>?_
 refine wps he0 (fun w1 hW hG=>?_) fun x20=>?_
 ·exact spc [.slice da dn dc,RH.v ⟨un,ua,ul,uc,ub,um,ud⟩] Tryz.func85 ((fx da dn dc de ⟨un,ua,ul,uc,ub,um,ud⟩ c _ (LD.out.ext hW) (HU.out.ext hW) zo (ZD.out.mono zo) (ZC.out.mono zo)).weak (fun _ _ _ h=>h.can))
 refine qZ ?_;refine wps he0 (fun w1 hW hG=>?_) fun x21=>?_
 ·have g20:=gS (hG 6 dZ);exact spc [.slice na nn nc,x20.v] Tryz.func84 ((by obtain ⟨qa,qn,qc⟩:=x20;have e:=g20.len;have e2:=ZM.out.ln;simp only at e;exact (qS na qa nn nc qn qc nu _ _ (LN.out.ext hW) (g20.raw ZM.out.fb.sz zo) zo zo (ZN.out.mono zo) (ZM.out.fb.sz.mono zo)).weak (fun _ _ _ h=>h.mono (by have:=hW.size;omega))))
 refine qZ ?_;refine aq ?_;intro w2 hI;have hE:=he0.out.trans hI.ext;have G20:=gT (hI.facts 6);have G21:=gT (hI.facts 7);clear hI he0 hz0 hc0 hf0;refine mV6 hE ?_ B2 B3 HX LN LD HU;clear B2 B3 HX LN LD HU;intro B2 B3 HX LN LD HU;have hs_w2:=hE.size;replace b_B2:=bX3 B2;replace b_B3:=bX3 B3;simp only [pD];obtain ⟨xa,xn,xc⟩:=x21;have GL:=Hi G21.out;clear G20 G21;go_wp2
 go_ret
 exact ⟨⟨xa,xn,xc⟩,rfl,HX.out,GL.out⟩
theorem mh(na da:Option Addr)(nn nc dn dc:Nat)(x:BdH)(nu de:List Rat)(a b c d:Rat)(S:Nat)(w:World)(hn:bg w ⟨na,nn,nc⟩ nu)(hd:bg w ⟨da,dn,dc⟩ de)(hb:fS w x a b c d)(zn:SzL S nu)(zd:MkZ S de)(zc:Sz S d)(hS1:1≤S)(hS:S≤1000000)(ln:nn≤7) :
  ar 40 [QV (⟨na,nn,nc⟩,⟨da,dn,dc⟩),BdV x] w SH.v (fun s w'=>ct w.heap.size w' s (beV nu de d)):=by
 obtain ⟨⟨sn,sa,sl,sc,sb,sm,sd⟩,⟨tn,ta,tl,tc,tb,tm,td⟩,⟨un,ua,ul,uc,ub,um,ud⟩,⟨vn,va,vl,vc,vb,vm,vd⟩⟩:=x;have HX:=Hi (Ext.refl w);have LN:=Hi (hn.raw zn zo);have LD:=Hi (hd.raw zd.fb.sz zo);have HU:=Hi (hb.2.2.2.raw zc zo);have ZN:=Hi zn;have ZD:=Hi zd.fb.sz;have ZC:=Hi zc;have ld:dn≤7:=by have:=hd.len;have h2:=zd.ln;simp only at this;omega
 have ZM:=Hi (zd.sc zc hS1);clear hn hd hb zn zd zc;unfold ar;simp only [QV,SH.v];go_enter Tryz.func40,Tryz.ntmps40
 go_upto_region 1 with fail
 refine eX ?_;intro w1 hE B2 B3 hz_w1 hr_w1;refine mV4 hE ?_ HX LN LD HU;clear HX LN LD HU;intro HX LN LD HU;have hs_w1:=hE.size;replace b_B2:=bX3 B2;replace b_B3:=bX3 B3;refine wpG 8 (fun opIx=>match opIx with
  | 4=>.spec (SH) (default) (SH.v) (fun x w'=>bg w' x (tz (de.map (·*d))))
  | 7=>.spec (SH) (default) (SH.v) (fun x w'=>ct w.heap.size w' x (beV nu de d))
  | _=>.quiet) (fun|7=>[4]|_=>[]) fun w0 he0 hz0 hc0 hf0=>?_
 refine wps he0 (fun w1 hW hG=>?_) fun x20=>?_
 ·exact spc [.slice da dn dc,RH.v ⟨vn,va,vl,vc,vb,vm,vd⟩] Tryz.func85 ((fx da dn dc de ⟨vn,va,vl,vc,vb,vm,vd⟩ d _ (LD.out.ext hW) (HU.out.ext hW) zo (ZD.out.mono zo) (ZC.out.mono zo)).weak (fun _ _ _ h=>h.can))
 refine qZ ?_;refine wps he0 (fun w1 hW hG=>?_) fun x21=>?_
 ·have g20:=gS (hG 4 dZ);exact spc [x20.v,.slice na nn nc] Tryz.func84 ((by obtain ⟨qa,qn,qc⟩:=x20;have e:=g20.len;have e2:=ZM.out.ln;simp only at e;exact (qS qa na qn qc nn nc _ nu _ (g20.raw ZM.out.fb.sz zo) (LN.out.ext hW) zo zo (ZM.out.fb.sz.mono zo) (ZN.out.mono zo)).weak (fun _ _ _ h=>h.mono (by have:=hW.size;omega))))
 refine qZ ?_;refine aq ?_;intro w2 hI;have hE:=he0.out.trans hI.ext;have G20:=gT (hI.facts 4);have G21:=gT (hI.facts 7);clear hI he0 hz0 hc0 hf0;refine mV6 hE ?_ B2 B3 HX LN LD HU;clear B2 B3 HX LN LD HU;intro B2 B3 HX LN LD HU;have hs_w2:=hE.size;replace b_B2:=bX3 B2;replace b_B3:=bX3 B3;simp only [pD];obtain ⟨xa,xn,xc⟩:=x21;have GL:=Hi G21.out;clear G20 G21;go_wp2
 go_ret
 exact ⟨⟨xa,xn,xc⟩,rfl,HX.out,GL.out⟩
structure jo (S n:Nat) (nu de qs:List Rat):Prop where
 zn:MkZ S nu
 zd:MkZ S de
 td:tz de=de
 d0:de≠[]
 bd:xr S n qs
 n1:1≤n
 n8:n≤8
 s1:1≤S
 s6:S≤200
theorem DI{nu de qs:List Rat}{n k:Nat}(hk:k<n)(h:bdT nu de (qs.getD (4*k) 0) (qs.getD (4*k+1) 0) (qs.getD (4*k+2) 0) (qs.getD (4*k+3) 0)=false):ng nu de qs n=false:=by
 cases h1:ng nu de qs n with
 | false=>rfl
 | true=>rw [AG h1 hk] at h;exact absurd h dZ
theorem jC(na da ba:Option Addr)(nn nc dn dc bn bc:Nat)(nu de qs:List Rat)(S:Nat)(w:World)(hn:bg w ⟨na,nn,nc⟩ nu)(hd:bg w ⟨da,dn,dc⟩ de)(h:fq w ⟨ba,bn,bc⟩ qs)(ho:jo S bn nu de qs) :
  ar 8 [QV (⟨na,nn,nc⟩,⟨da,dn,dc⟩),.slice ba bn bc] w (fun _:Unit=>.tuple #[.bool (ng nu de qs bn),.int .i64 0]) (fun _ _=>True):=by
 have HX:=Hi (Ext.refl w);have LN:=Hi hn;have LD:=Hi hd;have LB:=Hi h;have HO:=Hi ho;have h1:=ho.n1;have h8:=ho.n8;have hS1:=ho.s1;have hS:=ho.s6;have hnn:nn≤7:=by have:=hn.len;have h2:=ho.zn.ln;simp only at this;omega
 have hdn:dn≤7:=by have:=hd.len;have h2:=ho.zd.ln;simp only at this;omega
 obtain ⟨r,hr⟩:∃ r,r=ng nu de qs bn:=⟨_,rfl⟩;have HR:=Hi hr;rw [←hr];clear hn hd h ho hr;unfold ar;simp only [QV,SH.v];go_enter Tryz.func8,Tryz.ntmps8
 go_upto_region 1 with fail
 refine nmA ?_;intro w1 hE B2 hz_w1 hr_w1;refine mV4 hE ?_ HX LN LD LB;clear HX LN LD LB;intro HX LN LD LB;have hs_w1:=hE.size;replace b_B2:=bX3 B2
 go_wp2_with fail
 refine cM (gw na da ba nn nc dn dc bn bc nu de qs S _ LN.out LD.out LB.out HO.out.bd h1 h8 hS1 zo HO.out.zn.fb.sz HO.out.zd.fb.sz hnn hdn HO.out.td HO.out.d0) fun x17 w17 hE _=>?_
 refine mV5 hE ?_ B2 HX LN LD LB;clear B2 HX LN LD LB;intro B2 HX LN LD LB;have hs_w17:=hE.size;replace b_B2:=bX3 B2;obtain ⟨b2,hb2⟩:∃ x,x=w.heap.size:=⟨_,rfl⟩;rw [←hb2] at B2 ⊢;clear hb2 b_B2;go_wp2
 go_loopg [23] bn (fun g i wr=>∃ j:Nat,j+g=bn∧i=.int .i64 (j:Nat)∧Ext w17 wr∧ng nu de qs j=true)
 case atStart=>exact ⟨0,zo,rfl,Ext.refl _,rfl⟩
 case round =>
  obtain ⟨j,hj,rfl,g1,g2⟩:=hrel;have HX2:=Hi (HX.out.trans g1);have LN2:=Hi (LN.out.ext g1);have LD2:=Hi (LD.out.ext g1);have LB2:=Hi (LB.out.ext g1);have B22:=Hi (g1.block B2.out);clear HX LN LD LB B2;have HY:=Hi g1;have HJ:=Hi g2;clear g1 g2;replace b_B22:=bX3 B22;by_cases hg:gk=0
  case pos =>
   subst hg;obtain rfl:j=bn:=by omega
   have hin:¬ (j:Int)<(j:Int):=zo;have hr:=HR.out;rw [HJ.out] at hr;have HR2:=Hi hr;clear hr;go_wp2;exact nXa (v:=.tuple #[.bool r,.int .i64 0]) (by rw [HR2.out];simp [results,Tryz.results8,go_sem]) rfl ⟨(),rfl,HX2.out,trivial⟩
  have hin:(j:Int)<bn:=zo;obtain ⟨bw,off,⟨⟨sn,sa,sl,sc,sb,sm,sd⟩,⟨tn,ta,tl,tc,tb,tm,td⟩,⟨un,ua,ul,uc,ub,um,ud⟩,⟨vn,va,vl,vc,vb,vm,vd⟩⟩,hao,hbl,⟨f1,f2,f3,f4,f5,f6,f7,f8,f9,f10,f11,f12⟩,hB⟩:=LB2.out.at (k:=j) zo;have hbd:=HO.out.bd j zo;have hno:=DI (nu:=nu) (de:=de) (qs:=qs) (n:=bn) (k:=j) zo;have hys:bdT nu de (qs.getD (4*j) 0) (qs.getD (4*j+1) 0) (qs.getD (4*j+2) 0) (qs.getD (4*j+3) 0)=true→ng nu de qs (j+1)=true:=fun h=>by rw [ng,HJ.out,h];rfl
  obtain ⟨a,ha⟩:∃ x,x=qs.getD (4*j) 0:=⟨_,rfl⟩;obtain ⟨b,hb⟩:∃ x,x=qs.getD (4*j+1) 0:=⟨_,rfl⟩;obtain ⟨c,hc⟩:∃ x,x=qs.getD (4*j+2) 0:=⟨_,rfl⟩;obtain ⟨d,hd⟩:∃ x,x=qs.getD (4*j+3) 0:=⟨_,rfl⟩;rw [←ha,←hb,←hc,←hd] at hbd hno hys;rw [←ha,←hb,←hc,←hd] at hB;have HB:Hid (fS wr ⟨⟨sn,sa,sl,sc,sb,sm,sd⟩,⟨tn,ta,tl,tc,tb,tm,td⟩,⟨un,ua,ul,uc,ub,um,ud⟩,⟨vn,va,vl,vc,vb,vm,vd⟩⟩ a b c d):=Hi hB;have HBD:=Hi hbd;have HNO:=Hi hno;have HYS:=Hi hys;simp only at f1 f2 f3 f4 f5 f6 f7 f8 f9 f10 f11 f12;subst hao;clear hB hbd hno hys ha hb hc hd HJ;obtain ⟨v0,hv0⟩:∃ v,v=Sg.posV de a b:=⟨_,rfl⟩;obtain ⟨v1,hv1⟩:∃ v,v=Sg.nngV (abV nu de c) a b:=⟨_,rfl⟩;obtain ⟨v2,hv2⟩:∃ v,v=Sg.nngV (beV nu de d) a b:=⟨_,rfl⟩;have HV0:=Hi hv0;have HV1:=Hi hv1;have HV2:=Hi hv2;have HT:Hid (bdT nu de a b c d=(v0 && v1 && v2)):=Hi (by rw [hv0,hv1,hv2];rfl);clear hv0 hv1 hv2;have ZAB:=Hi (HO.out.zn.ab HO.out.zd HBD.out.1.2.2.1 hS1);have ZBE:=Hi (HO.out.zn.be HO.out.zd HBD.out.1.2.2.2 hS1)
  go_upto_region 7 with fail
  refine nmA ?_;intro w26 hE B8 hz_w26 hr_w26;refine mV7 hE ?_ HX2 LN2 LD2 LB2 B22 HY HB;clear HX2 LN2 LD2 LB2 B22 HY HB;intro HX2 LN2 LD2 LB2 B22 HY HB;have hs_w26:=hE.size;replace b_B22:=bX3 B22;replace b_B8:=bX3 B8;clear f1 f2 f3 f4 f5 f6 f7 f8 f9 f10 f11 f12
  go_wp2_with fail
  refine cM ((by have k:=xK da dn dc de 7000000 ⟨sn,sa,sl,sc,sb,sm,sd⟩ ⟨tn,ta,tl,tc,tb,tm,td⟩ a b S _ LD2.out zo (HO.out.zd.pok HO.out.td zo dn) dZ zo (HB.out.1.raw HBD.out.1.1 zo) (HB.out.2.1.raw HBD.out.1.2.1 zo) HBD.out.1.1 HBD.out.1.2.1 hS1 zo;rw [jD HBD.out.2.2.1,je HBD.out.2.2.1,←HV0.out] at k;exact k)) fun x32 w32 hE _=>?_
  refine mV8 hE ?_ B8 HX2 LN2 LD2 LB2 B22 HY HB;clear B8 HX2 LN2 LD2 LB2 B22 HY HB;intro B8 HX2 LN2 LD2 LB2 B22 HY HB;have hs_w32:=hE.size;replace b_B22:=bX3 B22;replace b_B8:=bX3 B8;cases v0
  case false =>
   have HF:=Hi (HNO.out (by rw [HT.out];rfl));go_wp2;exact nXa (v:=.tuple #[.bool r,.int .i64 0]) (by rw [HR.out,HF.out];simp [results,Tryz.results8,go_sem]) rfl ⟨(),rfl,HX2.out,trivial⟩
  go_upto_region 10 with fail
  refine bv [(9,8)] _ (by simp only [jG,mu,List.push_toArray,List.cons_append,List.nil_append];exact rfl) (by intro c a d v w h;cases d <;> exact h) 9 (fun opIx=>match opIx with
   | 2=>.spec (SH) (default) (SH.v) (fun x w'=>ct 0 w' x (abV nu de c))
   | 5=>sU (.tuple #[.bool v1,.int .i64 0])
   | _=>.quiet) (fun|5=>[2]|_=>[]) kZ kZ kZ (fun w0 he0 hz0 hc0 hf0=>?_)
  replace he0:=Hi he0;simp only [pT];refine qQ ?_;refine wps he0 (fun w1 hW hG=>?_) fun x50=>?_
  ·exact spc [QV (⟨na,nn,nc⟩,⟨da,dn,dc⟩),BdV ⟨⟨sn,sa,sl,sc,sb,sm,sd⟩,⟨tn,ta,tl,tc,tb,tm,td⟩,⟨un,ua,ul,uc,ub,um,ud⟩,⟨vn,va,vl,vc,vb,vm,vd⟩⟩] Tryz.func39 (sT na da nn nc dn dc _ nu de a b c d S _ (LN2.out.ext hW) (LD2.out.ext hW) (HB.out.ext hW) HO.out.zn.fb.sz HO.out.zd HBD.out.1.2.2.1 hS1 zo hnn |>.weak (fun _ _ _ h=>h.mono (Nat.zero_le _)))
  refine qZ ?_;refine wps he0 (fun w1 hW hG=>?_) fun x51=>?_
  ·have g50:=gS (hG 2 dZ);exact spc [x50.v,IvV (⟨sn,sa,sl,sc,sb,sm,sd⟩,⟨tn,ta,tl,tc,tb,tm,td⟩)] Tryz.func38 ((by obtain ⟨qa,qn,qc⟩:=x50;have g50:=g50.can;have e:=g50.len;have e2:=ZAB.out.ln;simp only at e;have k:=qF qa qn qc (abV nu de c) 7000000 ⟨sn,sa,sl,sc,sb,sm,sd⟩ ⟨tn,ta,tl,tc,tb,tm,td⟩ a b S _ g50 zo (ZAB.out.pok (CP _ _ _) zo qn) dZ zo ((HB.out.ext hW).1.raw HBD.out.1.1 zo) ((HB.out.ext hW).2.1.raw HBD.out.1.2.1 zo) HBD.out.1.1 HBD.out.1.2.1 hS1 zo;rw [jD HBD.out.2.2.1,je HBD.out.2.2.1,←HV1.out] at k;exact k))
  refine qZ ?_;refine aq ?_;intro w40 hI;have hE:=he0.out.trans hI.ext;have G50:=gT (hI.facts 2);clear hI he0 hz0 hc0 hf0;refine mV8 hE ?_ B8 HX2 LB2 B22 HY LN2 LD2 HB;clear B8 HX2 LB2 B22 HY LN2 LD2 HB;intro B8 HX2 LB2 B22 HY LN2 LD2 HB;have hs_w40:=hE.size;replace b_B22:=bX3 B22;replace b_B8:=bX3 B8;simp only [pD];clear G50;cases v1
  case false =>
   have HF:=Hi (HNO.out (by rw [HT.out];rfl));go_wp2;exact nXa (v:=.tuple #[.bool r,.int .i64 0]) (by rw [HR.out,HF.out];simp [results,Tryz.results8,go_sem]) rfl ⟨(),rfl,HX2.out,trivial⟩
  go_upto_region 13 with fail
  refine bv [(9,8)] _ (by simp only [jG,mu,List.push_toArray,List.cons_append,List.nil_append];exact rfl) (by intro c a d v w h;cases d <;> exact h) 9 (fun opIx=>match opIx with
   | 2=>.spec (SH) (default) (SH.v) (fun x w'=>ct 0 w' x (beV nu de d))
   | 5=>sU (.tuple #[.bool v2,.int .i64 0])
   | _=>.quiet) (fun|5=>[2]|_=>[]) kZ kZ kZ (fun w0 he0 hz0 hc0 hf0=>?_)
  replace he0:=Hi he0;simp only [pT];refine qQ ?_;refine wps he0 (fun w1 hW hG=>?_) fun x60=>?_
  ·exact spc [QV (⟨na,nn,nc⟩,⟨da,dn,dc⟩),BdV ⟨⟨sn,sa,sl,sc,sb,sm,sd⟩,⟨tn,ta,tl,tc,tb,tm,td⟩,⟨un,ua,ul,uc,ub,um,ud⟩,⟨vn,va,vl,vc,vb,vm,vd⟩⟩] Tryz.func40 (mh na da nn nc dn dc _ nu de a b c d S _ (LN2.out.ext hW) (LD2.out.ext hW) (HB.out.ext hW) HO.out.zn.fb.sz HO.out.zd HBD.out.1.2.2.2 hS1 zo hnn |>.weak (fun _ _ _ h=>h.mono (Nat.zero_le _)))
  refine qZ ?_;refine wps he0 (fun w1 hW hG=>?_) fun x61=>?_
  ·have g60:=gS (hG 2 dZ);exact spc [x60.v,IvV (⟨sn,sa,sl,sc,sb,sm,sd⟩,⟨tn,ta,tl,tc,tb,tm,td⟩)] Tryz.func38 ((by obtain ⟨qa,qn,qc⟩:=x60;have g60:=g60.can;have e:=g60.len;have e2:=ZBE.out.ln;simp only at e;have k:=qF qa qn qc (beV nu de d) 7000000 ⟨sn,sa,sl,sc,sb,sm,sd⟩ ⟨tn,ta,tl,tc,tb,tm,td⟩ a b S _ g60 zo (ZBE.out.pok (wV _ _ _) zo qn) dZ zo ((HB.out.ext hW).1.raw HBD.out.1.1 zo) ((HB.out.ext hW).2.1.raw HBD.out.1.2.1 zo) HBD.out.1.1 HBD.out.1.2.1 hS1 zo;rw [jD HBD.out.2.2.1,je HBD.out.2.2.1,←HV2.out] at k;exact k))
  refine qZ ?_;refine aq ?_;intro w50 hI;have hE:=he0.out.trans hI.ext;have G60:=gT (hI.facts 2);clear hI he0 hz0 hc0 hf0;refine mV8 hE ?_ B8 HX2 LB2 B22 HY LN2 LD2 HB;clear B8 HX2 LB2 B22 HY LN2 LD2 HB;intro B8 HX2 LB2 B22 HY LN2 LD2 HB;have hs_w50:=hE.size;replace b_B22:=bX3 B22;replace b_B8:=bX3 B8;simp only [pD];clear G60;cases v2
  case false =>
   have HF:=Hi (HNO.out (by rw [HT.out];rfl));go_wp2;exact nXa (v:=.tuple #[.bool r,.int .i64 0]) (by rw [HR.out,HF.out];simp [results,Tryz.results8,go_sem]) rfl ⟨(),rfl,HX2.out,trivial⟩
  go_wp2
  go_roundg (gk-1)
  case measure=>omega
  case rel=>exact ⟨j+1,zo,by go_num,HY.out,HYS.out (by rw [HT.out];rfl)⟩
end Go.Proofs.YtkcpmclnocmalaaGreat
