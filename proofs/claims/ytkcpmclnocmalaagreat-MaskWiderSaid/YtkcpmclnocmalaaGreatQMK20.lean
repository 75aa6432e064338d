import Derived.Test.YtkcpmclnocmalaaGreatQMK19
set_option linter.unusedVariables false
set_option maxHeartbeats 4000000
namespace Go.Proofs.YtkcpmclnocmalaaGreat
open Go.RowKit Go.Front Go.Num Stab
attribute [local go_sem] XW.cell XW.frozen
attribute [local irreducible] Go.Front.wpF
theorem rv(xs:List Int)(d:Nat):(dA xs d).length≤d+1:=by
 unfold dA;refine nXf (aj _) ?_;rw [nXl,nXk];omega
theorem Du(xs:List Int)(d:Nat):SzL 1 (dA xs d):=SzL.tz (pt _)
def deM(q:List Rat):List Rat:=cY (aO q q) [((1:Int):Rat) / ((4:Int):Rat)]
theorem uB:SzL 1 [((1:Int):Rat) / ((4:Int):Rat)]:=fun x hx=>by
 obtain rfl:x=((1:Int):Rat) / ((4:Int):Rat):=by simpa using hx
 exact ⟨by decide +kernel,by decide +kernel⟩
theorem og{p q:List Rat}(hp:p.length≤3)(hq:q.length≤3):(aO p q).length≤7:=by
 unfold aO;refine nXf (aj _) ?_;rw [nXl,nXt];have h1:=aj p;have h2:=aj q;omega
theorem Bz{w1:World}{b:Nat}{T:TypeId}{c0 c1 v0 v1:Value}{F:World→Prop}(hb:w1.heap[b]?=some (.cells #[c0,c1] T (0,0)))(hn:#[c0,c1].toList.all dL=true)(h:∀ w2,cT w1 b T #[v0,v1] w2→F w2):F ((w1.setCell ⟨b,0,none⟩ v0).setCell ⟨b,1,none⟩ v1) :=
 h _ (cT.of (nXb.1 hb).1 (ai hb hn) ((aL.setCell w1 ⟨b,0,none⟩ v0).trans (aL.setCell _ ⟨b,1,none⟩ v1)) (by simp [World.setCell]) (ax (ax hb 0 v0) 1 v1))
set_option maxRecDepth 8000 in
theorem uW(a0 a1:Option Addr)(c0 c1:Nat)(xs ys:List Int)(w:World)(h0:bW w a0 xs)(r0:InR xs)(l0:xs.length≤9223372036854775807)(k0:xs.length≤c0)(m0:c0≤9223372036854775807)
 (h1:bW w a1 ys)(r1:InR ys)(l1:ys.length≤9223372036854775807)(k1:ys.length≤c1)(m1:c1≤9223372036854775807) :
  ar 6 [.slice a0 xs.length c0,.slice a1 ys.length c1,.bool false] w (fun x:SH×SH=>QV x) (fun x w'=>bg w' x.1 (dA xs 2)∧bg w' x.2 (deM (dA ys 2))):=by
 have HX:=Hi (Ext.refl w);have H0:Hid (∀ w',Ext w w'→ar 32 [.slice a0 xs.length c0,.int .i64 2] w' SH.v (fun s w''=>ct w'.heap.size w'' s (dA xs 2))):=Hi (fun w' he=>qV a0 c0 2 xs w' (h0.ext he) r0 l0 dZ k0 m0);have H1:Hid (∀ w',Ext w w'→ar 32 [.slice a1 ys.length c1,.int .i64 2] w' SH.v (fun s w''=>ct w'.heap.size w'' s (dA ys 2))):=Hi (fun w' he=>qV a1 c1 2 ys w' (h1.ext he) r1 l1 dZ k1 m1);have hlq:=rv ys 2;have ZQ:=Hi (Du ys 2);obtain ⟨n0,hn0⟩:∃ n,n=xs.length:=⟨_,rfl⟩;obtain ⟨n1,hn1⟩:∃ n,n=ys.length:=⟨_,rfl⟩;rw [←hn0] at H0 ⊢;rw [←hn1] at H1 ⊢;obtain ⟨p,hp⟩:∃ p,p=dA xs 2:=⟨_,rfl⟩;obtain ⟨q,hq⟩:∃ p,p=dA ys 2:=⟨_,rfl⟩;rw [←hp] at H0 ⊢;rw [←hq] at H1 hlq ZQ ⊢;have ZM:=Hi (SzL.mono (((FrB.of (k:=1) (n:=3) ZQ.out zo).mul (FrB.of (k:=1) (n:=3) ZQ.out zo) zo).sz) (show _≤8388608 by decide));have hml:=og (p:=q) (q:=q) zo zo;clear hn0 hn1 hp hq h0 h1 r0 r1 l0 l1 k0 k1 m0 m1;unfold ar;go_enter Tryz.func6,Tryz.ntmps6
 go_upto_region 1 with fail
 refine nmA ?_;intro w1 hE B6 hz_w1 hr_w1;replace HX:=hE.tr HX;have hs_w1:=hE.size;replace b_B6:=bX3 B6
 go_wp2_with fail
 refine cM (H0.out _ HX.out) fun x10 w10 hE G10=>?_
 refine mV2 hE ?_ B6 HX;clear B6 HX;intro B6 HX;have hs_w10:=hE.size;replace b_B6:=bX3 B6;obtain ⟨pa,pn,pc⟩:=x10;have LP:=Hi G10.out;clear G10
 go_wp2_with fail
 refine cM (H1.out _ HX.out) fun x12 w12 hE G12=>?_
 refine mV3 hE ?_ B6 HX LP;clear B6 HX LP;intro B6 HX LP;have hs_w12:=hE.size;replace b_B6:=bX3 B6;obtain ⟨qa,qn,qc⟩:=x12;have LQ:=Hi G12.out;clear G12;have hqn:qn≤3:=by have:=LQ.out.len;simp only at this;omega
 go_wp2_with fail
 refine cM (yD qa qa qn qc qn qc q q 1 _ (LQ.out.can.raw ZQ.out dZ) (LQ.out.can.raw ZQ.out dZ) zo zo ZQ.out ZQ.out dZ) fun x20 w20 hE G20=>?_
 refine mV4 hE ?_ B6 HX LP LQ;clear B6 HX LP LQ;intro B6 HX LP LQ;have hs_w20:=hE.size;replace b_B6:=bX3 B6;obtain ⟨ma,mn,mc⟩:=x20;have LM:=Hi G20.out;clear G20;have hmn:mn≤7:=by have:=LM.out.len;simp only at this;omega
 go_wp2_with fail
 refine cM (cZ 1 4 _ dZ dZ dZ dZ) fun x21 w21 hE G21=>?_
 refine mV5 hE ?_ B6 HX LP LQ LM;clear B6 HX LP LQ LM;intro B6 HX LP LQ LM;have hs_w21:=hE.size;replace b_B6:=bX3 B6;obtain ⟨fn,fa,fl,fc,fb,fm,fd⟩:=x21
 go_wp2_with fail
 refine nmA (F:=fun W=>Calls _ _ _ W _) ?_;intro w22 hE B22 hz_w22 hr_w22;refine mV6 hE ?_ G21 B6 HX LP LQ LM;clear G21 B6 HX LP LQ LM;intro G21 B6 HX LP LQ LM;have hs_w22:=hE.size;replace b_B6:=bX3 B6;replace b_B22:=bX3 B22
 change Calls _ _ _ _ _
 have L4:=Hi (AT B22.out G21.out);refine cM (Ac ma _ mn mc 1 1 (aO q q) [((1:Int):Rat) / ((4:Int):Rat)] _ (LM.out.can.raw ZM.out dZ) (L4.out.raw uB dZ) zo dZ ZM.out (uB.mono dZ)) fun x23 w23 hE G23=>?_
 refine mV8 hE ?_ B22 G21 B6 HX LP LQ LM L4;clear B22 G21 B6 HX LP LQ LM L4;intro B22 G21 B6 HX LP LQ LM L4;have hs_w23:=hE.size;replace b_B6:=bX3 B6;replace b_B22:=bX3 B22;obtain ⟨da,dn,dc⟩:=x23;have LDe:=Hi G23.out;clear G23;clear L4;go_wp2;refine Bz B6.out rfl ?_;intro w24 T;replace HX:=Hi (T.ext HX.out zo);replace B6:=Hi (T.bx);replace LP:=Hi (LP.out.put T zo);replace LQ:=Hi (LQ.out.put T zo);replace LM:=Hi (LM.out.put T zo);replace G21:=Hi (G21.out.keep T.keep);replace B22:=Hi (T.rest _ _ zo B22.out);replace LDe:=Hi (LDe.out.put T zo);have hs_w24:=nle T.size;have hr_w24:=nle T.size.symm;clear T;replace b_B6:=bX3 B6;replace b_B22:=bX3 B22;exact nXa (v:=QV (⟨pa,pn,pc⟩,⟨da,dn,dc⟩)) (by simp [results,Tryz.results6,go_sem,b_B6.1]) rfl ⟨(⟨pa,pn,pc⟩,⟨da,dn,dc⟩),rfl,HX.out,LP.out.can,LDe.out.can⟩
end Go.Proofs.YtkcpmclnocmalaaGreat
/- What the answers of package sturm say: positive, nowhere negative. Plain facts. -/
namespace Go.Proofs.YtkcpmclnocmalaaGreat.Sg
open Go.RowKit Go.Front Go.Num Go.Stab Go.Proofs.YtkcpmclnocmalaaGreat
def eR(I:Rat→Prop)(f:Rat→Rat):Prop:=∀ s t,I s→I t→s<t→f s≠0∧f t≠0∧sg (f s)=sg (f t)
def CX(I:Rat→Prop):Prop:=∀ s t u,I s→I u→s≤t→t≤u→I t
theorem Cp.bound{v w:Rat→Rat}(h:Cp v w)(A B:Rat):∃ d,0<d∧∀ x,A≤x→x≤B→Big d (v x)∨Big d (w x):=by
 obtain ⟨a,b,ha,hb,h1⟩:=h;obtain ⟨K,hK,k1⟩:=ha.on A B;obtain ⟨L,hL,k2⟩:=hb.on A B;have hM:0<K+L+1:=by grind
 have hd:0<1 / (K+L+1):=zy dZ hM;have he:=aQ (a:=1) (b:=K+L+1) (by grind);refine ⟨1 / (K+L+1),hd,fun x hx1 hx2=>Classical.byContradiction fun hn=>?_⟩;generalize 1 / (K+L+1)=d at *
 obtain ⟨n1,n2⟩:¬ Big d (v x)∧¬ Big d (w x):=⟨fun h=>hn (Or.inl h),fun h=>hn (Or.inr h)⟩;obtain ⟨p1,p2⟩:=kL n1;obtain ⟨p3,p4⟩:=kL n2;have b1:Bd (K*d) (a x*v x):=(k1 x hx1 hx2).mul (N:=d) ⟨by grind,by grind⟩;have b2:Bd (L*d) (b x*w x):=(k2 x hx1 hx2).mul (N:=d) ⟨by grind,by grind⟩;have b3:=(b1.add b2).2;rw [h1 x] at b3;grind
theorem iw{q:Rat}(h:q≠0):sg q≠0:=fun h0=>h (eV.1 h0)
theorem tR{I:Rat→Prop}(hI:CX I){f v w:Rat→Rat}(hv:Pf v)(hw:Pf w)(he:∀ x,f x=v x*w x)(hc:Cp v w)(hf:eR I f):eR I v:=by
 intro s t hs ht hst;obtain ⟨f1,f2,-⟩:=hf s t hs ht hst;have v1:v s≠0:=fun h0=>f1 (by rw [he,h0];grind)
 have v2:v t≠0:=fun h0=>f2 (by rw [he,h0];grind)
 refine ⟨v1,v2,?_⟩;obtain ⟨d,hd,hb⟩:=hc.bound s t;obtain ⟨K,hK,k1⟩:=hv.lip s t;obtain ⟨L,hL,k2⟩:=hw.lip s t;obtain ⟨e1,he1,k3⟩:=dt hK hd;obtain ⟨e2,he2,k4⟩:=dt hL hd;obtain ⟨e,he0,k5,k6⟩:=dD he1 he2;refine fN (A:=s) (B:=t) (P:=fun a b=>sg (v a)=sg (v b)) he0 (fun a b h1 h2 h3 h4=>?_) (fun a b c _ _ _ _ h1 h2=>h1.trans h2) s t Rat.le_refl hst Rat.le_refl;rcases hb a h1 (by grind) with h5|h5
 ·exact (h5.sign k1 h1 (by grind) h3 (k3 _ (by grind))).1.symm
 ·obtain ⟨h6,h7⟩:=h5.sign k2 h1 (by grind) h3 (k4 _ (by grind));have h8:=(hf a b (hI s a t hs ht h1 (by grind)) (hI s b t hs ht (by grind) h3) h2).2.2;rw [he a,he b,eh,eh,h6] at h8;exact Int.eq_of_mul_eq_mul_right h7 h8
theorem eR.mul{I:Rat→Prop}{f g h:Rat→Rat}(hf:eR I f)(hg:eR I g)(he:∀ x,h x=f x*g x):eR I h:=by
 intro s t hs ht hst;obtain ⟨f1,f2,f3⟩:=hf s t hs ht hst;obtain ⟨g1,g2,g3⟩:=hg s t hs ht hst;refine ⟨?_,?_,by rw [he,he,eh,eh,f3,g3]⟩
 ·rw [he];intro h0;rcases nXr.1 h0 with h1|h1
  ·exact f1 h1
  ·exact g1 h1
 ·rw [he];intro h0;rcases nXr.1 h0 with h1|h1
  ·exact f2 h1
  ·exact g2 h1
theorem eR.smul{I:Rat→Prop}{f g:Rat→Rat}{c:Rat}(hf:eR I f)(hc:c≠0)(he:∀ x,g x=c*f x):eR I g:=by
 refine eR.mul (f:=fun _=>c) (fun s t _ _ _=>⟨hc,hc,rfl⟩) hf he
theorem AP{r r' v w:Rat→Rat}(hv:Pf v)(hw:Pf w)(he:∀ x,r x=v x*w x)(hd:IsD r r')(hc:Cp r r'):Cp v w∧∀ w',Pf w'→IsD w w'→Cp w w':=by
 obtain ⟨v',hv',d1⟩:=kD hv;obtain ⟨a,b,ha,hb,h1⟩:=hc;have key:∀ w',Pf w'→IsD w w'→∀ x,v' x*w x+v x*w' x=r' x:=fun w' hw' d2 x=>(IsD.mul d1 d2 hv hw hv').uniq (by rw [show r=fun x=>v x*w x from funext he] at hd;exact hd) x
 constructor
 ·obtain ⟨w',hw',d2⟩:=kD hw;refine ⟨_,_,(ha.mul hw).add (hb.mul hw'),hb.mul hv',fun x=>?_⟩;have k1:=h1 x;rw [he x,←key w' hw' d2 x] at k1;show (a x*w x+b x*w' x)*v x+b x*v' x*w x=1;grind
 ·intro w' hw' d2;refine ⟨_,_,(ha.mul hv).add (hb.mul hv'),hb.mul hv,fun x=>?_⟩;have k1:=h1 x;rw [he x,←key w' hw' d2 x] at k1;show (a x*v x+b x*v' x)*w x+b x*v x*w' x=1;grind
theorem dec{p gl:List Rat}(h0:tz p≠[])(hG:IsG (evV gl) (evV p) (evD p)){r:Rat→Rat}(hr:Pf r)(h1:∀ x,evV p x=evV gl x*r x) :
  tz gl≠[]∧(∃ r',Pf r'∧IsD r r'∧Cp r r')∧∃ r1 w,Pf r1∧Pf w∧(∀ x,evV gl x=evV (aV gl (derL gl)) x*r1 x)∧(∀ x,r x=r1 x*w x)∧Cp r1 w:=by
 have hp0:=jb h0;obtain ⟨q1,hq1,h2⟩:=hG.2.1;have hg0:tz gl≠[]:=fun h=>by
  obtain ⟨y,hy⟩:=hp0;exact hy (by rw [h1,aD.1 h y];grind)
 have hgx:=jb hg0;obtain ⟨r',hr',hd⟩:=kD hr;have hmain:=qD (tz p).length p (nXe _) h0 _ _ (Pf.ev gl) hr hG h1 r' hr' hd;have hslope:∀ x,evD gl x*r x+evV gl x*r' x=evV gl x*q1 x:=fun x=>by
  have e:=(IsD.mul (IsD.ev gl) hd (Pf.ev gl) hr (Pf.der gl)).uniq (by
   have:=IsD.ev p;rw [show evV p=fun x=>evV gl x*r x from funext h1] at this;exact this) x
  rw [h2 x] at e;exact e
 have hG2:=dE gl (derL gl);rw [show evV (derL gl)=evD gl from funext (cW gl)] at hG2;obtain ⟨r1,hr1,e1⟩:=hG2.1;obtain ⟨s1,hs1,e2⟩:=hG2.2.1;have hc2:=Bb (Pf.ev _) hr1 hs1 hG2 e1 e2 hgx;have hp2x:∃ x,evV (aV gl (derL gl)) x≠0:=by
  obtain ⟨y,hy⟩:=hgx;exact ⟨y,fun h=>hy (by rw [e1,h];grind)⟩
 have e3:∀ x,s1 x*r x=r1 x*(q1 x-r' x):=eJ (f:=evV (aV gl (derL gl))) (g:=fun x=>s1 x*r x) (h:=fun x=>r1 x*(q1 x-r' x)) (Pf.ev _) (hs1.mul hr) (hr1.mul (hq1.sub hr')) (fun x=>by
  have h3:=hslope x;rw [e2 x,e1 x] at h3;grind) hp2x
 obtain ⟨w,hw,e4⟩:=hc2.dv hr ⟨_,hq1.sub hr',e3⟩;exact ⟨hg0,⟨r',hr',hd,hmain⟩,r1,w,hr1,hw,e1,e4,(AP hr1 hw e4 hd hmain).1⟩
theorem DP{p gl:List Rat}(h0:tz p≠[])(hG:IsG (evV gl) (evV p) (evD p))(hl:1<(tz gl).length):(tz gl).length<(tz p).length:=by
 have hpg:=gD hG.1 h0;obtain ⟨m,hm⟩:∃ m,(tz p).length=m+2:=⟨(tz p).length-2,zo⟩;have hdl:Dv (evV gl) (evV (derL p)):=by rw [show evV (derL p)=evD p from funext (cW p)];exact hG.2.1
 have hlen:=gD hdl (wy hm);have hder:=fP p (m+1) hm;omega
theorem lQ{I:Rat→Prop}(hI:CX I):∀ (n:Nat) (p:List Rat),(tz p).length≤n→tz p≠[]→∀ (gl:List Rat) (r:Rat→Rat),Pf r→IsG (evV gl) (evV p) (evD p)→(∀ x,evV p x=evV gl x*r x)→eR I r→eR I (evV p):=by
 intro n;induction n with
 | zero=>intro p h h0;exact absurd (nXj.1 zo) h0
 | succ n ih =>
  intro p hn h0 gl r hr hG h1 hs;obtain ⟨hg0,-,r1,w,hr1,hw,e1,e4,hc⟩:=dec h0 hG hr h1;refine eR.mul ?_ hs h1;rcases Nat.lt_or_ge 1 (tz gl).length with hl|hl
  ·have hlt:=DP h0 hG hl;have hG2:=dE gl (derL gl);rw [show evV (derL gl)=evD gl from funext (cW gl)] at hG2;exact ih gl zo hg0 _ r1 hr1 hG2 e1 (tR hI hr1 hw e4 hc hs)
  ·have h2:=gy hl;obtain ⟨y,hy⟩:=jb hg0;have hy2:seq gl 0≠0:=fun h=>hy (by rw [h2,h])
   intro s t _ _ _;rw [h2 s,h2 t];exact ⟨hy2,hy2,rfl⟩
theorem lT{A B:Rat}{f:Rat→Rat}{l:List (Rat→Rat)}(h:Fit A B f l)(hV:V f l A=V f l B){s t:Rat}(h1:A<s)(h2:s<t)(h3:t≤B):f s≠0∧f t≠0∧sg (f s)=sg (f t):=by
 have hs:=h.same hV;have hmid:A<(A+s) / 2∧(A+s) / 2<s:=by
  have:=aQ (a:=A+s) (b:=2) dZ;exact ⟨by grind,by grind⟩
 generalize (A+s) / 2=m at hmid;obtain ⟨k1,k2⟩:=hs m s (by grind) hmid.2 (by grind);have hfs:f s≠0:=fun h0=>by
  by_cases hm:f m=0
  ·exact k2 hm h0
  ·have:=k1 hm;rw [eV.2 h0] at this;exact iw hm this.symm
 have h4:=(hs s t (by grind) h2 h3).1 hfs;exact ⟨hfs,fun h0=>by rw [eV.2 h0] at h4;exact iw hfs h4.symm,h4.symm⟩
theorem lh{A B:Rat}{f:Rat→Rat}{l:List (Rat→Rat)}(hf:∀ A B,Fit A B f l)(hAB:A<B)(hV:V f l A=V f l B+(if f B=0 then 1 else 0)):eR (fun x=>A<x∧x<B) f:=by
 intro s t hs ht hst;by_cases h0:f B=0
 ·rw [if_pos h0] at hV;obtain ⟨e,he,hc⟩:=(hf A B).cell;obtain ⟨b,hb1,hb2,hb3,hb4⟩:∃ b,t≤b∧b<B∧B-b≤e∧A<b:=by
   by_cases h:B-e≤t
   ·exact ⟨t,Rat.le_refl,ht.2,by grind,ht.1⟩
   ·exact ⟨B-e,by grind,by grind,by grind,by have:=ht.1;grind⟩
  obtain ⟨k1,k2⟩:=hc b B (by grind) hb2 Rat.le_refl hb3;have hfb:f b≠0:=fun h=>k2 h h0
  have hcr:dh f b B=1:=by
   unfold dh;rw [if_pos ⟨iw hfb,by rw [eV.2 h0];exact fun h=>iw hfb h.symm⟩]
  exact lT (hf A b) zo hs.1 hst hb1
 ·rw [if_neg h0] at hV;exact lT (hf A B) hV hs.1 hst (by have:=ht.2;grind)
theorem DV{r:List Rat}(h:tz r≠[])(hc:Cp (evV r) (evD r)):∃ l,aP r=ay r :: l∧∀ A B,Fit A B (evV (ay r)) (l.map evV):=by
 obtain ⟨l,e,-⟩:=qM h hc 0 0;refine ⟨l,e,fun A B=>?_⟩;obtain ⟨l',e',h'⟩:=qM h hc A B;have:l=l':=by rw [e] at e';exact (List.cons.inj e').2
 rw [this];exact h'
theorem EO{A B:Rat}{f f1 f2:Rat→Rat}{l l1 l2:List (Rat→Rat)}(hf:Fit A B f l)(h1:Fit A B f1 l1)(h2:Fit A B f2 l2)(p1:Pf f1)(p2:Pf f2)(hc:Cp f1 f2){z:Int}(hz:z≠0)(hs:∀ x,sg (f x)=z*(sg (f1 x)*sg (f2 x))) :
  ∀ s t,A≤s→s<t→t≤B→V f l s+V f1 l1 t+V f2 l2 t=V f l t+V f1 l1 s+V f2 l2 s:=by
 obtain ⟨d,hd,hb⟩:=hc.bound A B;obtain ⟨K,hK,k1⟩:=p1.lip A B;obtain ⟨L,hL,k2⟩:=p2.lip A B;obtain ⟨e1,he1,k3⟩:=dt hK hd;obtain ⟨e2,he2,k4⟩:=dt hL hd;obtain ⟨e3,he3,k5⟩:=hf.cell;obtain ⟨e4,he4,k6⟩:=h1.cell;obtain ⟨e5,he5,k7⟩:=h2.cell;obtain ⟨a,ha,a1,a2⟩:=dD he1 he2;obtain ⟨b,hb0,b1,b2⟩:=dD he3 he4;obtain ⟨c,hc0,c1,c2⟩:=dD ha hb0;obtain ⟨e,he,g1,g2⟩:=dD hc0 he5;refine fN he (fun s t m1 m2 m3 m4=>?_) (fun s t u _ _ _ _ m1 m2=>by omega);have n1:=(k5 s t m1 m2 m3 (by grind)).1;have n2:=(k6 s t m1 m2 m3 (by grind)).1;have n3:=(k7 s t m1 m2 m3 (by grind)).1;have key:dh f s t=dh f1 s t+dh f2 s t:=by
  rcases hb s m1 (by grind) with h5|h5
  ·obtain ⟨h6,h7⟩:=h5.sign k1 m1 (by grind) m3 (k3 _ (by grind));have e1:dh f1 s t=0:=by unfold dh;rw [if_neg (fun h=>h.2 h6)]
   rw [e1,Nat.zero_add];unfold dh;have e2:(sg (f s)≠0∧sg (f t)≠sg (f s))↔(sg (f2 s)≠0∧sg (f2 t)≠sg (f2 s)):=by
    rw [hs s,hs t,h6];constructor
    ·rintro ⟨i1,i2⟩;exact ⟨fun h=>i1 (by rw [h];simp),fun h=>i2 (by rw [h])⟩
    ·rintro ⟨i1,i2⟩;refine ⟨Int.mul_ne_zero hz (Int.mul_ne_zero h7 i1),fun h=>i2 ?_⟩;exact Int.eq_of_mul_eq_mul_left h7 (Int.eq_of_mul_eq_mul_left hz h)
   by_cases h:sg (f2 s)≠0∧sg (f2 t)≠sg (f2 s)
   ·rw [if_pos h,if_pos (e2.2 h)]
   ·rw [if_neg h,if_neg (fun k=>h (e2.1 k))]
  ·obtain ⟨h6,h7⟩:=h5.sign k2 m1 (by grind) m3 (k4 _ (by grind));have e1:dh f2 s t=0:=by unfold dh;rw [if_neg (fun h=>h.2 h6)]
   rw [e1,Nat.add_zero];unfold dh;have e2:(sg (f s)≠0∧sg (f t)≠sg (f s))↔(sg (f1 s)≠0∧sg (f1 t)≠sg (f1 s)):=by
    rw [hs s,hs t,h6];constructor
    ·rintro ⟨i1,i2⟩;exact ⟨fun h=>i1 (by rw [h];simp),fun h=>i2 (by rw [h])⟩
    ·rintro ⟨i1,i2⟩;refine ⟨Int.mul_ne_zero hz (Int.mul_ne_zero i1 h7),fun h=>i2 ?_⟩;exact Int.eq_of_mul_eq_mul_right h7 (Int.eq_of_mul_eq_mul_left hz h)
   by_cases h:sg (f1 s)≠0∧sg (f1 t)≠sg (f1 s)
   ·rw [if_pos h,if_pos (e2.2 h)]
   ·rw [if_neg h,if_neg (fun k=>h (e2.1 k))]
 omega
theorem ET{c x:Rat}(h:0<c):sg (c*x)=sg x:=by rw [eh,dI h];omega
theorem mE{p:List Rat}(h:tz p≠[])(x:Rat):sg (evV (ay p) x)=sg (evV p x):=by rw [cr p x,ET (bs h)]
theorem xG{A B d:Rat}{r:Rat→Rat}(hr:Pf r)(hd:0<d)(hb:∀ x,A≤x→x≤B→Big d (r x)):∀ s t,A≤s→s<t→t≤B→sg (r t)=sg (r s):=by
 obtain ⟨K,hK,k1⟩:=hr.lip A B;obtain ⟨e,he,k2⟩:=dt hK hd;exact fN he (fun s t h1 h2 h3 h4=>((hb s h1 (by grind)).sign k1 h1 (by grind) h3 (k2 _ h4)).1) (fun s t u _ _ _ _ h1 h2=>h2.trans h1)
theorem pos_on{p:List Rat}{c:Rat}(hc:0<c)(lo hi:Rat)(hlh:lo≤hi)(he:∀ x,lo≤x→x≤hi→c≤evV p x):posV p lo hi=true:=by
 have h0:tz p≠[]:=fun h=>by have h1:=he lo Rat.le_refl hlh;rw [aD.1 h lo] at h1;grind
 unfold posV;rw [if_neg h0,if_neg (by rw [mE h0,dI (by have:=he lo Rat.le_refl hlh;grind)];decide),decide_eq_true_iff];have hr:=fk h0;obtain ⟨l,e,hfit⟩:=DV hr.ne hr.cp;have hnr:rtV (aP (aT p)) lo=false:=by
  cases k:rtV (aP (aT p)) lo with
  | false=>rfl
  | true =>
   have h1:=(pp h0 lo).1 k;have:=he lo Rat.le_refl hlh;rw [h1] at this;grind
 unfold zG;rw [hnr,if_neg dZ,qt e,qt e];rcases Rat.le_iff_lt_or_eq.1 hlh with h1|h1
 ·obtain ⟨g,q1,hg,-,-,k1,-⟩:=hr.dv;obtain ⟨M,hM,k2⟩:=hg.on lo hi;have hm:=bs hr.ne;have hM1:0<M+1:=by grind
  have hd:0<c / (M+1):=zy hc hM1;have hdc:=aQ (a:=c) (b:=M+1) (by grind);have hbig:∀ x,lo≤x→x≤hi→Big (c / (M+1)) (evV (aT p) x):=fun x h2 h3=>Classical.byContradiction fun hn=>by
   obtain ⟨b1,b2⟩:=kL hn;generalize c / (M+1)=d at *
   have b0:Bd d (evV (aT p) x):=⟨by grind,by grind⟩;have b3:=((k2 x h2 h3).mul b0).2;have h4:=he x h2 h3;rw [k1 x] at h4;grind
  have hst:=xG (Pf.ev (aT p)) hd hbig;have hV:=(hfit lo hi).calm Rat.le_refl h1 Rat.le_refl (fun s t s1 s2 s3 _=>by rw [mE hr.ne,mE hr.ne];exact hst s t s1 s2 s3);rw [hV];omega
 ·rw [h1];omega
def EP(p:List Rat):List Rat:=(tz p).map (·*(1 / ((tz p).getLast?.getD 0).abs))
def rch:Nat→List Rat→List Rat→List (List Rat)
 | 0,_,_=>[]
 | n+1,a,b=>if a=[] then [] else if b=[] then [a] else a :: rch n b (EP ((bX a b).map (·*-1)))
def FY(q:List Rat):List (List Rat):=rch (q.length+1) (EP q) (EP (derL q))
end Go.Proofs.YtkcpmclnocmalaaGreat.Sg
/- Eval of the reference's polynomials, big numbers. -/
namespace Go.Proofs.YtkcpmclnocmalaaGreat
open Go.RowKit Go.Front Go.Num Stab
attribute [local go_sem] XW.cell XW.frozen
open Sg
end Go.Proofs.YtkcpmclnocmalaaGreat
/- How near two roots can be: on a short interval the changes of sign in a chain fall by one at most. Plain facts. -/
namespace Go.Proofs.YtkcpmclnocmalaaGreat.Sg
open Go.RowKit Go.Front Go.Num Go.Stab Go.Proofs.YtkcpmclnocmalaaGreat
theorem yO{g h a b:Rat→Rat}(hg:IsG g a b)(hh:IsG h a b)(pg:Pf g)(ph:Pf h)(h0:∃ x,a x≠0):∃ c:Rat,c≠0∧∀ x,g x=c*h x:=by
 have one:∀ {g h:Rat→Rat},IsG g a b→IsG h a b→Pf g→Pf h→Dv g h:=fun {g h} hg hh _ _=>by
  obtain ⟨-,-,u,v,hu,hv,e⟩:=hh;obtain ⟨x1,hx1,e1⟩:=hg.1;obtain ⟨x2,hx2,e2⟩:=hg.2.1;exact ⟨_,(hu.mul hx1).add (hv.mul hx2),fun x=>by rw [e x,e1 x,e2 x];grind⟩
 obtain ⟨c1,⟨cl,rfl⟩,k1⟩:=one hh hg ph pg;obtain ⟨c2,p2,k2⟩:=one hg hh pg ph;have hgx:∃ x,g x≠0:=by
  obtain ⟨y,hy⟩:=h0;obtain ⟨x1,hx1,e1⟩:=hg.1;exact ⟨y,fun h=>hy (by rw [e1,h];grind)⟩
 have k3:∀ x,evV cl x*c2 x=1:=eJ (f:=g) (g:=fun x=>evV cl x*c2 x) (h:=fun _=>1) pg ((Pf.ev cl).mul p2) (Pf.const 1) (fun x=>by
  have e1:=k1 x;rw [k2 x] at e1;grind) hgx
 have hd:Dv (evV cl) (evV [(1:Rat)]):=⟨c2,p2,fun x=>by rw [k3 x];show 0*x+1=1;grind⟩;have hl:=gD hd (fun h=>by have:=aD.1 h 0;exact absurd this (by show (0*0+1:Rat)≠0;grind));have hl2:=aj [(1:Rat)];simp only [List.length_cons,List.length_nil] at hl2;have h2:=gy (p:=cl) zo;refine ⟨seq cl 0,fun h=>?_,fun x=>by rw [k1 x,h2 x];grind⟩;have:=k3 0;rw [h2 0,h] at this;grind
theorem FK{c x:Rat}(h:0<c):sg (c*x)=sg x:=by rw [eh,dI h];omega
theorem ko{p:List Rat}(h:tz p≠[])(x:Rat):sg (evV (ay p) x)=sg (evV p x):=by rw [cr p x,FK (bs h)]
theorem Dj{p:List Rat}{g r:Rat→Rat}(h:tz p≠[])(h1:∀ x,evV p x=g x*r x):(∃ x,g x≠0)∧∃ x,r x≠0:=by
 obtain ⟨y,hy⟩:=jb h;exact ⟨⟨y,fun h=>hy (by rw [h1,h];grind)⟩,⟨y,fun h=>hy (by rw [h1,h];grind)⟩⟩
theorem qK{q:List Rat}(h:tz q≠[]){r:Rat→Rat}(hr:Pf r)(h1:∀ x,evV q x=evV (aV q (derL q)) x*r x):∃ c:Rat,c≠0∧∀ x,evV (aT q) x=c*r x:=by
 obtain ⟨hne,hcp,g,q1,hg,hq1,hG,k1,k2⟩:=fk h;obtain ⟨c,hc,k3⟩:=yO (rN (dE q (derL q))) hG (Pf.ev _) hg (jb h);refine ⟨c,hc,eJ (f:=g) (g:=evV (aT q)) (h:=fun x=>c*r x) hg (Pf.ev _) (hr.smul c) (fun x=>?_) (Dj h k1).1⟩;rw [←k1 x,h1 x,k3 x];grind
theorem nA{q:List Rat}(h:tz q≠[]){lo hi:Rat}(hlh:lo<hi){l:List (List Rat)}(e:aP (aT q)=ay (aT q) :: l) :
  lA q lo hi=(V (evV (ay (aT q))) (l.map evV) lo:Int)-V (evV (ay (aT q))) (l.map evV) hi-(if evV (ay (aT q)) hi=0 then 1 else 0):=by
 unfold lA;rw [qt e,qt e];have hr:=fk h;have k:(rtV (aP (aT q)) hi=true∧lo<hi)↔evV (ay (aT q)) hi=0:=by
  rw [pp h hi,iY hr.ne hi,hr.root h hi];exact ⟨fun a=>a.1,fun a=>⟨a,hlh⟩⟩
 by_cases h2:evV (ay (aT q)) hi=0
 ·rw [if_pos h2,if_pos (k.2 h2)]
 ·rw [if_neg h2,if_neg (fun a=>h2 (k.1 a))]
theorem Cw(lo hi:Rat):CX (fun x=>lo<x∧x<hi):=fun s t u h1 h2 h3 h4=>⟨by have:=h1.1;grind,by have:=h2.2;grind⟩
theorem Cx(lo hi:Rat):CX (fun x=>lo≤x∧x≤hi):=fun s t u h1 h2 h3 h4=>⟨by have:=h1.1;grind,by have:=h2.2;grind⟩
theorem ki{I:Rat→Prop}{r:List Rat}(h:tz r≠[])(hs:eR I (evV (ay r))):eR I (evV r):=hs.smul (c:=aR r) (fun h0=>by have:=bs h;rw [h0] at this;exact absurd this Rat.lt_irrefl) (cr r)
theorem xF{I:Rat→Prop}(hI:CX I){q r:List Rat}(h:tz q≠[])(hr:Rt q r)(hs:eR I (evV r)):eR I (evV q):=by
 obtain ⟨hne,hcp,g,q1,⟨gl,rfl⟩,hq1,hG,k1,k2⟩:=hr;exact lQ hI _ q (nXe _) h gl _ (Pf.ev r) hG k1 hs
theorem oT{lo hi:Rat}(hlh:lo<hi){q:List Rat}(h0:tz q≠[]):tz (aV q (derL q))≠[]∧IsG (evV (aV q (derL q))) (evV q) (evD q)∧∃ (r1:Rat→Rat) (wl:List Rat) (lw:List (List Rat)),Pf r1∧tz wl≠[]∧(∀ x,evV (aV q (derL q)) x=evV (aV (aV q (derL q)) (derL (aV q (derL q)))) x*r1 x)∧(∀ x,evV q x=evV (aV q (derL q)) x*(r1 x*evV wl x))∧Cp r1 (evV wl)∧(∀ A B,Fit A B (evV (ay wl)) (lw.map evV)) ∧
  lA q lo hi=lA (aV q (derL q)) lo hi+((V (evV (ay wl)) (lw.map evV) lo:Int)-V (evV (ay wl)) (lw.map evV) hi-(if evV (ay wl) hi=0 then 1 else 0)):=by
 have hr:=fk h0;obtain ⟨l,e,hfit⟩:=DV hr.ne hr.cp;have hb:=nA h0 hlh e;have hG:=rN (dE q (derL q));have hg0:=jh h0;have hq:=i6 hg0 (k9 q);obtain ⟨-,⟨r',hr',hd,hcp⟩,r1,w,hr1,⟨wl,rfl⟩,e1,e4,hcw⟩:=dec h0 hG (Pf.ev _) hq;obtain ⟨c0,hc0,f0⟩:=qK h0 (Pf.ev _) hq;obtain ⟨c1,hc1,f1⟩:=qK hg0 hr1 e1;have hw0:tz wl≠[]:=fun h=>by
  obtain ⟨y,hy⟩:=(Dj h0 hq).2;exact hy (by rw [e4,aD.1 h y];grind)
 have hww:=(AP hr1 (Pf.ev wl) e4 hd hcp).2 _ (Pf.der wl) (IsD.ev wl);obtain ⟨lw,ew,hfw⟩:=DV hw0 hww;have hR1:=fk hg0;obtain ⟨l1,el1,hf1⟩:=DV hR1.ne hR1.cp;have hb1:=nA hg0 hlh el1;have hcc:c0≠0∧c1≠0:=⟨hc0,hc1⟩;have hci:=nYk _ hc1;have hk:c0*c1⁻¹≠0:=fun h=>by
  rcases nXr.1 h with h|h
  ·exact hc0 h
  ·rw [h,nYc] at hci;exact absurd hci dZ
 have hrel:∀ x,evV (aT q) x=c0*c1⁻¹*(evV (aT (aV q (derL q))) x*evV wl x):=fun x=>by
  rw [f0 x,f1 x,e4 x];have:c0*c1⁻¹*(c1*r1 x*evV wl x)=c0*(c1*c1⁻¹)*(r1 x*evV wl x):=by grind
  rw [this,hci];grind
 have hcp1:Cp (evV (aT (aV q (derL q)))) (evV wl):=by
  obtain ⟨u,v,hu,hv,k⟩:=hcw;refine ⟨_,v,hu.smul c1⁻¹,hv,fun x=>?_⟩;rw [f1 x];have:c1⁻¹*u x*(c1*r1 x)=(c1*c1⁻¹)*(u x*r1 x):=by grind
  show c1⁻¹*u x*(c1*r1 x)+v x*evV wl x=1;rw [this,hci,Rat.one_mul,k x]
 have hcp2:Cp (evV (ay (aT (aV q (derL q))))) (evV (ay wl)):=by
  obtain ⟨u,v,hu,hv,k⟩:=hcp1;refine ⟨_,_,hu.smul (aR (aT (aV q (derL q)))),hv.smul (aR wl),fun x=>?_⟩;have:=k x;rw [cr (aT (aV q (derL q))) x,cr wl x] at this;show aR (aT (aV q (derL q)))*u x*_+aR wl*v x*_=1;grind
 have hva:=EO (hfit lo hi) (hf1 lo hi) (hfw lo hi) (Pf.ev _) (Pf.ev _) hcp2 (z:=sg (c0*c1⁻¹)) (iw hk) (fun x=>by
  rw [ko hr.ne,ko hR1.ne,ko hw0,hrel x];exact (eh _ _).trans (congrArg _ (eh _ _))) lo hi Rat.le_refl hlh Rat.le_refl
 have hroot:(if evV (ay (aT q)) hi=0 then (1:Int) else 0)=(if evV (ay (aT (aV q (derL q)))) hi=0 then 1 else 0)+(if evV (ay wl) hi=0 then 1 else 0):=by
  have a1:=iY hr.ne hi;have a2:=iY hR1.ne hi;have a3:=iY hw0 hi;obtain ⟨u,v,hu,hv,k⟩:=hcp1;have k4:=k hi;have k5:=hrel hi;by_cases b2:evV (aT (aV q (derL q))) hi=0
  ·have b3:evV wl hi≠0:=fun h=>by rw [b2,h] at k4;grind
   rw [if_pos (a1.2 (by rw [k5,b2];grind)),if_pos (a2.2 b2),if_neg (fun h=>b3 (a3.1 h))];rfl
  ·by_cases b3:evV wl hi=0
   ·rw [if_pos (a1.2 (by rw [k5,b3];grind)),if_neg (fun h=>b2 (a2.1 h)),if_pos (a3.2 b3)];rfl
   ·rw [if_neg (fun h=>by
     have h':=a1.1 h;rw [k5] at h';rcases nXr.1 h' with h2|h2
     ·exact hk h2
     ·rcases nXr.1 h2 with h3|h3
      ·exact b2 h3
      ·exact b3 h3),if_neg (fun h=>b2 (a2.1 h)),if_neg (fun h=>b3 (a3.1 h))];rfl
 refine ⟨hg0,hG,r1,wl,lw,hr1,hw0,e1,fun x=>by rw [hq x,e4 x],hcw,hfw,?_⟩;rw [hb,hb1,hroot];generalize (if evV (ay (aT (aV q (derL q)))) hi=0 then (1:Int) else 0)=i1;generalize (if evV (ay wl) hi=0 then (1:Int) else 0)=i2;omega
theorem wK{lo hi:Rat}(hlh:lo<hi):∀ (n:Nat) (q:List Rat),(tz q).length<n→tz q≠[]→lI n q lo hi=false→∀ s t,lo<s→s<hi→lo<t→t<hi→s<t→evV q s≠0→evV q t≠0→sg (evV q s)=sg (evV q t):=by
 intro n;induction n with
 | zero=>intro q h;omega
 | succ n ih =>
  intro q hn h0 hc s t s1 s2 t1 t2 hst hs0 ht0;have hce:lI (n+1) q lo hi=if lA q lo hi=0 then false else if lA (aV q (derL q)) lo hi≠lA q lo hi then true else lI n (aV (aV q (derL q)) (derL (aV q (derL q)))) lo hi:=rfl
  rw [hce] at hc;by_cases hz:lA q lo hi=0
  ·have hr:=fk h0;obtain ⟨l,e,hfit⟩:=DV hr.ne hr.cp;have hb:=nA h0 hlh e;have hst':=lh hfit hlh (by
    by_cases hh:evV (ay (aT q)) hi=0
    ·rw [if_pos hh] at hb ⊢;omega
    ·rw [if_neg hh] at hb ⊢;omega)
   exact (xF (Cw lo hi) h0 hr (ki hr.ne hst') s t ⟨s1,s2⟩ ⟨t1,t2⟩ hst).2.2
  ·rw [if_neg hz] at hc;by_cases hz2:lA (aV q (derL q)) lo hi=lA q lo hi
   ·rw [if_neg (fun h=>h hz2)] at hc;obtain ⟨hg0,hG,r1,wl,lw,hr1,hw0,e1,e4,hcw,hfw,hbb⟩:=oT hlh h0;have hwst:eR (fun x=>lo<x∧x<hi) (evV (ay wl)):=lh hfw hlh (by
     by_cases hh:evV (ay wl) hi=0
     ·rw [if_pos hh] at hbb ⊢;omega
     ·rw [if_neg hh] at hbb ⊢;omega)
    have hwl:=ki hw0 hwst;have hlen1:=wR h0 hz;have hq2:=ih _ (by
     have g1:=AH hlen1;have g2:=pQ hg0;have g3:=nj (aV q (derL q)) (derL (aV q (derL q)));have g4:=nj q (derL q);have hqt:=gD (k9 q) h0;have hl:1<(tz (aV q (derL q))).length∨(tz (aV q (derL q))).length≤1:=zo;rw [g3];rcases hl with hl|hl
     ·have:=DP h0 hG hl;rw [g4] at this;omega
     ·rw [g4] at hl;omega) (jh hg0) hc s t s1 s2 t1 t2 hst
    have hfac:∀ x,evV q x=evV (aV (aV q (derL q)) (derL (aV q (derL q)))) x*(r1 x*r1 x)*evV wl x:=fun x=>by
     rw [e4 x,e1 x];grind
    have hne:∀ x,evV q x≠0→evV (aV (aV q (derL q)) (derL (aV q (derL q)))) x≠0∧r1 x≠0:=fun x hx=>⟨fun h=>hx (by rw [hfac,h];grind),fun h=>hx (by rw [hfac,h];grind)⟩
    have hsq:∀ x,r1 x≠0→sg (r1 x*r1 x)=1:=fun x hx=>by
     refine dI ?_;rcases tri (r1 x) 0 with h|h|h
     ·have:=Rat.mul_pos (a:=-(r1 x)) (b:=-(r1 x)) (by grind) (by grind);grind
     ·exact absurd h hx
     ·exact Rat.mul_pos h h
    obtain ⟨m1,m2⟩:=hne s hs0;obtain ⟨m3,m4⟩:=hne t ht0;have key:∀ x,r1 x≠0→sg (evV q x)=sg (evV (aV (aV q (derL q)) (derL (aV q (derL q)))) x)*sg (evV wl x):=fun x hx=>by
     rw [hfac x,eh _ (evV wl x),eh _ (r1 x*r1 x),hsq x hx,Int.mul_one]
    rw [key s m2,key t m4,hq2 m1 m3,(hwl s t ⟨s1,s2⟩ ⟨t1,t2⟩ hst).2.2]
   ·rw [if_pos hz2] at hc;exact absurd hc dZ
theorem pw{a:Rat}:∀ (k:Nat) (p:List Rat) (g:Rat→Rat),Pf g→tz p≠[]→(∀ x,evV p x=(x-a) ^ k*g x)→k<(tz p).length:=by
 intro k;induction k with
 | zero=>intro p g _ h _;exact nYh.2 h
 | succ k ih =>
  intro p g hg h he;obtain ⟨q,hq⟩:=((Pf.lin a).pow k).mul hg;have hq2:∀ x,evV q x=(x-a) ^ k*g x:=fun x=>by rw [←hq]
  have h1:∀ x,evV p x=(x-a)*evV q x:=fun x=>by rw [he x,hq2 x,Rat.pow_succ];grind
  have hq0:tz q≠[]:=fun h2=>by
   obtain ⟨y,hy⟩:=jb h;exact hy (by rw [h1,aD.1 h2 y];grind)
  have:=ih q g hg hq0 hq2;have:=pH h1 hq0;omega
theorem ev_tzz(l:List Rat)(x:Rat):evV (tz l) x=evV l x:=(ji (c:=1) (fun i=>by rw [bA,Rat.one_mul]) x).trans (Rat.one_mul _)
theorem po{a:Rat}:∀ (k n:Nat) (q:List Rat) (g:Rat→Rat),k<n→Pf g→g a≠0→(∀ x,evV q x=(x-a) ^ k*g x)→jI n q a=sg (g a):=by
 intro k;induction k with
 | zero =>
  intro n q g hk hg hga he;obtain ⟨m,rfl⟩:∃ m,n=m+1:=⟨n-1,zo⟩;have h1:evV q a=g a:=by rw [he a,Rat.pow_zero];grind
  have hq:q≠[]:=fun h=>hga (by rw [←h1,h];rfl)
  show (if q=[] then 0 else if sg (evV q a)≠0 then sg (evV q a) else jI m (tz (derL q)) a)=_;rw [if_neg hq,h1,if_pos (iw hga)]
 | succ k ih =>
  intro n q g hk hg hga he;obtain ⟨m,rfl⟩:∃ m,n=m+1:=⟨n-1,zo⟩;have h1:evV q a=0:=by rw [he a,Rat.pow_succ];grind
  have hq:q≠[]:=fun h=>by
   have h2:∀ x,(x-a) ^ (k+1)*g x=0:=fun x=>by rw [←he x,h];rfl
   have h3:=Ar ((Pf.lin a).pow (k+1)) hg h2 ⟨a+1,by
    show (a+1-a) ^ (k+1)≠0;have e:a+1-a=1:=by grind
    rw [e];have:∀ k:Nat,(1:Rat) ^ k=1:=fun k=>by
     induction k with
     | zero=>exact Rat.pow_zero _
     | succ k ih=>rw [Rat.pow_succ,ih,Rat.mul_one]
    rw [this];decide⟩
   exact hga (h3 a)
  show (if q=[] then 0 else if sg (evV q a)≠0 then sg (evV q a) else jI m (tz (derL q)) a)=_;rw [if_neg hq,h1,if_neg (fun h=>h fi)];obtain ⟨g',hg',hd⟩:=kD hg;have h4:=(IsD.mul (IsD.pow a k) hd ((Pf.lin a).pow (k+1)) hg (((Pf.lin a).pow k).smul _)).uniq (by
   have e:=IsD.ev q;rw [show evV q=fun x=>(x-a) ^ (k+1)*g x from funext he] at e;exact e)
  have hpos:(0:Rat)<((k+1:Nat):Rat):=Rat.natCast_pos.2 (Nat.succ_pos k);have h5:=ih m (tz (derL q)) (fun x=>((k+1:Nat):Rat)*g x+(x-a)*g' x) zo ((hg.smul _).add ((Pf.lin a).mul hg')) (fun h=>by
   have h6:((k+1:Nat):Rat)*g a+(a-a)*g' a=0:=h;have h7:((k+1:Nat):Rat)*g a=0:=by grind
   rcases nXr.1 h7 with h8|h8
   ·rw [h8] at hpos;exact absurd hpos Rat.lt_irrefl
   ·exact hga h8) (fun x=>by
   rw [ev_tzz,cW,←h4 x,Rat.pow_succ];grind)
  rw [h5];show sg (((k+1:Nat):Rat)*g a+(a-a)*g' a)=sg (g a);rw [show ((k+1:Nat):Rat)*g a+(a-a)*g' a=((k+1:Nat):Rat)*g a by grind,FK hpos]
theorem FL{g:Rat→Rat}(hg:Pf g){a:Rat}(h:0<g a):∃ e,0<e∧∀ s,a≤s→s<a+e→0<g s:=by
 obtain ⟨K,hK,k1⟩:=hg.lip a (a+1);obtain ⟨e,he,k2⟩:=dt hK h;obtain ⟨c,hc,c1,c2⟩:=dD he (show (0:Rat)<1 by decide);refine ⟨c,hc,fun s h1 h2=>?_⟩;have h3:=(Big.sign (r:=g a) k1 (Or.inl Rat.le_refl) Rat.le_refl h1 (by grind) (k2 _ (by grind))).1;rw [dI h] at h3;rcases bR (g s) with ⟨h4,h5⟩|⟨h4,h5⟩|⟨h4,h5⟩
 ·rw [h5] at h3;exact absurd h3 dZ
 ·rw [h5] at h3;exact absurd h3 dZ
 ·exact h4
theorem Be{q:List Rat}(h0:tz q≠[]){a:Rat}{n:Nat}(hn:(tz q).length≤n)(h:0<jI n q a){b:Rat}(hb:a<b):∃ s,a<s∧s<b∧0<evV q s:=by
 obtain ⟨k,g,hg,hga,he⟩:=Ds a _ q (nXe _) h0;have hk:=pw k q g hg h0 he;rw [po k n q g zo hg hga he] at h;have hgp:0<g a:=by
  rcases bR (g a) with ⟨h4,h5⟩|⟨h4,h5⟩|⟨h4,h5⟩
  ·rw [h5] at h;exact absurd h dZ
  ·rw [h5] at h;exact absurd h dZ
  ·exact h4
 obtain ⟨e,he0,h1⟩:=FL hg hgp;obtain ⟨c,hc,c1,c2⟩:=dD he0 (show 0<b-a by grind);have hmid:0<c / 2∧c / 2<c:=by
  have:=aQ (a:=c) (b:=2) dZ;exact ⟨by grind,by grind⟩
 refine ⟨a+c / 2,by grind,by grind,?_⟩;rw [he];have h2:=h1 (a+c / 2) (by grind) (by grind);have h3:∀ k:Nat,0<(a+c / 2-a) ^ k:=fun k=>Rat.pow_pos (by grind)
 exact Rat.mul_pos (h3 k) h2
theorem xR{q:Rat}(h:¬ sg q<0):0≤q:=by
 rcases bR q with ⟨h4,h5⟩|⟨h4,h5⟩|⟨h4,h5⟩
 ·rw [h5] at h;exact absurd dZ h
 ·grind
 ·grind
theorem yt{p:List Rat}{lo hi:Rat}(htz:tz p=p)(hlh:lo≤hi)(h:nngV p lo hi=true){x:Rat}(h1:lo≤x)(h2:x≤hi):0≤evV p x:=by
 unfold nngV at h;by_cases h0:tz p=[]
 ·rw [←htz,h0];exact Rat.le_refl
 ·rw [if_neg h0] at h;by_cases h3:sg (evV (ay p) lo)<0∨sg (evV (ay p) hi)<0
  ·rw [if_pos h3] at h;exact absurd h dZ
  ·rw [if_neg h3] at h;have hl:0≤evV p lo:=xR (by rw [←ko h0];exact fun k=>h3 (Or.inl k));have hh:0≤evV p hi:=xR (by rw [←ko h0];exact fun k=>h3 (Or.inr k));by_cases h4:lo=hi
   ·have:x=lo:=by grind
    rw [this];exact hl
   ·rw [if_neg h4,Bool.and_eq_true,decide_eq_true_iff] at h;obtain ⟨k1,k2⟩:=h;have k3:lI ((tz p).length+1) (ay p) lo hi=false:=by
     cases e:lI ((tz p).length+1) (ay p) lo hi with
     | false=>rfl
     | true=>rw [e] at k2;exact absurd k2 dZ
    by_cases e1:x=lo
    ·rw [e1];exact hl
    ·by_cases e2:x=hi
     ·rw [e2];exact hh
     ·apply Classical.byContradiction;intro hneg;have hq0:tz (ay p)≠[]:=by rw [bq];exact fun k=>h0 (spl_ne.1 k)
      obtain ⟨s,s1,s2,s3⟩:=Be hq0 (n:=(tz p).length+1) (by rw [bq,aG];omega) k1 (b:=x) (by grind);have hx:evV (ay p) x≠0:=fun k=>hneg (by rw [cr p x,k];grind)
      have k5:=wK (lo:=lo) (hi:=hi) (by grind) _ (ay p) (by rw [bq,aG];omega) hq0 k3 s x s1 (by grind) (by grind) (by grind) s2 (by grind) hx;rw [dI s3,ko h0] at k5;exact hneg (xR (by rw [←k5];decide))
theorem Dd{q:List Rat}(h0:tz q≠[]){a:Rat}{n:Nat}(hn:(tz q).length≤n)(h:jI n q a<0){b:Rat}(hb:a<b):∃ s,a<s∧s<b∧evV q s<0:=by
 obtain ⟨k,g,hg,hga,he⟩:=Ds a _ q (nXe _) h0;have hk:=pw k q g hg h0 he;rw [po k n q g zo hg hga he] at h;have hgp:0 < -1*g a:=by
  rcases bR (g a) with ⟨h4,h5⟩|⟨h4,h5⟩|⟨h4,h5⟩
  ·grind
  ·rw [h5] at h;exact absurd h dZ
  ·rw [h5] at h;exact absurd h dZ
 obtain ⟨e,he0,h1⟩:=FL (hg.smul (-1)) hgp;obtain ⟨c,hc,c1,c2⟩:=dD he0 (show 0<b-a by grind);have hmid:0<c / 2∧c / 2<c:=by
  have:=aQ (a:=c) (b:=2) dZ;exact ⟨by grind,by grind⟩
 refine ⟨a+c / 2,by grind,by grind,?_⟩;rw [he];have h2:=h1 (a+c / 2) (by grind) (by grind);have h3:∀ k:Nat,0<(a+c / 2-a) ^ k:=fun k=>Rat.pow_pos (by grind)
 have h4:=Rat.mul_pos (h3 k) h2;have h5:(a+c / 2-a) ^ k*(-1*g (a+c / 2))=-((a+c / 2-a) ^ k*g (a+c / 2)):=by grind
 rw [h5] at h4;grind
def v6(q:List Rat)(x:Rat):Nat:=jQ (FY q) x
end Go.Proofs.YtkcpmclnocmalaaGreat.Sg
