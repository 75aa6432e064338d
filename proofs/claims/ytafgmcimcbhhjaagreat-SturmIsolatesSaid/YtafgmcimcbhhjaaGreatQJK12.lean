import Derived.Test.YtafgmcimcbhhjaaGreatQJK11
set_option linter.unusedVariables false
set_option maxHeartbeats 8000000
set_option maxRecDepth 8000
namespace Go.Proofs.YtafgmcimcbhhjaaGreat.Sg
open Go.RowKit Go.Front Go.Num Go.Stab Go.Proofs.YtafgmcimcbhhjaaGreat
theorem sk{z:Rat}(hz:z=1∨z=-1){f:Rat→Rat}{s t:Rat}(h:z*f s<z*f t):iA f s t=if z*f s<0∧0≤z*f t then 1 else 0:=by
 unfold iA;rcases hz with rfl|rfl
 ·rcases bY (f s) with ⟨c,e⟩|⟨c,e⟩|⟨c,e⟩ <;> rcases bY (f t) with ⟨d,g⟩|⟨d,g⟩|⟨d,g⟩ <;> rw [e,g] <;> first
   | (exfalso;grind)
   | (rw [if_pos dZ,if_pos ⟨by grind,by grind⟩])
   | (rw [if_neg dZ,if_neg (fun k=>by have k1:=k.1;have k2:=k.2;grind)])
 ·rcases bY (f s) with ⟨c,e⟩|⟨c,e⟩|⟨c,e⟩ <;> rcases bY (f t) with ⟨d,g⟩|⟨d,g⟩|⟨d,g⟩ <;> rw [e,g] <;> first
   | (exfalso;grind)
   | (rw [if_pos dZ,if_pos ⟨by grind,by grind⟩])
   | (rw [if_neg dZ,if_neg (fun k=>by have k1:=k.1;have k2:=k.2;grind)])
theorem Fit.rise{A B:Rat}{f:Rat→Rat}{l:List (Rat→Rat)}(h:Fit A B f l){z:Rat}(hz:z=1∨z=-1){lo hi:Rat}(hA:A≤lo)(hlh:lo<hi)(hB:hi≤B)(hr:∀ s t,lo≤s→s<t→t≤hi→z*f s<z*f t):V f l lo=V f l hi+(if z*f lo<0∧0≤z*f hi then 1 else 0):=by
 obtain ⟨e,he,hc⟩:=h.cell;refine jf (A:=lo) (B:=hi) (P:=fun s t=>V f l s=V f l t+(if z*f s<0∧0≤z*f t then 1 else 0)) he (fun s t h1 h2 h3 h4=>?_) (fun s t u h1 h2 h3 h4 k1 k2=>?_) lo hi Rat.le_refl hlh Rat.le_refl
 ·rw [(hc s t (by grind) h2 (by grind) h4).1,sk hz (hr s t h1 h2 h3)]
 ·have a1:=hr s t h1 h2 (by grind);have a2:=hr t u (by grind) h3 h4;rw [k1,k2,Nat.add_assoc]
  congr 1
  by_cases b1:z*f t<0
  ·rw [if_neg (c:=z*f s<0∧0≤z*f t) (fun k=>by have:=k.2;grind),Nat.add_zero];by_cases b2:0≤z*f u
   ·rw [if_pos ⟨b1,b2⟩,if_pos ⟨by grind,b2⟩]
   ·rw [if_neg (fun k=>b2 k.2),if_neg (fun k=>b2 k.2)]
  ·rw [if_neg (c:=z*f t<0∧0≤z*f u) (fun k=>b1 k.1),Nat.zero_add];by_cases b2:z*f s<0
   ·rw [if_pos ⟨b2,by grind⟩,if_pos ⟨b2,by grind⟩]
   ·rw [if_neg (fun k=>b2 k.1),if_neg (fun k=>b2 k.1)]
theorem Fit.short{A B L b d:Rat}{f g:Rat→Rat}{l:List (Rat→Rat)}(h:Fit A B f l)(hL0:0≤L)(hL:Lip A B L f)(hG:Lip A B L g)(hS:∀ s t,A≤s→s≤t→t≤B→Bd (L*(t-s)*(t-s)) (f t-f s-g s*(t-s)))(hb:0<b)
 (hbig:∀ x,A≤x→x≤B→Big b (f x)∨Big b (g x))(hd:L*d<b){lo hi:Rat}(hA:A≤lo)(hlh:lo<hi)(hB:hi≤B)(hw:hi-lo≤d):V f l lo≤V f l hi+1∧(f lo=0→V f l lo=V f l hi):=by
 have hLd:∀ y,y≤d→L*y<b:=fun y hy=>by have:=aY hy hL0;grind
 rcases hbig lo hA (by grind) with h1|h1
 ·have hs:∀ x,lo≤x→x≤hi→sg (f x)=sg (f lo)∧sg (f lo)≠0:=fun x k1 k2=>Big.sign hL h1 hA k1 (by grind) (hLd _ (by grind))
  have hV:=h.calm hA hlh hB (fun s t k1 k2 k3 _=>by rw [(hs s k1 (by grind)).1,(hs t (by grind) k3).1]);refine ⟨zo,fun _=>hV⟩
 ·obtain ⟨z,hz,hzg⟩:∃ z:Rat,(z=1∨z=-1)∧b≤z*g lo:=by
   rcases h1 with k|k
   ·exact ⟨1,Or.inl rfl,by grind⟩
   ·exact ⟨-1,Or.inr rfl,by grind⟩
  have hr:∀ s t,lo≤s→s<t→t≤hi→z*f s<z*f t:=fun s t k1 k2 k3=>by
   obtain ⟨a1,a2⟩:=hG lo s hA k1 (by grind);obtain ⟨a3,a4⟩:=hS s t (by grind) (by grind) (by grind);have a5:=hLd (t-lo) (by grind);have a6:0<z*g s-L*(t-s):=by rcases hz with rfl|rfl <;> grind
   have a7:=wV a6 (show 0<t-s by grind);rcases hz with rfl|rfl <;> grind
  have hV:=h.rise hz hA hlh hB hr;refine ⟨?_,fun h0=>?_⟩
  ·rw [hV];split <;> omega
  ·rw [hV,if_neg (fun k=>by have:=k.1;rw [h0] at this;grind)];rfl
theorem pw1{a:Rat}(ha:1≤a)(k:Nat):1≤a ^ k:=by
 induction k with
 | zero=>rw [Rat.pow_zero];exact Rat.le_refl
 | succ k ih =>
  rw [Rat.pow_succ];have h6:=cz ih (show 0≤a by grind);grind
theorem tE{a:Rat}(ha:1≤a){k m:Nat}(h:k≤m):a ^ k≤a ^ m:=by
 obtain ⟨j,rfl⟩:∃ j,m=k+j:=⟨m-k,zo⟩;clear h;induction j with
 | zero=>exact Rat.le_refl
 | succ j ih =>
  rw [←Nat.add_assoc,Rat.pow_succ];have h1:=pw1 ha (k+j);have h2:=aY ha (show 0≤a ^ (k+j) by grind);grind
theorem tG{C R:Rat}(hC:0≤C)(hR:1≤R):∀ p:List Rat,(∀ y ∈ p,Bd C y) →
  On (-R) R (C*(4*R) ^ p.length) (evV p)∧On (-R) R (C*(4*R) ^ p.length) (evD p)∧Lip (-R) R (C*(4*R) ^ p.length) (evV p)∧Lip (-R) R (C*(4*R) ^ p.length) (evD p) ∧
  ∀ s t,-R≤s→s≤t→t≤R→Bd (C*(4*R) ^ p.length*(t-s)*(t-s)) (evV p t-evV p s-evD p s*(t-s)):=by
 intro p;induction p with
 | nil =>
  intro _;rw [List.length_nil,Rat.pow_zero,Rat.mul_one];refine ⟨fun x _ _=>⟨by show -C≤(0:Rat);grind,hC⟩,fun x _ _=>⟨by show -C≤(0:Rat);grind,hC⟩,fun s t _ h _=>?_,fun s t _ h _=>?_,fun s t _ h _=>?_⟩
  ·have:=mX hC (show 0≤t-s by grind);exact ⟨by show -(C*(t-s))≤(0:Rat)-0;grind,by show (0:Rat)-0≤C*(t-s);grind⟩
  ·have:=mX hC (show 0≤t-s by grind);exact ⟨by show -(C*(t-s))≤(0:Rat)-0;grind,by show (0:Rat)-0≤C*(t-s);grind⟩
  ·have:=mX (mX hC (show 0≤t-s by grind)) (show 0≤t-s by grind);exact ⟨by show -(C*(t-s)*(t-s))≤(0:Rat)-0-0*(t-s);grind,by show (0:Rat)-0-0*(t-s)≤C*(t-s)*(t-s);grind⟩
 | cons c p ih =>
  intro hp;obtain ⟨i1,i2,i3,i4,i5⟩:=ih (fun y hy=>hp y (List.mem_cons_of_mem _ hy));have hc:=hp c List.mem_cons_self;rw [List.length_cons,Rat.pow_succ];have hP:=pw1 (show 1≤4*R by grind) p.length;generalize (4*R) ^ p.length=P at *
  have hCP:=aY hP hC;have hQ0:0≤C*P:=mX hC (by grind);have hQR:=aY hR hQ0;have hE:C*(P*(4*R))=4*(C*P*R):=by grind
  rw [hE];generalize C*P=Q at *
  have hx:∀ {x},-R≤x→x≤R→Bd R x:=fun h1 h2=>⟨h1,h2⟩
  refine ⟨fun x h1 h2=>?_,fun x h1 h2=>?_,fun s t h1 h2 h3=>?_,fun s t h1 h2 h3=>?_,fun s t h1 h2 h3=>?_⟩
  ·exact (((i1 x h1 h2).mul (hx h1 h2)).add hc).mono (by grind)
  ·exact (((i2 x h1 h2).mul (hx h1 h2)).add (i1 x h1 h2)).mono (by grind)
  ·have h0:0≤t-s:=by grind
   have a:=(i3 s t h1 h2 h3).mul (hx (show -R≤t by grind) h3);have b:=(i1 s h1 (by grind)).mul (Bd.self h0);have e:evV (c :: p) t-evV (c :: p) s=(evV p t-evV p s)*t+evV p s*(t-s):=by
    show evV p t*t+c-(evV p s*s+c)=_;grind
   rw [e];refine (a.add b).mono ?_;have k:=cz (show Q*R+Q≤4*(Q*R) by grind) h0;grind
  ·have h0:0≤t-s:=by grind
   have a:=(i4 s t h1 h2 h3).mul (hx (show -R≤t by grind) h3);have b:=(i2 s h1 (by grind)).mul (Bd.self h0);have e:evD (c :: p) t-evD (c :: p) s=(evD p t-evD p s)*t+evD p s*(t-s)+(evV p t-evV p s):=by
    show evD p t*t+evV p t-(evD p s*s+evV p s)=_;grind
   rw [e];refine ((a.add b).add (i3 s t h1 h2 h3)).mono ?_;have k:=cz (show Q*R+Q+Q≤4*(Q*R) by grind) h0;grind
  ·have h0:0≤t-s:=by grind
   have a:=(i5 s t h1 h2 h3).mul (hx (show -R≤t by grind) h3);have b:=((i2 s h1 (by grind)).mul (Bd.self h0)).mul (Bd.self h0);have e:evV (c :: p) t-evV (c :: p) s-evD (c :: p) s*(t-s)=(evV p t-evV p s-evD p s*(t-s))*t+evD p s*(t-s)*(t-s):=by
    show evV p t*t+c-(evV p s*s+c)-(evD p s*s+evV p s)*(t-s)=_;grind
   rw [e];refine (a.add b).mono ?_;have k:=cz (cz (show Q*R+Q≤4*(Q*R) by grind) h0) h0;grind
theorem Bg{S:Nat}{y:Rat}(h:Wz S y):Bd ((W32 ^ S:Nat):Rat) y:=by
 have e:=h.1.eq;have h2:=h.2;have h3:y.num≤((W32 ^ S:Nat):Int):=zo;have h4:-((W32 ^ S:Nat):Int)≤y.num:=zo;have k3:=Rat.intCast_le_intCast.2 h3;have k4:=Rat.intCast_le_intCast.2 h4;rw [Rat.intCast_neg,Rat.intCast_natCast] at k4;rw [Rat.intCast_natCast] at k3;rw [←e] at k3 k4;exact ⟨k4,k3⟩
theorem Bf{S:Nat}{y:Rat}(h:Wz S y)(h0:y≠0):Big 1 y:=by
 have e:=h.1.eq;have hn:y.num≠0:=fun k=>h0 (by rw [e,k];rfl)
 rcases Int.lt_or_gt_of_ne hn with k|k
 ·right
  have:=Rat.intCast_le_intCast.2 (show y.num≤-1 by omega);rw [←e] at this;exact this
 ·left
  have:=Rat.intCast_le_intCast.2 (show 1≤y.num by omega);rw [←e] at this;exact this
def yu(S n T:Nat):Nat:=S+(S+2)*(2*n)+2*(n*(T+1))+1
theorem Bc{S:Nat}{p:List Rat}(h:∀ y ∈ p,Wz S y)(hl:p.length<W32):∀ y ∈ derL p,Wz (S+1) y:=fun y hy=>by
 have h1:∀ i,Wz S (seq p i):=fun i=>by
  show Wz S (p.getD i 0);rw [nXd];cases k:p[i]? with
  | none=>exact Wz.zero S
  | some z=>exact h z (List.mem_of_getElem? k)
 obtain ⟨i,hi,e⟩:=List.mem_iff_getElem.1 hy;have e2:y=seq (derL p) i:=by
  show y=(derL p).getD i 0;rw [nXd,List.getElem?_eq_getElem hi];exact e.symm
 rw [e2,seq_derL];by_cases hip:i+1<p.length
 ·have hz:Wz 1 ((i+1:Nat):Rat):=by
   have:=Wz.int (S:=1) (z:=((i+1:Nat):Int)) (by rw [nYh,Nat.pow_one];omega)
   rwa [Rat.intCast_natCast] at this
  rw [nYi S 1];exact hz.mul (h1 (i+1))
 ·rw [show seq p (i+1)=0 by show p.getD (i+1) 0=0;rw [nXd,List.getElem?_eq_none zo];rfl,nYb];exact Wz.zero _
theorem zF{q:List Rat}(hc:Cp (evV q) (evD q)):Cp (evV (ar q)) (evD (ar q)):=by
 obtain ⟨u,v,hu,hv,h⟩:=hc;have e1:∀ x,evV q x=aK q*evV (ar q) x:=cj q;have e2:∀ x,evD q x=aK q*evD (ar q) x:=fun x=>by
  rw [←cI,←cI,←bP];exact eC (c:=1) (fun i=>by rw [aQ,seq_derL,seq_derL,cS q (i+1)];grind) x |>.trans (Rat.one_mul _)
 refine ⟨_,_,hu.smul (aK q),hv.smul (aK q),fun x=>?_⟩;have:=h x;rw [e1,e2] at this;show aK q*u x*_+aK q*v x*_=1;grind
theorem sep{q:List Rat}{S n T:Nat}(hq:tz q≠[])(hc:Cp (evV q) (evD q))(hw:∀ y ∈ ar q,Wz S y)(hn:(ar q).length≤n)(hn1:n≤1000){lo hi:Rat}(h1:-((W32 ^ T:Nat):Rat)≤lo)(h2:lo<hi)(h3:hi≤((W32 ^ T:Nat):Rat))(hd:(hi-lo)*((W32 ^ yu S n T:Nat):Rat)≤1) :
  cw (lz q) lo≤cw (lz q) hi+1∧(evV q lo=0→cw (lz q) lo=cw (lz q) hi):=by
 obtain ⟨l,e,hfit⟩:=C1 hq hc;rw [eD,eD,nw e,nw e];have hcp:=zF hc;have hz0:evV q lo=0→evV (ar q) lo=0:=fun h=>by
  have k:=cj q lo;rw [h] at k;have:=aZ hq;rcases nXr.1 k.symm with k|k
  ·rw [k] at this;exact absurd this Rat.lt_irrefl
  ·exact k
 obtain ⟨a,ha⟩:∃ a,a=ar q:=⟨_,rfl⟩;have hat:tz a≠[]:=by rw [ha,aX];exact fun h=>hq (bH.1 h)
 rw [←ha] at hw hn hcp hz0 ⊢;have hF:=hfit (-((W32 ^ T:Nat):Rat)) ((W32 ^ T:Nat):Rat);rw [←ha] at hF;clear hfit
 suffices h:V (evV a) (l.map evV) lo≤V (evV a) (l.map evV) hi+1∧(evV a lo=0→V (evV a) (l.map evV) lo=V (evV a) (l.map evV) hi) from ⟨h.1,fun k=>h.2 (hz0 k)⟩
 have hR:(1:Rat)≤((W32 ^ T:Nat):Rat):=by exact_mod_cast nYm ay
 have hC:(0:Rat)≤((W32 ^ S:Nat):Rat):=by exact_mod_cast Nat.zero_le _
 have hlna:ln a≤n:=by have:=ah a;show (tz a).length≤n;omega
 have hlna1:=dM hat;by_cases hl1:ln a≤1
 ·have hk:=fo hl1;have hne:seq a 0≠0:=fun h0=>hat (ax.2 fun x=>by rw [hk,h0])
  have hV:=hF.calm h1 h2 h3 (fun s t _ _ _ _=>by rw [hk,hk]);exact ⟨zo,fun _=>hV⟩
 have hdw:=Bc hw (show a.length<W32 by have:W32=4294967296:=rfl;omega);have hl2:1<(tz a).length:=by show 1<ln a;omega
 obtain ⟨m,hm⟩:∃ m,(tz a).length=m+2:=⟨(tz a).length-2,zo⟩;have hdt:=ve hm;have hlb:ln (derL a)≤n:=by have h8:=eK a (m+1) hm;have h9:(tz a).length≤n:=hlna;show (tz (derL a)).length≤n;omega
 obtain ⟨U,W,w,hw0,hU,hWl,hev,hUz,hWz,hwz⟩:=CO (a:=a) (b:=derL a) (S:=S+1) (fun y hy=>(hw y hy).mono zo) hdw zo (dM hdt) (by rw [show evV (derL a)=evD a from funext (cI a)];exact hcp) (by have:W32=4294967296:=rfl;omega);have hS2:(S+1+1)*(ln a+ln (derL a))≤(S+2)*(2*n):=nXg _ zo;have hbd:∀ p:List Rat,(∀ i,Wz ((S+1+1)*(ln a+ln (derL a))) (seq p i))→ln p≤n→∀ x,-((W32 ^ T:Nat):Rat)≤x→x≤((W32 ^ T:Nat):Rat)→Bd (((W32 ^ ((S+2)*(2*n)):Nat):Rat)*(4*((W32 ^ T:Nat):Rat)) ^ n) (evV p x):=fun p hp hl x k1 k2=>by
  have hC2:(0:Rat)≤((W32 ^ ((S+2)*(2*n)):Nat):Rat):=by exact_mod_cast Nat.zero_le _
  have:=(tG hC2 hR (tz p) (fun y hy=>by
   obtain ⟨i,hi,e⟩:=List.mem_iff_getElem.1 hy;have e2:y=seq p i:=by
    rw [←aT];show y=(tz p).getD i 0;rw [nXd,List.getElem?_eq_getElem hi];exact e.symm
   rw [e2];exact Bg ((hp i).mono hS2))).1 x k1 k2
  rw [show evV (tz p) x=evV p x from (eC (c:=1) (fun i=>by rw [aT,Rat.one_mul]) x).trans (Rat.one_mul _)] at this;exact this.mono (aY (tE (by grind) hl) hC2)
 have hUb:=hbd U hUz zo;have hWb:=hbd W hWz zo;obtain ⟨p1,-,p3,p4,p5⟩:=tG hC hR a (fun y hy=>Bg (hw y hy));have hwb:=Bf hwz hw0;obtain ⟨M,hM⟩:∃ M,M=((W32 ^ ((S+2)*(2*n)):Nat):Rat)*(4*((W32 ^ T:Nat):Rat)) ^ n:=⟨_,rfl⟩;obtain ⟨L,hL⟩:∃ L,L=((W32 ^ S:Nat):Rat)*(4*((W32 ^ T:Nat):Rat)) ^ n:=⟨_,rfl⟩;rw [←hM] at hUb hWb;have hpm:(4*((W32 ^ T:Nat):Rat)) ^ a.length≤(4*((W32 ^ T:Nat):Rat)) ^ n:=tE (by grind) hn;have hlL:((W32 ^ S:Nat):Rat)*(4*((W32 ^ T:Nat):Rat)) ^ a.length≤L:=by rw [hL];exact aY hpm hC
 have hM1:1≤M:=by
  rw [hM];have h8:(1:Rat)≤((W32 ^ ((S+2)*(2*n)):Nat):Rat):=by exact_mod_cast nYm ay
  have h9:=aY (pw1 (show 1≤4*((W32 ^ T:Nat):Rat) by grind) n) (show 0≤((W32 ^ ((S+2)*(2*n)):Nat):Rat) by grind);grind
 have hL1:1≤L:=by
  rw [hL];have h8:(1:Rat)≤((W32 ^ S:Nat):Rat):=by exact_mod_cast nYm ay
  have h9:=aY (pw1 (show 1≤4*((W32 ^ T:Nat):Rat) by grind) n) (show 0≤((W32 ^ S:Nat):Rat) by grind);grind
 -- 16 M L is at most W32 ^ sepY
 have hML:16*(M*L)≤((W32 ^ yu S n T:Nat):Rat):=by
  have e4:(4:Rat)*((W32 ^ T:Nat):Rat)≤((W32 ^ (T+1):Nat):Rat):=by
   rw [nXt,Rat.natCast_mul];have:(4:Rat)≤((W32:Nat):Rat):=by decide +kernel
   have:=aY this (show 0≤((W32 ^ T:Nat):Rat) by grind);grind
  have e5:(4*((W32 ^ T:Nat):Rat)) ^ n≤((W32 ^ (n*(T+1)):Nat):Rat):=by
   rw [nYe,Nat.pow_mul];clear hpm hlL hM hL hn hlna hlb hU hWl hS2 hbd hd hUb hWb hUz hWz hwz hev;have h0:0≤4*((W32 ^ T:Nat):Rat):=by grind
   induction n with
   | zero=>rw [Rat.pow_zero,Nat.pow_zero];exact Rat.le_refl
   | succ n ih =>
    rw [Rat.pow_succ,nXt,Rat.natCast_mul];have h6:=ih zo;have h7:=cz h6 h0;have h8:=aY e4 (show (0:Rat)≤(((W32 ^ (T+1)) ^ n:Nat):Rat) by exact_mod_cast Nat.zero_le _);grind
  have e6:(16:Rat)≤((W32 ^ 1:Nat):Rat):=by decide +kernel
  have e7:((W32 ^ yu S n T:Nat):Rat)=((W32 ^ S:Nat):Rat)*((W32 ^ ((S+2)*(2*n)):Nat):Rat)*(((W32 ^ (n*(T+1)):Nat):Rat)*((W32 ^ (n*(T+1)):Nat):Rat))*((W32 ^ 1:Nat):Rat):=by
   unfold yu;rw [Nat.pow_add,Nat.pow_add,Nat.pow_add,show 2*(n*(T+1))=n*(T+1)+n*(T+1) by omega,Nat.pow_add,Rat.natCast_mul,Rat.natCast_mul,Rat.natCast_mul,Rat.natCast_mul]
  have hp0:(0:Rat)≤(4*((W32 ^ T:Nat):Rat)) ^ n:=by have:=pw1 (show 1≤4*((W32 ^ T:Nat):Rat) by grind) n;grind
  have hC2:(0:Rat)≤((W32 ^ ((S+2)*(2*n)):Nat):Rat):=by exact_mod_cast Nat.zero_le _
  rw [hM,hL,e7];generalize (4*((W32 ^ T:Nat):Rat)) ^ n=P at *
  generalize ((W32 ^ ((S+2)*(2*n)):Nat):Rat)=C2 at *
  generalize ((W32 ^ (n*(T+1)):Nat):Rat)=Z at *
  generalize ((W32 ^ 1:Nat):Rat)=w1 at *
  generalize ((W32 ^ S:Nat):Rat)=C at *
  have g1:P*P≤Z*Z:=by have a1:=cz e5 hp0;have a2:=aY e5 (show 0≤Z by grind);grind
  have g2:=aY g1 (mX hC hC2);have g3:=aY e6 (mX (mX hC hC2) (mX (show 0≤Z by grind) (show 0≤Z by grind)));grind
 have hMp:0<M:=by grind
 have hb:0<1 / (4*M):=uV dZ (by grind);have hbe:=aw (a:=1) (b:=4*M) (by grind);have hD0:(0:Rat)<((W32 ^ yu S n T:Nat):Rat):=by exact_mod_cast nYm ay
 refine hF.short (L:=L) (b:=1 / (4*M)) (d:=hi-lo) (g:=evD a) (by grind) (p3.mono hlL) (p4.mono hlL) (fun s t k1 k2 k3=>(p5 s t k1 k2 k3).mono (cz (cz hlL (by grind)) (by grind))) hb (fun x k1 k2=>Classical.byContradiction fun hn=>?_) ?_ h1 h2 h3 Rat.le_refl
 ·obtain ⟨n1,n2⟩:¬ Big (1 / (4*M)) (evV a x)∧¬ Big (1 / (4*M)) (evD a x):=⟨fun h=>hn (Or.inl h),fun h=>hn (Or.inr h)⟩;obtain ⟨q1,q2⟩:=jG n1;obtain ⟨q3,q4⟩:=jG n2;generalize 1 / (4*M)=b at *
  obtain ⟨r1,r2⟩:=(hUb x k1 k2).mul (show Bd b (evV a x) from ⟨by grind,by grind⟩);obtain ⟨r3,r4⟩:=(hWb x k1 k2).mul (show Bd b (evD a x) from ⟨by grind,by grind⟩);have k:=hev x;rw [cI] at k;rcases hwb with h|h <;> grind
 ·have h8:=cz hML (show 0≤hi-lo by grind);generalize 1 / (4*M)=b at *
  generalize hi-lo=d at *
  have h9:16*(M*L)*d≤1:=by grind
  refine Classical.byContradiction fun hn=>?_
  have h10:=aY (show b≤L*d by grind) (show 0≤4*M by grind);grind
end Go.Proofs.YtafgmcimcbhhjaaGreat.Sg
/- Squarefree of package poly. -/
namespace Go.Proofs.YtafgmcimcbhhjaaGreat
open Go.RowKit Go.Front Go.Num Stab Sg
attribute [local go_sem] XW.cell XW.frozen
theorem xF:∀ (f:Nat) (p q:List Rat),bq p=p→bq q=q→bq (ov f p q)=ov f p q:=by
 intro f;induction f with
 | zero=>intro p q h _;exact h
 | succ f ih =>
  intro p q h k;by_cases h0:q=[]
  ·subst h0;rw [gI];exact h
  ·rw [f4 h0];exact ih q _ k (j7 _)
theorem kd(p q:List Rat):bq (bN p q)=bN p q:=xF _ _ _ (j7 p) (j7 q)
theorem gH(p q:List Rat):bN p (tz q)=bN p q:=by
 have h:bq (tz q)=bq q:=Pr.mon ⟨1,dZ,fun n=>by rw [aT,Rat.one_mul]⟩;unfold bN;rw [aM,h]
theorem mf{p:List Rat}(h:tz p≠[]):tz (bN p (derL p))≠[]:=yK h (yX (gG p (derL p)))
theorem qN(p:List Rat):Dv (evV (bN p (derL p))) (evV p):=(gG p (derL p)).1
theorem BD{p:List Rat}{i:Nat}(h:seq p i≠0):i<p.length:=Classical.byContradiction fun hn=>h (bh zo)
theorem yy{p:List Rat}(h:tz p≠[]){T U:Nat}(hp:SzL T p)(hs:SzL U (sqfV p)):SzL (U+T) (bD p (bN p (derL p))):=by
 have hg0:=mf h;have he:=kJ hg0 (qN p);have ht:tz (bD p (bN p (derL p)))=bD p (bN p (derL p)):=(cd p hg0).2.2.1;have hsv:sqfV p=bq (bD p (bN p (derL p))):=rfl;have hgm:=kd p (derL p);generalize bD p (bN p (derL p))=q at *
 generalize bN p (derL p)=g at *
 have hq0:tz q≠[]:=fun h0=>by
  obtain ⟨y,hy⟩:=mS h;exact hy (by rw [he,ax.1 h0 y];grind)
 obtain ⟨m,hm,hm0⟩:=dN hq0;obtain ⟨k,hk,hk0⟩:=dN hg0;have hgl:seq g k=1:=by
  have h1:=qG hg0;rw [hgm] at h1;unfold aJ at h1;rw [hk,bp] at h1;exact h1
 have hlead:aJ (tz q)=seq q m:=by
  unfold aJ;rw [hm,bp];rfl
 have hsp:seq p (m+k)=seq q m:=by
  have h1:=f9 (p:=p) (q:=aI q g) (fun x=>by rw [aU,he x];grind) (m+k);rw [h1,dH,iC];have b1:Bd (m+1) (seq q):=by rw [←aT,←hm];exact Bd.seq _
  have b2:Bd (k+1) (seq g):=by rw [←aT,←hk];exact Bd.seq _
  rw [oF b1 b2,hgl,Rat.mul_one]
 have hz:Sz T (seq p (m+k)):=hp.at (BD (by rw [hsp];exact hm0));rw [hsv,jH hq0,hlead,ht] at hs;intro x hx;have h2:=hs _ (nYf.2 ⟨x,hx,rfl⟩);have h3:=h2.mul hz;rw [hsp] at h3;have h4:x*(((1:Int):Rat) / seq q m)*seq q m=x:=by rw [nYd,aw hm0];exact Rat.mul_one x
 rw [h4] at h3;exact h3
theorem uD(p q:List Rat):tz (bN p q)=bN p q:=by
 have h:=dI (bN p q);rw [kd] at h;exact h
theorem pu{p:List Rat}(h:tz p≠[]):(bN p (derL p)).length≤p.length:=by
 have h1:=gg (qN p) h;rw [uD] at h1;exact nXf h1 (ah p)
theorem o7{p:List Rat}(h:tz p≠[]):(bD p (bN p (derL p))).length≤p.length:=by
 have hg0:=mf h;have he:=kJ hg0 (qN p);have h1:=gg (a:=bD p (bN p (derL p))) (b:=p) ⟨_,Pf.ev (bN p (derL p)),fun x=>by rw [he x];grind⟩ h;rw [(cd p hg0).2.2.1] at h1;exact nXf h1 (ah p)
theorem mz{p:List Rat}(h:tz p≠[]):(sqfV p).length≤p.length:=by
 have h1:(sqfV p).length=(tz (bD p (bN p (derL p)))).length:=cH _;have h2:=ah (bD p (bN p (derL p)));have:=o7 h;omega
def FrK(K:Nat)(p:List Rat):Prop:=∃ S D,1≤S∧0<D∧D<W32 ^ S∧FrL S D p∧KZ K S p.length
theorem ft{p:List Rat}(h:tz p≠[]):(tz (derL p)).length+1≤p.length:=by
 obtain ⟨n,hn,-⟩:=dN h;have:=eK p n hn;have:=ah p;omega
theorem wF(pa:Option Addr)(P pc:Nat)(p:List Rat)(K:Nat)(w:World)(h:cD w ⟨pa,P,pc⟩ p)(hP:P≤1000)(h0:tz p≠[])(hk:FrK K p)(hK:K≤12000000)(hK2:(P+1)*(K / 3)≤25000000)(hs:FrK K (sqfV p)) :
  au 133 [.slice pa P pc] w SH.v (fun x w'=>bw w' x (sqfV p)):=by
 obtain ⟨S,D,hS,hD,hD2,hf,hSK⟩:=hk;obtain ⟨U,E,hU,hE,hE2,hfU,hUK⟩:=hs;have LP:=Hi (RIn.of h);have HX:=Hi (Ext.refl w);have hlen:=h.len;simp only at hlen;have hp1:1≤p.length:=by
  have:=ah p;have:=nYg.2 h0;omega
 have hS3:=KZ.small3 hp1 hSK;have hUs:=KZ.small hUK;have hz:=hf.sz hS hD hD2;have HSz:Hid (SzL S p):=Hi hz;have HQ:Hid (SzL 16777216 (bD p (bN p (derL p)))):=Hi ((yy h0 hz (hfU.sz hU hE hE2)).mono zo);have HF:Hid (FrL (S+1) D p):=Hi (hf.mono zo);have HF1:Hid (FrL S D p):=Hi hf;have HDF:Hid (∀ x ∈ tz (derL p),Fr (S+1) D x):=Hi (fu hf zo);have hD3:D<W32 ^ (S+1):=nXn hD2 (nXp ay zo);have HDl:Hid ((tz (derL p)).length+1≤P):=Hi (by rw [←hlen];exact ft h0);have hgl0:(bN p (derL p)).length≤P:=by rw [←hlen];exact pu h0
 have hql0:(bD p (bN p (derL p))).length≤P:=by rw [←hlen];exact o7 h0
 have HG0:Hid (tz (bN p (derL p))≠[]):=Hi (mf h0);have HSK:Hid (GZ K (S+1) p (tz (derL p))):=Hi (uo hD hf zo h0 hSK);have HPl:Hid (1≤P):=Hi zo;have hP1:P+1≤1001:=zo;clear h hlen hf hfU hUK hSK hz h0 hp1;unfold au;go_enter Tryz.func133,Tryz.ntmps133
 go_wp2_with fail
 refine cM (ja pa P pc p _ LP.out.raw zo (HSz.out.mono zo)) fun x1 w1 hE G1=>?_
 refine mV2 hE ?_ LP HX;clear LP HX;intro LP HX;have hs_w1:=hE.size;clear hE;obtain ⟨da,dn,dc⟩:=x1;have HD3:Hid (LIn w1 ⟨da,dn,dc⟩ (tz (derL p)) w.heap.size w1.heap.size):=Hi G1.out;clear G1;have hdn:dn+1≤P:=by have h1:=HD3.out.len;have h2:=HDl.out;simp only at h1;omega
 simp only [SH.v]
 go_wp2_with fail
 refine cM (qw pa da P pc dn dc p (tz (derL p)) (S+1) D D _ LP.out.raw HD3.out.can zo zo zo hD hD3 hD hD3 HF.out HDF.out K HSK.out zo) fun x2 w2 hE G2=>?_
 refine mV3 hE ?_ LP HX HD3;clear LP HX HD3;intro LP HX HD3;have hs_w2:=hE.size;clear hE;rw [gH] at G2;obtain ⟨ga,gn,gc⟩:=x2;have HGL:=Hi G2.out.1.lin;obtain ⟨X,F,hFX,hX1,hF0,hF2,hXK⟩:=G2.out.2;have HFX:=Hi hFX;have hX3:=GcR.small hXK;clear G2 hFX hXK;have hgl:=HGL.out.len;simp only at hgl;have hgn:0<gn:=by
  have:=ah (bN p (derL p));have:=nYg.2 HG0.out;omega
 obtain ⟨m,rfl⟩:∃ m,gn=m+1:=⟨gn-1,zo⟩;have hz0:((m:Int)+1 == 0)=false:=by rw [nXs];omega
 have hgm:m+1≤P:=zo;clear HD3;have hm1:P*(X+1)≤P*(K / 3):=nXg _ hX3;have hm2:(P+1)*(K / 3)=P*(K / 3)+K / 3:=nXy _ _
 (try dsimp only)
 go_wp2_with fail
 refine cM (o9 pa ga P pc (m+1) gc p (bN p (derL p)) S X D F _ LP.out.raw HGL.out.can zo zo hS hX1 hD hD2 hF0 hF2 HF1.out HFX.out HG0.out zo zo) fun x3 w3 hE G3=>?_
 refine mV3 hE ?_ LP HX HGL;clear LP HX HGL;intro LP HX HGL;have hs_w3:=hE.size;clear hE;obtain ⟨⟨qa,qn,qc⟩,⟨ra,rn,rc⟩⟩:=x3;have HQL:=Hi G3.out.1.lin;clear G3;have hqn:=HQL.out.len;simp only at hqn
 (try dsimp only)
 go_wp2_with fail
 refine cM (lU qa qn qc (bD p (bN p (derL p))) 16777216 _ HQL.out.can zo zo HQ.out) fun x4 w4 hE G4=>?_
 refine mV4 hE ?_ LP HX HGL HQL;clear LP HX HGL HQL;intro LP HX HGL HQL;have hs_w4:=hE.size;clear hE;go_wp2
 go_ret
 exact ⟨x4,rfl,HX.out,G4.out⟩
theorem gv{P:Program}{o:Oper}{a:Act}{α:Type}{mk:α→Value}{φ:α→World→Prop}{w:World}{f:FuncId}{fn:Func}{t:Operand}{xs:Array Operand}{ats:Array TypeId}(first:Array Value)(args:List Value)
 (ho:o.op=.call { callee:=.value t,args:=xs,argTypes:=ats })(ht:a.eval t=.func (.func f) first #[])(ha:first.toList++xs.toList.map a.eval=args)
 (hf:P.funcs[f]?=some fn)(hn:(fn.name == "runtime.NumGoroutine")=false)(hb:fn.body.isNone=false)
 (h:Calls P f args.toArray w (fun e w''=>∃ x,e=.returned (mk x)∧Ext w w''∧φ x w'')):eA P o a w mk φ:=by
 obtain ⟨dst,op,type,pos,after,guard⟩:=o;simp only at ho;subst ho;unfold eA;have ha':first++xs.map a.eval++#[]=args.toArray:=by
  rw [←ha,Array.append_empty];apply Array.ext';simp
 have:execOp a.eval { dst,op:=.call { callee:=.value t,args:=xs,argTypes:=ats },type,pos,after,guard }=callFunc f (first++xs.map a.eval++#[]):=by
  simp only [execOp,resolve,ht,Deferred.ofValue];rfl
 rw [this,ha',jP hf hn hb];exact ⟨Ext.refl _,h⟩
def oM(p:List Rat):Int:=if 49<(tz p).length then 12 else if tz p=[] then 3 else 0
theorem iW(ao:Option Addr)(n c:Nat)(p:List Rat)(w:World)(h:cD w ⟨ao,n,c⟩ p):au 68 [.slice ao n c] w (fun _:Unit=>.int .i64 (oM p)) (fun _ _=>True):=by
 have HX:=Hi (Ext.refl w);have HP:=Hi h;clear h;unfold au;go_enter Tryz.func68,Tryz.ntmps68
 go_wp2_with fail
 refine cM (kM ao n c p _ HP.out) fun x5 w5 hE _=>?_
 replace HX:=hE.tr HX;have hs_w5:=hE.size;obtain ⟨P,hP⟩:∃ P,P=(tz p).length:=⟨_,rfl⟩;rw [←hP];by_cases h1:49<P
 ·have e:oM p=12:=by unfold oM;rw [←hP,if_pos h1]
  have E:=Hi e;clear e;have h2:(48:Int)<(P:Int)-1:=zo;go_wp2
  go_ret
  exact ⟨(),by rw [E.out];rfl,HX.out,trivial⟩
 ·have h2:¬ (48:Int)<(P:Int)-1:=zo;by_cases h3:P=0
  ·have e:oM p=3:=by unfold oM;rw [←hP,if_neg h1,if_pos (nXj.1 zo)]
   have E:=Hi e;clear e;have h4:(P:Int)-1<0:=zo;go_wp2
   go_ret
   exact ⟨(),by rw [E.out];rfl,HX.out,trivial⟩
  ·have e:oM p=0:=by unfold oM;rw [←hP,if_neg h1,if_neg (fun h=>h3 (by rw [hP,h];rfl))]
   have E:=Hi e;clear e;have h4:¬ (P:Int)-1<0:=zo;go_wp2
   go_ret
   exact ⟨(),by rw [E.out];rfl,HX.out,trivial⟩
theorem ChM.at{w:World}{lo B:Nat}{va:Option Addr}{vn vc:Nat}{ms:List (List Rat)}(h:ChM w lo B (SH.v ⟨va,vn,vc⟩) ms):vn=ms.length∧∀ k,k<ms.length→∃ L a n c,va=some ⟨L,0,none⟩∧L<w.heap.size∧w.cell? ⟨L,k,none⟩=some (.slice a n c)∧bw w ⟨a,n,c⟩ (ms.getD k []):=by
 obtain ⟨xs,h1,h2,h3⟩:=h;rcases h1 with ⟨e,rfl⟩|⟨L,cap,re,e,g1,g2,g3⟩
 ·simp only [SH.v,Value.slice.injEq] at e;refine ⟨by rw [e.2.1,←h2];rfl,fun k hk=>?_⟩;rw [←h2] at hk;simp at hk
 ·simp only [SH.v,Value.slice.injEq] at e;refine ⟨by rw [e.2.1,h2],fun k hk=>?_⟩;obtain ⟨b,-,-,h4⟩:=h3 k hk;exact ⟨L,_,_,_,e.1,g2.lt,g2.cell zo,h4.can⟩
structure ChK (w:World) (v:SH) (ms:List (List Rat)) (K:Nat):Prop where
 ch:∃ lo B,ChM w lo B v.v ms
 wz:∀ m ∈ ms,∀ y ∈ m,Wz K y
 ln:ms.length≤1000
 ml:∀ m ∈ ms,m.length≤1000
 k1:1≤K
 k2:K≤30000000
theorem ChK.ext{w w':World}{v:SH}{ms:List (List Rat)}{K:Nat}(h:ChK w v ms K)(he:Ext w w'):ChK w' v ms K :=
 ⟨let ⟨lo,B,h1⟩:=h.ch;⟨lo,B,h1.ext he⟩,h.wz,h.ln,h.ml,h.k1,h.k2⟩
instance {w w':World} {v:SH} {ms:List (List Rat)} {K:Nat}:Go.Front.Mv w w' (ChK w v ms K) (ChK w' v ms K):=⟨fun e h=>ChK.ext h e⟩

theorem ChK.len{w:World}{va:Option Addr}{vn vc:Nat}{ms:List (List Rat)}{K:Nat}(h:ChK w ⟨va,vn,vc⟩ ms K):vn=ms.length:=let ⟨_,_,h1⟩:=h.ch;h1.at.1
theorem ChK.at{w:World}{va:Option Addr}{vn vc:Nat}{ms:List (List Rat)}{K k:Nat}(h:ChK w ⟨va,vn,vc⟩ ms K)(hk:k<ms.length):∃ L a n c,va=some ⟨L,0,none⟩∧L<w.heap.size∧w.cell? ⟨L,k,none⟩=some (.slice a n c)∧bw w ⟨a,n,c⟩ (ms.getD k [])∧n≤1000∧∀ y ∈ ms.getD k [],Wz K y:=by
 obtain ⟨lo,B,h1⟩:=h.ch;obtain ⟨L,a,n,c,e1,e2,e3,e4⟩:=h1.at.2 k hk;have hm:ms.getD k [] ∈ ms:=by
  rw [nXd,List.getElem?_eq_getElem hk];exact List.getElem_mem _
 refine ⟨L,a,n,c,e1,e2,e3,e4,?_,h.wz _ hm⟩;have:=h.ml _ hm;have:=e4.len;simp only at this;omega
theorem qW{α β:Type}(f:α→β)(l:List α)(d:α){k:Nat}(hk:k<l.length):(l.drop k).map f=f (l.getD k d) :: (l.drop (k+1)).map f:=by
 rw [List.drop_eq_getElem_cons hk,List.map_cons,nXd,List.getElem?_eq_getElem hk];rfl
theorem AX{ms:List (List Rat)}{T k n:Nat}(h:∀ m ∈ ms,T*m.length≤1000000)(hk:k<ms.length)(hn:(ms.getD k []).length=n):T*n≤1000000:=by
 rw [←hn];refine h _ ?_;rw [nXd,List.getElem?_eq_getElem hk];exact List.getElem_mem _
theorem pW(v:SH)(ms:List (List Rat))(K:Nat)(t:RH)(x:Rat)(T:Nat)(w:World)(hc:ChK w v ms K)(ht:aB w t x)(hx:Sz T x)(hT:1≤T)(hT4:T≤500000)(hTm:∀ m ∈ ms,T*m.length≤1000000) :
  au 71 [CV v,t.v] w (fun _:Unit=>.int .i64 (cw ms x)) (fun _ _=>True):=by
 obtain ⟨va,vn,vc⟩:=v;obtain ⟨tn,ta,tl,tc,tb,tm,td⟩:=t;have HX:=Hi (Ext.refl w);have HC:=Hi hc;have HTM:=Hi hTm;have HT:=Hi ht;have ZX:=Hi hx;obtain rfl:=hc.len;have hK1:=hc.k1;have hK2:=hc.k2;have hl:=hc.ln;clear hc ht hx hTm;unfold au;go_enter Tryz.func71,Tryz.ntmps71;simp only [CV,SH.v]
 go_upto_region 1 with fail
 refine hZ ?_;intro w1 hE B2 B3 hz_w1 hr_w1;refine mV3 hE ?_ HX HC HT;clear HX HC HT;intro HX HC HT;have hs_w1:=hE.size;replace b_B2:=bX3 B2;obtain ⟨c_B3,f_B3,l_B3⟩:=bX3 B3;obtain ⟨b3,hb3⟩:∃ b3,b3=w.heap.size+1:=⟨_,rfl⟩;have hb3w:b3<w1.heap.size:=zo;rw [←hb3] at B3 ⊢;clear c_B3 f_B3 l_B3;have c_B3:=ae B3.out;have f_B3:=af B3.out;clear hb3;go_wp2
 go_loopg [5,6,13] ms.length (fun g cv lv iv wr=>∃ (k cnt:Nat) (la:Int),k+g=ms.length∧iv=.int .i64 (k:Nat)∧cv=.int .i64 (cnt:Nat)∧lv=.int .i64 la∧Ext w wr∧Ext w1 wr∧cnt+vr la ((ms.drop k).map fun m=>Sg.sg (evV m x))=cw ms x∧cnt≤k∧IsS la)
 case atStart=>exact ⟨0,0,0,zo,rfl,rfl,rfl,HX.out,Ext.refl _,by rw [Nat.zero_add];rfl,nXe _,Or.inr (Or.inl rfl)⟩
 case round =>
  obtain ⟨k,cnt,la,hk,rfl,rfl,rfl,g1,g2,g3,g4,g5⟩:=hrel;clear HX;have HX:=Hi g1;have HX7:=Hi g2;have HC2:=Hi (HC.out.ext g2);have HT2:=Hi (HT.out.ext g2);have B32:=Hi (g2.block B3.out);have HV:=Hi g3;have hla:-1≤la∧la≤1:=by unfold IsS at g5;omega
  have HLA:=Hi g5;have hb3r:=g2.size;clear g1 g2 g3 g5 b_B2 c_B3 f_B3;replace b_B32:=bX3 B32;by_cases h0:gk=0
  case pos =>
   subst h0;obtain rfl:k=ms.length:=by omega
   have HE:Hid (cnt=cw ms x):=Hi (by have:=HV.out;rw [List.drop_length,List.map_nil] at this;exact this);have hin:¬ ((ms.length:Nat):Int)<(ms.length:Nat):=zo;go_wp2
   go_ret
   exact ⟨(),by rw [HE.out];rfl,HX.out,trivial⟩
  have hin:(k:Int)<(ms.length:Nat):=zo;have hkn:k<ms.length:=zo;obtain ⟨L,a,n,c,hva,hLl,hcell,hcan,hn,hwz⟩:=HC2.out.at (k:=k) hkn;subst hva;have HL:=Hi hcan;have HTN:Hid (T*n≤1000000):=Hi (AX HTM.out hkn hcan.len);have HW:=Hi hwz;have HD:=Hi (qW (fun m=>Sg.sg (evV m x)) ms [] hkn);clear hcan hwz
  go_wp2_with fail
  refine cM (fQ a n c (ms.getD k []) ⟨tn,ta,tl,tc,tb,tm,td⟩ x K T _ HL.out HT2.out hn HW.out ZX.out hT hK1 hK2 hT4 HTN.out) fun x19 w19 hE _=>?_
  refine mV6 hE ?_ HX HX7 HC2 HT2 B32 HL;clear HX HX7 HC2 HT2 B32 HL;intro HX HX7 HC2 HT2 B32 HL;have hs_w19:=hE.size;replace b_B32:=bX3 B32;rw [HD.out] at HV;have hs:=nH (evV (ms.getD k []) x);obtain ⟨s,es⟩:∃ s,s=Sg.sg (evV (ms.getD k []) x):=⟨_,rfl⟩;rw [←es] at HV hs ⊢;have HS:=Hi hs;clear es HD HL HW hcell;have hs2:-1≤s∧s≤1:=by unfold IsS at hs;omega
  clear hs;obtain ⟨rl,hrl⟩:∃ rl,rl=(ms.drop (k+1)).map fun m=>Sg.sg (evV m x):=⟨_,rfl⟩
  rw [←hrl] at HV;have HRL:=Hi hrl;clear hrl;by_cases hs0:s=0
  case pos =>
   subst hs0;have HV2:Hid (cnt+vr la rl=cw ms x):=Hi (by have:=HV.out;rw [show vr la (0 :: rl)=vr la rl by simp [vr]] at this;exact this);clear HV;go_wp2
   go_roundg (gk-1)
   case measure=>omega
   case rel=>exact ⟨k+1,cnt,la,zo,by go_num,rfl,rfl,HX.out,HX7.out,by rw [←HRL.out];exact HV2.out,zo,HLA.out⟩
  have hsb:(s == 0)=false:=by rw [nXs];exact hs0
  by_cases hl0:la=0
  case pos =>
   subst hl0;have HV2:Hid (cnt+vr s rl=cw ms x):=Hi (by have:=HV.out;rw [show vr 0 (s :: rl)=vr s rl by simp [vr,hs0]] at this;exact this);clear HV;go_wp2
   go_roundg (gk-1)
   case measure=>omega
   case rel=>exact ⟨k+1,cnt,s,zo,by go_num,rfl,rfl,HX.out,HX7.out,by rw [←HRL.out];exact HV2.out,zo,HS.out⟩
  have hlb:(la == 0)=false:=by rw [nXs];exact hl0
  by_cases hsl:s=la
  case pos =>
   subst hsl;have HV2:Hid (cnt+vr s rl=cw ms x):=Hi (by have:=HV.out;rw [show vr s (s :: rl)=vr s rl by simp [vr,hs0]] at this;exact this);clear HV;go_wp2
   go_roundg (gk-1)
   case measure=>omega
   case rel=>exact ⟨k+1,cnt,s,zo,by go_num,rfl,rfl,HX.out,HX7.out,by rw [←HRL.out];exact HV2.out,zo,HS.out⟩
  have hslb:(s == la)=false:=by rw [nXs];exact hsl
  have hlb2:(la != 0)=true:=by rw [bne,hlb];rfl
  have hslb2:(s != la)=true:=by rw [bne,hslb];rfl
  have HV2:Hid ((cnt+1)+vr s rl=cw ms x):=Hi (by have:=HV.out;rw [show vr la (s :: rl)=1+vr s rl by simp [vr,hs0,hl0,hsl]] at this;omega);clear HV;go_wp2
  go_roundg (gk-1)
  case measure=>omega
  case rel=>exact ⟨k+1,cnt+1,s,zo,by go_num,by go_num,rfl,HX.out,HX7.out,by rw [←HRL.out];exact HV2.out,zo,HS.out⟩
theorem jZ(v:SH)(ms:List (List Rat))(K:Nat)(t:RH)(x:Rat)(T:Nat)(w:World)(hc:ChK w v ms K)(ht:aB w t x)(hx:Sz T x)(hT:1≤T)(hT3:T≤1000) :
  au 71 [CV v,t.v] w (fun _:Unit=>.int .i64 (cw ms x)) (fun _ _=>True) :=
 pW v ms K t x T w hc ht hx hT zo (fun m hm=>nXx hT3 (hc.ml m hm))
theorem kv(v:SH)(ms:List (List Rat))(K:Nat)(t:RH)(x:Rat)(T:Nat)(w:World)(hc:ChK w v ms K)(h0:0<ms.length)(ht:aB w t x)(hx:Sz T x)(hT:1≤T)(hT4:T≤500000)(hTm:∀ m ∈ ms,T*m.length≤1000000) :
  au 72 [CV v,t.v] w (fun _:Unit=>.bool (rtV ms x)) (fun _ _=>True):=by
 obtain ⟨va,vn,vc⟩:=v;obtain ⟨tn,ta,tl,tc,tb,tm,td⟩:=t;have HX:=Hi (Ext.refl w);have HC:=Hi hc;have HTM:=Hi hTm;have HT:=Hi ht;have ZX:=Hi hx;have hvl:=hc.len;obtain ⟨N,rfl⟩:∃ N,vn=N+1:=⟨vn-1,zo⟩;have hK1:=hc.k1;have hK2:=hc.k2;have hl:=hc.ln;clear hc ht hx hTm;unfold au;go_enter Tryz.func72,Tryz.ntmps72;simp only [CV,SH.v]
 go_upto_region 1 with fail
 refine hZ ?_;intro w1 hE B2 B3 hz_w1 hr_w1;refine mV3 hE ?_ HX HC HT;clear HX HC HT;intro HX HC HT;have hs_w1:=hE.size;replace b_B2:=bX3 B2;replace b_B3:=bX3 B3;obtain ⟨L,a,n,c,hva,hLl,hcell,hcan,hn,hwz⟩:=HC.out.at (k:=0) h0;subst hva;have HL:=Hi hcan;have HTN:Hid (T*n≤1000000):=Hi (AX HTM.out h0 hcan.len);have HW:=Hi hwz;have hin:(0:Int)<(N:Int)+1:=zo;clear hcan hwz;obtain ⟨s,hs⟩:∃ s,s=Sg.sg (evV (ms.getD 0 []) x):=⟨_,rfl⟩;have HSE:=Hi hs;have HV:Hid (rtV ms x=(s == 0)):=Hi (by
  unfold rtV;rw [←hs];by_cases h:s=0
  ·rw [h];rfl
  ·rw [decide_eq_false h,nXs.2 h])
 clear hs;refine wpG 8 (fun opIx=>match opIx with
  | 5=>sU (.int .i64 s)
  | _=>.quiet) (fun _=>[]) fun w0 he0 hz0 hc0 hf0=>?_
 refine wps he0 (fun w1 hW hG=>?_) fun x20=>?_
 ·exact spc [.slice a n c,RH.v ⟨tn,ta,tl,tc,tb,tm,td⟩] Tryz.func79 ((by rw [HSE.out];exact fQ a n c (ms.getD 0 []) ⟨tn,ta,tl,tc,tb,tm,td⟩ x K T _ (HL.out.ext hW) (HT.out.ext hW) hn HW.out ZX.out hT hK1 hK2 hT4 HTN.out))
 refine qZ ?_;refine aq ?_;intro w2 hI;have hE:=he0.out.trans hI.ext;clear hI he0 hz0 hc0 hf0;refine mV6 hE ?_ B2 B3 HX HC HL HT;clear B2 B3 HX HC HL HT;intro B2 B3 HX HC HL HT;have hs_w2:=hE.size;replace b_B2:=bX3 B2;replace b_B3:=bX3 B3;simp only [pD];go_wp2
 go_ret
 exact ⟨(),by rw [HV.out];rfl,HX.out,trivial⟩
theorem kw(v:SH)(ms:List (List Rat))(K:Nat)(t:RH)(x:Rat)(T:Nat)(w:World)(hc:ChK w v ms K)(h0:0<ms.length)(ht:aB w t x)(hx:Sz T x)(hT:1≤T)(hT3:T≤1000) :
  au 72 [CV v,t.v] w (fun _:Unit=>.bool (rtV ms x)) (fun _ _=>True) :=
 kv v ms K t x T w hc h0 ht hx hT zo (fun m hm=>nXx hT3 (hc.ml m hm))
theorem gW(ms:List (List Rat))(x:Rat):cw ms x≤ms.length:=by
 unfold cw;have:∀ (l:List Int) (z:Int),vr z l≤l.length:=by
  intro l;induction l with
  | nil=>intro z;exact nXe _
  | cons s l ih =>
   intro z;have h1:=ih z;have h2:=ih s;unfold vr;rw [List.length_cons];split
   ·omega
   ·split <;> omega
 have h:=this (ms.map fun m=>Sg.sg (evV m x)) 0
 rwa [nXl] at h
theorem AV:∀ (n:Nat) (a b:List Rat),(chn n a b).length≤n:=by
 intro n;induction n with
 | zero=>intro a b;exact nXe _
 | succ n ih =>
  intro a b;by_cases ha:a=[]
  ·rw [show chn (n+1) a b=[] by simp [chn,ha]];exact Nat.zero_le _
  ·by_cases hb:b=[]
   ·subst hb;rw [cX ha];simp
   ·rw [dS ha hb,List.length_cons];exact Nat.succ_le_succ (ih _ _)
theorem AU{L:Nat}:∀ (n:Nat) (a b:List Rat),a.length≤L→b.length≤L→tz b=b→∀ m ∈ chn n a b,m.length≤L:=by
 intro n;induction n with
 | zero=>intro a b _ _ _ m hm;simp [chn] at hm
 | succ n ih =>
  intro a b ha hb ht m hm;by_cases ha0:a=[]
  ·rw [show chn (n+1) a b=[] by simp [chn,ha0]] at hm;simp at hm
  ·by_cases hb0:b=[]
   ·subst hb0;rw [cX ha0] at hm;obtain rfl:m=a:=by simpa using hm
    exact ha
   ·rw [dS ha0 hb0] at hm;rcases List.mem_cons.1 hm with rfl|hm
    ·exact ha
    ·have:=mN a b (by rw [ht];exact hb0);rw [ht] at this;exact ih _ _ hb zo (aX _) m hm
theorem i6(p:List Rat):(remsV p).length≤p.length+1:=AV _ _ _
theorem mM{p:List Rat}(h:tz p≠[]):∀ m ∈ remsV p,m.length≤p.length:=by
 refine AU _ _ _ ?_ ?_ (aX _)
 ·rw [aC];exact ah p
 ·rw [aC];have:=ft h;omega
theorem gA{p:List Rat}(h:tz p≠[]):0<(remsV p).length:=by
 obtain ⟨l,e⟩:=i7 h;rw [e];exact Nat.succ_pos _
theorem tx{p:List Rat}(h:tz p≠[]){N:Nat}(hN:(remsV p).length=N+1):(remsV p).getLast?.getD []=(remsV p).getD N []∧tz ((remsV p).getD N [])=(remsV p).getD N []:=by
 have h1:(remsV p).getLast?.getD []=(remsV p).getD N []:=by
  rw [List.getLast?_eq_getElem?,hN,nXd];rfl
 have hlen:(ar (derL p)).length≤p.length:=by
  rw [aC];have:=ft h;omega
 obtain ⟨e,k1,k2,k3,-⟩:=rx p.length (ar p) (ar (derL p)) hlen (aX _) (aX _) (fun h0=>h (bH.1 h0));have h7:(remsV p).getLast?=some e:=k1;refine ⟨h1,?_⟩;rw [←h1,h7];exact k3
theorem ChM.chk{w:World}{lo B:Nat}{v:SH}{r:List Rat}{K:Nat}(h:ChM w lo B v.v (remsV r))(hr:tz r≠[])(hl:r.length≤999)(hW:∀ m ∈ remsV r,∀ y ∈ m,Wz K y)(h1:1≤K)(h2:K≤30000000):ChK w v (remsV r) K :=
 ⟨⟨lo,B,h⟩,hW,by have:=i6 r;omega,fun m hm=>by have:=mM hr m hm;omega,h1,h2⟩
theorem mD(pa:Option Addr)(P pc:Nat)(p:List Rat)(K:Nat)(w:World)(h:cD w ⟨pa,P,pc⟩ p)(hP:P≤900)(h0:tz p≠[])(hk:FrK K p)(hK:K≤12000000)(hK2:(P+1)*(K / 3)≤25000000)(hs:FrK K (sqfV p)) :
  au 70 [.slice pa P pc] w CV (fun x w'=>ChK w' x (remsV (rootV p)) K):=by
 have HK1:=Hi hk;have HK2:=Hi hs;obtain ⟨S,D,hS,hD,hD2,hf,hSK⟩:=hk;obtain ⟨U,E,hU,hE,hE2,hfU,hUK⟩:=hs;have LP:=Hi (RIn.of h);have HX:=Hi (Ext.refl w);have hlen:=h.len;simp only at hlen;have H0:=Hi h0;have HF:=Hi hf;have HFU:=Hi hfU;have HSK:Hid (KZ K S P):=Hi (by rw [←hlen];exact hSK);have hUs:=KZ.small hUK;have HUK:Hid (KZ K U (sqfV p).length):=Hi hUK;have hsl:(sqfV p).length≤P:=by rw [←hlen];exact mz h0
 have hK1:1≤K:=zo;obtain ⟨N,hN⟩:∃ N,(remsV p).length=N+1:=⟨(remsV p).length-1,by have:=gA h0;omega⟩;have hN2:N≤P:=by have:=i6 p;omega
 have HLA:=Hi (tx h0 hN);have HPl:Hid (p.length=P):=Hi hlen;have HRT:=Hi (kx h0).ne;have HMm:Hid ((remsV p).getD N [] ∈ remsV p):=Hi (by
  rw [nXd,List.getElem?_eq_getElem zo];exact List.getElem_mem _)
 have HRV:Hid (rootV p=if 2≤(tz ((remsV p).getD N [])).length then sqfV p else p):=Hi (by
  unfold rootV;rw [HLA.out.1,HLA.out.2])
 clear h hlen hf hfU hSK hUK h0;unfold au;go_enter Tryz.func70,Tryz.ntmps70
 go_upto_region 1 with fail
 refine nmA ?_;intro w1 hE B2 hz_w1 hr_w1;refine mV2 hE ?_ LP HX;clear LP HX;intro LP HX;have hs_w1:=hE.size;clear hE;replace b_B2:=bX3 B2
 go_wp2_with fail
 refine cM (nE pa P pc p S D K _ LP.out.raw zo H0.out hS hD hD2 HF.out HSK.out zo) fun x5 w5 hE G5=>?_
 refine mV3 hE ?_ B2 LP HX;clear B2 LP HX;intro B2 LP HX;have hs_w5:=hE.size;clear hE;replace b_B2:=bX3 B2;obtain ⟨xa,xn,xc⟩:=x5;obtain ⟨⟨B,hB,hch⟩,hwz⟩:=G5.out;have HC:=Hi hch;have HW:=Hi hwz;clear G5 hch hwz
 go_upto_region 2 with fail
 refine nmA ?_;intro w6 hE B3 hz_w6 hr_w6;refine mV4 hE ?_ B2 LP HX HC;clear B2 LP HX HC;intro B2 LP HX HC;have hs_w6:=hE.size;clear hE;replace b_B2:=bX3 B2;replace b_B3:=bX3 B3;obtain ⟨hxn,hat⟩:=HC.out.at;rw [hN] at hxn;subst hxn;obtain ⟨L,a,n,c,hva,hLl,hcell,hcan⟩:=hat N zo;subst hva;have HL:=Hi hcan;have HZ:Hid (SzL K ((remsV p).getD N [])):=Hi (fun y hy=>(HW.out _ HMm.out y hy).sz hK1);obtain ⟨D2,hD2e⟩:∃ D2,D2=(tz ((remsV p).getD N [])).length:=⟨_,rfl⟩;have HDe:=Hi hD2e;rw [←hD2e] at HRV;clear hat hcan;have hN1:((N:Int)+1)-1=N:=by omega
 have hN3:(N:Int)<(N:Int)+1:=zo
 go_wp2_with fail
 refine cM (kM a n c ((remsV p).getD N []) _ (HL.out.raw HZ.out zo)) fun x14 w14 hE _=>?_
 refine mV6 hE ?_ B3 B2 LP HX HC HL;clear B3 B2 LP HX HC HL;intro B3 B2 LP HX HC HL;have hs_w14:=hE.size;clear hE;replace b_B2:=bX3 B2;replace b_B3:=bX3 B3;rw [←hD2e];clear hD2e hcell;clear HL;by_cases hd:2≤D2
 case pos =>
  have hd2:(0:Int)<(D2:Int)-1:=zo;have HV:Hid (rootV p=sqfV p):=Hi (by rw [HRV.out,if_pos hd]);clear hd
  go_wp2_with fail
  refine cM (wF pa P pc p K _ LP.out.raw zo H0.out HK1.out hK hK2 HK2.out) fun x17 w17 hE G17=>?_
  refine mV5 hE ?_ B3 B2 LP HX HC;clear B3 B2 LP HX HC;intro B3 B2 LP HX HC;have hs_w17:=hE.size;clear hE;replace b_B2:=bX3 B2;replace b_B3:=bX3 B3;obtain ⟨qa,qn,qc⟩:=x17;have HQ:=Hi G17.out.lin;have hqn:=HQ.out.len;simp only at hqn;clear G17;clear HC;clear LP;simp only [SH.v]
  go_wp2_with fail
  refine cM (sX qa qn qc (sqfV p) U E K _ HQ.out.can zo HRT.out hU hE hE2 HFU.out (by rw [←hqn];exact HUK.out) zo) fun x18 w18 hE G18=>?_
  refine mV4 hE ?_ B3 B2 HX HQ;clear B3 B2 HX HQ;intro B3 B2 HX HQ;have hs_w18:=hE.size;clear hE;replace b_B2:=bX3 B2;replace b_B3:=bX3 B3;obtain ⟨ya,yn,yc⟩:=x18;obtain ⟨⟨B',hB',hch'⟩,hwz'⟩:=G18.out;have HC2:=Hi hch';have HW2:=Hi hwz';clear G18 hch' hwz';clear HQ
  go_upto_region 4 with fail
  refine kT B3.out rfl ?_;intro w19 T;replace HX:=Hi (T.ext HX.out zo);replace B2:=Hi (T.rest _ _ zo B2.out);replace B3:=Hi (T.bx);replace HC2:=Hi (HC2.out.put T zo);have hs_w19:=nle T.size;have hr_w19:=nle T.size.symm;clear T;replace b_B2:=bX3 B2;replace b_B3:=bX3 B3;go_wp2;refine kT (F:=fun W=>bodyPost _ _ _ _ _ W) B2.out rfl ?_;intro w20 T;replace HX:=Hi (T.ext HX.out zo);replace B2:=Hi (T.bx);replace B3:=Hi (T.rest _ _ zo B3.out);replace HC2:=Hi (HC2.out.put T zo);have hs_w20:=nle T.size;have hr_w20:=nle T.size.symm;clear T;replace b_B2:=bX3 B2;replace b_B3:=bX3 B3;exact nXa (v:=CV ⟨ya,yn,yc⟩) (by simp [results,Tryz.results70,go_sem,CV,b_B2.1]) rfl ⟨⟨ya,yn,yc⟩,rfl,HX.out,by rw [HV.out];exact HC2.out.chk HRT.out zo HW2.out hK1 zo⟩
 have hd2:¬ (0:Int)<(D2:Int)-1:=zo;have HV:Hid (rootV p=p):=Hi (by rw [HRV.out,if_neg hd]);go_wp2;refine kT (F:=fun W=>bodyPost _ _ _ _ _ W) B2.out rfl ?_;intro w20 T;replace HX:=Hi (T.ext HX.out zo);replace LP:=Hi (LP.out.put T zo);replace B2:=Hi (T.bx);replace HC:=Hi (HC.out.put T zo);replace B3:=Hi (T.rest _ _ zo B3.out);have hs_w20:=nle T.size;have hr_w20:=nle T.size.symm;clear T;replace b_B2:=bX3 B2;replace b_B3:=bX3 B3;exact nXa (v:=CV ⟨some ⟨L,0,none⟩,N+1,xc⟩) (by simp [results,Tryz.results70,go_sem,CV,b_B2.1]) rfl ⟨⟨some ⟨L,0,none⟩,N+1,xc⟩,rfl,HX.out,by rw [HV.out];exact HC.out.chk H0.out (by rw [HPl.out];omega) HW.out hK1 zo⟩
theorem qe(pa:Option Addr)(P pc:Nat)(p:List Rat)(K:Nat)(w:World)(h:bw w ⟨pa,P,pc⟩ p)(hP:P≤900)(h0:tz p≠[])(hk:FrK K p)(hK:K≤12000000)(hK2:(P+1)*(K / 3)≤25000000)(hs:FrK K (sqfV p)) :
  au 70 [.slice pa P pc] w CV (fun x w'=>ChK w' x (remsV (rootV p)) K):=by
 obtain ⟨S,D,h1,h2,h3,h4,h5⟩:=id hk;exact mD pa P pc p K w (h.raw (h4.sz h1 h2 h3) (by have:=KZ.small h5;omega)) hP h0 hk hK hK2 hs
end Go.Proofs.YtafgmcimcbhhjaaGreat
