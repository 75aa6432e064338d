import Derived.Test.YtafgmcimcbhhjaaGreatQAK19
set_option linter.unusedVariables false
namespace Go.Proofs.YtafgmcimcbhhjaaGreat
open Go.RowKit Go.Front Go.Num Stab Sg
theorem Fa{p q:List Rat}(hp:tz p=p)(hq:tz q=q)(h:∀ x,evV p x=evV q x):p=q:=by
 have:=jx (iM h);rw [hp,hq] at this;exact this
theorem Ee(l:List Rat)(c x:Rat):evV (bT l c) x=c*evV l x:=by unfold bT;rw [dH,bJ]
theorem Ef(p q:List Rat)(x:Rat):evV (pY p q) x=evV p x-evV q x:=by
 unfold pY;rw [ev_add5,Ee];have:((-1:Int):Rat)=-1:=rfl;rw [this];grind
theorem Dz(l:List Rat)(c:Rat):tz (scP l c)=scP l c:=aH _
theorem DC(p q:List Rat):tz (pY p q)=pY p q:=aH _
theorem Cj(n:Nat)(x:Rat):evV (nuP ((1:Int):Rat) [((1:Int):Rat)] (n:Int)) x=(1+x) ^ n:=by
 rw [Eh,mY,Int.toNat_natCast];have:((1:Int):Rat)=1:=rfl;rw [this];grind
theorem Fk{g:Rat}{e d:List Rat}{p:Int}(h:AlZ g e d p):FrB 260 (nuP g e p)∧(nuP g e p).length≤6:=by
 have hp:=h.p5;have h0:=h.p0;have hl:=h.lp;have hle:=h.le;have f:=((h.fe.mul h.fe zo).mul (qw (n:=p.toNat) zo) (by have:=bF (nXe e.length) (nXe e.length);omega)).scP h.zg zo;refine ⟨f.mono zo,nXf (el _ _ (bF (bF (nXe e.length) (nXe e.length)) (iL p.toNat))) zo⟩
def yz(n:Nat)(e r:Rat):List Rat:=pY (aq (tz (derL (nuP ((1:Int):Rat) [((1:Int):Rat)] (n:Int)))) (tz (buD n e r))) (aq (nuP ((1:Int):Rat) [((1:Int):Rat)] (n:Int)) (tz (derL (tz (buD n e r)))))
theorem AJ(n:Nat)(e r x:Rat):evV (yz n e r) x=evD (nuP ((1:Int):Rat) [((1:Int):Rat)] (n:Int)) x*evV (tz (buD n e r)) x-evV (nuP ((1:Int):Rat) [((1:Int):Rat)] (n:Int)) x*evD (tz (buD n e r)) x:=by
 unfold yz;rw [Ef,aC,aC,dH (derL _),dH (derL _),bM,bM]
theorem Dr(m:Nat)(e r:Rat):yz (m+1) e r=scP (aq (cw plQ m) (cw miQ m)) (((2:Int):Rat)*(((m+1:Nat):Int):Rat)*(r*bC e ^ (m+1))):=by
 refine Fa (DC _ _) (Dz _ _) (fun x=>?_);have one:((1:Int):Rat)=1:=rfl;have two:((2:Int):Rat)=2:=rfl;have hD1:evD (aq [((1:Int):Rat)] [((1:Int):Rat)]) x=0:=by
  rw [em];have:evD [((1:Int):Rat)] x=0:=by show 0*x+0=(0:Rat);grind
  rw [this];grind
 rw [AJ,Cj,jG,aC,cY,cY,kp,lX];unfold nuP buD;rw [kq,l0,em,hD1,aC,mY,kq,dH,ev_add5,j6,lZ,jG,Int.toNat_natCast,cY,cY,hH,hH,sE,sG,kp,lX,one,two,Rat.intCast_natCast];rw [Rat.pow_succ (1+x),Rat.pow_succ (1-x)];generalize (1+x) ^ m=Z at *
 generalize (1-x) ^ m=Y at *
 generalize r*bC e ^ (m+1)=k at *
 generalize ((m+1:Nat):Rat)=q at *
 grind
theorem Fe{n:Nat}{e r:Rat}(h1:1≤n)(h5:n≤5)(he:EdF e)(zr:Sz 1 r):FrB 50 (yz n e r)∧(yz n e r).length≤9:=by
 obtain ⟨m,rfl⟩:∃ m,n=m+1:=⟨n-1,zo⟩;rw [Dr];have zm:Sz 1 (((m+1:Nat):Int):Rat):=Sz.int (by rw [nYi];exact nYl (show m+1≤5 by omega) dZ);have z2:Sz 1 ((2:Int):Rat):=Sz.int dZ;have f:=((qw (n:=m) zo).mul (vM (n:=m) zo) (by have:=iL m;omega)).scP ((z2.mul zm).mul (zr.mul (vg he.w h5))) zo;exact ⟨f.mono zo,nXf (el _ _ (bF (iL m) (kj m))) zo⟩
end Go.Proofs.YtafgmcimcbhhjaaGreat
/- How near two roots can be: on a short interval the changes of sign in a chain fall by one at most. Plain facts. -/
namespace Go.Proofs.YtafgmcimcbhhjaaGreat.Sg
open Go.RowKit Go.Front Go.Num Go.Stab Go.Proofs.YtafgmcimcbhhjaaGreat
theorem tR{z:Rat}(hz:z=1∨z=-1){f:Rat→Rat}{s t:Rat}(h:z*f s<z*f t):qU f s t=if z*f s<0∧0≤z*f t then 1 else 0:=by
 unfold qU;rcases hz with rfl|rfl
 ·rcases bZ (f s) with ⟨c,e⟩|⟨c,e⟩|⟨c,e⟩ <;> rcases bZ (f t) with ⟨d,g⟩|⟨d,g⟩|⟨d,g⟩ <;> rw [e,g] <;> first
   | (exfalso;grind)
   | (rw [if_pos dZ,if_pos ⟨by grind,by grind⟩])
   | (rw [if_neg dZ,if_neg (fun k=>by have k1:=k.1;have k2:=k.2;grind)])
 ·rcases bZ (f s) with ⟨c,e⟩|⟨c,e⟩|⟨c,e⟩ <;> rcases bZ (f t) with ⟨d,g⟩|⟨d,g⟩|⟨d,g⟩ <;> rw [e,g] <;> first
   | (exfalso;grind)
   | (rw [if_pos dZ,if_pos ⟨by grind,by grind⟩])
   | (rw [if_neg dZ,if_neg (fun k=>by have k1:=k.1;have k2:=k.2;grind)])
theorem Fit.rise{A B:Rat}{f:Rat→Rat}{l:List (Rat→Rat)}(h:Fit A B f l){z:Rat}(hz:z=1∨z=-1){lo hi:Rat}(hA:A≤lo)(hlh:lo<hi)(hB:hi≤B)(hr:∀ s t,lo≤s→s<t→t≤hi→z*f s<z*f t):V f l lo=V f l hi+(if z*f lo<0∧0≤z*f hi then 1 else 0):=by
 obtain ⟨e,he,hc⟩:=h.cell;refine kI (A:=lo) (B:=hi) (P:=fun s t=>V f l s=V f l t+(if z*f s<0∧0≤z*f t then 1 else 0)) he (fun s t h1 h2 h3 h4=>?_) (fun s t u h1 h2 h3 h4 k1 k2=>?_) lo hi Rat.le_refl hlh Rat.le_refl
 ·rw [(hc s t (by grind) h2 (by grind) h4).1,tR hz (hr s t h1 h2 h3)]
 ·have a1:=hr s t h1 h2 (by grind);have a2:=hr t u (by grind) h3 h4;rw [k1,k2,Nat.add_assoc]
  congr 1
  by_cases b1:z*f t<0
  ·rw [if_neg (c:=z*f s<0∧0≤z*f t) (fun k=>by have:=k.2;grind),Nat.add_zero];by_cases b2:0≤z*f u
   ·rw [if_pos ⟨b1,b2⟩,if_pos ⟨by grind,b2⟩]
   ·rw [if_neg (fun k=>b2 k.2),if_neg (fun k=>b2 k.2)]
  ·rw [if_neg (c:=z*f t<0∧0≤z*f u) (fun k=>b1 k.1),Nat.zero_add];by_cases b2:z*f s<0
   ·rw [if_pos ⟨b2,by grind⟩,if_pos ⟨b2,by grind⟩]
   ·rw [if_neg (fun k=>b2 k.1),if_neg (fun k=>b2 k.1)]
theorem Fit.short{A B L b d:Rat}{f g:Rat→Rat}{l:List (Rat→Rat)}(h:Fit A B f l)(hL0:0≤L)(hL:Lip A B L f)(hG:Lip A B L g)(hS:∀ s t,A≤s→s≤t→t≤B→Bd (L*(t-s)*(t-s)) (f t-f s-g s*(t-s)))(hb:0<b)
 (hbig:∀ x,A≤x→x≤B→Big b (f x)∨Big b (g x))(hd:L*d<b){lo hi:Rat}(hA:A≤lo)(hlh:lo<hi)(hB:hi≤B)(hw:hi-lo≤d):V f l lo≤V f l hi+1∧(f lo=0→V f l lo=V f l hi):=by
 have hLd:∀ y,y≤d→L*y<b:=fun y hy=>by have:=aV hy hL0;grind
 rcases hbig lo hA (by grind) with h1|h1
 ·have hs:∀ x,lo≤x→x≤hi→sg (f x)=sg (f lo)∧sg (f lo)≠0:=fun x k1 k2=>Big.sign hL h1 hA k1 (by grind) (hLd _ (by grind))
  have hV:=h.calm hA hlh hB (fun s t k1 k2 k3 _=>by rw [(hs s k1 (by grind)).1,(hs t (by grind) k3).1]);refine ⟨zo,fun _=>hV⟩
 ·obtain ⟨z,hz,hzg⟩:∃ z:Rat,(z=1∨z=-1)∧b≤z*g lo:=by
   rcases h1 with k|k
   ·exact ⟨1,Or.inl rfl,by grind⟩
   ·exact ⟨-1,Or.inr rfl,by grind⟩
  have hr:∀ s t,lo≤s→s<t→t≤hi→z*f s<z*f t:=fun s t k1 k2 k3=>by
   obtain ⟨a1,a2⟩:=hG lo s hA k1 (by grind);obtain ⟨a3,a4⟩:=hS s t (by grind) (by grind) (by grind);have a5:=hLd (t-lo) (by grind);have a6:0<z*g s-L*(t-s):=by rcases hz with rfl|rfl <;> grind
   have a7:=jM a6 (show 0<t-s by grind);rcases hz with rfl|rfl <;> grind
  have hV:=h.rise hz hA hlh hB hr;refine ⟨?_,fun h0=>?_⟩
  ·rw [hV];split <;> omega
  ·rw [hV,if_neg (fun k=>by have:=k.1;rw [h0] at this;grind)];rfl
theorem pw1{a:Rat}(ha:1≤a)(k:Nat):1≤a ^ k:=by
 induction k with
 | zero=>rw [Rat.pow_zero];exact Rat.le_refl
 | succ k ih =>
  rw [Rat.pow_succ];have h6:=cx ih (show 0≤a by grind);grind
theorem uZ{a:Rat}(ha:1≤a){k m:Nat}(h:k≤m):a ^ k≤a ^ m:=by
 obtain ⟨j,rfl⟩:∃ j,m=k+j:=⟨m-k,zo⟩;clear h;induction j with
 | zero=>exact Rat.le_refl
 | succ j ih =>
  rw [←Nat.add_assoc,Rat.pow_succ];have h1:=pw1 ha (k+j);have h2:=aV ha (show 0≤a ^ (k+j) by grind);grind
theorem vh{C R:Rat}(hC:0≤C)(hR:1≤R):∀ p:List Rat,(∀ y ∈ p,Bd C y) →
  On (-R) R (C*(4*R) ^ p.length) (evV p)∧On (-R) R (C*(4*R) ^ p.length) (evD p)∧Lip (-R) R (C*(4*R) ^ p.length) (evV p)∧Lip (-R) R (C*(4*R) ^ p.length) (evD p) ∧
  ∀ s t,-R≤s→s≤t→t≤R→Bd (C*(4*R) ^ p.length*(t-s)*(t-s)) (evV p t-evV p s-evD p s*(t-s)):=by
 intro p;induction p with
 | nil =>
  intro _;rw [List.length_nil,Rat.pow_zero,Rat.mul_one];refine ⟨fun x _ _=>⟨by show -C≤(0:Rat);grind,hC⟩,fun x _ _=>⟨by show -C≤(0:Rat);grind,hC⟩,fun s t _ h _=>?_,fun s t _ h _=>?_,fun s t _ h _=>?_⟩
  ·have:=gU hC (show 0≤t-s by grind);exact ⟨by show -(C*(t-s))≤(0:Rat)-0;grind,by show (0:Rat)-0≤C*(t-s);grind⟩
  ·have:=gU hC (show 0≤t-s by grind);exact ⟨by show -(C*(t-s))≤(0:Rat)-0;grind,by show (0:Rat)-0≤C*(t-s);grind⟩
  ·have:=gU (gU hC (show 0≤t-s by grind)) (show 0≤t-s by grind);exact ⟨by show -(C*(t-s)*(t-s))≤(0:Rat)-0-0*(t-s);grind,by show (0:Rat)-0-0*(t-s)≤C*(t-s)*(t-s);grind⟩
 | cons c p ih =>
  intro hp;obtain ⟨i1,i2,i3,i4,i5⟩:=ih (fun y hy=>hp y (List.mem_cons_of_mem _ hy));have hc:=hp c List.mem_cons_self;rw [List.length_cons,Rat.pow_succ];have hP:=pw1 (show 1≤4*R by grind) p.length;generalize (4*R) ^ p.length=P at *
  have hCP:=aV hP hC;have hQ0:0≤C*P:=gU hC (by grind);have hQR:=aV hR hQ0;have hE:C*(P*(4*R))=4*(C*P*R):=by grind
  rw [hE];generalize C*P=Q at *
  have hx:∀ {x},-R≤x→x≤R→Bd R x:=fun h1 h2=>⟨h1,h2⟩
  refine ⟨fun x h1 h2=>?_,fun x h1 h2=>?_,fun s t h1 h2 h3=>?_,fun s t h1 h2 h3=>?_,fun s t h1 h2 h3=>?_⟩
  ·exact (((i1 x h1 h2).mul (hx h1 h2)).add hc).mono (by grind)
  ·exact (((i2 x h1 h2).mul (hx h1 h2)).add (i1 x h1 h2)).mono (by grind)
  ·have h0:0≤t-s:=by grind
   have a:=(i3 s t h1 h2 h3).mul (hx (show -R≤t by grind) h3);have b:=(i1 s h1 (by grind)).mul (Bd.self h0);have e:evV (c :: p) t-evV (c :: p) s=(evV p t-evV p s)*t+evV p s*(t-s):=by
    show evV p t*t+c-(evV p s*s+c)=_;grind
   rw [e];refine (a.add b).mono ?_;have k:=cx (show Q*R+Q≤4*(Q*R) by grind) h0;grind
  ·have h0:0≤t-s:=by grind
   have a:=(i4 s t h1 h2 h3).mul (hx (show -R≤t by grind) h3);have b:=(i2 s h1 (by grind)).mul (Bd.self h0);have e:evD (c :: p) t-evD (c :: p) s=(evD p t-evD p s)*t+evD p s*(t-s)+(evV p t-evV p s):=by
    show evD p t*t+evV p t-(evD p s*s+evV p s)=_;grind
   rw [e];refine ((a.add b).add (i3 s t h1 h2 h3)).mono ?_;have k:=cx (show Q*R+Q+Q≤4*(Q*R) by grind) h0;grind
  ·have h0:0≤t-s:=by grind
   have a:=(i5 s t h1 h2 h3).mul (hx (show -R≤t by grind) h3);have b:=((i2 s h1 (by grind)).mul (Bd.self h0)).mul (Bd.self h0);have e:evV (c :: p) t-evV (c :: p) s-evD (c :: p) s*(t-s)=(evV p t-evV p s-evD p s*(t-s))*t+evD p s*(t-s)*(t-s):=by
    show evV p t*t+c-(evV p s*s+c)-(evD p s*s+evV p s)*(t-s)=_;grind
   rw [e];refine (a.add b).mono ?_;have k:=cx (cx (show Q*R+Q≤4*(Q*R) by grind) h0) h0;grind
theorem C9{S:Nat}{y:Rat}(h:Wz S y):Bd ((W32 ^ S:Nat):Rat) y:=by
 have e:=h.1.eq;have h2:=h.2;have h3:y.num≤((W32 ^ S:Nat):Int):=zo;have h4:-((W32 ^ S:Nat):Int)≤y.num:=zo;have k3:=Rat.intCast_le_intCast.2 h3;have k4:=Rat.intCast_le_intCast.2 h4;rw [Rat.intCast_neg,Rat.intCast_natCast] at k4;rw [Rat.intCast_natCast] at k3;rw [←e] at k3 k4;exact ⟨k4,k3⟩
theorem C8{S:Nat}{y:Rat}(h:Wz S y)(h0:y≠0):Big 1 y:=by
 have e:=h.1.eq;have hn:y.num≠0:=fun k=>h0 (by rw [e,k];rfl)
 rcases Int.lt_or_gt_of_ne hn with k|k
 ·right
  have:=Rat.intCast_le_intCast.2 (show y.num≤-1 by omega);rw [←e] at this;exact this
 ·left
  have:=Rat.intCast_le_intCast.2 (show 1≤y.num by omega);rw [←e] at this;exact this
def Bn(S n T:Nat):Nat:=S+(S+2)*(2*n)+2*(n*(T+1))+1
theorem C7{S:Nat}{p:List Rat}(h:∀ y ∈ p,Wz S y)(hl:p.length<W32):∀ y ∈ derL p,Wz (S+1) y:=fun y hy=>by
 have h1:∀ i,Wz S (seq p i):=fun i=>by
  show Wz S (p.getD i 0);rw [nXd];cases k:p[i]? with
  | none=>exact Wz.zero S
  | some z=>exact h z (List.mem_of_getElem? k)
 obtain ⟨i,hi,e⟩:=List.mem_iff_getElem.1 hy;have e2:y=seq (derL p) i:=by
  show y=(derL p).getD i 0;rw [nXd,List.getElem?_eq_getElem hi];exact e.symm
 rw [e2,seq_derL];by_cases hip:i+1<p.length
 ·have hz:Wz 1 ((i+1:Nat):Rat):=by
   have:=Wz.int (S:=1) (z:=((i+1:Nat):Int)) (by rw [nYi,Nat.pow_one];omega)
   rwa [Rat.intCast_natCast] at this
  rw [nYj S 1];exact hz.mul (h1 (i+1))
 ·rw [show seq p (i+1)=0 by show p.getD (i+1) 0=0;rw [nXd,List.getElem?_eq_none zo];rfl,nYc];exact Wz.zero _
theorem Bm{q:List Rat}(hc:Cp (evV q) (evD q)):Cp (evV (av q)) (evD (av q)):=by
 obtain ⟨u,v,hu,hv,h⟩:=hc;have e1:∀ x,evV q x=aJ q*evV (av q) x:=dM q;have e2:∀ x,evD q x=aJ q*evD (av q) x:=fun x=>by
  rw [←bM,←bM,←bJ];exact fN (c:=1) (fun i=>by rw [aS,seq_derL,seq_derL,cL q (i+1)];grind) x |>.trans (Rat.one_mul _)
 refine ⟨_,_,hu.smul (aJ q),hv.smul (aJ q),fun x=>?_⟩;have:=h x;rw [e1,e2] at this;show aJ q*u x*_+aJ q*v x*_=1;grind
theorem sep{q:List Rat}{S n T:Nat}(hq:tz q≠[])(hc:Cp (evV q) (evD q))(hw:∀ y ∈ av q,Wz S y)(hn:(av q).length≤n)(hn1:n≤1000){lo hi:Rat}(h1:-((W32 ^ T:Nat):Rat)≤lo)(h2:lo<hi)(h3:hi≤((W32 ^ T:Nat):Rat))(hd:(hi-lo)*((W32 ^ Bn S n T:Nat):Rat)≤1) :
  dR (i6 q) lo≤dR (i6 q) hi+1∧(evV q lo=0→dR (i6 q) lo=dR (i6 q) hi):=by
 obtain ⟨l,e,hfit⟩:=Ft hq hc;rw [fo,fo,mA e,mA e];have hcp:=Bm hc;have hz0:evV q lo=0→evV (av q) lo=0:=fun h=>by
  have k:=dM q lo;rw [h] at k;have:=bK hq;rcases nXr.1 k.symm with k|k
  ·rw [k] at this;exact absurd this Rat.lt_irrefl
  ·exact k
 obtain ⟨a,ha⟩:∃ a,a=av q:=⟨_,rfl⟩;rw [←ha] at hw hn hcp hz0 ⊢;have hF:=hfit (-((W32 ^ T:Nat):Rat)) ((W32 ^ T:Nat):Rat);rw [←ha] at hF;clear hfit
 suffices h:V (evV a) (l.map evV) lo≤V (evV a) (l.map evV) hi+1∧(evV a lo=0→V (evV a) (l.map evV) lo=V (evV a) (l.map evV) hi) from ⟨h.1,fun k=>h.2 (hz0 k)⟩
 have hR:(1:Rat)≤((W32 ^ T:Nat):Rat):=by exact_mod_cast nYn aw
 have hC:(0:Rat)≤((W32 ^ S:Nat):Rat):=by exact_mod_cast Nat.zero_le _
 have hlna:ln a≤n:=by have:=ae a;show (tz a).length≤n;omega
 by_cases hl1:ln a≤1
 ·have hk:=iX hl1;have hV:=hF.calm h1 h2 h3 (fun s t _ _ _ _=>by rw [hk,hk]);exact ⟨zo,fun _=>hV⟩
 have hdw:=C7 hw (show a.length<W32 by have:W32=4294967296:=rfl;omega);have hl2:1<(tz a).length:=by show 1<ln a;omega
 obtain ⟨m,hm⟩:∃ m,(tz a).length=m+2:=⟨(tz a).length-2,zo⟩;have hdt:=AQ hm;have hlb:ln (derL a)≤n:=by have h8:=ia a (m+1) hm;have h9:(tz a).length≤n:=hlna;show (tz (derL a)).length≤n;omega
 obtain ⟨U,W,w,hw0,hU,hWl,hev,hUz,hWz,hwz⟩:=EM (a:=a) (b:=derL a) (S:=S+1) (fun y hy=>(hw y hy).mono zo) hdw zo (gw hdt) (by rw [show evV (derL a)=evD a from funext (bM a)];exact hcp) (by have:W32=4294967296:=rfl;omega);have hS2:(S+1+1)*(ln a+ln (derL a))≤(S+2)*(2*n):=nXg _ zo;have hbd:∀ p:List Rat,(∀ i,Wz ((S+1+1)*(ln a+ln (derL a))) (seq p i))→ln p≤n→∀ x,-((W32 ^ T:Nat):Rat)≤x→x≤((W32 ^ T:Nat):Rat)→Bd (((W32 ^ ((S+2)*(2*n)):Nat):Rat)*(4*((W32 ^ T:Nat):Rat)) ^ n) (evV p x):=fun p hp hl x k1 k2=>by
  have hC2:(0:Rat)≤((W32 ^ ((S+2)*(2*n)):Nat):Rat):=by exact_mod_cast Nat.zero_le _
  have:=(vh hC2 hR (tz p) (fun y hy=>by
   obtain ⟨i,hi,e⟩:=List.mem_iff_getElem.1 hy;have e2:y=seq p i:=by
    rw [←aW];show y=(tz p).getD i 0;rw [nXd,List.getElem?_eq_getElem hi];exact e.symm
   rw [e2];exact C9 ((hp i).mono hS2))).1 x k1 k2
  rw [show evV (tz p) x=evV p x from (fN (c:=1) (fun i=>by rw [aW,Rat.one_mul]) x).trans (Rat.one_mul _)] at this;exact this.mono (aV (uZ (by grind) hl) hC2)
 have hUb:=hbd U hUz zo;have hWb:=hbd W hWz zo;obtain ⟨p1,-,p3,p4,p5⟩:=vh hC hR a (fun y hy=>C9 (hw y hy));have hwb:=C8 hwz hw0;obtain ⟨M,hM⟩:∃ M,M=((W32 ^ ((S+2)*(2*n)):Nat):Rat)*(4*((W32 ^ T:Nat):Rat)) ^ n:=⟨_,rfl⟩;obtain ⟨L,hL⟩:∃ L,L=((W32 ^ S:Nat):Rat)*(4*((W32 ^ T:Nat):Rat)) ^ n:=⟨_,rfl⟩;rw [←hM] at hUb hWb;have hpm:(4*((W32 ^ T:Nat):Rat)) ^ a.length≤(4*((W32 ^ T:Nat):Rat)) ^ n:=uZ (by grind) hn;have hlL:((W32 ^ S:Nat):Rat)*(4*((W32 ^ T:Nat):Rat)) ^ a.length≤L:=by rw [hL];exact aV hpm hC
 have hM1:1≤M:=by
  rw [hM];have h8:(1:Rat)≤((W32 ^ ((S+2)*(2*n)):Nat):Rat):=by exact_mod_cast nYn aw
  have h9:=aV (pw1 (show 1≤4*((W32 ^ T:Nat):Rat) by grind) n) (show 0≤((W32 ^ ((S+2)*(2*n)):Nat):Rat) by grind);grind
 have hL1:1≤L:=by
  rw [hL];have h8:(1:Rat)≤((W32 ^ S:Nat):Rat):=by exact_mod_cast nYn aw
  have h9:=aV (pw1 (show 1≤4*((W32 ^ T:Nat):Rat) by grind) n) (show 0≤((W32 ^ S:Nat):Rat) by grind);grind
 -- 16 M L is at most W32 ^ sepY
 have hML:16*(M*L)≤((W32 ^ Bn S n T:Nat):Rat):=by
  have e4:(4:Rat)*((W32 ^ T:Nat):Rat)≤((W32 ^ (T+1):Nat):Rat):=by
   rw [nXu,Rat.natCast_mul];have:(4:Rat)≤((W32:Nat):Rat):=by decide +kernel
   have:=aV this (show 0≤((W32 ^ T:Nat):Rat) by grind);grind
  have e5:(4*((W32 ^ T:Nat):Rat)) ^ n≤((W32 ^ (n*(T+1)):Nat):Rat):=by
   rw [nYf,Nat.pow_mul];clear hpm hlL hM hL hn hlna hlb hU hWl hS2 hbd hd hUb hWb hUz hWz hwz hev;have h0:0≤4*((W32 ^ T:Nat):Rat):=by grind
   induction n with
   | zero=>rw [Rat.pow_zero,Nat.pow_zero];exact Rat.le_refl
   | succ n ih =>
    rw [Rat.pow_succ,nXu,Rat.natCast_mul];have h6:=ih zo;have h7:=cx h6 h0;have h8:=aV e4 (show (0:Rat)≤(((W32 ^ (T+1)) ^ n:Nat):Rat) by exact_mod_cast Nat.zero_le _);grind
  have e6:(16:Rat)≤((W32 ^ 1:Nat):Rat):=by decide +kernel
  have e7:((W32 ^ Bn S n T:Nat):Rat)=((W32 ^ S:Nat):Rat)*((W32 ^ ((S+2)*(2*n)):Nat):Rat)*(((W32 ^ (n*(T+1)):Nat):Rat)*((W32 ^ (n*(T+1)):Nat):Rat))*((W32 ^ 1:Nat):Rat):=by
   unfold Bn;rw [Nat.pow_add,Nat.pow_add,Nat.pow_add,show 2*(n*(T+1))=n*(T+1)+n*(T+1) by omega,Nat.pow_add,Rat.natCast_mul,Rat.natCast_mul,Rat.natCast_mul,Rat.natCast_mul]
  have hp0:(0:Rat)≤(4*((W32 ^ T:Nat):Rat)) ^ n:=by have:=pw1 (show 1≤4*((W32 ^ T:Nat):Rat) by grind) n;grind
  have hC2:(0:Rat)≤((W32 ^ ((S+2)*(2*n)):Nat):Rat):=by exact_mod_cast Nat.zero_le _
  rw [hM,hL,e7];generalize (4*((W32 ^ T:Nat):Rat)) ^ n=P at *
  generalize ((W32 ^ ((S+2)*(2*n)):Nat):Rat)=C2 at *
  generalize ((W32 ^ (n*(T+1)):Nat):Rat)=Z at *
  generalize ((W32 ^ 1:Nat):Rat)=w1 at *
  generalize ((W32 ^ S:Nat):Rat)=C at *
  have g1:P*P≤Z*Z:=by have a1:=cx e5 hp0;have a2:=aV e5 (show 0≤Z by grind);grind
  have g2:=aV g1 (gU hC hC2);have g3:=aV e6 (gU (gU hC hC2) (gU (show 0≤Z by grind) (show 0≤Z by grind)));grind
 have hb:0<1 / (4*M):=tZ dZ (by grind);have hbe:=aF (a:=1) (b:=4*M) (by grind);refine hF.short (L:=L) (b:=1 / (4*M)) (d:=hi-lo) (g:=evD a) (by grind) (p3.mono hlL) (p4.mono hlL) (fun s t k1 k2 k3=>(p5 s t k1 k2 k3).mono (cx (cx hlL (by grind)) (by grind))) hb (fun x k1 k2=>Classical.byContradiction fun hn=>?_) ?_ h1 h2 h3 Rat.le_refl
 ·obtain ⟨n1,n2⟩:¬ Big (1 / (4*M)) (evV a x)∧¬ Big (1 / (4*M)) (evD a x):=⟨fun h=>hn (Or.inl h),fun h=>hn (Or.inr h)⟩;obtain ⟨q1,q2⟩:=iT n1;obtain ⟨q3,q4⟩:=iT n2;generalize 1 / (4*M)=b at *
  obtain ⟨r1,r2⟩:=(hUb x k1 k2).mul (show Bd b (evV a x) from ⟨by grind,by grind⟩);obtain ⟨r3,r4⟩:=(hWb x k1 k2).mul (show Bd b (evD a x) from ⟨by grind,by grind⟩);have k:=hev x;rw [bM] at k;rcases hwb with h|h <;> grind
 ·have h8:=cx hML (show 0≤hi-lo by grind);generalize 1 / (4*M)=b at *
  generalize hi-lo=d at *
  have h9:16*(M*L)*d≤1:=by grind
  refine Classical.byContradiction fun hn=>?_
  have h10:=aV (show b≤L*d by grind) (show 0≤4*M by grind);grind
def md6(a b:Rat):Rat:=(a+b)*(((1:Int):Rat) / ((2:Int):Rat))
theorem Ea:(((1:Int):Rat) / ((2:Int):Rat))*2=1:=by decide +kernel
theorem r9{a b:Rat}(h:a≤b):a≤md6 a b∧md6 a b≤b∧(md6 a b-a)*2=b-a∧(b-md6 a b)*2=b-a:=by
 have:=Ea;unfold md6;generalize ((1:Int):Rat) / ((2:Int):Rat)=c at *
 have e:(a+b)*c*2=a+b:=by grind
 exact ⟨by grind,by grind,by grind,by grind⟩
def v6(q:List Rat)(x:Rat):Nat:=dR (i6 q) x
def spV(q:List Rat)(wd:Rat):Nat→Rat→Rat→List Rat
 | 0,lo,hi=>if v6 q lo=v6 q hi then [] else [lo,hi]
 | d+1,lo,hi=>if v6 q lo=v6 q hi then [] else if v6 q lo=v6 q hi+1∧hi-lo≤wd∧evV q lo≠0 then [lo,hi] else spV q wd d lo (md6 lo hi)++spV q wd d (md6 lo hi) hi
theorem Do{q:List Rat}{wd lo hi:Rat}(d:Nat)(h:v6 q lo=v6 q hi):spV q wd d lo hi=[]:=by cases d <;> (unfold spV;rw [if_pos h])
theorem Dn{q:List Rat}{wd lo hi:Rat}(d:Nat)(h:v6 q lo=v6 q hi+1)(h1:hi-lo≤wd)(h2:evV q lo≠0):spV q wd d lo hi=[lo,hi]:=by
 cases d with
 | zero=>unfold spV;rw [if_neg zo]
 | succ d=>unfold spV;rw [if_neg zo,if_pos ⟨h,h1,h2⟩]
theorem jQ{q:List Rat}(hq:tz q≠[])(hc:Cp (evV q) (evD q)){lo hi:Rat}(h:lo≤hi):v6 q hi≤v6 q lo:=by
 obtain ⟨l,e,hfit⟩:=Ft hq hc;unfold v6;rw [fo,fo,mA e,mA e];rcases Rat.le_iff_lt_or_eq.1 h with h1|h1
 ·exact (hfit lo hi).mono lo hi Rat.le_refl h1 Rat.le_refl
 ·rw [h1];exact nXe _
theorem Be(q:List Rat)(x:Rat):v6 q x≤(i6 q).length:=kQ _ _
theorem uD{q:List Rat}(hq:tz q≠[])(hc:Cp (evV q) (evD q)){wd:Rat}:∀ (d:Nat) {lo hi:Rat},lo≤hi→(spV q wd d lo hi).length+2*v6 q hi≤2*v6 q lo:=by
 intro d;induction d with
 | zero =>
  intro lo hi h;have h1:=jQ hq hc h;unfold spV;split
  ·simp only [List.length_nil];omega
  ·simp only [List.length_cons,List.length_nil];omega
 | succ d ih =>
  intro lo hi h;obtain ⟨m1,m2,-,-⟩:=r9 h;unfold spV;split
  ·simp only [List.length_nil];omega
  ·split
   ·simp only [List.length_cons,List.length_nil];omega
   ·have a:=ih m1;have b:=ih m2;rw [nXi];omega
theorem Fd{q:List Rat}{wd:Rat}:∀ (d:Nat) {lo hi:Rat},lo≤hi→∀ y ∈ spV q wd d lo hi,lo≤y∧y≤hi:=by
 intro d;induction d with
 | zero =>
  intro lo hi h y hy;unfold spV at hy;split at hy
  ·simp at hy
  ·simp only [List.mem_cons,List.not_mem_nil,or_false] at hy;rcases hy with rfl|rfl
   ·exact ⟨Rat.le_refl,h⟩
   ·exact ⟨h,Rat.le_refl⟩
 | succ d ih =>
  intro lo hi h y hy;obtain ⟨m1,m2,-,-⟩:=r9 h;unfold spV at hy;split at hy
  ·simp at hy
  ·split at hy
   ·simp only [List.mem_cons,List.not_mem_nil,or_false] at hy;rcases hy with rfl|rfl
    ·exact ⟨Rat.le_refl,h⟩
    ·exact ⟨h,Rat.le_refl⟩
   ·rcases List.mem_append.1 hy with k|k
    ·have:=ih m1 y k;exact ⟨this.1,by have:=this.2;grind⟩
    ·have:=ih m2 y k;exact ⟨by have:=this.1;grind,this.2⟩
def Dy(D R e:Nat)(x:Rat):Prop:=∃ z:Int,x*((D*2 ^ e:Nat):Rat)=(z:Rat)∧z.natAbs≤R*(D*2 ^ e)
theorem AL(D e:Nat):((D*2 ^ (e+1):Nat):Rat)=2*((D*2 ^ e:Nat):Rat):=by
 have:D*2 ^ (e+1)=2*(D*2 ^ e):=by rw [nXu,←Nat.mul_assoc,nYf]
 rw [this,Rat.natCast_mul];rfl
theorem Dy.up{D R e:Nat}{x:Rat}(h:Dy D R e x):Dy D R (e+1) x:=by
 obtain ⟨z,h1,h2⟩:=h;refine ⟨z*2,?_,?_⟩
 ·rw [AL,Rat.intCast_mul,←h1];show _=_*(2:Rat);grind
 ·rw [Int.natAbs_mul,nXu,←Nat.mul_assoc,←Nat.mul_assoc];rw [←Nat.mul_assoc] at h2;exact nXh 2 h2
theorem Dy.mid{D R e:Nat}{a b:Rat}(h:Dy D R e a)(k:Dy D R e b):Dy D R (e+1) (md6 a b):=by
 obtain ⟨z,h1,h2⟩:=h;obtain ⟨y,k1,k2⟩:=k;refine ⟨z+y,?_,?_⟩
 ·rw [AL,Rat.intCast_add,←h1,←k1];have hh:=Ea;unfold md6;generalize ((1:Int):Rat) / ((2:Int):Rat)=c at *
  grind
 ·have:=Int.natAbs_add_le z y;have e2:R*(D*2 ^ (e+1))=R*(D*2 ^ e)*2:=by rw [nXu,←Nat.mul_assoc,←Nat.mul_assoc,←Nat.mul_assoc]
  omega
theorem DN(m:Nat):2 ^ (32*m)=W32 ^ m:=by rw [Nat.pow_mul];rfl
theorem Dy.sz{D T m e:Nat}{x:Rat}(h:Dy D (W32 ^ T) e x)(hD:0<D)(hD2:D≤W32 ^ (2*T))(he:e≤32*m):Sz (3*T+m+1) x:=by
 obtain ⟨z,h1,h2⟩:=h;have h3:2 ^ e≤W32 ^ m:=by rw [←DN];exact nXp dZ he
 have h4:D*2 ^ e≤W32 ^ (2*T+m):=by rw [Nat.pow_add];exact nXy hD2 h3
 have h5:W32 ^ T*(D*2 ^ e)≤W32 ^ (3*T+m):=by rw [show 3*T+m=T+(2*T+m) by omega,Nat.pow_add];exact nXg _ h4
 have h6:W32 ^ (3*T+m)<W32 ^ (3*T+m+1):=Nat.pow_lt_pow_right dZ zo;have h7:W32 ^ (2*T+m)≤W32 ^ (3*T+m):=nXp aw zo;exact (Fr.int (S:=3*T+m+1) (D:=D*2 ^ e) (z:=z) zo h1).sz zo (Nat.mul_pos hD (Nat.two_pow_pos e)) zo
theorem Dy.bd{D R e:Nat}{x:Rat}(h:Dy D R e x)(hD:0<D):-((R:Nat):Rat)≤x∧x≤((R:Nat):Rat):=by
 obtain ⟨z,h1,h2⟩:=h;have hp:(0:Rat)<((D*2 ^ e:Nat):Rat):=by exact_mod_cast Nat.mul_pos hD (Nat.two_pow_pos e)
 have h3:z≤((R*(D*2 ^ e):Nat):Int):=zo;have h4:-((R*(D*2 ^ e):Nat):Int)≤z:=zo;have k3:=Rat.intCast_le_intCast.2 h3;have k4:=Rat.intCast_le_intCast.2 h4;rw [Rat.intCast_neg,Rat.intCast_natCast,Rat.natCast_mul,←h1] at k4;rw [Rat.intCast_natCast,Rat.natCast_mul,←h1] at k3;generalize ((D*2 ^ e:Nat):Rat)=P at *
 constructor
 ·refine Classical.byContradiction fun hn=>?_
  have:=eM (show x < -(R:Rat) by grind) hp;grind
 ·refine Classical.byContradiction fun hn=>?_
  have:=eM (show (R:Rat)<x by grind) hp;grind
theorem og{T D:Nat}{x:Rat}(h:Sz T x)(hD:x.den ∣ D):Dy D (W32 ^ T) 0 x:=by
 obtain ⟨k,rfl⟩:=hD;refine ⟨x.num*(k:Int),?_,?_⟩
 ·rw [Nat.pow_zero,Nat.mul_one,Rat.natCast_mul,←nYe,low x,Rat.intCast_mul,Rat.intCast_natCast]
 ·rw [Int.natAbs_mul,nYi,Nat.pow_zero,Nat.mul_one];have h1:=h.1;have h2:k≤x.den*k:=Nat.le_mul_of_pos_left _ x.den_pos;exact nXy (nYm h1) h2
theorem Fc{q:List Rat}{wd:Rat}{D R:Nat}{P:Rat→Prop}{E:Nat}(hP:∀ e x,e≤E→Dy D R e x→P x):∀ (d:Nat) {e:Nat} {lo hi:Rat},d+e=E→Dy D R e lo→Dy D R e hi→∀ y ∈ spV q wd d lo hi,P y:=by
 intro d;induction d with
 | zero =>
  intro e lo hi he h1 h2 y hy;unfold spV at hy;split at hy
  ·simp at hy
  ·simp only [List.mem_cons,List.not_mem_nil,or_false] at hy;rcases hy with rfl|rfl
   ·exact hP e _ zo h1
   ·exact hP e _ zo h2
 | succ d ih =>
  intro e lo hi he h1 h2 y hy;unfold spV at hy;split at hy
  ·simp at hy
  ·split at hy
   ·simp only [List.mem_cons,List.not_mem_nil,or_false] at hy;rcases hy with rfl|rfl
    ·exact hP e _ zo h1
    ·exact hP e _ zo h2
   ·rcases List.mem_append.1 hy with k|k
    ·exact ih zo h1.up (h1.mid h2) y k
    ·exact ih zo (h1.mid h2) h2.up y k
structure Sp6 (q:List Rat) (wd:Rat) (D T m Y:Nat):Prop where
 ne:tz q≠[]
 cp:Cp (evV q) (evD q)
 dp:0<D
 dl:D≤W32 ^ (2*T)
 sep:∀ lo hi:Rat,-((W32 ^ T:Nat):Rat)≤lo→lo<hi→hi≤((W32 ^ T:Nat):Rat)→(hi-lo)*((W32 ^ Y:Nat):Rat)≤1→v6 q lo≤v6 q hi+1∧(evV q lo=0→v6 q lo=v6 q hi)
 wd:1≤wd*((W32 ^ Y:Nat):Rat)
theorem Sp6.base{q:List Rat}{wd lo hi:Rat}{D T m Y e:Nat}(h:Sp6 q wd D T m Y)(h1:Dy D (W32 ^ T) e lo)(h2:Dy D (W32 ^ T) e hi)(hlh:lo≤hi)(hd:(hi-lo)*((W32 ^ Y:Nat):Rat)≤1):v6 q lo=v6 q hi∨(v6 q lo=v6 q hi+1∧hi-lo≤wd∧evV q lo≠0):=by
 rcases Rat.le_iff_lt_or_eq.1 hlh with h3|h3
 ·obtain ⟨k1,k2⟩:=h.sep lo hi (h1.bd h.dp).1 h3 (h2.bd h.dp).2 hd;have k3:=jQ h.ne h.cp hlh;by_cases h4:v6 q lo=v6 q hi
  ·exact Or.inl h4
  ·refine Or.inr ⟨zo,?_,fun h0=>h4 (k2 h0)⟩;have hY:(0:Rat)<((W32 ^ Y:Nat):Rat):=by exact_mod_cast nYn aw
   have h5:=h.wd;refine Classical.byContradiction fun hn=>?_
   have:=eM (show wd<hi-lo by grind) hY;grind
 ·exact Or.inl (by rw [h3])
theorem Sp6.half{lo hi:Rat}{Y d:Nat}(hlh:lo≤hi)(hd:(hi-lo)*((W32 ^ Y:Nat):Rat)≤((2 ^ (d+1):Nat):Rat)):(md6 lo hi-lo)*((W32 ^ Y:Nat):Rat)≤((2 ^ d:Nat):Rat)∧(hi-md6 lo hi)*((W32 ^ Y:Nat):Rat)≤((2 ^ d:Nat):Rat):=by
 obtain ⟨-,-,h1,h2⟩:=r9 hlh;rw [nXu,Rat.natCast_mul] at hd;have e:((2:Nat):Rat)=2:=rfl;rw [e] at hd;generalize ((W32 ^ Y:Nat):Rat)=W at *
 generalize ((2 ^ d:Nat):Rat)=P at *
 have k1:(md6 lo hi-lo)*W*2=(hi-lo)*W:=by rw [←h1];grind
 exact ⟨by grind,by grind⟩
def prp:List Rat→List (Rat×Rat)
 | a :: b :: l=>(a,b) :: prp l
 | _=>[]
def ok6(p:List Rat)(hi:Rat)(x:Rat×Rat):Bool:=!((decide (x.2<hi) && decide (jU (p.length+1) p x.2<0)) || decide (sg (evV p x.1)<0))
def DW(p:List Rat)(lo hi:Rat)(L:List Rat):Bool:=if p=[] then true else if sg (evV p lo)<0∨sg (evV p hi)<0 then false else if lo=hi then true else if jU (p.length+1) p lo<0 then false else (prp L).all (ok6 p hi)
theorem vd:∀ (L:List Rat) {x:Rat×Rat},x ∈ prp L→x.1 ∈ L∧x.2 ∈ L
 | [],_,h=>by simp [prp] at h
 | [_],_,h=>by simp [prp] at h
 | a :: b :: l,x,h=>by
  unfold prp at h;rcases List.mem_cons.1 h with rfl|h
  ·exact ⟨List.mem_cons_self,List.mem_cons_of_mem _ List.mem_cons_self⟩
  ·have:=vd l h;exact ⟨List.mem_cons_of_mem _ (List.mem_cons_of_mem _ this.1),List.mem_cons_of_mem _ (List.mem_cons_of_mem _ this.2)⟩
theorem yX{p:List Rat}{lo hi:Rat}{L:List Rat}(hp:tz p=p)(hlh:lo≤hi)(h:∀ x,lo≤x→x≤hi→0≤evV p x)(hL:∀ y ∈ L,lo≤y∧y≤hi):DW p lo hi L=true:=by
 have hs:∀ x,lo≤x→x≤hi→¬ sg (evV p x)<0:=fun x h1 h2 h3=>by
  have h4:=h x h1 h2;rcases bZ (evV p x) with ⟨a,b⟩|⟨a,b⟩|⟨a,b⟩
  ·grind
  ·rw [b] at h3;exact absurd h3 dZ
  ·rw [b] at h3;exact absurd h3 dZ
 unfold DW;by_cases h0:p=[]
 ·rw [if_pos h0]
 ·have hf:∀ x,lo≤x→x<hi→¬ jU (p.length+1) p x<0:=fun x h1 h2 h3=>by
   obtain ⟨s,k1,k2,k3⟩:=DD (by rw [hp];exact h0) (by rw [hp];omega) h3 h2;have:=h s (by grind) (by grind);grind
  rw [if_neg h0,if_neg (fun k=>k.elim (hs lo Rat.le_refl hlh) (hs hi hlh Rat.le_refl))];by_cases h1:lo=hi
  ·rw [if_pos h1]
  ·rw [if_neg h1,if_neg (hf lo Rat.le_refl (by grind)),List.all_eq_true];intro x hx;obtain ⟨m1,m2⟩:=vd L hx;obtain ⟨a1,a2⟩:=hL _ m1;obtain ⟨b1,b2⟩:=hL _ m2;unfold ok6;rw [decide_eq_false (hs x.1 a1 a2),Bool.or_false];by_cases h2:x.2<hi
   ·rw [decide_eq_false (hf x.2 b1 h2),Bool.and_false];rfl
   ·rw [decide_eq_false h2,Bool.false_and];rfl
end Go.Proofs.YtafgmcimcbhhjaaGreat.Sg
/- A list of intervals of one's own that grows: an interval is two numbers of three cells. -/
namespace Go.Proofs.YtafgmcimcbhhjaaGreat
open Go.RowKit Go.Front Go.Num
theorem D9:(Tryz.prog.info? 38).map (fun i=>(i.zero,i.size,i.bytes))=some (some (IvV (default,default)),6,112):=by kernel_rfl
def IBk(w:World)(L:Nat)(rs:List RH)(re:Array Value):Prop:=w.heap[L]?=some (.cells ((ax rs).toArray++re) 38 (0,0))
theorem IBk.ext{w w':World}{L:Nat}{rs:List RH}{re:Array Value}(h:IBk w L rs re)(he:Ext w w'):IBk w' L rs re:=he.block h
instance {w w':World} {L:Nat} {rs:List RH} {re:Array Value}:Go.Front.Mv w w' (IBk w L rs re) (IBk w' L rs re):=⟨fun e h=>IBk.ext h e⟩

theorem IBk.lt{w:World}{L:Nat}{rs:List RH}{re:Array Value}(h:IBk w L rs re):L<w.heap.size:=(nXb.1 h).1
theorem IBk.noU{w:World}{L:Nat}{rs:List RH}{re:Array Value}(h:IBk w L rs re)(hre:re.toList.all gu=true):NoU w L :=
 ai h (by rw [Array.toList_append,List.all_append,hre,lB];rfl)
theorem IBk.cell{w:World}{L:Nat}{rs:List RH}{re:Array Value}(h:IBk w L rs re){k j:Nat}(hk:k<rs.length)(hj:j<3):w.cell? ⟨L,k*3+j,none⟩=(kt (rs.getD k default))[j]?:=by
 rw [ab h,←ir rs hk hj,Array.getElem?_append_left (by rw [List.size_toArray,aK];omega),List.getElem?_toArray]
theorem IBk.at{w:World}{L:Nat}{rs:List RH}{re:Array Value}(h:IBk w L rs re){k:Nat}(hk:k<rs.length):RAt w L (k*3) (rs.getD k default) :=
 ⟨h.cell (j:=0) hk dZ,h.cell (j:=1) hk dZ,h.cell (j:=2) hk dZ⟩
theorem mx(n:Nat):(Builtin.zeroCells (IvV (default,default)).cells n).toList.all gu=true:=by
 rw [List.all_eq_true];intro x hx;have h0:(IvV (default,default)).cells=#[.bool false,.slice none 0 0,.slice none 0 0,.bool false,.slice none 0 0,.slice none 0 0]:=by rfl
 rw [h0] at hx;simp [Builtin.zeroCells] at hx;obtain ⟨a,-,rfl⟩:=hx;have h7:a % 6=0∨a % 6=1∨a % 6=2∨a % 6=3∨a % 6=4∨a % 6=5:=by omega
 rcases h7 with h7|h7|h7|h7|h7|h7 <;> rw [h7] <;> rfl
def fE(w:World)(D:Nat→Prop)(v:Value)(n:Nat)(rs:List RH):Prop:=(v=.slice none 0 0∧rs=[]∧n=0)∨∃ L cap re,v=.slice (some ⟨L,0,none⟩) n cap∧D L∧IBk w L rs re∧rs.length=n*2∧n≤cap∧cap≤9223372036854775807∧rs.length*3+re.size=cap*6∧re.toList.all gu=true
theorem fE.nil(w:World)(D:Nat→Prop):fE w D (.slice none 0 0) 0 []:=Or.inl ⟨rfl,rfl,rfl⟩
theorem fE.ext{w w':World}{D:Nat→Prop}{v:Value}{n:Nat}{rs:List RH}(h:fE w D v n rs)(he:Ext w w'):fE w' D v n rs :=
 h.imp id fun ⟨L,cap,re,h1,h2,h3,h4⟩=>⟨L,cap,re,h1,h2,h3.ext he,h4⟩
instance {w w':World} {D:Nat→Prop} {v:Value} {n:Nat} {rs:List RH}:Go.Front.Mv w w' (fE w D v n rs) (fE w' D v n rs):=⟨fun e h=>fE.ext h e⟩

theorem fE.mono{w:World}{D D':Nat→Prop}{v:Value}{n:Nat}{rs:List RH}(h:fE w D v n rs)(hD:∀ k,k<w.heap.size→D k→D' k):fE w D' v n rs :=
 h.imp id fun ⟨L,cap,re,h1,h2,h3,h4⟩=>⟨L,cap,re,h1,hD _ h3.lt h2,h3,h4⟩
theorem fE.len{w:World}{D:Nat→Prop}{v:Value}{n:Nat}{rs:List RH}(h:fE w D v n rs):rs.length=n*2:=by
 rcases h with ⟨-,rfl,rfl⟩|⟨L,cap,re,-,-,-,h,-⟩
 ·rfl
 ·exact h
theorem js(T ty:TypeId)(hT:Tryz.prog.underlying T=some (.slice 38))(w:World)(D:Nat→Prop)(v:Value)(n:Nat)(rs:List RH)(b off m c:Nat)(ns:List RH)(hown:fE w D v n rs)
   (hm:ns.length=m*2)(h0:0<m)(hN:∀ k,k<m*2→RAt w b (off+k*3) (ns.getD k default))(hl:n≤536870912)(hlm:m≤536870912)(hD:∀ k,w.heap.size≤k→D k) :
    ∃ L cap w',(Builtin.append_ #[T,T] ty #[v,.slice (some ⟨b,off,none⟩) m c]).run Tryz.prog w=.ok (.slice (some ⟨L,0,none⟩) (n+m) cap) w'∧fE w' D (.slice (some ⟨L,0,none⟩) (n+m) cap) (n+m) (rs++ns)∧aY D w w'∧gB w w':=by
  obtain ⟨i0,hi0,hz0,hz1,hz2⟩:=info_parts D9;have hnl:(ax ns).length=m*i0.size:=by rw [aK,hz1,hm];omega
  have hcs:=ly (w:=w) (b:=b) (off:=off) hm hN;have hgc:∀ need old,need≤9223372036854775807→need≤grownCap w need old 38∧grownCap w need old 38≤9223372036854775807:=fun need old h=>⟨grownCap_ge _ _ _ _,by have:=grownCap_le_maxLen w need old 38 (by simpa [maxLen] using h);simpa [maxLen] using this⟩
  have hzs:(IvV (default,default)).cells.size=6:=by rfl
  rcases hown with ⟨rfl,rfl,rfl⟩|⟨L,cap,re,rfl,h1,h2,hlen,h3,h4,h5,h6⟩
  · have hr:=run_append_nil (P:=Tryz.prog) w T ty _ i0 _ hT hi0 hz0 ⟨b,off,none⟩ m c (ax ns) hnl hcs h0 zo (by rw [hz2];omega)
    obtain ⟨g1,g2⟩:=hgc m 0 zo;have he:Ext w (w.drew.alloc (.cells ((ax ns).toArray++Builtin.zeroCells (IvV (default,default)).cells (grownCap w m 0 38-m)) 38)):=(Ext.drew w).trans (Ext.alloc _ _);rw [Nat.zero_add,List.nil_append];refine ⟨_,_,_,hr,Or.inr ⟨_,_,_,rfl,hD _ (nXe _),heap_alloc_new w.drew _,hm,g1,g2,?_,mx _⟩,aY.of_ext he,fY he⟩;rw [size_zeroCells,hzs,hm];omega
  · by_cases hroom:n+m≤cap
    · have hcz:((ax rs).toArray++re).size=cap*6:=by rw [Array.size_append,List.size_toArray,aK,h5]
      have hr:=run_append_room (P:=Tryz.prog) w T ty _ i0 hT hi0 L n cap _ h2 ⟨b,off,none⟩ m c (ax ns) hnl hcs (mK _) hroom (by rw [hcz,hz1,hnl,hz1];omega);have hnr:n*i0.size=(ax rs).length:=by rw [aK,hz1,hlen];omega
      have e:(((ax rs).toArray++re).toList.take (n*i0.size)++ax ns++((ax rs).toArray++re).toList.drop (n*i0.size+(ax ns).length)).toArray=(ax (rs++ns)).toArray++(re.toList.drop (ax ns).length).toArray:=by
        rw [hnr,Array.toList_append,ey,List.take_left,←List.drop_drop,List.drop_left];apply Array.ext';simp
      rw [e] at hr;refine ⟨_,_,_,hr,Or.inr ⟨L,cap,_,rfl,h1,setRow_heap w L _ _ _ _ h2,by rw [nXi,hlen,hm];omega,hroom,h4,?_,?_⟩,⟨rfl,rfl,rfl,by simp,fun k hk hnd=>setRow_other w L k _ (fun e=>hnd (e ▸ h1))⟩,kF (h2.noU h6) fun k _ hk=>setRow_other w L k _ hk⟩
      · simp only [nXi,List.size_toArray,nYa,Array.length_toList]
        rw [hnl,hz1,hlen,hm];rw [hlen] at h5;omega
      · rw [List.all_eq_true] at h6 ⊢
        intro x hx;exact h6 x (List.mem_of_mem_drop (by simpa using hx))
    · have hr := run_append_grow (P := Tryz.prog) w T ty _ i0 _ hT hi0 hz0 ⟨L, 0, none⟩ n cap (ax rs) (by rw [aK, hz1, hlen]; omega) (fun j u hj => by
          have hlt:j<(ax rs).length:=(List.getElem?_eq_some_iff.1 hj).1;rw [fO,ab h2,Array.getElem?_append_left (by rw [List.size_toArray];exact hlt),List.getElem?_toArray];exact hj) ⟨b,off,none⟩ m c (ax ns) hnl hcs zo zo (growslice_fits zo (by rw [hz2];omega))
      obtain ⟨g1,g2⟩:=hgc (n+m) cap zo;have he:Ext w (w.drew.alloc (.cells ((ax rs).toArray++(ax ns).toArray++Builtin.zeroCells (IvV (default,default)).cells (grownCap w (n+m) cap 38-(n+m))) 38)):=(Ext.drew w).trans (Ext.alloc _ _);refine ⟨_,_,_,hr,Or.inr ⟨w.heap.size,_,Builtin.zeroCells (IvV (default,default)).cells (grownCap w (n+m) cap 38-(n+m)),rfl,hD _ (nXe _),?_,by rw [nXi,hlen,hm];omega,g1,g2,?_,mx _⟩,aY.of_ext he,fY he⟩
      · unfold IBk
        rw [ey];have e2:(ax rs++ax ns).toArray=(ax rs).toArray++(ax ns).toArray:=by simp
        rw [e2];exact heap_alloc_new w.drew _
      · rw [size_zeroCells,hzs,nXi,hlen,hm]
        omega
def gy(w:World)(D:Nat→Prop)(v:Value)(n:Nat)(qs:List Rat):Prop:=∃ rs,fE w D v n rs∧eU aB w rs qs
theorem gy.nil(w:World)(D:Nat→Prop):gy w D (.slice none 0 0) 0 []:=⟨[],fE.nil _ _,eU.nil _ _⟩
theorem gy.ext{w w':World}{D:Nat→Prop}{v:Value}{n:Nat}{qs:List Rat}(h:gy w D v n qs)(he:Ext w w'):gy w' D v n qs:=let ⟨rs,h1,h2⟩:=h;⟨rs,h1.ext he,h2.can_ext he⟩
instance {w w':World} {D:Nat→Prop} {v:Value} {n:Nat} {qs:List Rat}:Go.Front.Mv w w' (gy w D v n qs) (gy w' D v n qs):=⟨fun e h=>gy.ext h e⟩

theorem gy.mono{w:World}{D D':Nat→Prop}{v:Value}{n:Nat}{qs:List Rat}(h:gy w D v n qs)(hD:∀ k,k<w.heap.size→D k→D' k):gy w D' v n qs:=let ⟨rs,h1,h2⟩:=h;⟨rs,h1.mono hD,h2⟩
theorem gy.len{w:World}{D:Nat→Prop}{v:Value}{n:Nat}{qs:List Rat}(h:gy w D v n qs):qs.length=n*2:=by
 obtain ⟨rs,h1,h2⟩:=h;rw [←h2.1,h1.len]
theorem eU.app{P:World→RH→Rat→Prop}{w:World}{rs ns:List RH}{qs ps:List Rat}(h:eU P w rs qs)(k:eU P w ns ps):eU P w (rs++ns) (qs++ps):=by
 refine ⟨by simp [h.1,k.1],fun i hi=>?_⟩;have h1:=h.1;by_cases hlt:i<qs.length
 ·rw [show (rs++ns).getD i default=rs.getD i default by rw [nXd,List.getElem?_append_left zo,←nXd],show (qs++ps).getD i 0=qs.getD i 0 by rw [nXd,List.getElem?_append_left hlt,←nXd]];exact h.2 i hlt
 ·rw [show (rs++ns).getD i default=ns.getD (i-qs.length) default by rw [nXd,List.getElem?_append_right zo,←nXd,h1],show (qs++ps).getD i 0=ps.getD (i-qs.length) 0 by rw [nXd,List.getElem?_append_right zo,←nXd]];exact k.2 _ (by rw [nXi] at hi;omega)
theorem kP{w:World}{ops:Array Oper}{rest:List Oper}{o:Oper}{a:Act}{Q:Exit→Act→World→Prop}(hgd:o.guard=none)(s x:Operand)(T:TypeId)(hT:Tryz.prog.underlying T=some (.slice 38))
 (ho:o.op=.call { callee:=.builtin .append,args:=#[s,x],argTypes:=#[T,T] })(D:Nat→Prop)(v:Value)(n:Nat)(qs:List Rat)(b off m c:Nat)(ns:List RH)(ps:List Rat)(hs:a.eval s=v)(hown:gy w D v n qs)
 (hx:a.eval x=.slice (some ⟨b,off,none⟩) m c)(hm:ns.length=m*2)(h0:0<m)(hN:∀ k,k<m*2→RAt w b (off+k*3) (ns.getD k default))(hr:eU aB w ns ps)(hl:n≤536870912)(hlm:m≤536870912)(hD:∀ k,w.heap.size≤k→D k)
 (h:∀ (s':SH) w',gy w' D s'.v (n+m) (qs++ps)→aY D w w'→gB w w'→wpList Tryz.prog ops Q rest (a.put o.dst s'.v) w'):wpList Tryz.prog ops Q (o :: rest) a w:=by
 obtain ⟨rs,h1,h2⟩:=hown;refine wpList_plain hgd fun K hK=>?_
 obtain ⟨L,cap,w',hrun,g1,g2,g3⟩:=js T o.type hT w D v n rs b off m c ns h1 hm h0 hN hl hlm hD;unfold Oper.wp;simp [execOp,ho,resolve,invoke,builtin,hs,hx,hrun,Result.andThen];exact hK _ _ (h ⟨some ⟨L,0,none⟩,n+m,cap⟩ w' ⟨_,g1,(h2.app hr).keep g3⟩ g2 g3)
end Go.Proofs.YtafgmcimcbhhjaaGreat
