import Derived.Test.YtkcpmclnocmalaaGreatQMK20
import Derived.ProofKit
import Derived.OpenShut
import Derived.ShutString
import Derived.ChangeOld
import Derived.Lib.SmallJoins
set_option linter.unusedVariables false
set_option maxHeartbeats 16000000
namespace Go.Proofs.YtkcpmclnocmalaaGreat.Sg
open Go.RowKit Go.Front Go.Num Go.Stab Go.Proofs.YtkcpmclnocmalaaGreat
theorem BG{g:Rat→Rat}(hg:Pf g){a:Rat}(h:0<g a):∃ e,0<e∧∀ s,a-e≤s→s≤a+e→0<g s:=by
 obtain ⟨K,hK,k1⟩:=hg.lip (a-1) (a+1);obtain ⟨e,he,k2⟩:=dt hK h;obtain ⟨c,hc,c1,c2⟩:=dD he (show (0:Rat)<1 by decide);refine ⟨c,hc,fun s h1 h2=>?_⟩;rcases tot s a with h3|h3
 ·have h4:=(k1 s a (by grind) h3 (by grind)).2;have h5:=k2 (a-s) (by grind);grind
 ·have h4:=(k1 a s (by grind) h3 (by grind)).1;have h5:=k2 (s-a) (by grind);grind
theorem BE{g:Rat→Rat}(hg:Pf g){a:Rat}(h:g a≠0):∃ e,0<e∧∀ s,a-e≤s→s≤a+e→sg (g s)=sg (g a):=by
 rcases tri (g a) 0 with k|k|k
 ·obtain ⟨e,he,h1⟩:=BG (hg.smul (-1)) (a:=a) (show 0 < -1*g a by grind);refine ⟨e,he,fun s a1 a2=>?_⟩;have h2:0 < -1*g s:=h1 s a1 a2;rw [cP k,cP (show g s<0 by grind)]
 ·exact absurd k h
 ·obtain ⟨e,he,h1⟩:=BG hg k;exact ⟨e,he,fun s a1 a2=>by rw [dI k,dI (h1 s a1 a2)]⟩
theorem BH{q:List Rat}(h:tz q≠[]){a b:Rat}(hab:a<b):∃ s,a<s∧s<b∧evV q s≠0:=by
 obtain ⟨k,g,hg,hga,he⟩:=Ds a _ q (nXe _) h;obtain ⟨e,he0,h1⟩:=BE hg hga;obtain ⟨c,hc,c1,c2⟩:=dD he0 (show 0<b-a by grind);have hmid:0<c / 2∧c / 2<c:=by
  have:=aQ (a:=c) (b:=2) dZ;exact ⟨by grind,by grind⟩
 refine ⟨a+c / 2,by grind,by grind,fun h0=>?_⟩;rw [he] at h0;rcases nXr.1 h0 with h2|h2
 ·have h3:0<(a+c / 2-a) ^ k:=Rat.pow_pos (by grind);grind
 ·have h3:=h1 (a+c / 2) (by grind) (by grind);rw [h2,fi] at h3;exact iw hga h3.symm
theorem zB{g:Rat→Rat}(hg:Pf g){f:List Rat}(hf:tz f≠[]){lo hi:Rat}(hlh:lo<hi)(h:∀ x,lo<x→x<hi→evV f x≠0→0≤g x):∀ x,lo≤x→x≤hi→0≤g x:=by
 intro x h1 h2;apply Classical.byContradiction;intro hn;obtain ⟨e,he,k⟩:=BG (hg.smul (-1)) (a:=x) (show 0 < -1*g x by grind);have k2:∀ s,x-e≤s→s≤x+e→g s<0:=fun s a b=>by have h3:0 < -1*g s:=k s a b;grind
 by_cases hx:x<hi
 ·obtain ⟨c,hc,c1,c2⟩:=dD he (show 0<hi-x by grind);obtain ⟨s,s1,s2,s3⟩:=BH hf (a:=x) (b:=x+c) (by grind);have a1:=h s (by grind) (by grind) s3;have a2:=k2 s (by grind) (by grind);grind
 ·obtain ⟨c,hc,c1,c2⟩:=dD he (show 0<x-lo by grind);obtain ⟨s,s1,s2,s3⟩:=BH hf (a:=x-c) (b:=x) (by grind);have a1:=h s (by grind) (by grind) s3;have a2:=k2 s (by grind) (by grind);grind
theorem sgz{z a:Rat}(hz:z=1∨z=-1):sg (z*a)=sg z*sg a∧(sg z=1∨sg z=-1):=by
 refine ⟨eh _ _,?_⟩;rcases hz with rfl|rfl
 ·exact Or.inl (dI dZ)
 ·exact Or.inr (cP dZ)
theorem uh{a:Rat}(h:0≤a):sg a=0∨sg a=1:=by
 rcases bR a with ⟨h4,h5⟩|⟨h4,h5⟩|⟨h4,h5⟩
 ·grind
 ·exact Or.inl h5
 ·exact Or.inr h5
theorem zN{lo hi:Rat}(hlh:lo<hi){q:List Rat}{g r1 w:Rat→Rat}{lw:List (Rat→Rat)}{z:Rat}(hz:z=1∨z=-1)(hq:∀ x,lo≤x→x≤hi→0≤z*evV q x)
 (hr1:Pf r1)(hw:Pf w)(hc:Cp r1 w)(hg:∀ {I:Rat→Prop},CX I→eR I r1→eR I g)(he:∀ x,evV q x=g x*(r1 x*w x))(hfit:∀ A B,Fit A B w lw) :
  (V w lw lo:Int)-V w lw hi-(if w hi=0 then 1 else 0)=0:=by
 obtain ⟨d,hd,hb⟩:=hc.bound lo hi;obtain ⟨K,hK,k1⟩:=hr1.lip lo hi;obtain ⟨L,hL,k2⟩:=hw.lip lo hi;obtain ⟨e1,he1,k3⟩:=dt hK hd;obtain ⟨e2,he2,k4⟩:=dt hL hd;obtain ⟨e3,he3,k5⟩:=(hfit lo hi).cell;obtain ⟨e4,he4,m1,m2⟩:=dD he1 he2;obtain ⟨e,he0,m3,m4⟩:=dD he4 he3
 -- within a short interval two values of w are not of opposite signs
 have key:∀ a b,lo≤a→a<b→b≤hi→b-a≤e→¬ (sg (w a)≠0∧sg (w b)≠0∧sg (w b)≠sg (w a)):=by
  intro a b h1 h2 h3 h4 ⟨n1,n2,n3⟩;rcases hb a h1 (by grind) with h5|h5
  ·have hst:eR (fun x=>a≤x∧x≤b) r1:=fun s t hs ht hst=>by
    have s1:=h5.sign k1 h1 hs.1 (by have:=hs.2;grind) (k3 _ (by have:=hs.2;grind));have t1:=h5.sign k1 h1 ht.1 (by have:=ht.2;grind) (k3 _ (by have:=ht.2;grind));exact ⟨fun h=>s1.2 (by rw [←s1.1,h,fi]),fun h=>t1.2 (by rw [←t1.1,h,fi]),by rw [s1.1,t1.1]⟩
   have hgs:=hg (Cx a b) hst;obtain ⟨r2,r3,r4⟩:=hst a b ⟨Rat.le_refl,Rat.le_of_lt h2⟩ ⟨Rat.le_of_lt h2,Rat.le_refl⟩ h2;obtain ⟨g2,g3,g4⟩:=hgs a b ⟨Rat.le_refl,Rat.le_of_lt h2⟩ ⟨Rat.le_of_lt h2,Rat.le_refl⟩ h2;have qa:=uh (hq a h1 (by grind));have qb:=uh (hq b (by grind) h3);rw [(sgz hz).1,he,eh,eh] at qa qb;rw [g4,r4] at qa;have hz1:=(sgz (a:=0) hz).2;have u1:=mG (g b);have u2:=mG (r1 b);have u3:=mG (w a);have u4:=mG (w b);have u5:=iw g3;have u6:=iw r3;generalize sg z=Z at *
   generalize sg (g b)=G at *
   generalize sg (r1 b)=R at *
   generalize sg (w a)=X at *
   generalize sg (w b)=Y at *
   unfold IsS at u1 u2 u3 u4;rcases u1 with rfl|rfl|rfl <;> rcases u2 with rfl|rfl|rfl <;> rcases u3 with rfl|rfl|rfl <;> rcases u4 with rfl|rfl|rfl <;> rcases hz1 with rfl|rfl <;> omega
  ·exact n3 (h5.sign k2 h1 (by grind) h3 (k4 _ (by grind))).1
 have cell:∀ a b,lo≤a→a<b→b≤hi→b-a≤e / 2→(V w lw a:Int)=V w lw b+(if b=hi then (if w hi=0 then 1 else 0) else 0):=by
  intro a b h1 h2 h3 h4;have hh:=aQ (a:=e) (b:=2) dZ;obtain ⟨c1,c2⟩:=k5 a b h1 h2 h3 (by grind);by_cases hbh:b=hi
  ·subst hbh;rw [if_pos rfl];by_cases h0:w b=0
   ·have ha:w a≠0:=fun h=>c2 h h0
    have hcr:dh w a b=1:=by
     unfold dh;rw [if_pos ⟨iw ha,by rw [eV.2 h0];exact fun h=>iw ha h.symm⟩]
    rw [if_pos h0];omega
   ·have hcr:dh w a b=0:=by
     unfold dh;rw [if_neg (fun h=>key a b h1 h2 h3 (by grind) ⟨h.1,iw h0,h.2⟩)]
    rw [if_neg h0];omega
  ·rw [if_neg hbh];have hcr:dh w a b=0:=by
    unfold dh;rw [if_neg];intro h;by_cases h0:w b=0
    ·obtain ⟨c,hc0,c3,c4⟩:=dD (show 0<e / 2 by grind) (show 0<hi-b by grind);obtain ⟨d1,d2⟩:=k5 b (b+c) (by grind) (by grind) (by grind) (by grind);obtain ⟨d3,d4⟩:=k5 a (b+c) h1 (by grind) (by grind) (by grind);have e1:dh w b (b+c)=0:=by
      unfold dh;rw [if_neg (fun h=>h.1 (eV.2 h0))]
     have e2:dh w a b=1:=by unfold dh;rw [if_pos h]
     have e3:dh w a (b+c)=1:=by omega
     unfold dh at e3;by_cases h7:sg (w a)≠0∧sg (w (b+c))≠sg (w a)
     ·exact key a (b+c) h1 (by grind) (by grind) (by grind) ⟨h7.1,iw (d2 h0),h7.2⟩
     ·rw [if_neg h7] at e3;exact absurd e3 dZ
    ·exact key a b h1 h2 h3 (by grind) ⟨h.1,iw h0,h.2⟩
   omega
 have hh:=aQ (a:=e) (b:=2) dZ;have hfin:=fN (A:=lo) (B:=hi) (e:=e / 2) (P:=fun a b=>(V w lw a:Int)=V w lw b+(if b=hi then (if w hi=0 then 1 else 0) else 0)) (by grind) (fun s t a b c d=>cell s t a b c d) (fun s t u h1 h2 h3 h4 h5 h6=>by
  have ht:t≠hi:=by grind
  rw [if_neg ht] at h5;omega) lo hi Rat.le_refl hlh Rat.le_refl
 rw [if_pos rfl] at hfin;omega
theorem zL{lo hi:Rat}(hlh:lo<hi):∀ (n:Nat) (q:List Rat) (z:Rat),(z=1∨z=-1)→tz q≠[]→(∀ x,lo≤x→x≤hi→0≤z*evV q x)→lI n q lo hi=false:=by
 intro n;induction n with
 | zero=>intro q z _ _ _;rfl
 | succ n ih =>
  intro q z hz h0 hq;have hce:lI (n+1) q lo hi=if lA q lo hi=0 then false else if lA (aV q (derL q)) lo hi≠lA q lo hi then true else lI n (aV (aV q (derL q)) (derL (aV q (derL q)))) lo hi:=rfl
  rw [hce];by_cases hb0:lA q lo hi=0
  ·rw [if_pos hb0]
  ·rw [if_neg hb0];obtain ⟨hg0,hG,r1,wl,lw,⟨r1l,rfl⟩,hw0,e1,e4,hcw,hfw,hbb⟩:=oT hlh h0;have hmw:=bs hw0;have hG2:=dE (aV q (derL q)) (derL (aV q (derL q)));rw [show evV (derL (aV q (derL q)))=evD (aV q (derL q)) from funext (cW _)] at hG2;have hsp:∀ x,evV wl x=aR wl*evV (ay wl) x:=cr wl;have hcp:Cp (evV r1l) (evV (ay wl)):=by
    obtain ⟨u,v,hu,hv,k⟩:=hcw;refine ⟨u,_,hu,hv.smul (aR wl),fun x=>?_⟩;have:=k x;rw [hsp x] at this;show u x*_+aR wl*v x*_=1;grind
   have hV:=zN (g:=fun x=>aR wl*evV (aV q (derL q)) x) hlh hz hq (Pf.ev r1l) (Pf.ev (ay wl)) hcp (fun {I} hI hs=>(lQ hI _ _ (nXe _) hg0 _ _ (Pf.ev r1l) hG2 e1 hs).smul (c:=aR wl) (fun h=>by rw [h] at hmw;exact absurd hmw Rat.lt_irrefl) (fun _=>rfl)) (fun x=>by rw [e4 x,hsp x];grind) hfw;rw [if_neg (fun h=>h zo)]
   -- the sign of the rest
   have hst:=ki hw0 (lh hfw hlh (by
    by_cases hh:evV (ay wl) hi=0
    ·rw [if_pos hh] at hV ⊢;omega
    ·rw [if_neg hh] at hV ⊢;omega))
   have hp0:=jh hg0;obtain ⟨m,c1,c2,c3⟩:=BH hw0 hlh;have hr0:tz r1l≠[]:=fun h=>by
    obtain ⟨y,hy⟩:=jb hg0;exact hy (by rw [e1 y,aD.1 h y];grind)
   obtain ⟨y,hy,hyz⟩:∃ y:Rat,(y=1∨y=-1)∧∀ x,lo<x→x<hi→0<y*evV wl x:=by
    have hs:∀ x,lo<x→x<hi→sg (evV wl x)=sg (evV wl m):=fun x h1 h2=>by
     rcases tri x m with h|h|h
     ·exact (hst x m ⟨h1,h2⟩ ⟨c1,c2⟩ h).2.2
     ·rw [h]
     ·exact (hst m x ⟨c1,c2⟩ ⟨h1,h2⟩ h).2.2.symm
    rcases tri (evV wl m) 0 with h|h|h
    ·refine ⟨-1,Or.inr rfl,fun x h1 h2=>?_⟩;have h3:=hs x h1 h2;rw [cP h] at h3;rcases bR (evV wl x) with ⟨h4,h5⟩|⟨h4,h5⟩|⟨h4,h5⟩
     ·grind
     ·rw [h5] at h3;exact absurd h3 dZ
     ·rw [h5] at h3;exact absurd h3 dZ
    ·exact absurd h c3
    ·refine ⟨1,Or.inl rfl,fun x h1 h2=>?_⟩;have h3:=hs x h1 h2;rw [dI h] at h3;rcases bR (evV wl x) with ⟨h4,h5⟩|⟨h4,h5⟩|⟨h4,h5⟩
     ·rw [h5] at h3;exact absurd h3 dZ
     ·rw [h5] at h3;exact absurd h3 dZ
     ·grind
   refine ih _ (z*y) (by rcases hz with rfl|rfl <;> rcases hy with rfl|rfl <;> grind) hp0 (zB ((Pf.ev _).smul _) hr0 hlh fun x h1 h2 h3=>?_);have k1:=hq x (Rat.le_of_lt h1) (Rat.le_of_lt h2);have k2:=hyz x h1 h2;rw [e4 x,e1 x] at k1;have k3:0<evV r1l x*evV r1l x:=by
    rcases tri (evV r1l x) 0 with h|h|h
    ·have:=Rat.mul_pos (a:=-(evV r1l x)) (b:=-(evV r1l x)) (by grind) (by grind);grind
    ·exact absurd h h3
    ·exact Rat.mul_pos h h
   have hyy:y*y=1:=by rcases hy with rfl|rfl <;> grind
   generalize evV (aV (aV q (derL q)) (derL (aV q (derL q)))) x=P at *
   generalize evV r1l x=R at *
   generalize evV wl x=W at *
   apply Classical.byContradiction;intro hn;have k4:0 < -(z*y*P):=by grind
   have k5:=Rat.mul_pos (Rat.mul_pos k4 k3) k2;have k6:-(z*y*P)*(R*R)*(y*W)=-(y*y*(z*(P*R*(R*W)))):=by grind
   rw [k6,hyy] at k5;grind
theorem By{p:List Rat}{lo hi:Rat}(hlh:lo≤hi)(h:∀ x,lo≤x→x≤hi→0≤evV p x):nngV p lo hi=true:=by
 unfold nngV;by_cases h0:tz p=[]
 ·rw [if_pos h0]
 ·rw [if_neg h0];have hm:=bs h0;have hs:∀ x,lo≤x→x≤hi→¬ sg (evV (ay p) x)<0:=fun x h1 h2 h3=>by
   rw [ko h0] at h3;have:=uh (h x h1 h2);omega
  have hn:∀ x,lo≤x→x≤hi→0≤evV (ay p) x:=fun x h1 h2=>xR (hs x h1 h2)
  have hq0:tz (ay p)≠[]:=by rw [bq];exact fun k=>h0 (spl_ne.1 k)
  rw [if_neg (fun k=>k.elim (hs lo Rat.le_refl hlh) (hs hi hlh Rat.le_refl))];by_cases h1:lo=hi
  ·rw [if_pos h1]
  ·have hlt:lo<hi:=by grind
   rw [if_neg h1,zL hlt _ (ay p) 1 (Or.inl rfl) hq0 (fun x a b=>by have:=hn x a b;grind),Bool.and_eq_true,decide_eq_true_iff];refine ⟨?_,rfl⟩;obtain ⟨k,g,hg,hga,he⟩:=Ds lo _ (ay p) (nXe _) hq0;have hk:=pw k (ay p) g hg hq0 he;have e:=po k ((tz p).length+1) (ay p) g (by rw [bq,aG] at hk;omega) hg hga he;have hge:¬ jI ((tz p).length+1) (ay p) lo<0:=fun h3=>by
    obtain ⟨s,s1,s2,s3⟩:=Dd hq0 (by rw [bq,aG];omega) h3 hlt;have:=hn s (by grind) (by grind);grind
   have:=iw hga;rw [e] at hge ⊢;omega
theorem nng_iff{p:List Rat}{lo hi:Rat}(htz:tz p=p)(hlh:lo≤hi):nngV p lo hi=true↔∀ x,lo≤x→x≤hi→0≤evV p x :=
 ⟨fun h x h1 h2=>yt htz hlh h h1 h2,By hlh⟩
end Go.Proofs.YtkcpmclnocmalaaGreat.Sg
/- The law MaskWider in plain words. -/
namespace Go.Proofs.YtkcpmclnocmalaaGreat
open Go.RowKit Go.Front Go.Num Stab
theorem Ck(p:List Rat)(x:Rat):evV (p.map (fun x=>-x)) x=-1*evV p x:=ji (fun n=>by
 show (p.map (fun y=>-y)).getD n 0=-1*p.getD n 0;rw [nXd,nXd,nXw];cases p[n]? with
 | none=>show (0:Rat)=-1*0;decide +kernel
 | some y=>show -y=-1*y;grind) x
theorem DZ(p q:List Rat)(x:Rat):evV (fY p q) x=evV p x-evV q x:=by
 unfold fY;rw [Sg.ev_add5,Ck];grind
theorem Fp(nu de:List Rat)(c x:Rat):evV (abV nu de c) x=evV nu x-c*evV de x:=by
 unfold abV;rw [DZ,Sg.ev_tzz,Sg.ev_map]
theorem Fo(nu de:List Rat)(c x:Rat):evV (beV nu de c) x=c*evV de x-evV nu x:=by
 unfold beV;rw [DZ,Sg.ev_tzz,Sg.ev_map]
theorem ER(y:Rat):0≤y*y:=by
 rcases Rat.le_total (a:=0) (b:=y) with h|h
 ·exact Rat.mul_nonneg h h
 ·have:=Rat.mul_nonneg (a:=-y) (b:=-y) (by grind) (by grind);grind
theorem rQ(q:List Rat)(x:Rat):(1:Rat) / 4≤evV (deM q) x:=by
 unfold deM;rw [Sg.ev_add5,Sg.ev_mul5];have h:evV [((1:Int):Rat) / ((4:Int):Rat)] x=0*x+((1:Int):Rat) / ((4:Int):Rat):=rfl;rw [h,show ((1:Int):Rat) / ((4:Int):Rat)=(1:Rat) / 4 by decide +kernel,nYb,Rat.zero_add];have h2:=ER (evV q x);grind
theorem AM(q:List Rat):tz (deM q)=deM q:=bQ _
theorem AN(q:List Rat):deM q≠[]:=fun h=>by
 have h1:=rQ q 0;rw [h] at h1;exact absurd h1 (by decide +kernel)
theorem n6(xs:List Int):MkZ 5 (dA xs 2):=⟨(FrB.of (k:=1) (n:=3) (Du xs 2) (rv xs 2)).mono dZ,nXf (rv xs 2) dZ⟩
theorem AO(xs:List Int):MkZ 15 (deM (dA xs 2)):=by
 have h:=n6 xs;have hl:=rv xs 2;exact ⟨((h.fb.mul h.fb zo).add (FrB.of (k:=1) (n:=1) uB dZ)).mono dZ,Av (og hl hl) dZ⟩
theorem qR:∀ l:Nat,l<9→∀ m:Nat,m<40→(((((l:Int)+(m:Int):Int):Rat) / ((4:Int):Rat)).num.natAbs<W32∧((((l:Int)+(m:Int):Int):Rat) / ((4:Int):Rat)).den<W32)∧0≤((l:Int):Rat) / ((4:Int):Rat)∧((l:Int):Rat) / ((4:Int):Rat)≤(((l:Int)+(m:Int):Int):Rat) / ((4:Int):Rat):=by decide +kernel
theorem wE(n:Int):-1≤gE n∧gE n≤1:=by
 obtain ⟨m,hm,e⟩:=rT n;rw [e];exact ⟨(lj m hm).2.2.1,(lj m hm).2.2.2.1⟩
theorem MkB.ok{a b c d:Rat}(h:MkB a b c d):tB 1 a b c d:=by
 obtain ⟨⟨i,j,rfl,rfl⟩,l,m,hl,hm,rfl,rfl⟩:=h;obtain ⟨h1,h2,h3⟩:=qR l hl m hm;obtain ⟨h4,-,-⟩:=qR l hl 0 dZ;have hi:=wE i;have hj:=wE j;have z1:Sz 1 (loV (gE i) (gE j)):=by rcases oo (gE i) (gE j) with e|e <;> rw [e] <;> exact nr _
 have z2:Sz 1 (hiV (gE i) (gE j)):=by rcases oD (gE i) (gE j) with e|e <;> rw [e] <;> exact nr _
 have hlo:-1≤loV (gE i) (gE j):=by rcases oo (gE i) (gE j) with e|e <;> rw [e];exact hi.1;exact hj.1
 have hhi:hiV (gE i) (gE j)≤1:=by rcases oD (gE i) (gE j) with e|e <;> rw [e];exact hi.2;exact hj.2
 have h5:(((l:Int)+((0:Nat):Int):Int):Rat)=((l:Int):Rat):=by simp
 rw [h5] at h4;exact ⟨⟨z1,z2,⟨by simpa using h4.1,by simpa using h4.2⟩,⟨by simpa using h1.1,by simpa using h1.2⟩⟩,hlo,sV _ _,hhi,h2,h3⟩
theorem tB.mono{S T:Nat}{a b c d:Rat}(h:tB S a b c d)(hST:S≤T):tB T a b c d:=⟨⟨h.1.1.mono hST,h.1.2.1.mono hST,h.1.2.2.1.mono hST,h.1.2.2.2.mono hST⟩,h.2⟩
theorem E9{n:Nat}{qs:List Rat}(h:tx n qs):xr 15 n qs:=fun k hk=>(h k hk).ok.mono dZ
theorem BL{n:Nat}{qs:List Rat}(h:tx n qs)(h1:1≤n)(h3:n≤3)(xs ys:List Int):jo 15 n (dA xs 2) (deM (dA ys 2)) qs where
 zn:=⟨(n6 xs).fb.mono dZ,(n6 xs).ln⟩
 zd:=AO ys
 td:=AM _
 d0:=AN _
 bd:=E9 h
 n1:=h1
 n8:=by omega
 s1:=by decide
 s6:=by decide
def WdI(f g:Rat)(qs ps:List Rat)(n j:Nat):Prop:=ps.length=n*4∧∀ k,k<n→(if k<j then ps.getD (4*k) 0=qs.getD (4*k) 0∧ps.getD (4*k+1) 0=(qs.getD (4*k) 0+qs.getD (4*k+1) 0)*(((1:Int):Rat) / ((2:Int):Rat))∧ps.getD (4*k+2) 0=qs.getD (4*k+2) 0*f∧ps.getD (4*k+3) 0=qs.getD (4*k+3) 0+g
  else ps.getD (4*k) 0=qs.getD (4*k) 0∧ps.getD (4*k+1) 0=qs.getD (4*k+1) 0∧ps.getD (4*k+2) 0=qs.getD (4*k+2) 0∧ps.getD (4*k+3) 0=qs.getD (4*k+3) 0)
theorem pj{l:List Rat}{i k:Nat}{x:Rat}(h:i<l.length):(l.set i x).getD k 0=if k=i then x else l.getD k 0:=by
 rw [nXd,List.getElem?_set,nXd];by_cases e:i=k
 ·subst e;rw [if_pos rfl,if_pos rfl,if_pos h];rfl
 ·rw [if_neg e,if_neg (fun h=>e h.symm)]
theorem WdI.step{f g:Rat}{qs ps:List Rat}{n j:Nat}(h:WdI f g qs ps n j)(hj:j<n){u v y:Rat}(hu:u=qs.getD (4*j+2) 0*f)(hv:v=qs.getD (4*j+3) 0+g)(hy:y=(qs.getD (4*j) 0+qs.getD (4*j+1) 0)*(((1:Int):Rat) / ((2:Int):Rat))) :
  WdI f g qs (((ps.set (4*j+2) u).set (4*j+3) v).set (4*j+1) y) n (j+1):=by
 obtain ⟨hl,h⟩:=h;have g1:∀ k,(((ps.set (4*j+2) u).set (4*j+3) v).set (4*j+1) y).getD k 0=if k=4*j+1 then y else if k=4*j+3 then v else if k=4*j+2 then u else ps.getD k 0:=fun k=>by
  rw [pj (by rw [nXo,nXo];omega),pj (by rw [nXo];omega),pj zo]
 refine ⟨by rw [nXo,nXo,nXo];exact hl,fun k hk=>?_⟩;have hk2:=h k hk;rw [g1,g1,g1,g1];by_cases e:k=j
 ·subst e;rw [if_neg (Nat.lt_irrefl _)] at hk2;rw [if_pos (Nat.lt_succ_self _)];obtain ⟨e1,e2,e3,e4⟩:=hk2;refine ⟨?_,?_,?_,?_⟩
  ·rw [if_neg zo,if_neg zo,if_neg zo];exact e1
  ·rw [if_pos rfl];exact hy
  ·rw [if_neg zo,if_neg zo,if_pos rfl];exact hu
  ·rw [if_neg zo,if_pos rfl];exact hv
 ·by_cases hlt:k<j
  ·rw [if_pos (Nat.lt_succ_of_lt hlt)];rw [if_pos hlt] at hk2;rw [if_neg zo,if_neg zo,if_neg zo,if_neg zo,if_neg zo,if_neg zo,if_neg zo,if_neg zo,if_neg zo,if_neg zo,if_neg zo,if_neg zo];exact hk2
  ·rw [if_neg zo];rw [if_neg hlt] at hk2;rw [if_neg zo,if_neg zo,if_neg zo,if_neg zo,if_neg zo,if_neg zo,if_neg zo,if_neg zo,if_neg zo,if_neg zo,if_neg zo,if_neg zo];exact hk2
theorem EK{f g a b c d:Rat}(h:tB 1 a b c d)(hf:0≤f∧f≤1)(hg:0≤g)(zf:Sz 1 f)(zg:Sz 1 g):tB 15 a ((a+b)*(((1:Int):Rat) / ((2:Int):Rat))) (c*f) (d+g):=by
 obtain ⟨⟨z1,z2,z3,z4⟩,h1,h2,h3,h4,h5⟩:=h;have hz:Sz 1 (((1:Int):Rat) / ((2:Int):Rat)):=⟨by decide +kernel,by decide +kernel⟩;have e:((1:Int):Rat) / ((2:Int):Rat)=1 / 2:=by decide +kernel
 have h6:=Rat.mul_nonneg h4 hf.1;have h7:=Rat.mul_le_mul_of_nonneg_left hf.2 h4;refine ⟨⟨z1.mono dZ,((z1.add z2).mul hz).mono dZ,(z3.mul zf).mono dZ,(z4.add zg).mono dZ⟩,h1,?_,?_,h6,?_⟩
 ·rw [e];grind
 ·rw [e];grind
 ·grind
theorem WdI.ok{f g:Rat}{qs ps:List Rat}{n:Nat}(h:WdI f g qs ps n n)(hb:tx n qs)(hf:0≤f∧f≤1)(hg:0≤g)(zf:Sz 1 f)(zg:Sz 1 g):xr 15 n ps:=fun k hk=>by
 have h1:=h.2 k hk;rw [if_pos hk] at h1;obtain ⟨e1,e2,e3,e4⟩:=h1;rw [e1,e2,e3,e4];exact EK (hb k hk).ok hf hg zf zg
theorem yy{f g:Rat}{qs ps:List Rat}{n:Nat}(h:WdI f g qs ps n n)(hb:tx n qs)(hf:0≤f∧f≤1)(hg:0≤g)(zf:Sz 1 f)(zg:Sz 1 g)(h1:1≤n)(h3:n≤3)(xs ys:List Int):jo 15 n (dA xs 2) (deM (dA ys 2)) ps where
 zn:=⟨(n6 xs).fb.mono dZ,(n6 xs).ln⟩
 zd:=AO ys
 td:=AM _
 d0:=AN _
 bd:=h.ok hb hf hg zf zg
 n1:=h1
 n8:=by omega
 s1:=by decide
 s6:=by decide
theorem zW{nu q:List Rat}{f g a b c d:Rat}(h:bdT nu (deM q) a b c d=true)(hb:tB 1 a b c d)(hf:0≤f∧f≤1)(hg:0≤g):bdT nu (deM q) a ((a+b)*(((1:Int):Rat) / ((2:Int):Rat))) (c*f) (d+g)=true:=by
 unfold bdT at h ⊢;rw [Bool.and_eq_true,Bool.and_eq_true] at h;obtain ⟨⟨h1,h2⟩,h3⟩:=h;have hab:=hb.2.2.1;have hc:=hb.2.2.2.2.1;have e:((1:Int):Rat) / ((2:Int):Rat)=1 / 2:=by decide +kernel
 have hm1:a≤(a+b)*(((1:Int):Rat) / ((2:Int):Rat)):=by rw [e];grind
 have hm2:(a+b)*(((1:Int):Rat) / ((2:Int):Rat))≤b:=by rw [e];grind
 have k2:=(Sg.nng_iff (CP _ _ _) hab).1 h2;have k3:=(Sg.nng_iff (wV _ _ _) hab).1 h3;rw [Sg.pos_on (c:=1 / 4) (by decide +kernel) _ _ hm1 (fun x _ _=>rQ q x),(Sg.nng_iff (CP _ _ _) hm1).2,(Sg.nng_iff (wV _ _ _) hm1).2]
 ·rfl
 ·intro x hx1 hx2;have h4:=k3 x hx1 (Rat.le_trans hx2 hm2);rw [Fo] at h4 ⊢;have h5:=Rat.mul_nonneg hg (Rat.le_trans (show (0:Rat)≤1 / 4 by decide +kernel) (rQ q x));grind
 ·intro x hx1 hx2;have h4:=k2 x hx1 (Rat.le_trans hx2 hm2);rw [Fp] at h4 ⊢;have h5:=Rat.le_trans (show (0:Rat)≤1 / 4 by decide +kernel) (rQ q x);have h6:=Rat.mul_le_mul_of_nonneg_right (Rat.mul_le_mul_of_nonneg_left hf.2 hc) h5;rw [Rat.mul_one] at h6;grind
theorem BJ{f g:Rat}{nu q qs ps:List Rat}{n:Nat}(h:WdI f g qs ps n n)(hb:tx n qs)(hf:0≤f∧f≤1)(hg:0≤g)(ht:ng nu (deM q) qs n=true):ng nu (deM q) ps n=true:=BZ (fun k hk=>by
 have h1:=h.2 k hk;rw [if_pos hk] at h1;obtain ⟨e1,e2,e3,e4⟩:=h1;rw [e1,e2,e3,e4];exact zW (AG ht hk) (hb k hk).ok hf hg)
theorem zO:∀ k:Nat,k<256→((((1:Int):Rat) / ((1+(k:Int) % 3:Int):Rat)).num.natAbs<W32∧(((1:Int):Rat) / ((1+(k:Int) % 3:Int):Rat)).den<W32∧0≤((1:Int):Rat) / ((1+(k:Int) % 3:Int):Rat)∧((1:Int):Rat) / ((1+(k:Int) % 3:Int):Rat)≤1) ∧
  (((((k:Int) % 5:Int):Rat) / ((3:Int):Rat)).num.natAbs<W32∧((((k:Int) % 5:Int):Rat) / ((3:Int):Rat)).den<W32∧0≤(((k:Int) % 5:Int):Rat) / ((3:Int):Rat)):=by decide +kernel
attribute [local go_sem] XW.cell XW.frozen
attribute [local irreducible] Go.Front.wpF
theorem dk.ext{w w':World}{rs:List RH}{qs:List Rat}(h:dk aA w rs qs)(he:Ext w w'):dk aA w' rs qs:=h.can_ext he
instance {w w':World} {rs:List RH} {qs:List Rat}:Go.Front.Mv w w' (dk aA w rs qs) (dk aA w' rs qs):=⟨fun e h=>dk.ext h e⟩

theorem iQ.at1{w:World}{D:Nat→Prop}{v:Value}{n:Nat}{qs:List Rat}(h:iQ w D v n qs)(h0:0<n):∃ L cap rs re,v=.slice (some ⟨L,0,none⟩) n cap∧D L∧BBk w L rs re∧re.toList.all dL=true∧dk aA w rs qs∧rs.length=n*4∧n≤cap∧cap≤9223372036854775807∧iQ w (fun k=>k=L) v n qs:=by
 obtain ⟨rs,h1,h2⟩:=h;rcases h1 with ⟨-,-,rfl⟩|⟨L,cap,re,h3,h4,h5,h6,h7,h8,h9,h10⟩
 ·omega
 ·exact ⟨L,cap,rs,re,h3,h4,h5,h10,h2,h6,h7,h8,rs,Or.inr ⟨L,cap,re,h3,rfl,h5,h6,h7,h8,h9,h10⟩,h2⟩
theorem BBk.cbl{w:World}{L n cap:Nat}{rs:List RH}{re:Array Value}{qs:List Rat}(h:BBk w L rs re)(hv:dk aA w rs qs)(hl:rs.length=n*4)(hc:n≤cap)(hm:cap≤9223372036854775807):fq w ⟨some ⟨L,0,none⟩,n,cap⟩ qs :=
 ⟨rs,⟨hl,hc,hm,Or.inr ⟨L,0,rfl,fun k hk=>by rw [Nat.zero_add];exact h.at (by rw [hl];exact hk)⟩⟩,hv⟩
theorem uK{w1:World}{L:Nat}{rs:List RH}{re:Array Value}{m o:Nat}{F:World→Prop}{n2:Bool}{a2 b2:Option Addr}{u2 c2 m2 d2:Nat}(h:BBk w1 L rs re)(hre:re.toList.all dL=true)(hk:m<rs.length)(ho:o=m*3)
 (H:∀ w2 cs,cT w1 L 51 cs w2→BBk w2 L (rs.set m ⟨n2,a2,u2,c2,b2,m2,d2⟩) re→F w2) :
  F (((w1.setCell ⟨L,o,none⟩ (.bool n2)).setCell ⟨L,o+1,none⟩ (.slice a2 u2 c2)).setCell ⟨L,o+2,none⟩ (.slice b2 m2 d2)):=by
 subst ho;have e:=ax (ax (ax h (m*3) (.bool n2)) (m*3+1) (.slice a2 u2 c2)) (m*3+2) (.slice b2 m2 d2);have hl:=aC rs;have hc:((((av rs).toArray++re).setIfInBounds (m*3) (.bool n2)).setIfInBounds (m*3+1) (.slice a2 u2 c2)).setIfInBounds (m*3+2) (.slice b2 m2 d2)=(av (rs.set m ⟨n2,a2,u2,c2,b2,m2,d2⟩)).toArray++re:=by
  apply Array.ext';rw [lV];simp only [Array.toList_setIfInBounds,Array.toList_append];rw [List.set_append_left _ _ zo,List.set_append_left _ _ (by rw [nXo];omega),List.set_append_left _ _ (by rw [nXo,nXo];omega)]
 rw [hc] at e;exact H _ _ (cT.of h.lt (h.noU hre) (((aL.setCell w1 ⟨L,m*3,none⟩ _).trans (aL.setCell _ ⟨L,m*3+1,none⟩ _)).trans (aL.setCell _ ⟨L,m*3+2,none⟩ _)) (by simp [World.setCell]) e) e
set_option maxRecDepth 16000 in
theorem tF(a0 a1 a2:Option Addr)(cap0 cap1 cap2:Nat)(xs0 xs1 xs2:List Int)(z3:Int)(w:World)(hI0:bW w a0 xs0)(hR0:InR xs0)(hl0:xs0.length≤9223372036854775807)(hc0:xs0.length≤cap0)(hm0:cap0≤9223372036854775807)
 (hI1:bW w a1 xs1)(hR1:InR xs1)(hl1:xs1.length≤9223372036854775807)(hc1:xs1.length≤cap1)(hm1:cap1≤9223372036854775807)(hI2:bW w a2 xs2)(hR2:InR xs2)(hl2:xs2.length≤9223372036854775807)(hc2:xs2.length≤cap2)(hm2:cap2≤9223372036854775807)(hk3:0≤z3∧z3≤255) :
  ar 4 [.slice a0 xs0.length cap0,.slice a1 xs1.length cap1,.slice a2 xs2.length cap2,.int .u8 z3] w (fun _:Unit=>.bool true) (fun _ _=>True):=by
 have HX:=Hi (Ext.refl w);have HMa:Hid (∀ w',Ext w w'→ar 6 [.slice a0 xs0.length cap0,.slice a1 xs1.length cap1,.bool false] w' (fun x:SH×SH=>QV x) (fun x w''=>bg w'' x.1 (dA xs0 2)∧bg w'' x.2 (deM (dA xs1 2)))):=Hi (fun w' he=>uW a0 a1 cap0 cap1 xs0 xs1 w' (hI0.ext he) hR0 hl0 hc0 hm0 (hI1.ext he) hR1 hl1 hc1 hm1);have HBa:Hid (∀ w',Ext w w'→ar 7 [.slice a2 xs2.length cap2] w' (fun x:SH×List Rat=>x.1.v) (fun x w''=>FO w'' w'.heap.size x.1 x.2)):=Hi (fun w' he=>wW a2 cap2 xs2 w' (hI2.ext he) hR2 hl2 hc2 hm2);have HHo:Hid (∀ n qs,tx n qs→1≤n→n≤3→jo 15 n (dA xs0 2) (deM (dA xs1 2)) qs):=Hi (fun n qs h h1 h3=>BL h h1 h3 xs0 xs1);obtain ⟨k,rfl⟩:∃ k:Nat,z3=(k:Int):=⟨z3.toNat,zo⟩;have hk:k<256:=zo;obtain ⟨f,hf⟩:∃ f,f=((1:Int):Rat) / ((1+(k:Int) % 3:Int):Rat):=⟨_,rfl⟩;obtain ⟨g,hg⟩:∃ g,g=(((k:Int) % 5:Int):Rat) / ((3:Int):Rat):=⟨_,rfl⟩;have hby:=zO k hk;rw [←hf,←hg] at hby;have HFG:Hid ((0≤f∧f≤1)∧0≤g∧Sz 1 f∧Sz 1 g):=Hi ⟨hby.1.2.2,hby.2.2.2,⟨by simpa using hby.1.1,by simpa using hby.1.2.1⟩,⟨by simpa using hby.2.1,by simpa using hby.2.2.1⟩⟩;have HF:=Hi hf;have HG:=Hi hg;have HHo2:Hid (∀ n qs ps,WdI f g qs ps n n→tx n qs→1≤n→n≤3→jo 15 n (dA xs0 2) (deM (dA xs1 2)) ps∧(ng (dA xs0 2) (deM (dA xs1 2)) qs n=true→ng (dA xs0 2) (deM (dA xs1 2)) ps n=true)):=Hi (fun n qs ps h hb h1 h3=>⟨yy h hb ⟨hby.1.2.2.1,hby.1.2.2.2⟩ hby.2.2.2 ⟨by simpa using hby.1.1,by simpa using hby.1.2.1⟩ ⟨by simpa using hby.2.1,by simpa using hby.2.2.1⟩ h1 h3 xs0 xs1,BJ h hb ⟨hby.1.2.2.1,hby.1.2.2.2⟩ hby.2.2.2⟩);obtain ⟨n0,hn0⟩:∃ n,n=xs0.length:=⟨_,rfl⟩;obtain ⟨n1,hn1⟩:∃ n,n=xs1.length:=⟨_,rfl⟩;obtain ⟨n2,hn2⟩:∃ n,n=xs2.length:=⟨_,rfl⟩;rw [←hn0,←hn1] at HMa;rw [←hn2] at HBa;rw [←hn0,←hn1,←hn2];obtain ⟨p,hp⟩:∃ p,p=dA xs0 2:=⟨_,rfl⟩;obtain ⟨de,hde⟩:∃ p,p=deM (dA xs1 2):=⟨_,rfl⟩;rw [←hp,←hde] at HMa HHo HHo2;clear hn0 hn1 hn2 hp hde hf hg hby hk3 hI0 hR0 hl0 hc0 hm0 hI1 hR1 hl1 hc1 hm1 hI2 hR2 hl2 hc2 hm2;unfold ar;go_enter Tryz.func4,Tryz.ntmps4
 go_wp2_with fail
 refine cM (HMa.out _ HX.out) fun x20 w20 hE G20=>?_
 replace HX:=hE.tr HX;have hs_w20:=hE.size;obtain ⟨⟨na,nn,nc⟩,⟨da,dn,dc⟩⟩:=x20;have LN:=Hi G20.out.1.lin;have LD:=Hi G20.out.2.lin;clear G20;simp only at LN LD
 go_wp2_with fail
 refine cM (HBa.out _ HX.out) fun x22 w22 hE G22=>?_
 refine mV3 hE ?_ HX LN LD;clear HX LN LD;intro HX LN LD;have hs_w22:=hE.size;obtain ⟨⟨ba,bn,bc⟩,qs⟩:=x22;obtain ⟨g1,hb1,hb3,hMk⟩:=G22.out;simp only at hb1 hb3 hMk g1;obtain ⟨L,cap,brs,bre,e1,hL,g2,-,g3,g4,hcap,hcapm,g5⟩:=g1.at1 zo;simp only [SH.v,Value.slice.injEq] at e1;obtain ⟨ea,-,ec⟩:=e1;subst ba cap;simp only [SH.v];have hL20:w20.heap.size≤L:=hL;have hL22:L<w22.heap.size:=g2.lt;have HOq:=Hi g5;have HMk:=Hi hMk;clear G22 g1 g2 g3 g4 g5 hMk hL;simp only [SH.v] at HOq
 go_upto_region 2 with fail
 refine nmA ?_;intro w23 hE B9 hz_w23 hr_w23;refine mV4 hE ?_ HX LN LD HOq;clear HX LN LD HOq;intro HX LN LD HOq;have hs_w23:=hE.size;replace b_B9:=bX3 B9
 go_wp2_with fail
 refine cM (jC na da (some ⟨L,0,none⟩) nn nc dn dc bn bc p de qs 15 _ LN.out.can LD.out.can (iQ.can (s:=⟨some ⟨L,0,none⟩,bn,bc⟩) HOq.out).2 (HHo.out _ _ HMk.out hb1 hb3)) fun x26 w26 hE _=>?_
 refine mV5 hE ?_ B9 HX LN LD HOq;clear B9 HX LN LD HOq;intro B9 HX LN LD HOq;have hs_w26:=hE.size;replace b_B9:=bX3 B9;obtain ⟨r1,hr1⟩:∃ r,r=ng p de qs bn:=⟨_,rfl⟩;rw [←hr1];have HR1:=Hi hr1;clear hr1;obtain ⟨L',cap',nrs,nre,e1,hLe,gk0,-,gk1,gk2,-,-,-⟩:=HOq.out.at1 zo;have hLe:L'=L:=hLe;subst hLe;obtain rfl:bc=cap':=by simpa using e1
 clear e1;have HNr:Hid (∀ i,i<bn*4→RAt w26 L' (0+i*3) (nrs.getD i default)):=Hi (fun i hi=>by rw [Nat.zero_add];exact gk0.at zo);have HNv:=Hi gk1;clear gk0 gk1
 go_wp2_with (at_builtin;(refine fT rfl (.const (.slice none 0 0)) (.tmp 29) 28 Tryz.underlying28 rfl (w26.heap.size≤·) (.slice none 0 0) 0 [] L' 0 bn bc nrs qs rfl (iQ.nil _ _) rfl gk2 zo HNr.out HNv.out dZ zo (fun k hk=>hk) ?_);intro s' y3 q1 q2 q3)
 have hE:Ext w26 y3:=Ext.mods (Ext.refl _) q2 (fun k h=>h);rw [Nat.zero_add,List.nil_append] at q1;obtain ⟨M,mcap,wrs,wre,e1,hM,v1,v2,v3,v4,v5,v6,-⟩:=q1.at1 zo;have hM:w26.heap.size≤M:=hM;obtain ⟨sa,sn,sc⟩:=s';simp only [SH.v,Value.slice.injEq] at e1;obtain ⟨ea,en,ec⟩:=e1;subst sa sn sc;simp only [SH.v];have hMb:=v1.lt;have BK:=Hi v1;have HRE:=Hi v2;have VL:=Hi v3;clear HNr HNv gk2 q1 q2 q3 v1 v2 v3;refine mV5 hE ?_ B9 HX LN LD HOq;clear B9 HX LN LD HOq;intro B9 HX LN LD HOq;have hs_y3:=hE.size;replace b_B9:=bX3 B9;obtain ⟨b9,hb9⟩:∃ b,b=w22.heap.size:=⟨_,rfl⟩;have hb9b:b9<y3.heap.size:=zo;have hb9M:b9<M:=zo;have hb9w:w.heap.size≤b9:=zo;have hMw:w.heap.size≤M:=zo;have hML:L' < M:=zo;rw [←hb9] at B9 ⊢;clear hb9 b_B9;have hW0:WdI f g qs qs bn 0:=⟨by rw [←VL.out.1];exact v4,fun i hi=>by rw [if_neg (Nat.not_lt_zero _)];exact ⟨rfl,rfl,rfl,rfl⟩⟩;have HW0:=Hi hW0;clear hW0;have hE20:w20.heap.size≤M:=zo;go_wp2
 go_loopg [33] bn (fun gc i wr=>∃ (j:Nat) (rs:List RH) (ps:List Rat),j+gc=bn∧i=.int .i64 (j:Nat)∧Ext w wr∧wr.heap[b9]?=some (.cells #[.slice na nn nc,.slice da dn dc] 26 (0,0))∧LIn wr ⟨na,nn,nc⟩ p 0 w20.heap.size∧LIn wr ⟨da,dn,dc⟩ de 0 w20.heap.size∧iQ wr (fun k=>k=L') (.slice (some ⟨L',0,none⟩) bn bc) bn qs∧BBk wr M rs wre∧dk aA wr rs ps∧rs.length=bn*4∧WdI f g qs ps bn j)
 case atStart=>exact ⟨0,wrs,qs,zo,rfl,HX.out,B9.out,LN.out,LD.out,HOq.out,BK.out,VL.out,v4,HW0.out⟩
 case round =>
  obtain ⟨j,rs,ps,hj,rfl,t1,t2,t3,t4,t5,t6,t7,hrs,t8⟩:=hrel;clear HX B9 LN LD HOq BK VL HW0 v4;have HX:=Hi t1;have B9:=Hi t2;have LN:=Hi t3;have LD:=Hi t4;have HOq:=Hi t5;have BK:=Hi t6;have VL:=Hi t7;have HWI:=Hi t8;have hMr:=t6.lt;clear t1 t2 t3 t4 t5 t6 t7 t8;replace b_B9:=bX3 B9;by_cases hgc:gk=0
  case pos =>
   subst hgc;obtain rfl:j=bn:=by omega
   have hin:¬ (j:Int)<(j:Int):=zo;obtain ⟨hh1,hh2⟩:=HHo2.out _ _ _ HWI.out HMk.out hb1 hb3;have HH1:=Hi hh1;have HH2:=Hi hh2;clear hh1 hh2
   go_wp2_with fail
   refine cM (jC na da (some ⟨M,0,none⟩) nn nc dn dc j mcap p de ps 15 _ LN.out.can LD.out.can (BK.out.cbl VL.out hrs v5 v6) HH1.out) fun x73 w73 hE _=>?_
   refine mV7 hE ?_ HX B9 LN LD HOq BK VL;clear HX B9 LN LD HOq BK VL;intro HX B9 LN LD HOq BK VL;have hs_w73:=hE.size;replace b_B9:=bX3 B9;obtain ⟨r2,hr2⟩:∃ r,r=ng p de ps j:=⟨_,rfl⟩;rw [←hr2];have HRR:Hid (r1=true→r2=true):=Hi (fun h=>by rw [hr2];exact HH2.out (by rw [←HR1.out];exact h));clear hr2
   go_wp2_with fail
   refine cM (qe _) fun x76 w76 hE _=>?_
   refine mV7 hE ?_ HX B9 LN LD HOq BK VL;clear HX B9 LN LD HOq BK VL;intro HX B9 LN LD HOq BK VL;have hs_w76:=hE.size;replace b_B9:=bX3 B9;cases r1
   ·go_wp2
    go_ret
    exact ⟨(),rfl,HX.out,trivial⟩
   ·obtain rfl:r2=true:=HRR.out rfl;go_wp2
    go_ret
    exact ⟨(),rfl,HX.out,trivial⟩
  have hin:(j:Int)<bn:=zo;obtain ⟨bw,off,⟨⟨sn,sa,sl,sc',sb,sm,sd⟩,⟨tn,ta,tl,tc,tb,tm,td⟩,⟨un,ua,ul,uc,ub,um,ud⟩,⟨vn,va,vl,vc,vb,vm,vd⟩⟩,hao,hbl,⟨f1,f2,f3,f4,f5,f6,f7,f8,f9,f10,f11,f12⟩,hB⟩:=(iQ.can (s:=⟨some ⟨L',0,none⟩,bn,bc⟩) HOq.out).2.at (k:=j) zo;simp only [Option.some.injEq,Addr.mk.injEq,and_true] at hao;obtain ⟨rfl,rfl⟩:=hao;have HB1:=Hi hB.1;have HB2:=Hi hB.2.1;have HB3:=Hi hB.2.2.1;have HB4:=Hi hB.2.2.2;have HZ:=Hi (HMk.out j zo).ok.1;simp only [Nat.zero_add] at f1 f2 f3 f4 f5 f6 f7 f8 f9 f10 f11 f12;simp only at HB1 HB2 HB3 HB4;clear hB
  go_upto_region 7 with fail
  refine nmA ?_;intro w37 hE B15 hz_w37 hr_w37;refine mV8 hE ?_ HX B9 LN LD HOq BK VL HB1;clear HX B9 LN LD HOq BK VL HB1;intro HX B9 LN LD HOq BK VL HB1;refine mV3 hE ?_ HB2 HB3 HB4;clear HB2 HB3 HB4;intro HB2 HB3 HB4;have hs_w37:=hE.size;replace b_B9:=bX3 B9;replace b_B15:=bX3 B15;clear f1 f2 f3 f4 f5 f6 f7 f8 f9 f10 f11 f12;have hz:w.heap.size≤wr.heap.size:=zo;have pM:M<w37.heap.size:=BK.out.lt;have zM:=fun i=>BK.out.frozen i
  have kg2:=BK.out.at (k:=4*j+2) zo;rw [show (4*j+2)*3=j*12+6 by omega] at kg2;obtain ⟨m1,m2,m3⟩:=kg2;have m2:w37.cell? ⟨M,j*12+7,none⟩=_:=m2;have m3:w37.cell? ⟨M,j*12+8,none⟩=_:=m3;refine wpG 12 (fun opIx=>match opIx with
   | 8=>sR (f)
   | 9=>sR (qs.getD (4*j+2) 0*f)
   | _=>.quiet) (fun|9=>[8]|_=>[]) fun w0 he0 hz0 hc0 hf0=>?_
  refine wps he0 (fun w1 hW hG=>?_) fun x60=>?_
  ·exact spc [.int .i64 1,.int .i64 (1+(k:Int) % 3)] Tryz.func15 ((by rw [HF.out];exact cZ 1 (1+(k:Int) % 3) _ dZ dZ zo zo))
  refine qZ ?_;refine wps he0 (fun w1 hW hG=>?_) fun x61=>?_
  ·have g60:=gS (hG 8 dZ);exact spc [RH.v ⟨un,ua,ul,uc,ub,um,ud⟩,x60.v] Tryz.func13 (kA _ x60 _ _ _ ((HB3.out.ext hW).raw HZ.out.2.2.1 dZ) (g60.raw HFG.out.2.2.1 dZ))
  refine qZ ?_;refine aq ?_;intro w40 hI;have hE:=he0.out.trans hI.ext;have G60:=gT (hI.facts 8);have G61:=gT (hI.facts 9);clear hI he0 hz0 hc0 hf0;refine mV8 hE ?_ B15 HX B9 LN LD HOq BK VL;clear B15 HX B9 LN LD HOq BK VL;intro B15 HX B9 LN LD HOq BK VL;refine mV4 hE ?_ HB1 HB2 HB4 HB3;clear HB1 HB2 HB4 HB3;intro HB1 HB2 HB4 HB3;have hs_w40:=hE.size;replace b_B9:=bX3 B9;replace b_B15:=bX3 B15;simp only [pD];obtain ⟨yn,ya,yl,yc,yb,ym,yd⟩:=x61;clear m1 m2 m3 zM pM;have pM:M<w40.heap.size:=BK.out.lt;have zM:=fun i=>BK.out.frozen i
  have kg2:=BK.out.at (k:=4*j+2) zo;rw [show (4*j+2)*3=j*12+6 by omega] at kg2;obtain ⟨m1,m2,m3⟩:=kg2;have m2:w40.cell? ⟨M,j*12+7,none⟩=_:=m2;have m3:w40.cell? ⟨M,j*12+8,none⟩=_:=m3
  go_upto_region 8 with fail
  refine uK (m:=4*j+2) BK.out HRE.out zo zo ?_;intro w41 cs T TN;clear m1 m2 m3 zM pM;clear BK;replace HX:=Hi (T.ext HX.out zo);replace B9:=Hi (T.rest _ _ zo B9.out);replace LN:=Hi (LN.out.put T zo);replace LD:=Hi (LD.out.put T zo);replace VL:=Hi (VL.out.keep T.keep);replace HOq:=Hi (HOq.out.put T (by intro h;(try dsimp only at h);omega));replace HB1:=Hi (HB1.out.keep T.keep);replace HB2:=Hi (HB2.out.keep T.keep);replace HB3:=Hi (HB3.out.keep T.keep);replace HB4:=Hi (HB4.out.keep T.keep);replace B15:=Hi (T.rest _ _ zo B15.out);replace G60:=Hi (G60.out.keep T.keep);replace G61:=Hi (G61.out.keep T.keep);have hs_w41:=nle T.size;have hr_w41:=nle T.size.symm;clear T;replace b_B9:=bX3 B9;replace b_B15:=bX3 B15;have BK:=Hi TN;clear TN;replace VL:=Hi (VL.out.set G61.out (4*j+2));have hrs2:(rs.set (4*j+2) ⟨yn,ya,yl,yc,yb,ym,yd⟩).length=bn*4:=by rw [nXo];exact hrs
  clear G60;clear G61;have pM:M<w41.heap.size:=BK.out.lt;have zM:=fun i=>BK.out.frozen i
  have kg2:=BK.out.at (k:=4*j+3) zo;rw [show (4*j+3)*3=j*12+9 by omega] at kg2;obtain ⟨m1,m2,m3⟩:=kg2;have m2:w41.cell? ⟨M,j*12+10,none⟩=_:=m2;have m3:w41.cell? ⟨M,j*12+11,none⟩=_:=m3;refine wpG 11 (fun opIx=>match opIx with
   | 7=>sR (g)
   | 8=>sR (qs.getD (4*j+3) 0+g)
   | _=>.quiet) (fun|8=>[7]|_=>[]) fun w0 he0 hz0 hc0 hf0=>?_
  refine wps he0 (fun w1 hW hG=>?_) fun x70=>?_
  ·exact spc [.int .i64 ((k:Int) % 5),.int .i64 3] Tryz.func15 ((by rw [HG.out];exact cZ ((k:Int) % 5) 3 _ zo zo dZ dZ))
  refine qZ ?_;refine wps he0 (fun w1 hW hG=>?_) fun x71=>?_
  ·have g70:=gS (hG 7 dZ);exact spc [RH.v ⟨vn,va,vl,vc,vb,vm,vd⟩,x70.v] Tryz.func12 (go _ x70 _ _ _ ((HB4.out.ext hW).raw HZ.out.2.2.2 dZ) (g70.raw HFG.out.2.2.2 dZ))
  refine qZ ?_;refine aq ?_;intro w50 hI;have hE:=he0.out.trans hI.ext;have G70:=gT (hI.facts 7);have G71:=gT (hI.facts 8);clear hI he0 hz0 hc0 hf0;refine mV8 hE ?_ HX B9 LN LD HOq HB1 HB2 HB3;clear HX B9 LN LD HOq HB1 HB2 HB3;intro HX B9 LN LD HOq HB1 HB2 HB3;refine mV4 hE ?_ B15 BK VL HB4;clear B15 BK VL HB4;intro B15 BK VL HB4;have hs_w50:=hE.size;replace b_B9:=bX3 B9;replace b_B15:=bX3 B15;simp only [pD];obtain ⟨en,ea,el,ec,eb,em,ed⟩:=x71;clear m1 m2 m3 zM pM;have pM:M<w50.heap.size:=BK.out.lt;have zM:=fun i=>BK.out.frozen i
  have kg2:=BK.out.at (k:=4*j+3) zo;rw [show (4*j+3)*3=j*12+9 by omega] at kg2;obtain ⟨m1,m2,m3⟩:=kg2;have m2:w50.cell? ⟨M,j*12+10,none⟩=_:=m2;have m3:w50.cell? ⟨M,j*12+11,none⟩=_:=m3
  go_upto_region 9 with fail
  refine uK (m:=4*j+3) BK.out HRE.out zo zo ?_;intro w51 cs2 T TN;clear m1 m2 m3 zM pM;clear BK;replace HX:=Hi (T.ext HX.out zo);replace B9:=Hi (T.rest _ _ zo B9.out);replace LN:=Hi (LN.out.put T zo);replace LD:=Hi (LD.out.put T zo);replace VL:=Hi (VL.out.keep T.keep);replace HOq:=Hi (HOq.out.put T (by intro h;(try dsimp only at h);omega));replace HB1:=Hi (HB1.out.keep T.keep);replace HB2:=Hi (HB2.out.keep T.keep);replace HB3:=Hi (HB3.out.keep T.keep);replace HB4:=Hi (HB4.out.keep T.keep);replace B15:=Hi (T.rest _ _ zo B15.out);replace G70:=Hi (G70.out.keep T.keep);replace G71:=Hi (G71.out.keep T.keep);have hs_w51:=nle T.size;have hr_w51:=nle T.size.symm;clear T;replace b_B9:=bX3 B9;replace b_B15:=bX3 B15;have BK:=Hi TN;clear TN;replace VL:=Hi (VL.out.set G71.out (4*j+3));have hrs3:((rs.set (4*j+2) ⟨yn,ya,yl,yc,yb,ym,yd⟩).set (4*j+3) ⟨en,ea,el,ec,eb,em,ed⟩).length=bn*4:=by rw [nXo];exact hrs2
  clear G70;clear G71
  go_wp2_with fail
  refine cM (sY ⟨sn,sa,sl,sc',sb,sm,sd⟩ ⟨tn,ta,tl,tc,tb,tm,td⟩ _ _ 1 _ (HB1.out.raw HZ.out.1 dZ) (HB2.out.raw HZ.out.2.1 dZ) HZ.out.1 HZ.out.2.1 dZ) fun x65 w65 hE G65=>?_
  refine mV8 hE ?_ HX B9 LN LD HOq HB1 HB2 HB3;clear HX B9 LN LD HOq HB1 HB2 HB3;intro HX B9 LN LD HOq HB1 HB2 HB3;refine mV4 hE ?_ HB4 B15 BK VL;clear HB4 B15 BK VL;intro HB4 B15 BK VL;have hs_w65:=hE.size;replace b_B9:=bX3 B9;replace b_B15:=bX3 B15;obtain ⟨hn,ha,hl,hc,hb,hm,hd⟩:=x65;have pM:M<w65.heap.size:=BK.out.lt;have zM:=fun i=>BK.out.frozen i
  have kg2:=BK.out.at (k:=4*j+1) zo;rw [show (4*j+1)*3=j*12+3 by omega] at kg2;obtain ⟨m1,m2,m3⟩:=kg2;have m2:w65.cell? ⟨M,j*12+4,none⟩=_:=m2;have m3:w65.cell? ⟨M,j*12+5,none⟩=_:=m3
  go_upto_region 10 with fail
  refine uK (m:=4*j+1) BK.out HRE.out zo zo ?_;intro w66 cs3 T TN;clear m1 m2 m3 zM pM;clear BK;replace HX:=Hi (T.ext HX.out zo);replace B9:=Hi (T.rest _ _ zo B9.out);replace LN:=Hi (LN.out.put T zo);replace LD:=Hi (LD.out.put T zo);replace VL:=Hi (VL.out.keep T.keep);replace HOq:=Hi (HOq.out.put T (by intro h;(try dsimp only at h);omega));replace HB1:=Hi (HB1.out.keep T.keep);replace HB2:=Hi (HB2.out.keep T.keep);replace HB3:=Hi (HB3.out.keep T.keep);replace HB4:=Hi (HB4.out.keep T.keep);replace B15:=Hi (T.rest _ _ zo B15.out);replace G65:=Hi (G65.out.keep T.keep);have hs_w66:=nle T.size;have hr_w66:=nle T.size.symm;clear T;replace b_B9:=bX3 B9;replace b_B15:=bX3 B15;have BK:=Hi TN;clear TN;replace VL:=Hi (VL.out.set G65.out (4*j+1));have HW2:=Hi (HWI.out.step zo rfl rfl rfl);go_wp2
  go_roundg (gk-1)
  case measure=>omega
  case rel=>exact ⟨j+1,_,_,zo,by go_num,HX.out,B9.out,LN.out,LD.out,HOq.out,BK.out,VL.out,by rw [nXo];exact hrs3,HW2.out⟩
end Go.Proofs.YtkcpmclnocmalaaGreat
/- What all joins of this seat share. -/
namespace Go.Proofs.YtkcpmclnocmalaaGreat
open Go.ChangeShapes Go.WideShapes Go.ChangeAt Go.RowKit Go.Front Go.Joins
theorem own:ownKnob Tryz.prog.godebug=none:=by kernel_rfl
theorem nb:laidOutB Tryz.prog=true:=by kernel_rfl
theorem xx{n:Int}(h:(Lit.int .i64 n).wf=true):-9223372036854775808≤n∧n≤9223372036854775807:=by
 simp [Lit.wf] at h;exact ⟨h.1,h.2⟩
theorem xA{n:Int}(h:(Lit.int .u8 n).wf=true):0≤n∧n≤255:=by
 simp [Lit.wf] at h;exact ⟨h.1,h.2⟩
theorem mQ{H:Type}{enc:TypeId×Value→H}{W:World}{a0:Option Addr}{len0 cap0:Nat}{d:DataW H}{p:List MemPlace}(h0:DataW.Trod enc Tryz.prog W 0 (fun _=>true) true 22 (.slice a0 len0 cap0) d p) :
  ∃ xs:List Int,bW W a0 xs∧InR xs∧xs.length=len0∧len0≤9223372036854775807∧len0≤cap0∧cap0≤9223372036854775807:=by
 obtain ⟨fuel,hf⟩:=h0;rcases open_ints Tryz.underlying22 Tryz.underlying3 kZ hf with ⟨hcs,_⟩|⟨x,l,c,zs,hcs,_,hl,hm,hz,_,hcell,hwz⟩
 ·simp [Value.cells] at hcs;obtain ⟨rfl,rfl,rfl⟩:=hcs;exact ⟨[],Or.inl rfl,fun x hx=>by simp at hx,rfl,dZ,dZ,dZ⟩
 ·simp [Value.cells] at hcs;obtain ⟨rfl,rfl,rfl⟩:=hcs;simp only [maxLen] at hm;have hz':zs.length=cap0:=by simpa using hz
  refine ⟨zs.take len0,?_,fun x hx=>xx (hwz x (List.mem_of_mem_take hx)),by simp;omega,zo,hl,zo⟩;by_cases hp:0<zs.length
  ·obtain ⟨b,off,rfl,hc⟩:=ints_at hcell hp;refine Or.inr ⟨b,off,rfl,fun k hk=>?_⟩;simp only [nXk] at hk;rw [hc k zo];simp [show k<len0 by omega]
  ·left
   have:zs=[]:=nXj.1 zo;rw [this];simp
end Go.Proofs.YtkcpmclnocmalaaGreat
