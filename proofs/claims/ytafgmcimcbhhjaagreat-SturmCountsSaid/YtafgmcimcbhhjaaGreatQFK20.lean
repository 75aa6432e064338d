import Derived.Test.YtafgmcimcbhhjaaGreatQFK19
set_option linter.unusedVariables false
set_option maxHeartbeats 4000000
namespace Go.Proofs.YtafgmcimcbhhjaaGreat.Sg
open Go.RowKit Go.Front Go.Num Go.Stab Go.Proofs.YtafgmcimcbhhjaaGreat
theorem uy{g:Rat→Rat}(hg:Pf g){a:Rat}(h:0<g a):∃ e,0<e∧∀ s,a-e≤s→s≤a+e→0<g s:=by
 obtain ⟨K,hK,k1⟩:=hg.lip (a-1) (a+1);obtain ⟨e,he,k2⟩:=dC hK h;obtain ⟨c,hc,c1,c2⟩:=cx he (show (0:Rat)<1 by decide);refine ⟨c,hc,fun s h1 h2=>?_⟩;rcases tot s a with h3|h3
 ·have h4:=(k1 s a (by grind) h3 (by grind)).2;have h5:=k2 (a-s) (by grind);grind
 ·have h4:=(k1 a s (by grind) h3 (by grind)).1;have h5:=k2 (s-a) (by grind);grind
theorem ux{g:Rat→Rat}(hg:Pf g){a:Rat}(h:g a≠0):∃ e,0<e∧∀ s,a-e≤s→s≤a+e→sg (g s)=sg (g a):=by
 rcases tri (g a) 0 with k|k|k
 ·obtain ⟨e,he,h1⟩:=uy (hg.smul (-1)) (a:=a) (show 0 < -1*g a by grind);refine ⟨e,he,fun s a1 a2=>?_⟩;have h2:0 < -1*g s:=h1 s a1 a2;rw [ce k,ce (show g s<0 by grind)]
 ·exact absurd k h
 ·obtain ⟨e,he,h1⟩:=uy hg k;exact ⟨e,he,fun s a1 a2=>by rw [cU k,cU (h1 s a1 a2)]⟩
theorem AO{q:List Rat}(h:tz q≠[]){a b:Rat}(hab:a<b):∃ s,a<s∧s<b∧evV q s≠0:=by
 obtain ⟨k,g,hg,hga,he⟩:=AP a _ q (nXe _) h;obtain ⟨e,he0,h1⟩:=ux hg hga;obtain ⟨c,hc,c1,c2⟩:=cx he0 (show 0<b-a by grind);have hmid:0<c / 2∧c / 2<c:=by
  have:=aA (a:=c) (b:=2) dZ;exact ⟨by grind,by grind⟩
 refine ⟨a+c / 2,by grind,by grind,fun h0=>?_⟩;rw [he] at h0;rcases nXr.1 h0 with h2|h2
 ·have h3:0<(a+c / 2-a) ^ k:=Rat.pow_pos (by grind);grind
 ·have h3:=h1 (a+c / 2) (by grind) (by grind);rw [h2,eT] at h3;exact gv hga h3.symm
theorem yD{g:Rat→Rat}(hg:Pf g){f:List Rat}(hf:tz f≠[]){lo hi:Rat}(hlh:lo<hi)(h:∀ x,lo<x→x<hi→evV f x≠0→0≤g x):∀ x,lo≤x→x≤hi→0≤g x:=by
 intro x h1 h2;apply Classical.byContradiction;intro hn;obtain ⟨e,he,k⟩:=uy (hg.smul (-1)) (a:=x) (show 0 < -1*g x by grind);have k2:∀ s,x-e≤s→s≤x+e→g s<0:=fun s a b=>by have h3:0 < -1*g s:=k s a b;grind
 by_cases hx:x<hi
 ·obtain ⟨c,hc,c1,c2⟩:=cx he (show 0<hi-x by grind);obtain ⟨s,s1,s2,s3⟩:=AO hf (a:=x) (b:=x+c) (by grind);have a1:=h s (by grind) (by grind) s3;have a2:=k2 s (by grind) (by grind);grind
 ·obtain ⟨c,hc,c1,c2⟩:=cx he (show 0<x-lo by grind);obtain ⟨s,s1,s2,s3⟩:=AO hf (a:=x-c) (b:=x) (by grind);have a1:=h s (by grind) (by grind) s3;have a2:=k2 s (by grind) (by grind);grind
theorem sgz{z a:Rat}(hz:z=1∨z=-1):sg (z*a)=sg z*sg a∧(sg z=1∨sg z=-1):=by
 refine ⟨df _ _,?_⟩;rcases hz with rfl|rfl
 ·exact Or.inl (cU dZ)
 ·exact Or.inr (ce dZ)
theorem qE{a:Rat}(h:0≤a):sg a=0∨sg a=1:=by
 rcases bp a with ⟨h4,h5⟩|⟨h4,h5⟩|⟨h4,h5⟩
 ·grind
 ·exact Or.inl h5
 ·exact Or.inr h5
theorem yJ{lo hi:Rat}(hlh:lo<hi){q:List Rat}{g r1 w:Rat→Rat}{lw:List (Rat→Rat)}{z:Rat}(hz:z=1∨z=-1)(hq:∀ x,lo≤x→x≤hi→0≤z*evV q x)
 (hr1:Pf r1)(hw:Pf w)(hc:Cp r1 w)(hg:∀ {I:Rat→Prop},BK I→eH I r1→eH I g)(he:∀ x,evV q x=g x*(r1 x*w x))(hfit:∀ A B,Fit A B w lw) :
  (V w lw lo:Int)-V w lw hi-(if w hi=0 then 1 else 0)=0:=by
 obtain ⟨d,hd,hb⟩:=hc.bound lo hi;obtain ⟨K,hK,k1⟩:=hr1.lip lo hi;obtain ⟨L,hL,k2⟩:=hw.lip lo hi;obtain ⟨e1,he1,k3⟩:=dC hK hd;obtain ⟨e2,he2,k4⟩:=dC hL hd;obtain ⟨e3,he3,k5⟩:=(hfit lo hi).cell;obtain ⟨e4,he4,m1,m2⟩:=cx he1 he2;obtain ⟨e,he0,m3,m4⟩:=cx he4 he3
 -- within a short interval two values of w are not of opposite signs
 have key:∀ a b,lo≤a→a<b→b≤hi→b-a≤e→¬ (sg (w a)≠0∧sg (w b)≠0∧sg (w b)≠sg (w a)):=by
  intro a b h1 h2 h3 h4 ⟨n1,n2,n3⟩;rcases hb a h1 (by grind) with h5|h5
  ·have hst:eH (fun x=>a≤x∧x≤b) r1:=fun s t hs ht hst=>by
    have s1:=h5.sign k1 h1 hs.1 (by have:=hs.2;grind) (k3 _ (by have:=hs.2;grind));have t1:=h5.sign k1 h1 ht.1 (by have:=ht.2;grind) (k3 _ (by have:=ht.2;grind));exact ⟨fun h=>s1.2 (by rw [←s1.1,h,eT]),fun h=>t1.2 (by rw [←t1.1,h,eT]),by rw [s1.1,t1.1]⟩
   have hgs:=hg (Bp a b) hst;obtain ⟨r2,r3,r4⟩:=hst a b ⟨Rat.le_refl,Rat.le_of_lt h2⟩ ⟨Rat.le_of_lt h2,Rat.le_refl⟩ h2;obtain ⟨g2,g3,g4⟩:=hgs a b ⟨Rat.le_refl,Rat.le_of_lt h2⟩ ⟨Rat.le_of_lt h2,Rat.le_refl⟩ h2;have qa:=qE (hq a h1 (by grind));have qb:=qE (hq b (by grind) h3);rw [(sgz hz).1,he,df,df] at qa qb;rw [g4,r4] at qa;have hz1:=(sgz (a:=0) hz).2;have u1:=jA (g b);have u2:=jA (r1 b);have u3:=jA (w a);have u4:=jA (w b);have u5:=gv g3;have u6:=gv r3;generalize sg z=Z at *
   generalize sg (g b)=G at *
   generalize sg (r1 b)=R at *
   generalize sg (w a)=X at *
   generalize sg (w b)=Y at *
   unfold IsS at u1 u2 u3 u4;rcases u1 with rfl|rfl|rfl <;> rcases u2 with rfl|rfl|rfl <;> rcases u3 with rfl|rfl|rfl <;> rcases u4 with rfl|rfl|rfl <;> rcases hz1 with rfl|rfl <;> omega
  ·exact n3 (h5.sign k2 h1 (by grind) h3 (k4 _ (by grind))).1
 have cell:∀ a b,lo≤a→a<b→b≤hi→b-a≤e / 2→(V w lw a:Int)=V w lw b+(if b=hi then (if w hi=0 then 1 else 0) else 0):=by
  intro a b h1 h2 h3 h4;have hh:=aA (a:=e) (b:=2) dZ;obtain ⟨c1,c2⟩:=k5 a b h1 h2 h3 (by grind);by_cases hbh:b=hi
  ·subst hbh;rw [if_pos rfl];by_cases h0:w b=0
   ·have ha:w a≠0:=fun h=>c2 h h0
    have hcr:cK w a b=1:=by
     unfold cK;rw [if_pos ⟨gv ha,by rw [dz.2 h0];exact fun h=>gv ha h.symm⟩]
    rw [if_pos h0];omega
   ·have hcr:cK w a b=0:=by
     unfold cK;rw [if_neg (fun h=>key a b h1 h2 h3 (by grind) ⟨h.1,gv h0,h.2⟩)]
    rw [if_neg h0];omega
  ·rw [if_neg hbh];have hcr:cK w a b=0:=by
    unfold cK;rw [if_neg];intro h;by_cases h0:w b=0
    ·obtain ⟨c,hc0,c3,c4⟩:=cx (show 0<e / 2 by grind) (show 0<hi-b by grind);obtain ⟨d1,d2⟩:=k5 b (b+c) (by grind) (by grind) (by grind) (by grind);obtain ⟨d3,d4⟩:=k5 a (b+c) h1 (by grind) (by grind) (by grind);have e1:cK w b (b+c)=0:=by
      unfold cK;rw [if_neg (fun h=>h.1 (dz.2 h0))]
     have e2:cK w a b=1:=by unfold cK;rw [if_pos h]
     have e3:cK w a (b+c)=1:=by omega
     unfold cK at e3;by_cases h7:sg (w a)≠0∧sg (w (b+c))≠sg (w a)
     ·exact key a (b+c) h1 (by grind) (by grind) (by grind) ⟨h7.1,gv (d2 h0),h7.2⟩
     ·rw [if_neg h7] at e3;exact absurd e3 dZ
    ·exact key a b h1 h2 h3 (by grind) ⟨h.1,gv h0,h.2⟩
   omega
 have hh:=aA (a:=e) (b:=2) dZ;have hfin:=fM (A:=lo) (B:=hi) (e:=e / 2) (P:=fun a b=>(V w lw a:Int)=V w lw b+(if b=hi then (if w hi=0 then 1 else 0) else 0)) (by grind) (fun s t a b c d=>cell s t a b c d) (fun s t u h1 h2 h3 h4 h5 h6=>by
  have ht:t≠hi:=by grind
  rw [if_neg ht] at h5;omega) lo hi Rat.le_refl hlh Rat.le_refl
 rw [if_pos rfl] at hfin;omega
theorem yI{lo hi:Rat}(hlh:lo<hi):∀ (n:Nat) (q:List Rat) (z:Rat),(z=1∨z=-1)→tz q≠[]→(∀ x,lo≤x→x≤hi→0≤z*evV q x)→lR n q lo hi=false:=by
 intro n;induction n with
 | zero=>intro q z _ _ _;rfl
 | succ n ih =>
  intro q z hz h0 hq;have hce:lR (n+1) q lo hi=if lV q lo hi=0 then false else if lV (aM q (derL q)) lo hi≠lV q lo hi then true else lR n (aM (aM q (derL q)) (derL (aM q (derL q)))) lo hi:=rfl
  rw [hce];by_cases hb0:lV q lo hi=0
  ·rw [if_pos hb0]
  ·rw [if_neg hb0];obtain ⟨hg0,hG,r1,wl,lw,⟨r1l,rfl⟩,hw0,e1,e4,hcw,hfw,hbb⟩:=oX hlh h0;have hmw:=aW hw0;have hG2:=dr (aM q (derL q)) (derL (aM q (derL q)));rw [show evV (derL (aM q (derL q)))=evD (aM q (derL q)) from funext (bX _)] at hG2;have hsp:∀ x,evV wl x=aH wl*evV (ak wl) x:=bM wl;have hcp:Cp (evV r1l) (evV (ak wl)):=by
    obtain ⟨u,v,hu,hv,k⟩:=hcw;refine ⟨u,_,hu,hv.smul (aH wl),fun x=>?_⟩;have:=k x;rw [hsp x] at this;show u x*_+aH wl*v x*_=1;grind
   have hV:=yJ (g:=fun x=>aH wl*evV (aM q (derL q)) x) hlh hz hq (Pf.ev r1l) (Pf.ev (ak wl)) hcp (fun {I} hI hs=>(mq hI _ _ (nXe _) hg0 _ _ (Pf.ev r1l) hG2 e1 hs).smul (c:=aH wl) (fun h=>by rw [h] at hmw;exact absurd hmw Rat.lt_irrefl) (fun _=>rfl)) (fun x=>by rw [e4 x,hsp x];grind) hfw;rw [if_neg (fun h=>h zo)]
   -- the sign of the rest
   have hst:=iY hw0 (lN hfw hlh (by
    by_cases hh:evV (ak wl) hi=0
    ·rw [if_pos hh] at hV ⊢;omega
    ·rw [if_neg hh] at hV ⊢;omega))
   have hp0:=iu hg0;obtain ⟨m,c1,c2,c3⟩:=AO hw0 hlh;have hr0:tz r1l≠[]:=fun h=>by
    obtain ⟨y,hy⟩:=iC hg0;exact hy (by rw [e1 y,av.1 h y];grind)
   obtain ⟨y,hy,hyz⟩:∃ y:Rat,(y=1∨y=-1)∧∀ x,lo<x→x<hi→0<y*evV wl x:=by
    have hs:∀ x,lo<x→x<hi→sg (evV wl x)=sg (evV wl m):=fun x h1 h2=>by
     rcases tri x m with h|h|h
     ·exact (hst x m ⟨h1,h2⟩ ⟨c1,c2⟩ h).2.2
     ·rw [h]
     ·exact (hst m x ⟨c1,c2⟩ ⟨h1,h2⟩ h).2.2.symm
    rcases tri (evV wl m) 0 with h|h|h
    ·refine ⟨-1,Or.inr rfl,fun x h1 h2=>?_⟩;have h3:=hs x h1 h2;rw [ce h] at h3;rcases bp (evV wl x) with ⟨h4,h5⟩|⟨h4,h5⟩|⟨h4,h5⟩
     ·grind
     ·rw [h5] at h3;exact absurd h3 dZ
     ·rw [h5] at h3;exact absurd h3 dZ
    ·exact absurd h c3
    ·refine ⟨1,Or.inl rfl,fun x h1 h2=>?_⟩;have h3:=hs x h1 h2;rw [cU h] at h3;rcases bp (evV wl x) with ⟨h4,h5⟩|⟨h4,h5⟩|⟨h4,h5⟩
     ·rw [h5] at h3;exact absurd h3 dZ
     ·rw [h5] at h3;exact absurd h3 dZ
     ·grind
   refine ih _ (z*y) (by rcases hz with rfl|rfl <;> rcases hy with rfl|rfl <;> grind) hp0 (yD ((Pf.ev _).smul _) hr0 hlh fun x h1 h2 h3=>?_);have k1:=hq x (Rat.le_of_lt h1) (Rat.le_of_lt h2);have k2:=hyz x h1 h2;rw [e4 x,e1 x] at k1;have k3:0<evV r1l x*evV r1l x:=by
    rcases tri (evV r1l x) 0 with h|h|h
    ·have:=Rat.mul_pos (a:=-(evV r1l x)) (b:=-(evV r1l x)) (by grind) (by grind);grind
    ·exact absurd h h3
    ·exact Rat.mul_pos h h
   have hyy:y*y=1:=by rcases hy with rfl|rfl <;> grind
   generalize evV (aM (aM q (derL q)) (derL (aM q (derL q)))) x=P at *
   generalize evV r1l x=R at *
   generalize evV wl x=W at *
   apply Classical.byContradiction;intro hn;have k4:0 < -(z*y*P):=by grind
   have k5:=Rat.mul_pos (Rat.mul_pos k4 k3) k2;have k6:-(z*y*P)*(R*R)*(y*W)=-(y*y*(z*(P*R*(R*W)))):=by grind
   rw [k6,hyy] at k5;grind
theorem AH{p:List Rat}{lo hi:Rat}(hlh:lo≤hi)(h:∀ x,lo≤x→x≤hi→0≤evV p x):dX p lo hi=true:=by
 unfold dX;by_cases h0:tz p=[]
 ·rw [if_pos h0]
 ·rw [if_neg h0];have hm:=aW h0;have hs:∀ x,lo≤x→x≤hi→¬ sg (evV (ak p) x)<0:=fun x h1 h2 h3=>by
   rw [kN h0] at h3;have:=qE (h x h1 h2);omega
  have hn:∀ x,lo≤x→x≤hi→0≤evV (ak p) x:=fun x h1 h2=>pr (hs x h1 h2)
  have hq0:tz (ak p)≠[]:=by rw [aJ];exact fun k=>h0 (bs.1 k)
  rw [if_neg (fun k=>k.elim (hs lo Rat.le_refl hlh) (hs hi hlh Rat.le_refl))];by_cases h1:lo=hi
  ·rw [if_pos h1]
  ·have hlt:lo<hi:=by grind
   rw [if_neg h1,yI hlt _ (ak p) 1 (Or.inl rfl) hq0 (fun x a b=>by have:=hn x a b;grind),Bool.and_eq_true,decide_eq_true_iff];refine ⟨?_,rfl⟩;obtain ⟨k,g,hg,hga,he⟩:=AP lo _ (ak p) (nXe _) hq0;have hk:=lg k (ak p) g hg hq0 he;have e:=jD k ((tz p).length+1) (ak p) g (by rw [aJ,ax] at hk;omega) hg hga he;have hge:¬ cu ((tz p).length+1) (ak p) lo<0:=fun h3=>by
    obtain ⟨s,s1,s2,s3⟩:=yY hq0 (by rw [aJ,ax];omega) h3 hlt;have:=hn s (by grind) (by grind);grind
   have:=gv hga;rw [e] at hge ⊢;omega
theorem uq{p:List Rat}{lo hi:Rat}(htz:tz p=p)(hlh:lo≤hi):dX p lo hi=true↔∀ x,lo≤x→x≤hi→0≤evV p x :=
 ⟨fun h x h1 h2=>xF htz hlh h h1 h2,AH hlh⟩
theorem Cm{q:List Rat}(h0:tz q≠[]){a:Rat}{n:Nat}(hn:(tz q).length≤n):cu n q a≠0:=by
 obtain ⟨k,g,hg,hga,he⟩:=AP a _ q (nXe _) h0;have hk:=lg k q g hg h0 he;rw [jD k n q g zo hg hga he];exact gv hga
theorem tO{n:Nat}{q:List Rat}{a:Rat}(h:evV q a≠0):cu (n+1) q a=sg (evV q a):=by
 have hq:q≠[]:=fun k=>h (by rw [k];rfl)
 show (if q=[] then 0 else if sg (evV q a)≠0 then sg (evV q a) else cu n (tz (derL q)) a)=_;rw [if_neg hq,if_pos (gv h)]
theorem ke{p q:List Rat}(h0:tz p≠[])(hrt:Rt p q){s t:Rat}(hv:v6 q s=v6 q t):eH (fun x=>s<x∧x≤t) (evV p):=by
 obtain ⟨l,e,hfit⟩:=A2 hrt.ne hrt.cp;have hV:V (evV (ak q)) (l.map evV) s=V (evV (ak q)) (l.map evV) t:=by
  have h:=hv;unfold v6 at h;rw [eN,eN,jW e,jW e] at h;exact h
 exact qx (fun a b c h1 h2 h3 h4=>⟨by have:=h1.1;grind,by have:=h2.2;grind⟩) h0 hrt (iY hrt.ne fun a b ha hb hab=>jC (hfit s t) hV ha.1 hab hb.2)
theorem pA:∀ {A B:List Rat},A.length % 2=0→prp (A++B)=prp A++prp B
 | [],_,_=>rfl
 | [_],_,h=>by simp at h
 | a :: b :: A,B,h=>by
  have:=pA (A:=A) (B:=B) (by simp only [List.length_cons] at h;omega);show (a,b) :: prp (A++B)=(a,b) :: (prp A++prp B);rw [this]
theorem An{q:List Rat}{wd:Rat}:∀ (d:Nat) {lo hi:Rat},(spV q wd d lo hi).length % 2=0:=by
 intro d;induction d with
 | zero=>intro lo hi;unfold spV;split <;> simp
 | succ d ih =>
  intro lo hi;unfold spV;split
  ·rfl
  ·split
   ·simp
   ·rw [nXi];have a:=ih (lo:=lo) (hi:=md6 lo hi);have b:=ih (lo:=md6 lo hi) (hi:=hi);omega
theorem AG{p:List Rat}{HI a b:Rat}(h:ok6 p HI (a,b)=true):¬ sg (evV p a)<0∧(b<HI→¬ cu (p.length+1) p b<0):=by
 refine ⟨fun k=>?_,fun h1 k=>?_⟩
 ·unfold ok6 at h;rw [decide_eq_true k,Bool.or_true] at h;exact Bool.noConfusion h
 ·unfold ok6 at h;rw [decide_eq_true h1,decide_eq_true k] at h;exact Bool.noConfusion h
theorem pi{p q:List Rat}{HI:Rat}(hp:tz p=p)(h0:p≠[])(hrt:Rt p q)(hcp:Cp (evV q) (evD q)){lo hi:Rat}(hlh:lo<hi)(hend:hi=HI→0≤evV p hi)(hHI:hi≤HI)(hs:¬ cu (p.length+1) p lo<0)
 (h:v6 q lo=v6 q hi∨(v6 q lo=v6 q hi+1∧evV q lo≠0∧ok6 p HI (lo,hi)=true)):(∀ x,lo<x→x≤hi→0≤evV p x)∧(hi<HI→¬ cu (p.length+1) p hi<0):=by
 have h00:tz p≠[]:=by rw [hp];exact h0
 have hpos:0<cu (p.length+1) p lo:=by
  have:=Cm h00 (a:=lo) (n:=p.length+1) (by rw [hp];omega);omega
 rcases h with h|⟨h1,h2,h3⟩
 ·have hst:=ke h00 hrt h;have key:∀ x,lo<x→x≤hi→0<evV p x:=fun x a b=>by
   obtain ⟨s,s1,s2,s3⟩:=tN h00 (n:=p.length+1) (by rw [hp];omega) hpos a;have k:=(hst s x ⟨s1,by grind⟩ ⟨a,b⟩ s2).2.2;rw [cU s3] at k;exact DE (by rw [←k];decide)
  refine ⟨fun x a b=>Rat.le_of_lt (key x a b),fun _=>?_⟩;have k:=key hi hlh Rat.le_refl;rw [tO (by grind),cU k];decide
 ·obtain ⟨h4,h5⟩:=AG h3;have hlo:0<evV p lo:=by
   have a:=pr h4;have b:evV p lo≠0:=fun k=>h2 ((hrt.root h00 lo).2 k)
   grind
  have hhi:0≤evV p hi:=by
   by_cases hh:hi=HI
   ·exact hend hh
   ·apply Classical.byContradiction;intro hn;have a:=h5 (by grind);rw [tO (by grind),ce (by grind)] at a;exact a dZ
  refine ⟨fun x a b=>?_,h5⟩;apply Classical.byContradiction;intro hn;have hx:x≠hi:=fun k=>hn (by rw [k];exact hhi)
  have m1:=eS hrt.ne hcp (Rat.le_of_lt a);have m2:=eS hrt.ne hcp b;rcases (show v6 q lo=v6 q x∨v6 q x=v6 q hi by omega) with k|k
  ·obtain ⟨e,he,h6⟩:=uy (Pf.ev p) hlo;obtain ⟨c,hc,c1,c2⟩:=cx he (show 0<x-lo by grind);have hh:=aA (a:=c) (b:=2) dZ;have s3:=h6 (lo+c / 2) (by grind) (by grind);have k2:=(ke h00 hrt k (lo+c / 2) x ⟨by grind,by grind⟩ ⟨a,Rat.le_refl⟩ (by grind)).2.2;rw [cU s3,ce (by grind)] at k2;exact absurd k2 dZ
  ·obtain ⟨e,he,h6⟩:=uy ((Pf.ev p).smul (-1)) (a:=x) (show 0 < -1*evV p x by grind);obtain ⟨c,hc,c1,c2⟩:=cx he (show 0<hi-x by grind);have hh:=aA (a:=c) (b:=2) dZ;have s3:0 < -1*evV p (x+c / 2):=h6 (x+c / 2) (by grind) (by grind);have k2:=(ke h00 hrt k (x+c / 2) hi ⟨by grind,by grind⟩ ⟨by grind,Rat.le_refl⟩ (by grind)).2.2;rw [ce (show evV p (x+c / 2)<0 by grind)] at k2;have:=qE hhi;omega
theorem wN{p q:List Rat}{wd HI:Rat}{D T m Y:Nat}(hp:tz p=p)(h0:p≠[])(hrt:Rt p q)(H:Sp6 q wd D T m Y):∀ (d e:Nat) {lo hi:Rat},lo<hi→hi≤HI→Dy D (W32 ^ T) e lo→Dy D (W32 ^ T) e hi→(hi-lo)*((W32 ^ Y:Nat):Rat)≤((2 ^ d:Nat):Rat)→(hi=HI→0≤evV p hi)→¬ cu (p.length+1) p lo<0→(prp (spV q wd d lo hi)).all (ok6 p HI)=true →
  (∀ x,lo<x→x≤hi→0≤evV p x)∧(hi<HI→¬ cu (p.length+1) p hi<0):=by
 intro d;induction d with
 | zero =>
  intro e lo hi h1 h2 h3 h4 h5 h6 h7 h8;refine pi hp h0 hrt H.cp h1 h6 h2 h7 ?_;rcases H.base h3 h4 (Rat.le_of_lt h1) h5 with k|⟨k,k2,k3⟩
  ·exact Or.inl k
  ·refine Or.inr ⟨k,k3,?_⟩;unfold spV at h8;rw [if_neg zo] at h8;exact (List.all_eq_true.1 h8) (lo,hi) List.mem_cons_self
 | succ d ih =>
  intro e lo hi h1 h2 h3 h4 h5 h6 h7 h8;by_cases k:v6 q lo=v6 q hi
  ·exact pi hp h0 hrt H.cp h1 h6 h2 h7 (Or.inl k)
  ·unfold spV at h8;rw [if_neg k] at h8;by_cases k2:v6 q lo=v6 q hi+1∧hi-lo≤wd∧evV q lo≠0
   ·rw [if_pos k2] at h8;exact pi hp h0 hrt H.cp h1 h6 h2 h7 (Or.inr ⟨k2.1,k2.2.2,(List.all_eq_true.1 h8) (lo,hi) List.mem_cons_self⟩)
   ·rw [if_neg k2,pA (An d),List.all_append,Bool.and_eq_true] at h8;obtain ⟨m1,m2,m3,m4⟩:=ox (Rat.le_of_lt h1);obtain ⟨w1,w2⟩:=Sp6.half (Rat.le_of_lt h1) h5;have hm:=h3.mid h4;obtain ⟨r1,r2⟩:=ih (e+1) (lo:=lo) (hi:=md6 lo hi) (by grind) (by grind) h3.up hm w1 (fun k=>by grind) h7 h8.1;obtain ⟨r3,r4⟩:=ih (e+1) (lo:=md6 lo hi) (hi:=hi) (by grind) h2 hm h4.up w2 h6 (r2 (by grind)) h8.2;refine ⟨fun x a b=>?_,r4⟩;rcases tot x (md6 lo hi) with c|c
    ·exact r1 x a c
    ·by_cases c2:x=md6 lo hi
     ·exact r1 x a (by rw [c2];exact Rat.le_refl)
     ·exact r3 x (by grind) b
theorem ur{p:List Rat}{lo hi wd:Rat}{D T m Y E:Nat}(hp:tz p=p)(hlh:lo≤hi)(H:p≠[]→Sp6 (sqfV p) wd D T m Y)(dl:Dy D (W32 ^ T) 0 lo)(dh:Dy D (W32 ^ T) 0 hi)(hd:(hi-lo)*((W32 ^ Y:Nat):Rat)≤((2 ^ E:Nat):Rat))
 (h:xH p lo hi ((if evV (sqfV p) lo=0 then [lo,lo] else [])++spV (sqfV p) wd E lo hi)=true):∀ x,lo≤x→x≤hi→0≤evV p x:=by
 intro x h1 h2;unfold xH at h;by_cases h0:p=[]
 ·rw [h0];exact Rat.le_refl
 ·rw [if_neg h0] at h;by_cases k1:sg (evV p lo)<0∨sg (evV p hi)<0
  ·rw [if_pos k1] at h;exact absurd h dZ
  ·rw [if_neg k1] at h;have hl:0≤evV p lo:=pr fun k=>k1 (Or.inl k)
   have hh:0≤evV p hi:=pr fun k=>k1 (Or.inr k)
   by_cases k2:lo=hi
   ·have:x=lo:=by grind
    rw [this];exact hl
   ·rw [if_neg k2] at h;by_cases k3:cu (p.length+1) p lo<0
    ·rw [if_pos k3] at h;exact absurd h dZ
    ·rw [if_neg k3,pA (by split <;> simp),List.all_append,Bool.and_eq_true] at h;by_cases k4:x=lo
     ·rw [k4];exact hl
     ·exact (wN hp h0 (iq (by rw [hp];exact h0)) (H h0) E 0 (by grind) Rat.le_refl dl dh hd (fun _=>hh) k3 h.2).1 x (by grind) h2
theorem DO{p:List Rat}{lo hi wd:Rat}{D T m Y E:Nat}(hlh:lo≤hi)(H:tz p≠[]→Sp6 (sqfV (tz p)) wd D T m Y)(dl:Dy D (W32 ^ T) 0 lo)(dh:Dy D (W32 ^ T) 0 hi)(hd:(hi-lo)*((W32 ^ Y:Nat):Rat)≤((2 ^ E:Nat):Rat))
 (hin:∀ y ∈ (if evV (sqfV (tz p)) lo=0 then [lo,lo] else [])++spV (sqfV (tz p)) wd E lo hi,lo≤y∧y≤hi) :
  dX (tz p) lo hi=xH (tz p) lo hi ((if evV (sqfV (tz p)) lo=0 then [lo,lo] else [])++spV (sqfV (tz p)) wd E lo hi):=by
 cases h:dX (tz p) lo hi with
 | true=>exact (xG (aC p) hlh ((uq (aC p) hlh).1 h) hin).symm
 | false =>
  cases k:xH (tz p) lo hi ((if evV (sqfV (tz p)) lo=0 then [lo,lo] else [])++spV (sqfV (tz p)) wd E lo hi) with
  | false=>rfl
  | true=>rw [(uq (aC p) hlh).2 (ur (aC p) hlh H dl dh hd k)] at h;exact absurd h dZ
end Go.Proofs.YtafgmcimcbhhjaaGreat.Sg
/- What SturmCounts compares: sizes, and that both sides say the same. Plain facts. -/
namespace Go.Proofs.YtafgmcimcbhhjaaGreat
open Go.RowKit Go.Front Go.Num Stab Sg
theorem Cx{K S n:Nat}{p:List Rat}(hp:∀ x ∈ p,Wz S x)(hp0:tz p≠[])(hl:p.length≤n)(hn:n≤1000)(hK:KN K S n):∀ (m:Nat) (q:List Rat),FrK K q→tz q≠[]→Dv (evV q) (evV p)→OkC K m q:=by
 intro m;induction m with
 | zero=>intro q _ _ _;trivial
 | succ m ih =>
  intro q h1 h2 h3;have hg:FrK K (aM q (derL q)):=vz hp hp0 hl hn hK ((j1 q).trans h3) (jn _ _);exact ⟨h1,vz hp hp0 hl hn hK ((tA h2).trans h3) (tx q),ih _ hg (iu h2) ((j1 q).trans h3)⟩
theorem AI(p:List Rat)(lo hi:Rat):dX (tz p) lo hi=dX p lo hi:=by
 unfold dX;rw [aC,kL]
theorem Ao{p:List Rat}{n:Nat}(hn:(tz p).length≤n)(x:Rat):cu n (ak p) x=cu n (tz p) x:=by
 by_cases h0:tz p=[]
 ·rw [h0,bs.2 h0]
 ·obtain ⟨k,g,hg,hga,he⟩:=AP x _ p (nXe _) h0;have hk:=lg k p g hg h0 he;have hm:=aW h0;have hi:=Rat.inv_mul_cancel _ (show aH p≠0 from fun k=>by rw [k] at hm;exact absurd hm Rat.lt_irrefl);have hip:0<(aH p)⁻¹:=Rat.inv_pos.2 hm;have e2:∀ y,evV (ak p) y=(aH p)⁻¹*evV p y:=fun y=>by
   rw [bM p y,←nYd,hi,Rat.one_mul]
  rw [jD k n (tz p) g zo hg hga (fun y=>by rw [iw];exact he y),
   jD k n (ak p) (fun y=>(aH p)⁻¹*g y) zo (hg.smul _) (fun h=>hga ((nXr.1 h).elim (fun h=>by rw [h] at hip;exact absurd hip Rat.lt_irrefl) id)) (fun y=>by rw [e2 y,he y];grind)]
  exact DG hip
theorem xT(a b:Rat):loV a b=a∨(loV a b=b∧hiV a b=a):=by
 unfold loV hiV;by_cases h:b<a
 ·rw [if_pos h,if_pos h];exact Or.inr ⟨rfl,rfl⟩
 ·rw [if_neg h];exact Or.inl rfl
theorem Ba{p:List Rat}(h:tz p≠[]){lo hi:Rat}(hlh:lo≤hi)(h0:nQ (tz p) lo hi=0):Sg.sg (evV p lo)=Sg.sg (evV p hi):=by
 have h00:tz (tz p)≠[]:=by rw [aC];exact h
 have hrt:=iq h00;rcases Rat.le_iff_lt_or_eq.1 hlh with h1|h1
 ·unfold nQ at h0;have hm:=eS hrt.ne hrt.cp hlh;unfold v6 at hm;by_cases hr:Sg.sg (evV (sqfV (tz p)) lo)=0
  ·rw [if_pos hr] at h0;omega
  ·rw [if_neg hr] at h0;have hv:v6 (sqfV (tz p)) lo=v6 (sqfV (tz p)) hi:=by unfold v6;omega
   have hne:evV (tz p) lo≠0:=fun k=>hr (dz.2 ((hrt.root h00 lo).2 k))
   obtain ⟨e,he,h2⟩:=ux (Pf.ev (tz p)) hne;obtain ⟨c,hc,c1,c2⟩:=cx he (show 0<hi-lo by grind);have hh:=aA (a:=c) (b:=2) dZ;have h3:=h2 (lo+c / 2) (by grind) (by grind);have h4:=(ke h00 hrt hv (lo+c / 2) hi ⟨by grind,by grind⟩ ⟨h1,Rat.le_refl⟩ (by grind)).2.2;rw [iw] at h3 h4;rw [iw] at h3 h4;rw [←h3,h4]
 ·rw [h1]
theorem xj(p:List Rat)(a b:Rat):posV p (loV a b) (hiV a b)=pC p a b:=by
 rw [Au (gG a b)];unfold pC;by_cases h:tz p=[]
 ·rw [if_pos h,if_pos h]
 ·rw [if_neg h,if_neg h,l6 (gG a b),l7 (gG a b)];by_cases h0:nQ (tz p) (loV a b) (hiV a b)=0
  ·have h1:=Ba h (gG a b) h0;have h2:Sg.sg (evV p (loV a b))=Sg.sg (evV p a):=by
    rcases xT a b with e|⟨-,e⟩
    ·rw [e]
    ·rw [h1,e]
   rw [h2]
  ·rw [decide_eq_false (fun k=>h0 k.1),decide_eq_false (fun k=>h0 k.1)]
structure ScS (p:List Rat):Prop where
 fb:FrB 19 p
 ln:p.length≤12
theorem scK:KN 1100000 19 12:=by unfold KN;decide
theorem ScS.frk{p:List Rat}(h:ScS p):FrK 1100000 p:=by
 obtain ⟨h1,D,h2,h3,h4⟩:=h.fb;exact nE h1 h2 h3 h4 h.ln scK
theorem ScS.sqf{p:List Rat}(h:ScS p)(h0:tz p≠[]):FrK 1100000 (sqfV p):=by
 obtain ⟨h1,D,h2,h3,h4⟩:=h.fb;exact vi h2 h4 h0 h.ln dZ scK
theorem ScS.tz{p:List Rat}(h:ScS p):FrK 1100000 (Go.Proofs.YtafgmcimcbhhjaaGreat.tz p):=ScS.frk ⟨h.fb.tz,nXf (af p) h.ln⟩
theorem ScS.sqft{p:List Rat}(h:ScS p)(h0:Go.Proofs.YtafgmcimcbhhjaaGreat.tz p≠[]):FrK 1100000 (sqfV (Go.Proofs.YtafgmcimcbhhjaaGreat.tz p)):=by rw [qz];exact h.sqf h0
theorem ScS.ok{p:List Rat}(h:ScS p)(m:Nat):OkC 1100000 m (ak p):=by
 obtain ⟨h1,D,h2,h3,h4⟩:=h.fb;have hw:∀ x ∈ ak p,Wz 19 x:=cG (fun x hx=>h4 x (dA hx)) h2;have hl:(ak p).length≤12:=by rw [ax];exact nXf (af p) h.ln
 have hf:FrK 1100000 (ak p):=nE h1 (show 0<1 by decide) dZ (fun x hx=>Fr.one (hw x hx)) hl scK;by_cases h0:Go.Proofs.YtafgmcimcbhhjaaGreat.tz p=[]
 ·have e:ak p=[]:=bs.2 h0;rw [e] at hf ⊢;clear e hw hl;induction m with
  | zero=>trivial
  | succ m ih =>
   have e1:sqfV []=[]:=by decide +kernel
   have e2:aM [] (derL [])=[]:=by decide +kernel
   exact ⟨hf,by rw [e1];exact hf,by rw [e2];exact ih⟩
 ·have hne:Go.Proofs.YtafgmcimcbhhjaaGreat.tz (ak p)≠[]:=by rw [aJ];exact fun k=>h0 (bs.1 k)
  exact Cx hw hne hl dZ scK m _ hf hne ⟨_,Pf.const 1,fun x=>by grind⟩
theorem ScS.raw{p:List Rat}(h:SzL 2 p)(hl:p.length≤8):ScS p:=⟨FrB.of (n:=8) h hl,zo⟩
def Bu(p:List Rat)(lo hi:Rat):Int×Int:=if tz p=[] then (0,3) else (cntV p lo hi,0)
theorem zQ{p:List Rat}{lo hi:Rat}(h:tz p=[]):Bu p lo hi=(0,3):=if_pos h
theorem zR{p:List Rat}{lo hi:Rat}(h:tz p≠[]):Bu p lo hi=(cntV p lo hi,0):=if_neg h
theorem Bt{p:List Rat}(h:tz p≠[])(lo hi:Rat):nQ (tz p) lo hi=cntV p lo hi:=by
 rw [←zP (by rw [aC];exact h),zO]
set_option maxRecDepth 8000
attribute [local go_sem] XW.cell XW.frozen
theorem sr(pa:Option Addr)(P pc:Nat)(p:List Rat)(s t:RH)(w:World)(h:co w ⟨pa,P,pc⟩ p)(h0:tz p=[]) :
  ar 22 [.slice pa P pc,IvV (s,t)] w (fun _:Unit=>.tuple #[.int .i64 0,.int .i64 3]) (fun _ _=>True):=by
 obtain ⟨sn,sa,sl,sc,sb,sm,sd⟩:=s;obtain ⟨tn,ta,tl,tc,tb,tm,td⟩:=t;have HX:=Hi (Ext.refl w);have LP:=Hi h;have HCk:Hid (me p=3):=Hi (by unfold me;rw [if_neg (by rw [h0];decide),if_pos h0]);clear h h0;unfold ar;go_enter Tryz.func22,Tryz.ntmps22
 go_upto_region 1 with fail
 refine nmA ?_;intro w1 hE B3 hz_w1 hr_w1;refine mV2 hE ?_ HX LP;clear HX LP;intro HX LP;have hs_w1:=hE.size;replace b_B3:=bX3 B3
 go_wp2_with fail
 refine cM (fH pa P pc p _ LP.out) fun x11 w11 hE _=>?_
 refine mV3 hE ?_ B3 HX LP;clear B3 HX LP;intro B3 HX LP;have hs_w11:=hE.size;replace b_B3:=bX3 B3;rw [HCk.out];go_wp2;exact nXa (v:=.tuple #[.int .i64 0,.int .i64 3]) (by simp [results,Tryz.results22,go_sem]) rfl ⟨(),rfl,HX.out,trivial⟩
theorem sS(pa:Option Addr)(P pc:Nat)(l:List Rat)(s t:RH)(w:World)(h:co w ⟨pa,P,pc⟩ l)(hP:P≤1000000)(h0:tz l=[]) :
  ar 23 [.slice pa P pc,IvV (s,t)] w (fun _:Unit=>.tuple #[.int .i64 0,.int .i64 3]) (fun _ _=>True):=by
 obtain ⟨sn,sa,sl,sc,sb,sm,sd⟩:=s;obtain ⟨tn,ta,tl,tc,tb,tm,td⟩:=t;have HX:=Hi (Ext.refl w);have LP:=Hi h;have H0:=Hi h0;clear h h0;unfold ar;go_enter Tryz.func23,Tryz.ntmps23
 go_upto_region 1 with fail
 refine nmA ?_;intro w1 hE B3 hz_w1 hr_w1;refine mV2 hE ?_ HX LP;clear HX LP;intro HX LP;have hs_w1:=hE.size;replace b_B3:=bX3 B3
 go_wp2_with fail
 refine cM (bY pa P pc l _ LP.out zo) fun x10 w10 hE _=>?_
 refine mV3 hE ?_ B3 HX LP;clear B3 HX LP;intro B3 HX LP;have hs_w10:=hE.size;replace b_B3:=bX3 B3;rw [H0.out];simp only [List.length_nil];go_wp2;exact nXa (v:=.tuple #[.int .i64 0,.int .i64 3]) (by simp [results,Tryz.results23,go_sem]) rfl ⟨(),rfl,HX.out,trivial⟩
theorem ScS.afz{p:List Rat}(h:ScS p){T:Nat}(hT:T≤1000):∃ D,AfZ 19 D T 12 p:=by
 obtain ⟨h1,D,h2,h3,h4⟩:=h.fb;exact ⟨D,h1,h2,h3,h4,h.ln,dZ,zo⟩
theorem wS(pa:Option Addr)(P pc:Nat)(l:List Rat)(t:RH)(x:Rat)(w:World)(h:co w ⟨pa,P,pc⟩ l)(hz:ScS l)(ht:aR w t x)(hx:Sz 4 x) :
  ar 25 [.slice pa P pc,t.v] w (fun _:Unit=>.tuple #[.int .i64 (cu ((tz l).length+1) (ak l) x),.int .i64 0]) (fun _ _=>True):=by
 obtain ⟨tn,ta,tl,tc,tb,tm,td⟩:=t;have HX:=Hi (Ext.refl w);have LP:=Hi h;have HT:=Hi ht;have hlen:=h.len;have hl12:=hz.ln;simp only at hlen;have hP:P≤12:=zo;have htl:(tz l).length≤12:=nXf (af l) hl12;obtain ⟨D,hA⟩:=hz.afz (T:=4) dZ;have HA:=Hi hA.tz;have ZX:=Hi hx;obtain ⟨N,hN⟩:∃ N,N=(tz l).length:=⟨_,rfl⟩;have HS:Hid (cu (N+1) (ak l) x=cu ((tz l).length+1) (tz l) x):=Hi (by rw [hN];exact Ao zo x);have HN:=Hi hN;rw [←hN] at htl ⊢;obtain ⟨s,hs⟩:∃ s,s=cu (N+1) (ak l) x:=⟨_,rfl⟩;rw [←hs] at HS ⊢;clear h ht hx hz hA hlen hl12 hN hs;unfold ar;go_enter Tryz.func25,Tryz.ntmps25
 go_upto_region 1 with fail
 refine nmA ?_;intro w1 hE B3 hz_w1 hr_w1;refine mV3 hE ?_ HX LP HT;clear HX LP HT;intro HX LP HT;have hs_w1:=hE.size;replace b_B3:=bX3 B3
 go_wp2_with fail
 refine cM (bY pa P pc l _ LP.out zo) fun x7 w7 hE _=>?_
 refine mV4 hE ?_ B3 HX LP HT;clear B3 HX LP HT;intro B3 HX LP HT;have hs_w7:=hE.size;replace b_B3:=bX3 B3;rw [←HN.out];have hdg:¬ (48<(N:Int)-1):=zo
 go_upto_region 3 with fail
 go_wp2_with fail
 refine cM (jT pa P pc l ⟨tn,ta,tl,tc,tb,tm,td⟩ x 19 D 4 12 _ LP.out zo HA.out HT.out ZX.out dZ) fun x11 w11 hE _=>?_
 refine mV4 hE ?_ B3 HX LP HT;clear B3 HX LP HT;intro B3 HX LP HT;have hs_w11:=hE.size;replace b_B3:=bX3 B3;rw [←HS.out];go_wp2;exact nXa (v:=.tuple #[.int .i64 s,.int .i64 0]) (by simp [results,Tryz.results25,go_sem]) rfl ⟨(),rfl,HX.out,trivial⟩
structure ScA (w:World) (x:SH) (s t u:RH) (p:List Rat) (a b v:Rat):Prop where
 p:co w x p
 s:aR w s a
 t:aR w t b
 u:aR w u v
theorem ScA.ext{w w':World}{x:SH}{s t u:RH}{p:List Rat}{a b v:Rat}(h:ScA w x s t u p a b v)(e:Ext w w'):ScA w' x s t u p a b v:=⟨h.p.ext e,h.s.ext e,h.t.ext e,h.u.ext e⟩
instance {w w':World} {x:SH} {s t u:RH} {p:List Rat} {a b v:Rat}:Go.Front.Mv w w' (ScA w x s t u p a b v) (ScA w' x s t u p a b v):=⟨fun e h=>ScA.ext h e⟩

structure ScZ (p:List Rat) (a b v:Rat):Prop where
 p:ScS p
 a:Sz 4 a
 b:Sz 4 b
 v:Sz 4 v
theorem ScZ.lo{p:List Rat}{a b v:Rat}(h:ScZ p a b v):Sz 4 (loV a b):=by rcases lC a b with e|e <;> rw [e];exact h.a;exact h.b
theorem ScZ.hi{p:List Rat}{a b v:Rat}(h:ScZ p a b v):Sz 4 (hiV a b):=by rcases lJ a b with e|e <;> rw [e];exact h.a;exact h.b
theorem ScS.sq0{p:List Rat}(h:ScS p):FrK 1100000 (sqfV p):=by
 by_cases h0:Go.Proofs.YtafgmcimcbhhjaaGreat.tz p=[]
 ·rw [←qz,h0];exact ⟨1,1,dZ,dZ,dZ,fun x hx=>absurd hx (by rw [show sqfV []=[] by decide +kernel];exact List.not_mem_nil),Or.inl (by decide +kernel)⟩
 ·exact h.sqf h0
variable {pa:Option Addr} {P pc:Nat} {p:List Rat} {s t u:RH} {a b v:Rat} {w:World}
theorem ScA.len(h:ScA w ⟨pa,P,pc⟩ s t u p a b v)(z:ScZ p a b v):P≤12:=by
 have h1:=h.p.len;have h2:=z.p.ln;simp only at h1;omega
theorem sc1(h:ScA w ⟨pa,P,pc⟩ s t u p a b v)(z:ScZ p a b v):ar 22 [.slice pa P pc,IvV (s,t)] w (fun _:Unit=>.tuple #[.int .i64 (Bu p (loV a b) (hiV a b)).1,.int .i64 (Bu p (loV a b) (hiV a b)).2]) (fun _ _=>True):=by
 have hP:=h.len z;by_cases h0:tz p=[]
 ·rw [zQ h0];exact sr pa P pc p s t w h.p h0
 ·rw [zR h0];exact jB pa P pc p 1100000 s t a b 4 w h.p zo h0 z.p.frk dZ zo (z.p.sqf h0) h.s h.t z.a z.b dZ dZ
theorem sc2(h:ScA w ⟨pa,P,pc⟩ s t u p a b v)(z:ScZ p a b v):ar 23 [.slice pa P pc,IvV (s,t)] w (fun _:Unit=>.tuple #[.int .i64 (Bu p (loV a b) (hiV a b)).1,.int .i64 (Bu p (loV a b) (hiV a b)).2]) (fun _ _=>True):=by
 have hP:=h.len z;by_cases h0:tz p=[]
 ·rw [zQ h0];exact sS pa P pc p s t w h.p zo h0
 ·rw [zR h0,←Bt h0];exact jR pa P pc p 1100000 s t a b 4 w h.p zo h0 z.p.tz dZ zo (z.p.sqft h0) h.s h.t z.a z.b dZ
theorem sc3(h:ScA w ⟨pa,P,pc⟩ s t u p a b v)(z:ScZ p a b v):ar 24 [.slice pa P pc,u.v] w (fun _:Unit=>.tuple #[.int .i64 (cu ((tz p).length+1) (ak p) v),.int .i64 0]) (fun _ _=>True) :=
 tu pa P pc p 1100000 u v 4 w _ h.p (by have:=h.len z;omega) rfl z.p.frk dZ h.u z.v dZ dZ
theorem sc4(h:ScA w ⟨pa,P,pc⟩ s t u p a b v)(z:ScZ p a b v):ar 25 [.slice pa P pc,u.v] w (fun _:Unit=>.tuple #[.int .i64 (cu ((tz p).length+1) (ak p) v),.int .i64 0]) (fun _ _=>True) :=
 wS pa P pc p u v w h.p z.p h.u z.v
theorem sc5(h:ScA w ⟨pa,P,pc⟩ s t u p a b v)(z:ScZ p a b v):ar 26 [.slice pa P pc,IvV (s,t)] w (fun _:Unit=>.tuple #[.bool (dX p (loV a b) (hiV a b)),.int .i64 0]) (fun _ _=>True):=by
 have hP:=h.len z;have hN:=af p;have:=z.p.ln;exact wO pa P pc p 1100000 s t a b 4 w (tz p).length h.p zo rfl z.p.frk (z.p.ok _) dZ zo h.s h.t z.a z.b dZ dZ
theorem sc6(h:ScA w ⟨pa,P,pc⟩ s t u p a b v)(z:ScZ p a b v):ar 14 [.slice pa P pc,IvV (s,t)] w (fun _:Unit=>.tuple #[.bool (dX p (loV a b) (hiV a b)),.int .i64 0]) (fun _ _=>True):=by
 have hP:=h.len z;by_cases h0:tz p=[]
 ·rw [show dX p (loV a b) (hiV a b)=true by unfold dX;rw [if_pos h0]];exact pH pa P pc p s t a b w h.p zo h.s h.t h0
 ·have hT2:isT 19 12 4≤150000:=by decide
  obtain ⟨D2,hA⟩:=Dj (T:=isT 19 12 4) z.p.fb z.p.ln dZ dZ hT2;have hI:=CG (bits:=0) (P:=P) z.p.fb z.p.ln hP dZ h0 z.lo z.hi (gG a b) dZ dZ scK dZ dZ hT2;have hR:=pI pa P pc p 1100000 s t a b 4 _ _ _ _ 19 D2 12 w h.p h.s h.t hI hA;have e:=DO (p:=p) (wd:=wd6 0) (gG a b) (fun _=>hI.sp) (by have h:=hI.dl;rw [l6 (gG a b)] at h;exact h) (by have h:=hI.dh;rw [l7 (gG a b)] at h;exact h) (by have h:=hI.hd;rw [l6 (gG a b),l7 (gG a b)] at h;exact h) (fun y hy=>CF (gG a b) y hy);rw [AI] at e;rw [e];exact hR
theorem sc7(h:ScA w ⟨pa,P,pc⟩ s t u p a b v)(z:ScZ p a b v):ar 27 [.slice pa P pc,IvV (s,t)] w (fun _:Unit=>.tuple #[.bool (posV p (loV a b) (hiV a b)),.int .i64 0]) (fun _ _=>True):=by
 have hP:=h.len z;exact wK pa P pc p 1100000 s t a b 4 w h.p zo z.p.frk z.p.sq0 dZ zo h.s h.t z.a z.b dZ dZ
theorem sc8(h:ScA w ⟨pa,P,pc⟩ s t u p a b v)(z:ScZ p a b v):ar 28 [.slice pa P pc,IvV (s,t)] w (fun _:Unit=>.tuple #[.bool (posV p (loV a b) (hiV a b)),.int .i64 0]) (fun _ _=>True):=by
 have hP:=h.len z;obtain ⟨D,hA⟩:=z.p.afz (T:=4) dZ;rw [xj];exact nh pa P pc p 1100000 s t a b 4 w h.p zo z.p.tz dZ zo (by rw [qz];exact z.p.sq0) h.s h.t z.a z.b dZ (hA.sz.mono dZ) (hA.ev z.a)
structure RoF (p rl:List Rat) (b:Option Rat):Prop where
 c:∃ c:Int,c≠0∧c.natAbs≤3∧∀ x,evV p x=(c:Rat)*(Pd rl x*Qd b x)
 sx:Sx b
 tw:∀ a ∈ rl,Tw a
 tz:tz p=p
structure RoD (ds rl:List Rat):Prop where
 nd:ds.Nodup
 mem:∀ x,x ∈ ds↔x ∈ rl
theorem zC{c:Int}(h:c≠0):(c:Rat)≠0:=fun h0=>h (Rat.intCast_eq_zero_iff.1 h0)
theorem RoF.fac{p rl:List Rat}{b:Option Rat}(h:RoF p rl b):Fac p rl b:=let ⟨c,h1,_,h3⟩:=h.c;⟨c,zC h1,h3⟩
theorem RoF.ne{p rl:List Rat}{b:Option Rat}(h:RoF p rl b):Go.Proofs.YtafgmcimcbhhjaaGreat.tz p≠[]:=h.fac.ne h.sx.pos
theorem RoF.fr{p rl:List Rat}{b:Option Rat}(h:RoF p rl b)(hl:rl.length≤9):FrL 2 (16*12 ^ rl.length) p:=let ⟨c,_,h2,h3⟩:=h.c;zG h.sx h.tw hl h2 h3
theorem RoF.len{p rl:List Rat}{b:Option Rat}(h:RoF p rl b):p.length=rl.length+dg b+1:=by
 have h1:=(pQ h.sx h.tw h.fac).1;rw [h.tz] at h1;exact h1
theorem Bm(b:Option Rat):dg b≤2:=by
 cases b with
 | none=>exact Nat.zero_le _
 | some _=>exact nXe _
theorem RoF.sz{p rl:List Rat}{b:Option Rat}(h:RoF p rl b)(hl:rl.length≤9):SzL 2 p:=(h.fr hl).sz dZ (Nat.mul_pos dZ (nYm dZ)) (At hl)
theorem vj{p:List Rat}{n:Nat}(hn:n≤9)(h:FrL 2 (16*12 ^ n) p)(hl:p.length≤12):FrK 2125764 p :=
 ⟨2,16*12 ^ n,dZ,Nat.mul_pos dZ (nYm dZ),At hn,h,Or.inl (nXf (nXg _ (nXp dZ hl)) dZ)⟩
theorem uF{p q rl:List Rat}{b:Option Rat}(h:Fac p rl b)(hb:Sx b)(ha:∀ a ∈ rl,Tw a)(hl:rl.length≤9)(hd:Dv (evV (bq q)) (evV p)):FrK 2125764 (bq q)∧∃ rl' b',rl'.Sublist rl∧Sx b'∧Fac (bq q) rl' b':=by
 obtain ⟨⟨n,hn,h1⟩,rl',b',h2,h3,h4⟩:=CB h hb ha hl hd;have h5:=(pQ h3 (fun a k=>ha a (h2.subset k)) h4).1;rw [et] at h5;have:=Bm b';have:=h2.length_le;exact ⟨vj zo h1 zo,rl',b',h2,h3,h4⟩
theorem pP{p rl:List Rat}{b:Option Rat}(h:Fac p rl b)(hb:Sx b)(ha:∀ a ∈ rl,Tw a)(hl:rl.length≤9):FrK 2125764 (sqfV p):=(uF h hb ha hl (iq (h.ne hb.pos)).dvp).1
theorem AE:∀ (n:Nat) (p rl:List Rat) (b:Option Rat),Fac p rl b→Sx b→(∀ a ∈ rl,Tw a)→rl.length≤9→FrK 2125764 p→OkC 2125764 n p:=by
 intro n;induction n with
 | zero=>intro p rl b _ _ _ _ _;trivial
 | succ n ih =>
  intro p rl b h hb ha hl hk;have h1:=uF (q:=aM p (derL p)) h hb ha hl (by rw [jn];exact j1 p);rw [jn] at h1;obtain ⟨h2,rl',b',h3,h4,h5⟩:=h1;exact ⟨hk,pP h hb ha hl,ih _ rl' b' h5 h4 (fun a k=>ha a (h3.subset k)) (nXf h3.length_le hl) h2⟩
theorem BU{q:Rat}(h:q≠0):tz [q]=[q]:=by
 have h1:tz [q]≠[]:=fun h0=>by
  have:=av.1 h0 0;rw [show evV [q] 0=q by show 0*0+q=q;grind] at this;exact h this
 have h2:=iS [q];have h3:=af [q];have h4:=nYg.2 h1;simp only [List.length_cons,List.length_nil] at h3;rw [h2,show (tz [q]).length=1 by omega];rfl
theorem RoF.start{n:Int}(h:n≠0)(h2:n.natAbs≤3):RoF [(n:Rat)] [] none :=
 ⟨⟨n,h,h2,fun x=>by show 0*x+(n:Rat)=n*(1*1);grind⟩,fun c e=>by (cases e),fun a k=>by simp at k,BU (zC h)⟩
theorem RoF.neg{p rl:List Rat}{b:Option Rat}(h:RoF p rl b):RoF (bQ p ((-1:Int):Rat)) rl b:=by
 obtain ⟨c,h1,h2,h3⟩:=h.c;refine ⟨⟨-c,zo,zo,fun x=>?_⟩,h.sx,h.tw,aC _⟩;have e:evV (bQ p ((-1:Int):Rat)) x=((-1:Int):Rat)*evV p x:=eL (fun i=>by
  unfold bQ;rw [aT,aQ];grind) x
 rw [e,h3 x,Rat.intCast_neg,Rat.intCast_neg];grind
theorem RoF.step{p rl:List Rat}(h:RoF p rl none){x:Rat}(hx:Tw x):RoF (aI p [-x,((1:Int):Rat)]) (x :: rl) none:=by
 obtain ⟨c,h1,h2,h3⟩:=h.c;refine ⟨⟨c,h1,h2,fun y=>?_⟩,h.sx,fun a k=>?_,uD _ _⟩
 ·rw [aU,h3 y,show evV [-x,((1:Int):Rat)] y=y-x from oz x y];show _=(c:Rat)*((y-x)*Pd rl y*Qd none y);grind
 ·rcases List.mem_cons.1 k with rfl|k
  ·exact hx
  ·exact h.tw a k
theorem RoF.quad{p rl:List Rat}(h:RoF p rl none){e:Rat}(he:Sx (some e)):RoF (aI p [e,((0:Int):Rat),((1:Int):Rat)]) rl (some e):=by
 obtain ⟨c,h1,h2,h3⟩:=h.c;refine ⟨⟨c,h1,h2,fun y=>?_⟩,he,h.tw,uD _ _⟩;rw [aU,h3 y];show (c:Rat)*(Pd rl y*1)*(((0*y+((1:Int):Rat))*y+((0:Int):Rat))*y+e)=(c:Rat)*(Pd rl y*(y*y+e));have e1:((1:Int):Rat)=1:=rfl;have e0:((0:Int):Rat)=0:=rfl;rw [e1,e0];grind
def zZ(p ds:List Rat):Prop:=∃ rl b,RoF p rl b∧RoD ds rl∧rl.length≤9
theorem zZ.frk{p ds:List Rat}(h:zZ p ds):FrK 2125764 p∧FrK 2125764 (sqfV p)∧Go.Proofs.YtafgmcimcbhhjaaGreat.tz p≠[]∧p.length≤12:=by
 obtain ⟨rl,b,h1,-,hl⟩:=h;have h2:=h1.len;have:=Bm b;exact ⟨vj hl (h1.fr hl) zo,pP h1.fac h1.sx h1.tw hl,h1.ne,zo⟩
theorem zZ.sz{p ds:List Rat}(h:zZ p ds):SzL 2 p:=by
 obtain ⟨rl,b,h1,-,hl⟩:=h;exact h1.sz hl
theorem RoD.nil:RoD [] []:=⟨List.nodup_nil,fun x=>Iff.rfl⟩
theorem RoD.more{ds rl rl':List Rat}(h:RoD ds rl){x:Rat}(hx:x ∉ ds)(h1:∀ y ∈ rl',y=x∨y ∈ rl)(h2:∀ y ∈ rl,y ∈ rl')(h3:x ∈ rl'):RoD (ds++[x]) rl':=by
 refine ⟨?_,fun y=>?_⟩
 ·rw [List.nodup_append];exact ⟨h.nd,by simp,fun a ha b hb=>by
   obtain rfl:b=x:=by simpa using hb
   intro e;exact hx (e ▸ ha)⟩
 ·rw [List.mem_append,nXu,h.mem];constructor
  ·rintro (k|k)
   ·exact h2 y k
   ·rw [k];exact h3
  ·intro k;rcases h1 y k with k|k
   ·exact Or.inr k
   ·exact Or.inl k
theorem yU:∀ t:Nat,t<4→0<((1+(t:Int):Int):Rat) / ((16:Int):Rat)∧((1+(t:Int):Int):Rat) / ((16:Int):Rat)*16=((1+(t:Int):Int):Rat)∧(((1+(t:Int):Int):Rat) / ((16:Int):Rat)).num.natAbs<W32∧(((1+(t:Int):Int):Rat) / ((16:Int):Rat)).den<W32:=by decide +kernel
theorem Dz{t:Nat}(h:t<4):Sx (some (((1+(t:Int):Int):Rat) / ((16:Int):Rat))):=fun c e=>by
 cases e;have h1:=yU t h;exact ⟨h1.1,1+(t:Int),h1.2.1,zo⟩
end Go.Proofs.YtafgmcimcbhhjaaGreat
