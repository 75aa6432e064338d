/- Py5 -/
import Derived.Test.YtafgmcimcbhhjaaGreatQZK4
import Derived.Test.YtafgmcimcbhhjaaGreatQZK3
import Derived.Test.YtafgmcimcbhhjaaGreatQZM22
import Derived.Test.YtafgmcimcbhhjaaGreatQZK2
set_option linter.unusedVariables false
namespace Go.Proofs.YtafgmcimcbhhjaaGreat
open Go.RowKit Go.Front Go.Num Stab
attribute [local go_sem] XW.cell XW.frozen
theorem yQ(x:Rat):x-0=x:=by rw [Rat.sub_eq_add_neg,Rat.neg_zero,Rat.add_zero]
def DvP(p q:List Rat)(S U:Nat)(s r:List Rat)(f:Rat):Prop :=
 f≠0∧Wz (1+(p.length+1-q.length)*U) f∧(∀ x ∈ s,Wz (S+(p.length+1-q.length)*(U+1)) x)∧(∀ x ∈ r,Wz (S+(p.length+1-q.length)*(U+1)) x)∧tz r=r∧r.length<q.length∧s.length≤p.length∧∀ n,f*seq p n=cv (seq s) (seq q) n+seq r n
theorem DvI.done{p q:List Rat}{S U j:Nat}{sl r:List Rat}{f:Rat}(h:DvI p q S U j sl r f)(hl:r.length<q.length):DvP p q S U sl r f:=by
 have hj:j≤p.length+1-q.length:=by have:=h.jl;omega
 have h1:j*U≤(p.length+1-q.length)*U:=nXg _ hj;have h2:j*(U+1)≤(p.length+1-q.length)*(U+1):=nXg _ hj;exact ⟨h.fne,h.fw.mono (by omega),fun x hx=>(h.sw x hx).mono (by omega),fun x hx=>(h.rz x hx).mono (by omega),h.tzr,hl,by have:=h.sl;omega,h.eq⟩
theorem DvP.short{p q:List Rat}{S U:Nat}(hp:∀ x ∈ p,Wz S x)(ht:tz p=p)(hl:p.length<q.length):DvP p q S U [] p 1:=by
 refine ⟨by decide,Wz.one.mono (by omega),fun x hx=>by simp at hx,fun x hx=>(hp x hx).mono (by omega),ht,hl,Nat.zero_le _,fun n=>?_⟩;have:seq ([]:List Rat)=fun _=>0:=funext fun i=>by unfold seq;simp
 rw [this,jH];grind
end Go.Proofs.YtafgmcimcbhhjaaGreat
/- Siegel's lemma: whole numbers, not all 0, that solve one equation less than there are unknowns. Plain facts. -/
namespace Go.Proofs.YtafgmcimcbhhjaaGreat.Sie
theorem vD:∀ (L K:Nat) (f:Nat→Nat),L<K→(∀ i,i<K→f i<L)→∃ i j,i<j∧j<K∧f i=f j:=by
 intro L;induction L with
 | zero=>intro K f h hf;exact absurd (hf 0 h) (Nat.not_lt_zero _)
 | succ L ih =>
  intro K f h hf;obtain ⟨K',rfl⟩:∃ K',K=K'+1:=⟨K-1,by omega⟩;by_cases h1:∃ i,i<K'∧f i=f K'
  ·obtain ⟨i,hi,he⟩:=h1;exact ⟨i,K',hi,Nat.lt_succ_self _,he⟩
  ·have hn:∀ i,i<K'→f i≠f K':=fun i hi he=>h1 ⟨i,hi,he⟩
   obtain ⟨i,j,h2,h3,h4⟩:=ih K' (fun i=>if f i=L then f K' else f i) (by omega) (fun i hi=>by
    have a1:=hf i (by omega);have a2:=hf K' (by omega);have a3:=hn i hi;split <;> omega)
   refine ⟨i,j,h2,by omega,?_⟩;have b1:=hn i (by omega);have b2:=hn j h3;by_cases e1:f i=L
   ·by_cases e2:f j=L
    ·rw [e1,e2]
    ·rw [if_pos e1,if_neg e2] at h4;exact absurd h4.symm b2
   ·by_cases e2:f j=L
    ·rw [if_neg e1,if_pos e2] at h4;exact absurd h4 b1
    ·rw [if_neg e1,if_neg e2] at h4;exact h4
def dgt(b i t:Nat):Nat:=t / b ^ i % b
theorem sJ{b i t:Nat}(hb:0<b):dgt b i t<b:=Nat.mod_lt _ hb
theorem xJ{b:Nat}(hb:0<b):∀ (N t u:Nat),t<b ^ N→u<b ^ N→(∀ i,i<N→dgt b i t=dgt b i u)→t=u:=by
 intro N;induction N with
 | zero=>intro t u h1 h2 _;rw [Nat.pow_zero] at h1 h2;omega
 | succ N ih =>
  intro t u h1 h2 h;have e0:=h 0 (Nat.succ_pos _);unfold dgt at e0;rw [Nat.pow_zero,Nat.div_one,Nat.div_one] at e0;have e1:=ih (t / b) (u / b) ((Nat.div_lt_iff_lt_mul hb).2 (by rw [←nXt];exact h1)) ((Nat.div_lt_iff_lt_mul hb).2 (by rw [←nXt];exact h2)) (fun i hi=>by
   have:=h (i+1) (by omega);unfold dgt at this ⊢;rw [Nat.div_div_eq_div_mul,Nat.div_div_eq_div_mul,nYc b,←nXt];exact this)
  rw [←Nat.div_add_mod t b,←Nat.div_add_mod u b,e0,e1]
def cod(R:Nat):Nat→(Nat→Nat)→Nat
 | 0,_=>0
 | M+1,y=>y 0+R*cod R M (fun j=>y (j+1))
theorem zJ{R:Nat}:∀ (M:Nat) (y:Nat→Nat),(∀ j,j<M→y j<R)→cod R M y<R ^ M:=by
 intro M;induction M with
 | zero=>intro y _;exact Nat.one_pos
 | succ M ih =>
  intro y h;have h1:=ih (fun j=>y (j+1)) (fun j hj=>h (j+1) (by omega));have h0:=h 0 (Nat.succ_pos _);have h2:R*(cod R M (fun j=>y (j+1))+1)≤R*R ^ M:=nXf _ h1;show y 0+R*cod R M (fun j=>y (j+1))<R ^ (M+1);rw [nXt,nYc (R ^ M)];rw [Nat.mul_succ] at h2;omega
theorem xR{R:Nat}:∀ (M:Nat) (y z:Nat→Nat),(∀ j,j<M→y j<R)→(∀ j,j<M→z j<R)→cod R M y=cod R M z→∀ j,j<M→y j=z j:=by
 intro M;induction M with
 | zero=>intro y z _ _ _ j hj;omega
 | succ M ih =>
  intro y z hy hz h;have y0:=hy 0 (Nat.succ_pos _);have z0:=hz 0 (Nat.succ_pos _);have h':y 0+R*cod R M (fun j=>y (j+1))=z 0+R*cod R M (fun j=>z (j+1)):=h;have e0:y 0=z 0:=by
   have:=congrArg (· % R) h';simp only [Nat.add_mul_mod_self_left] at this
   rwa [Nat.mod_eq_of_lt y0,Nat.mod_eq_of_lt z0] at this
  have e1:cod R M (fun j=>y (j+1))=cod R M (fun j=>z (j+1)):=by
   rw [e0] at h';exact Nat.eq_of_mul_eq_mul_left (by omega) (Nat.add_left_cancel h')
  intro j hj;cases j with
  | zero=>exact e0
  | succ j=>exact ih _ _ (fun k hk=>hy (k+1) (by omega)) (fun k hk=>hz (k+1) (by omega)) e1 j (by omega)
def gg:Nat→(Nat→Int)→Int
 | 0,_=>0
 | n+1,f=>gg n f+f n
theorem rV{n:Nat}{f:Nat→Int}{C:Nat}(h:∀ i,i<n→(f i).natAbs≤C):(gg n f).natAbs≤n*C:=by
 induction n with
 | zero=>simp [gg]
 | succ n ih =>
  have h1:=ih (fun i hi=>h i (by omega));have h2:=h n (Nat.lt_succ_self n);have h3:=Int.natAbs_add_le (gg n f) (f n);show (gg n f+f n).natAbs≤_;rw [nXx];omega
theorem uv(n:Nat)(f g:Nat→Int):gg n (fun i=>f i-g i)=gg n f-gg n g:=by
 induction n with
 | zero=>rfl
 | succ n ih=>show gg n (fun i=>f i-g i)+(f n-g n)=(gg n f+f n)-(gg n g+g n);rw [ih];omega
theorem pE{n:Nat}{f g:Nat→Int}(h:∀ i,i<n→f i=g i):gg n f=gg n g:=by
 induction n with
 | zero=>rfl
 | succ n ih=>show gg n f+f n=gg n g+g n;rw [ih (fun i hi=>h i (by omega)),h n (Nat.lt_succ_self n)]
theorem mf(n:Nat)(f:Nat→Int):((gg n f:Int):Rat)=Stab.sm n (fun i=>((f i:Int):Rat)):=by
 induction n with
 | zero=>rfl
 | succ n ih=>show ((gg n f+f n:Int):Rat)=Stab.sm n _+_;rw [Rat.intCast_add,ih]
theorem yI(M:Nat)(A:Nat→Nat→Int)(a:Nat)(ha:∀ j i,(A j i).natAbs≤a)(h1:1≤a) :
  ∃ x:Nat→Int,(∃ i,i<M+1∧x i≠0)∧(∀ i,(x i).natAbs≤(2*(M+1)*a) ^ M)∧∀ j,j<M→gg (M+1) (fun i=>A j i*x i)=0:=by
 obtain ⟨G,hG⟩:∃ G,G=2*(M+1)*a:=⟨_,rfl⟩;have hG1:1≤G:=by rw [hG];exact Nat.mul_pos (by omega) h1
 obtain ⟨B,hB⟩:∃ B,B=G ^ M:=⟨_,rfl⟩;obtain ⟨C,hC⟩:∃ C,C=(M+1)*(a*B):=⟨_,rfl⟩;have hb:0<B+1:=Nat.succ_pos _;have hsum:∀ j t,(gg (M+1) (fun i=>A j i*(dgt (B+1) i t:Nat))).natAbs≤C:=fun j t=>by
  rw [hC];refine rV fun i _=>?_
  rw [Int.natAbs_mul,nYf];exact nXw (ha j i) (Nat.le_of_lt_succ (sJ hb))
 have hR:(2*C+1)≤G*(B+1):=by
  have e:2*C=G*B:=by
   rw [hC,hG,Nat.mul_assoc 2,Nat.mul_assoc 2,Nat.mul_assoc]
  rw [e,Nat.mul_succ];omega
 have hlt:(2*C+1) ^ M<(B+1) ^ (M+1):=by
  refine nYi (Nat.pow_le_pow_left hR M) ?_;rw [Nat.mul_pow,←hB,nXt,nYc];exact Nat.mul_lt_mul_of_pos_left (Nat.lt_succ_self B) (nYk hb)
 have hy:∀ t j,j<M→(gg (M+1) (fun i=>A j i*(dgt (B+1) i t:Nat))+C).toNat<2*C+1:=fun t j _=>by
  have:=hsum j t;omega
 obtain ⟨t,u,h2,h3,h4⟩:=vD _ _ (fun t=>cod (2*C+1) M (fun j=>(gg (M+1) (fun i=>A j i*(dgt (B+1) i t:Nat))+C).toNat)) hlt (fun t _=>zJ M _ (hy t));have h5:=xR M _ _ (hy t) (hy u) h4;refine ⟨fun i=>(dgt (B+1) i t:Nat)-((dgt (B+1) i u:Nat):Int),?_,fun i=>?_,fun j hj=>?_⟩
 ·apply Classical.byContradiction;intro hn;have:=xJ hb (M+1) t u (by omega) h3 (fun i hi=>by
   have h6:¬ (((dgt (B+1) i t:Nat):Int)-((dgt (B+1) i u:Nat):Int)≠0):=fun h6=>hn ⟨i,hi,h6⟩
   omega)
  omega
 ·have a1:=sJ (i:=i) (t:=t) hb;have a2:=sJ (i:=i) (t:=u) hb;rw [←hG,←hB];show (((dgt (B+1) i t:Nat):Int)-((dgt (B+1) i u:Nat):Int)).natAbs≤B;omega
 ·have h6:=h5 j hj;have b1:=hsum j t;have b2:=hsum j u;have e:=uv (M+1) (fun i=>A j i*(dgt (B+1) i t:Nat)) (fun i=>A j i*(dgt (B+1) i u:Nat));rw [pE (g:=fun i=>A j i*(dgt (B+1) i t:Nat)-A j i*(dgt (B+1) i u:Nat)) (fun i _=>Int.mul_sub _ _ _),e];omega
end Go.Proofs.YtafgmcimcbhhjaaGreat.Sie
/- The members of Euclid's sequence of two polynomials with whole coefficients are small. Plain facts. -/
namespace Go.Proofs.YtafgmcimcbhhjaaGreat.Sg
open Go.RowKit Go.Front Go.Num Go.Stab Go.Proofs.YtafgmcimcbhhjaaGreat Sie
abbrev ln(p:List Rat):Nat:=(tz p).length
theorem xi{p:List Rat}{m:Nat}(h:∀ i,m≤i→seq p i=0):ln p≤m:=by
 by_cases h0:tz p=[]
 ·show (tz p).length≤m;rw [h0];exact Nat.zero_le _
 ·obtain ⟨n,hn,hn0⟩:=eM h0;rcases Nat.lt_or_ge n m with h1|h1
  ·show (tz p).length≤m;omega
  ·exact absurd (h n h1) hn0
theorem yt{p:List Rat}{i:Nat}(h:ln p≤i):seq p i=0:=by rw [←aN];exact aT h
theorem eL{p:List Rat}(h:tz p≠[]):1≤ln p:=nYe.2 h
theorem el(p q:List Rat):ln (aw p q)≤ln p+ln q-1:=by
 refine nXe (ag _) ?_;unfold aw;refine nXe (ag _) ?_;simp
theorem l7{p q:List Rat}(hp:tz p≠[])(hq:tz q≠[]):ln (aw p q)+1=ln p+ln q:=by
 obtain ⟨a,ha,ha0⟩:=eM hp;obtain ⟨b,hb,hb0⟩:=eM hq;have b1:Go.Proofs.YtafgmcimcbhhjaaGreat.Bd (a+1) (seq p):=by rw [←aN,←ha];exact Bd.seq _
 have b2:Go.Proofs.YtafgmcimcbhhjaaGreat.Bd (b+1) (seq q):=by rw [←aN,←hb];exact Bd.seq _
 have h1:seq (aw p q) (a+b)≠0:=by
  rw [cD,fo,mC b1 b2];intro h;rcases nXq.1 h with h|h
  ·exact ha0 h
  ·exact hb0 h
 have h2:=l9 h1;have h3:=el p q;have e1:ln p=a+1:=ha;have e2:ln q=b+1:=hb;have e3:a+b<ln (aw p q):=h2;omega
theorem l8(p q:List Rat):ln (gd p q)≤max (ln p) (ln q):=xi fun i hi=>by
 rw [et,yt (by omega),yt (by omega)];exact Rat.add_zero 0
theorem cO{p:List Rat}{c:Rat}:ln (p.map (·*c))≤ln p:=xi fun i hi=>by rw [aS,yt hi,nXy]
def gy(p q:List Rat):List Rat:=gd p (q.map (·*-1))
theorem em(p q:List Rat)(x:Rat):evV (gy p q) x=evV p x-evV q x:=by unfold gy;rw [il,bD];grind
theorem qI(p q:List Rat)(n:Nat):seq (gy p q) n=seq p n-seq q n:=by unfold gy;rw [et,aS];grind
theorem gK(p q:List Rat):ln (gy p q)≤max (ln p) (ln q):=by
 have h1:=l8 p (q.map (·*-1));have h2:=cO (p:=q) (c:=-1);unfold gy;omega
theorem cT{p q:List Rat}(h:∀ x,evV p x=evV q x):ln p=ln q:=by
 show (tz p).length=(tz q).length;rw [jp (fun n=>iG h n)]
theorem jv{p q:List Rat}(h:ln q<ln p):ln (gy p q)=ln p:=by
 have h1:=gK p q;obtain ⟨n,hn,h0⟩:=eM (p:=p) (fun h0=>by have:ln p=0:=(by show (tz p).length=0;rw [h0];rfl);omega);have e:ln p=n+1:=hn;have h2:seq (gy p q) n≠0:=by rw [qI,yt (p:=q) (by omega)];grind
 have h3:n<ln (gy p q):=l9 h2;omega
theorem Af{p:List Rat}{x:Rat}(h:evV p x≠0):tz p≠[]:=fun h0=>h (ay.1 h0 x)
structure Eu (a b c e u v u' v':List Rat) (k:Rat):Prop where
 hc:∀ x,evV c x=evV u x*evV a x+evV v x*evV b x
 he:∀ x,evV e x=evV u' x*evV a x+evV v' x*evV b x
 det:∀ x,evV u x*evV v' x-evV v x*evV u' x=k
 k0:k≠0
 lv:ln v'+ln c=ln a+1
 lu:ln u'+ln c≤ln b+1
 lv0:ln v≤ln v'
 lu0:ln u+ln e≤ln b+1
 le:ln e<ln c
 lc:ln c≤ln b
 la:ln c≤ln a
theorem vA{c e:List Rat}(he:tz e≠[])(hl:ln e≤ln c):ln (bv c e)+ln e=ln c+1:=by
 have h1:=gQ c he;have h2:ln (bq c e)<ln e:=nYi (ag _) (bW c he).1;have hq:tz (bv c e)≠[]:=fun h0=>by
  have h3:ln c=ln (bq c e):=cT fun x=>by rw [h1 x,ay.1 h0 x];grind
  omega
 have h3:=l7 hq he;have h4:ln c=ln (gy (aw (bv c e) e) ((bq c e).map (·*-1))):=cT fun x=>by rw [em,bg,bD,h1 x];grind
 have h5:=cO (p:=bq c e) (c:=-1);have h6:=eL hq;rw [jv (by omega)] at h4;omega
theorem Eu.next{a b c e u v u' v' r:List Rat}{k:Rat}(E:Eu a b c e u v u' v' k)(h0:tz e≠[])(hr:Pr r (bq c e)):∃ u'' v'' k',Eu a b e r u' v' u'' v'' k':=by
 obtain ⟨c0,hc0,hr⟩:=mw hr;have hq:=vA h0 (nYj E.le);have h1:=gQ c h0;have hlr:ln r<ln e:=by
  have h2:ln (bq c e)<ln e:=nYi (ag _) (bW c h0).1;have h3:ln r=ln ((bq c e).map (·*c0)):=cT fun x=>by rw [hr x,bD]
  have:=cO (p:=bq c e) (c:=c0);omega
 have hv':tz v'≠[]:=fun h=>by
  have h2:=E.lv;have h3:ln v'=0:=by show (tz v').length=0;rw [h];rfl
  have h4:=E.la;omega
 have hqn:tz (bv c e)≠[]:=fun h=>by
  have h3:ln (bv c e)=0:=by show (tz (bv c e)).length=0;rw [h];rfl
  have:=E.le;omega
 have hm:=l7 hqn hv';have hle:=E.le;have hlv:=E.lv;have hlu:=E.lu;have hlv0:=E.lv0;have hlu0:=E.lu0;have hmu:=el (bv c e) u';have s1:=gK u (aw (bv c e) u');have s2:ln (gy v (aw (bv c e) v'))=ln (aw (bv c e) v'):=by
  have e1:ln (gy v (aw (bv c e) v'))=ln (gy ((aw (bv c e) v').map (·*-1)) (v.map (·*-1))):=cT fun x=>by rw [em,em,bD,bD];grind
  have e2:ln ((aw (bv c e) v').map (·*-1))=ln (aw (bv c e) v'):=by
   have a1:=cO (p:=aw (bv c e) v') (c:=-1);have a2:=cO (p:=(aw (bv c e) v').map (·*-1)) (c:=-1);have a3:ln (aw (bv c e) v')=ln (((aw (bv c e) v').map (·*-1)).map (·*-1)):=cT fun x=>by rw [bD,bD];grind
   omega
  have e3:=cO (p:=v) (c:=-1);rw [e1,jv (by omega),e2]
 have t1:=cO (p:=gy u (aw (bv c e) u')) (c:=c0);have t2:ln ((gy v (aw (bv c e) v')).map (·*c0))=ln (gy v (aw (bv c e) v')):=by
  have a1:=cO (p:=gy v (aw (bv c e) v')) (c:=c0);have a2:=cO (p:=(gy v (aw (bv c e) v')).map (·*c0)) (c:=c0⁻¹);have a3:ln (gy v (aw (bv c e) v'))=ln (((gy v (aw (bv c e) v')).map (·*c0)).map (·*c0⁻¹)):=cT fun x=>by
   rw [bD,bD,←nYb,nYa c0⁻¹,nYh c0 hc0,Rat.one_mul]
  omega
 have hpe:=eL h0;refine ⟨(gy u (aw (bv c e) u')).map (·*c0),(gy v (aw (bv c e) v')).map (·*c0),-(c0*k),E.he,fun x=>?_,fun x=>?_,?_,by omega,by omega,by omega,by omega,hlr,by have:=E.lc;omega,by have:=E.la;omega⟩
 ·rw [bD,bD,em,em,bg,bg,hr x];have h2:=h1 x;rw [E.hc x,E.he x] at h2;have h3:evV (bq c e) x=(evV u x*evV a x+evV v x*evV b x)-evV (bv c e) x*(evV u' x*evV a x+evV v' x*evV b x):=by grind
  rw [h3];grind
 ·rw [bD,bD,em,em,bg,bg,←E.det x];grind
 ·intro h;have:c0*k=0:=by grind
  rcases nXq.1 this with h|h
  ·exact hc0 h
  ·exact E.k0 h
inductive Es (a b:List Rat):List Rat→List Rat→Prop
 | start {c e:List Rat} (hc:Pr c a) (he:Pr e b):Es a b c e
 | next {c e r:List Rat} (h:Es a b c e) (h0:tz e≠[]) (hr:Pr r (bq c e)):Es a b e r
theorem Es.shift{a b r c e:List Rat}(hb:tz b≠[])(hr:Pr r (bq a b))(h:Es b r c e):Es a b c e:=by
 induction h with
 | start hc he =>
  refine Es.next (Es.start (Pr.refl a) hc) (fun h=>hb (hc.nil.1 h)) ?_;exact (he.trans hr).trans (jj (Pr.refl a) hc.symm (fun h=>hb (hc.nil.1 h)))
 | next h h0 hr ih=>exact Es.next ih h0 hr
theorem Es.eu{a b c e:List Rat}(hb:tz b≠[])(hl:ln b≤ln a)(h:Es a b c e):(Pr c a∧Pr e b)∨tz e=[]∨∃ u v u' v' k,Eu a b c e u v u' v' k:=by
 induction h with
 | start hc he=>exact Or.inl ⟨hc,he⟩
 | @next c e r h h0 hr ih =>
  rcases ih with ⟨hc,he⟩|h1|⟨u,v,u',v',k,E⟩
  ·right
   by_cases hrn:tz r=[]
   ·exact Or.inl hrn
   ·right
    have e1:ln c=ln a:=hc.len;have e2:ln e=ln b:=he.len;obtain ⟨c1,hc1,hc⟩:=mw hc;obtain ⟨c2,hc2,he⟩:=mw he;obtain ⟨c0,hc0,hr'⟩:=mw hr;have h1:=gQ c h0;have hq:=vA (c:=c) h0 (by omega);have hrl:ln r<ln e:=by rw [show ln r=ln (bq c e) from hr.len];exact nYi (ag _) (bW c h0).1
    have one:∀ t:Rat,∀ x,evV [t] x=t:=fun t x=>by show 0*x+t=t;grind
    have lone:∀ t:Rat,t≠0→ln [t]=1:=fun t ht=>by
     have h2:=Af (p:=[t]) (x:=0) (by rw [one];exact ht);have h3:=eL h2;have h4:ln [t]≤1:=ag [t];omega
    have lnil:ln []=0:=rfl;have hc0c1:c0*c1≠0:=fun h=>by rcases nXq.1 h with h|h <;> contradiction
    have hcc:c0*c2≠0:=fun h=>by rcases nXq.1 h with h|h <;> contradiction
    have lq:ln ((bv c e).map (·*-(c0*c2)))=ln (bv c e):=by
     have a1:=cO (p:=bv c e) (c:=-(c0*c2));have a2:=cO (p:=(bv c e).map (·*-(c0*c2))) (c:=(-(c0*c2))⁻¹);have a3:ln (bv c e)=ln (((bv c e).map (·*-(c0*c2))).map (·*(-(c0*c2))⁻¹)):=cT fun x=>by
      rw [bD,bD,←nYb,nYa (-(c0*c2))⁻¹,nYh _ (by grind),Rat.one_mul]
     omega
    have hpe:=eL h0;refine ⟨[],[c2],[c0*c1],(bv c e).map (·*-(c0*c2)),-(c2*(c0*c1)),fun x=>?_,fun x=>?_,fun x=>?_,?_,?_,?_,?_,?_,hrl,by omega,by omega⟩
    ·rw [one,he x];show _=0*_+_;grind
    ·rw [hr' x,one,bD];have h2:=h1 x;rw [hc x,he x] at h2;have h3:evV (bq c e) x=c1*evV a x-evV (bv c e) x*(c2*evV b x):=by grind
     rw [h3];grind
    ·rw [one,one];show 0*_-_=_;grind
    ·intro h;have:c2*(c0*c1)=0:=by grind
     rcases nXq.1 this with h|h
     ·exact hc2 h
     ·exact hc0c1 h
    ·rw [lq];omega
    ·rw [lone _ hc0c1];omega
    ·rw [lone _ hc2,lq];omega
    ·rw [lnil];omega
  ·exact absurd h1 h0
  ·obtain ⟨u'',v'',k',E'⟩:=E.next h0 hr;exact Or.inr (Or.inr ⟨_,_,_,_,_,E'⟩)
theorem qF{n m:Nat}{f:Nat→Rat}(h:∀ i,n≤i→f i=0):sm n f=sm (n+m) f:=by
 rw [sm_split,sm_congr (n:=m) (g:=fun _=>0) (fun i _=>h (n+i) (by omega)),sm_zero,Rat.add_zero]
theorem oT{P:Nat}{f g:Nat→Rat}(hf:∀ i,P≤i→f i=0)(n:Nat):cv f g n=sm P (fun i=>if i≤n then f i*g (n-i) else 0):=by
 have h1:cv f g n=sm (n+1) (fun i=>if i≤n then f i*g (n-i) else 0):=sm_congr fun i hi=>by rw [if_pos (by omega)]
 rw [h1,qF (m:=P) (fun i hi=>if_neg (by omega)),nYg (n+1) P,←qF (fun i hi=>by
  rw [hf i hi];split
  ·exact nXy _
  ·rfl)]
def syl(P:Nat)(a b:Nat→Int)(n i:Nat):Int:=if i<P then (if i≤n then a (n-i) else 0) else (if i-P≤n then b (n-(i-P)) else 0)
theorem wx{P Q:Nat}{a b:List Rat}{az bz x:Nat→Int}(ha:∀ i,seq a i=((az i:Int):Rat))(hb:∀ i,seq b i=((bz i:Int):Rat))(n:Nat) :
  seq (gd (aw ((List.range P).map fun i=>((x i:Int):Rat)) a) (aw ((List.range Q).map fun i=>((x (P+i):Int):Rat)) b)) n=((gg (P+Q) (fun i=>syl P az bz n i*x i):Int):Rat):=by
 rw [et,cD,cD,fo,fo,mf,sm_split]
 congr 1
 ·rw [oT (P:=P) (fun i hi=>by unfold seq;rw [cl,if_neg (by omega)])];refine sm_congr fun i hi=>?_
  unfold syl;rw [if_pos hi];by_cases h:i≤n
  ·rw [if_pos h,if_pos h,ha,Rat.intCast_mul,nYa];unfold seq;rw [cl,if_pos hi]
  ·rw [if_neg h,if_neg h,Int.zero_mul];rfl
 ·rw [oT (P:=Q) (fun i hi=>by unfold seq;rw [cl,if_neg (by omega)])];refine sm_congr fun i hi=>?_
  unfold syl;rw [if_neg (show ¬ P+i<P by omega),show P+i-P=i by omega];by_cases h:i≤n
  ·rw [if_pos h,if_pos h,hb,Rat.intCast_mul,nYa];unfold seq;rw [cl,if_pos hi]
  ·rw [if_neg h,if_neg h,Int.zero_mul];rfl
theorem gj{S:Nat}{a:List Rat}(ha:∀ x ∈ a,Wz S x)(i:Nat):seq a i=(((seq a i).num:Int):Rat)∧(seq a i).num.natAbs<W32 ^ S:=by
 have h:Wz S (seq a i):=by
  rcases Nat.lt_or_ge i a.length with h|h
  ·exact ha _ (dR h)
  ·rw [show seq a i=0 from aT h];exact Wz.zero S
 exact ⟨h.1.eq,h.2⟩
theorem nX{a b:List Rat}{S d P Q:Nat}(ha:∀ x ∈ a,Wz S x)(hb:∀ x ∈ b,Wz S x)(hP:P+d=ln b)(hQ:Q+d=ln a)(hPQ:1≤P+Q)(hN:2*(P+Q)≤W32) :
  ∃ U V W:List Rat,ln U≤P∧ln V≤Q∧ln W≤d∧(∀ x,evV W x=evV U x*evV a x+evV V x*evV b x)∧(tz U≠[]∨tz V≠[])∧(∀ i,Wz ((S+1)*(P+Q)) (seq U i))∧(∀ i,Wz ((S+1)*(P+Q)) (seq V i))∧∀ i,Wz ((S+1)*(P+Q)) (seq W i):=by
 obtain ⟨M,hM⟩:∃ M,P+Q=M+1:=⟨P+Q-1,by omega⟩;have hA1:1≤W32 ^ S:=nYk au;obtain ⟨x,⟨i0,hi0,hx0⟩,hxb,hxe⟩:=yI M (fun j i=>syl P (fun i=>(seq a i).num) (fun i=>(seq b i).num) (d+j) i) (W32 ^ S) (fun j i=>by
  unfold syl;split
  ·split
   ·exact nYj (gj ha _).2
   ·exact Nat.zero_le _
  ·split
   ·exact nYj (gj hb _).2
   ·exact Nat.zero_le _) hA1
 have hseq:=wx (P:=P) (Q:=Q) (a:=a) (b:=b) (x:=x) (fun i=>(gj ha i).1) (fun i=>(gj hb i).1);have hG:2*(M+1)*W32 ^ S≤W32 ^ (S+1):=by
  rw [nXt,nYc];exact nXf _ (by omega)
 have hGM:(2*(M+1)*W32 ^ S) ^ (M+1)≤W32 ^ ((S+1)*(P+Q)):=by
  rw [hM,Nat.pow_mul];exact Nat.pow_le_pow_left hG _
 have hG1:1≤2*(M+1)*W32 ^ S:=Nat.mul_pos (by omega) hA1;have hG2:1<2*(M+1)*W32 ^ S:=by
  have:2*(M+1)*1≤2*(M+1)*W32 ^ S:=nXf _ hA1;omega
 have hxw:∀ i,Wz ((S+1)*(P+Q)) ((x i:Int):Rat):=fun i=>Wz.int (nXm (nYi (hxb i) (Nat.pow_lt_pow_right hG2 (Nat.lt_succ_self M))) hGM)
 refine ⟨(List.range P).map fun i=>((x i:Int):Rat),(List.range Q).map fun i=>((x (P+i):Int):Rat),gd (aw ((List.range P).map fun i=>((x i:Int):Rat)) a) (aw ((List.range Q).map fun i=>((x (P+i):Int):Rat)) b),?_,?_,?_,fun y=>(by rw [il,bg,bg]),?_,?_,?_,?_⟩
 ·exact nXe (ag _) (by simp)
 ·exact nXe (ag _) (by simp)
 ·refine xi fun n hn=>?_
  by_cases h1:n<d+M
  ·obtain ⟨j,rfl⟩:∃ j,n=d+j:=⟨n-d,by omega⟩;rw [hseq,hM,hxe j (by omega)];rfl
  ·refine yt (nXe (l8 _ _) ?_);have l1:=el ((List.range P).map fun i=>((x i:Int):Rat)) a;have l2:=el ((List.range Q).map fun i=>((x (P+i):Int):Rat)) b;have l3:ln ((List.range P).map fun i=>((x i:Int):Rat))≤P:=nXe (ag _) (by simp);have l4:ln ((List.range Q).map fun i=>((x (P+i):Int):Rat))≤Q:=nXe (ag _) (by simp);omega
 ·rcases Nat.lt_or_ge i0 P with h|h
  ·left
   refine nYe.1 (nYi (Nat.zero_le i0) (l9 ?_));unfold seq;rw [cl,if_pos h];exact fun h=>hx0 (Rat.intCast_eq_zero_iff.1 h)
  ·right
   refine nYe.1 (nYi (Nat.zero_le (i0-P)) (l9 ?_));unfold seq;rw [cl,if_pos (by omega),show P+(i0-P)=i0 by omega];exact fun h=>hx0 (Rat.intCast_eq_zero_iff.1 h)
 ·intro i;unfold seq;rw [cl];split
  ·exact hxw i
  ·exact Wz.zero _
 ·intro i;unfold seq;rw [cl];split
  ·exact hxw _
  ·exact Wz.zero _
 ·intro n;rw [hseq,hM];refine Wz.int (nXm (nYi (rV (C:=W32 ^ S*(2*(M+1)*W32 ^ S) ^ M) (fun i _=>?_)) ?_) (by rw [←hM];exact hGM))
  ·rw [Int.natAbs_mul];refine nXw ?_ (hxb i);unfold syl;split
   ·split
    ·exact nYj (gj ha _).2
    ·exact Nat.zero_le _
   ·split
    ·exact nYj (gj hb _).2
    ·exact Nat.zero_le _
  ·rw [nXt,←Nat.mul_assoc,nYc ((2*(M+1)*W32 ^ S) ^ M)];refine Nat.mul_lt_mul_of_pos_right ?_ (nYk hG1);have h2:0<(M+1)*W32 ^ S:=Nat.mul_pos (Nat.succ_pos _) hA1;rw [Nat.mul_assoc 2];omega
theorem qB{p q:List Rat}{c:Rat}(hc:c<0)(h:∀ n,seq p n=seq q n*c):aA p=aA (q.map (·*-1)) :=
 dH (c:=-c) (by grind) (fun n=>by rw [h,aS];grind)
theorem uQ{a b c e u v u' v':List Rat}{k:Rat}{S:Nat}(E:Eu a b c e u v u' v' k)(he:tz e≠[])(ha:∀ x ∈ a,Wz S x)(hb:∀ x ∈ b,Wz S x)(hN:2*(ln a+ln b)≤W32):∀ x ∈ aA e,Wz ((S+1)*(ln a+ln b)) x:=by
 have hle:=E.le;have hlc:=E.lc;have hla:=E.la;have hlv:=E.lv;have hpe:=eL he;obtain ⟨d,hd⟩:∃ d,ln c=d+1:=⟨ln c-1,by omega⟩;obtain ⟨U,V,W,hU,hV,hW,hev,hne,-,-,hWz⟩:=nX (S:=S) (d:=d) (P:=ln b-d) (Q:=ln a-d) ha hb (by omega) (by omega) (by omega) (by omega);have c1:∀ x,evV u' x*evV V x=evV U x*evV v' x:=by
  by_cases hT:tz (gy (aw u' V) (aw U v'))=[]
  ·intro x;have:=ay.1 hT x;rw [em,bg,bg] at this;grind
  ·exfalso;have hta:tz a≠[]:=fun h=>by
    have:ln a=0:=by show (tz a).length=0;rw [h];rfl
    omega
   have h1:=l7 hta hT;have h2:=eL hT;have h3:ln (aw a (gy (aw u' V) (aw U v')))=ln (gy (aw e V) (aw W v')):=cT fun x=>by
    rw [bg,em,em,bg,bg,bg,bg,hev,E.he];grind
   have h4:=gK (aw e V) (aw W v');have h5:=el e V;have h6:=el W v';omega
 obtain ⟨m,hm⟩:∃ m,m=gy (aw u V) (aw v U):=⟨_,rfl⟩;have hmx:∀ x,evV m x=evV u x*evV V x-evV v x*evV U x:=fun x=>by rw [hm,em,bg,bg]
 have kV:∀ x,k*evV V x=evV m x*evV v' x:=fun x=>by rw [←E.det x,hmx];have:=c1 x;grind
 have kU:∀ x,k*evV U x=evV m x*evV u' x:=fun x=>by rw [←E.det x,hmx];have:=c1 x;grind
 have kW:∀ x,k*evV W x=evV m x*evV e x:=fun x=>by
  have h1:=kV x;have h2:=kU x;rw [hev,E.he];grind
 have hk:=E.k0;have hmn:tz m≠[]:=fun h=>by
  have z:∀ {f:List Rat} {g:List Rat},(∀ x,k*evV f x=evV m x*evV g x)→tz f=[]:=fun {f g} h1=>ay.2 fun x=>by
   have h2:=h1 x;rw [ay.1 h x,nXy] at h2;rcases nXq.1 h2 with h3|h3
   ·exact absurd h3 hk
   ·exact h3
  rcases hne with h1|h1
  ·exact h1 (z kU)
  ·exact h1 (z kV)
 have hv':tz v'≠[]:=fun h=>by
  have:ln v'=0:=by show (tz v').length=0;rw [h];rfl
  omega
 have h1:=l7 hmn hv';have h2:ln (aw m v')=ln (V.map (·*k)):=cT fun x=>by rw [bg,bD,kV]
 have h3:=cO (p:=V) (c:=k);have h4:=ii (p:=m) (by show ln m≤1;omega);have h5:seq m 0≠0:=fun h=>hmn (ay.2 fun x=>by rw [h4 x,h])
 have h6:∀ n,seq e n=seq W n*(k / seq m 0):=fun n=>by
  have h7:=iG (p:=W.map (·*k)) (q:=e.map (·*seq m 0)) (fun x=>by rw [bD,bD,kW,h4]) n;rw [aS,aS] at h7;have h8:=aQ (a:=k) h5;have h9:(seq e n-seq W n*(k / seq m 0))*seq m 0=0:=by grind
  rcases nXq.1 h9 with h|h
  ·grind
  ·contradiction
 have hx:k / seq m 0≠0:=fun h=>by
  have h8:=aQ (a:=k) h5;rw [h,nXy] at h8;exact hk h8.symm
 have hl:(S+1)*(ln b-d+(ln a-d))≤(S+1)*(ln a+ln b):=nXf _ (by omega);have hall:∀ {l:List Rat},(∀ i,Wz ((S+1)*(ln b-d+(ln a-d))) (seq l i))→∀ x ∈ aA l,Wz ((S+1)*(ln a+ln b)) x:=fun {l} h x hx=>(eJ (D:=1) (fun y hy=>by
  obtain ⟨i,hi,rfl⟩:=dA hy;rw [aG];exact Fr.one (h i)) (by decide) x hx).mono hl
 rcases tri (k / seq m 0) 0 with h|h|h
 ·rw [qB h h6];exact hall fun i=>by rw [aS,show seq W i*-1=-seq W i by grind];exact (hWz i).neg
 ·exact absurd h hx
 ·rw [dH h h6];exact hall hWz
theorem nf{a b:List Rat}{L:Nat}(h:Pr a b)(hb:∀ x ∈ b,Wz L x):∀ x ∈ aA a,Wz L x:=by
 obtain ⟨c,hc,h⟩:=h;have hall:∀ {l:List Rat},(∀ i,Wz L (seq l i))→∀ x ∈ aA l,Wz L x:=fun {l} h x hx=>eJ (D:=1) (fun y hy=>by
  obtain ⟨i,hi,rfl⟩:=dA hy;rw [aG];exact Fr.one (h i)) (by decide) x hx
 have hw:∀ i,Wz L (seq b i):=fun i=>⟨by rw [(gj hb i).1];exact Wh.int _,(gj hb i).2⟩
 rcases tri c 0 with h0|h0|h0
 ·rw [qB (q:=b) h0 (fun n=>by rw [h n];grind)];exact hall fun i=>by rw [aS,show seq b i*-1=-seq b i by grind];exact (hw i).neg
 ·exact absurd h0 hc
 ·rw [dH (q:=b) h0 (fun n=>by rw [h n];grind)];exact hall hw
def Eg(L:Nat)(a b:List Rat):Prop:=∀ c e,Es a b c e→∀ x ∈ aA e,Wz L x
theorem vT{a b:List Rat}{S:Nat}(ha:∀ x ∈ a,Wz S x)(hb:∀ x ∈ b,Wz S x)(hbn:tz b≠[])(hl:ln b≤ln a)(hN:2*(ln a+ln b)≤W32):Eg ((S+1)*(ln a+ln b)) a b:=by
 intro c e h;have hp:=eL hbn;have hS:S≤(S+1)*(ln a+ln b):=by
  have:(S+1)*1≤(S+1)*(ln a+ln b):=nXf _ (by omega);omega
 rcases h.eu hbn hl with ⟨-,he⟩|he|⟨u,v,u',v',k,E⟩
 ·intro x hx;exact (nf he hb x hx).mono hS
 ·rw [show aA e=[] from bV.2 he];intro x hx;simp at hx
 ·by_cases he:tz e=[]
  ·rw [show aA e=[] from bV.2 he];intro x hx;simp at hx
  ·exact uQ E he ha hb hN
theorem Eg.next{L:Nat}{a b r:List Rat}(h:Eg L a b)(hb:tz b≠[])(hr:Pr r (bq a b)):Eg L b r:=fun c e hs=>h c e (hs.shift hb hr)
theorem Eg.snd{L:Nat}{a b:List Rat}(h:Eg L a b):∀ x ∈ aA b,Wz L x:=h a b (Es.start (Pr.refl a) (Pr.refl b))
theorem zP{a b:List Rat}{S:Nat}(ha:∀ x ∈ a,Wz S x)(hb:∀ x ∈ b,Wz S x)(hla:2≤ln a)(hlb:1≤ln b)(hc:Cp (evV a) (evV b))(hN:2*(ln a+ln b)≤W32) :
  ∃ (U V:List Rat) (w:Rat),w≠0∧ln U≤ln b∧ln V≤ln a∧(∀ x,evV U x*evV a x+evV V x*evV b x=w)∧(∀ i,Wz ((S+1)*(ln a+ln b)) (seq U i))∧(∀ i,Wz ((S+1)*(ln a+ln b)) (seq V i))∧Wz ((S+1)*(ln a+ln b)) w:=by
 obtain ⟨U,V,W,hU,hV,hW,hev,hne,hUz,hVz,hWz⟩:=nX (S:=S) (d:=1) (P:=ln b-1) (Q:=ln a-1) ha hb (by omega) (by omega) (by omega) (by omega);have hl:(S+1)*(ln b-1+(ln a-1))≤(S+1)*(ln a+ln b):=nXf _ (by omega);have h4:=ii (p:=W) hW;refine ⟨U,V,seq W 0,fun h0=>?_,by omega,by omega,fun x=>by rw [←hev,h4],fun i=>(hUz i).mono hl,fun i=>(hVz i).mono hl,(hWz 0).mono hl⟩;have h5:∀ x,evV U x*evV a x+evV V x*evV b x=0:=fun x=>by rw [←hev,h4,h0]
 have hta:tz a≠[]:=fun h=>by
  have:ln a=0:=by show (tz a).length=0;rw [h];rfl
  omega
 have hV0:tz V=[]:=Classical.byContradiction fun hn=>by
  have h6:Dv (evV a) (evV V):=hc.dv (Pf.ev V) ⟨_,(Pf.ev U).smul (-1),fun x=>by have:=h5 x;grind⟩;have h7:=jD h6 hn;have h8:ln a≤ln V:=h7;omega
 have hU0:tz U=[]:=ay.2 fun x=>by
  have h6:=gG (f:=evV a) (g:=evV U) (h:=fun _=>0) (Pf.ev a) (Pf.ev U) (Pf.const 0) (fun x=>by have:=h5 x;rw [ay.1 hV0 x] at this;grind) (nm hta) x;exact h6
 rcases hne with h|h
 ·exact h hU0
 ·exact h hV0
end Go.Proofs.YtafgmcimcbhhjaaGreat.Sg
/- Sizes in Euclid's algorithm: with a factor of 3 a round, or by the bound of all members. Plain facts. -/
namespace Go.Proofs.YtafgmcimcbhhjaaGreat
open Go.RowKit Go.Front Go.Num Stab Sg
theorem ju{p:List Rat}{x:Rat}(h:x ∈ tz p):x ∈ p:=by
 rw [eV p] at h;exact List.mem_of_mem_take h
theorem qr(d:Nat)(hd:1≤d):2+d≤3 ^ d:=by
 induction d with
 | zero=>omega
 | succ d ih =>
  rcases Nat.eq_zero_or_pos d with h|h
  ·subst h;decide
  ·have:=ih h;rw [nXt];omega
theorem xr(la lb:Nat):(1+(la+1-lb))*3 ^ lb≤3 ^ max la (lb+1):=by
 rcases Nat.lt_or_ge lb la with h|h
 ·obtain ⟨d,rfl⟩:∃ d,la=lb+d:=⟨la-lb,by omega⟩;rw [show max (lb+d) (lb+1)=lb+d by omega,Nat.pow_add,nYc];exact nXf _ (by have:=qr d (by omega);omega)
 ·rw [show max la (lb+1)=lb+1 by omega,nXt,nYc];exact nXf _ (by omega)
theorem uD{X la lb lr L:Nat}(h:(X+1)*3 ^ max la (lb+1)≤L)(hr:lr+1≤lb):(X+(la+1-lb)*(X+1)+1)*3 ^ max lb (lr+1)≤L:=by
 have h1:X+(la+1-lb)*(X+1)+1=(X+1)*(1+(la+1-lb)):=by rw [Nat.mul_add (X+1) 1,nYc (X+1) (la+1-lb)];omega
 rw [h1,Nat.mul_assoc,show max lb (lr+1)=lb by omega];exact nXe (nXf _ (xr la lb)) h
theorem qA(p:List Rat):aA (aA p)=aA p:=by
 by_cases h:tz p=[]
 ·rw [bV.2 h];rfl
 ·exact (dH (p:=p) (q:=aA p) (bL h) (fun n=>by rw [df p n];grind)).symm
def Zk(K X:Nat)(a b:List Rat):Prop:=(X+1)*3 ^ max a.length (b.length+1)≤K∨(Eg X a b∧3*((X+1)*(max a.length b.length+3))≤K)
theorem Zk.small{K X:Nat}{a b:List Rat}(h:Zk K X a b):X+1≤K:=by
 rcases h with h|⟨-,h⟩
 ·have:X+1≤(X+1)*3 ^ max a.length (b.length+1):=Nat.le_mul_of_pos_right _ (nYk (by decide));omega
 ·have:(X+1)*1≤(X+1)*(max a.length b.length+3):=nXf _ (by omega);omega
theorem Zk.dsz{K X:Nat}{a b:List Rat}(h:Zk K X a b):X+(a.length+1)*(X+1)≤K:=by
 have h4:(X+1)*(a.length+2)≤K:=by
  rcases h with h|⟨-,h⟩
  ·have h2:a.length+2≤3 ^ max a.length (b.length+1):=by
    have h3:=qr (max a.length (b.length+1)) (by omega);omega
   exact nXe (nXf _ h2) h
  ·have:(X+1)*(a.length+2)≤(X+1)*(max a.length b.length+3):=nXf _ (by omega);omega
 rw [show (a.length+1)*(X+1)=(X+1)*(a.length+1) from nYc _ _];rw [show a.length+2=(a.length+1)+1 from rfl,Nat.mul_succ] at h4;omega
theorem Zk.next{K X:Nat}{a b r:List Rat}(h:Zk K X a b)(hbt:tz b=b)(hb:b≠[])(hr:Pr r (bq a b))(hs:aA r=r)(hl:r.length<b.length)(hw:∀ x ∈ r,Wz (X+(a.length+1-b.length)*(X+1)) x):∃ X',X≤X'∧Zk K X' b r∧∀ x ∈ r,Wz X' x:=by
 rcases h with h|⟨hE,h⟩
 ·exact ⟨_,Nat.le_add_right _ _,Or.inl (uD h (by omega)),hw⟩
 ·have hE2:=hE.next (by rw [hbt];exact hb) hr;refine ⟨X,nXd _,Or.inr ⟨hE2,?_⟩,by have:=hE2.snd;rwa [hs] at this⟩;have:(X+1)*(max b.length r.length+3)≤(X+1)*(max a.length b.length+3):=nXf _ (by omega);omega
def GZ(K S:Nat)(p q:List Rat):Prop:=∃ X,S≤X∧Zk K X (aA p) (aA q)
theorem zm{K S P Q:Nat}{p q:List Rat}(hp:p.length≤P)(hq:q.length≤Q)(h:(S+1)*3 ^ max P (Q+1)≤K):GZ K S p q:=by
 have h1:=ag p;have h2:=ag q;exact ⟨S,nXd _,Or.inl (nXe (nXf _ (nXo (by decide) (by rw [aK,aK];omega))) h)⟩
theorem xD{a b:List Rat}{S:Nat}(ha:∀ x ∈ a,Wz S x)(hb:∀ x ∈ b,Wz S x)(hN:2*(ln a+ln b)≤W32):Eg ((S+1)*(ln a+ln b)) a b:=by
 by_cases hbn:tz b=[]
 ·intro c e h;cases h with
  | start hc he=>rw [show aA e=[] from bV.2 (he.nil.2 hbn)];intro x hx;simp at hx
  | @next c' e' r h h0 hr =>
   exfalso;have key:∀ c e,Es a b c e→tz e=[]:=by
    intro c e h;induction h with
    | start hc he=>exact he.nil.2 hbn
    | next h h0 hr ih=>exact absurd ih h0
   exact h0 (key _ _ h)
 ·rcases Nat.lt_or_ge (ln a) (ln b) with hl|hl
  ·-- the first remainder is a itself
   have hrem:Pr a (bq a b):=by
    have h1:=bW a hbn;have hq:tz (bv a b)=[]:=Classical.byContradiction fun hq=>by
     have h2:=l7 hq hbn;have h3:ln (gy (aw (bv a b) b) ((bq a b).map (·*-1)))=ln a:=cT fun x=>by rw [em,bg,bD,gQ a hbn x];grind
     have h4:ln (bq a b)<ln b:=nYi (ag _) h1.1;have h5:=cO (p:=bq a b) (c:=-1);have h6:=eL hq;rw [jv (by omega)] at h3;omega
    refine ⟨1,by decide,fun n=>?_⟩;exact iG (p:=a) (q:=(bq a b).map (·*1)) (fun x=>by rw [bD,gQ a hbn x,ay.1 hq x];grind) n |>.trans (by rw [aS];grind)
   have hS:S≤(S+1)*(ln a+ln b):=by
    have hp:=eL hbn;have:(S+1)*1≤(S+1)*(ln a+ln b):=nXf _ (by omega);omega
   by_cases han:tz a=[]
   ·intro c e h;have key:∀ c e,Es a b c e→(Pr c a∧Pr e b)∨tz e=[]:=by
     intro c e h;induction h with
     | start hc he=>exact Or.inl ⟨hc,he⟩
     | @next c e r h h0 hr ih =>
      rcases ih with ⟨hc,he⟩|h1
      ·exact Or.inr (hr.nil.2 ((jj hc he hbn).nil.2 (hrem.nil.1 han)))
      ·exact absurd h1 h0
    rcases key c e h with ⟨-,h1⟩|h1
    ·intro x hx;exact (nf h1 hb x hx).mono hS
    ·rw [show aA e=[] from bV.2 h1];intro x hx;simp at hx
   ·have hE:=vT hb ha han (nYj hl) (by omega);rw [nYg (ln b)] at hE;intro c e h;have key:∀ c e,Es a b c e→(Pr c a∧Pr e b)∨Es b a c e:=by
     intro c e h;induction h with
     | start hc he=>exact Or.inl ⟨hc,he⟩
     | @next c e r h h0 hr ih =>
      right
      rcases ih with ⟨hc,he⟩|h1
      ·exact Es.start he (hr.trans ((jj hc he hbn).trans hrem.symm))
      ·exact Es.next h1 h0 hr
    rcases key c e h with ⟨-,h1⟩|h1
    ·intro x hx;exact (nf h1 hb x hx).mono hS
    ·exact hE c e h1
  ·exact vT ha hb hbn hl hN
theorem zl{K S D E P Q:Nat}{p q:List Rat}(hD:0<D)(hE:0<E)(hp:FrL S D p)(hq:FrL S E q)(hpl:p.length≤P)(hql:q.length≤Q)(hN:2*(P+Q)≤4294967296)(h:3*(((S+1)*(P+Q)+S+1)*(P+Q+3))≤K):GZ K S p q:=by
 have h1:=ag p;have h2:=ag q;have wa:∀ x ∈ aA p,Wz S x:=eJ (fun x hx=>hp x (ju hx)) hD;have wb:∀ x ∈ aA q,Wz S x:=eJ (fun x hx=>hq x (ju hx)) hE;have la:ln (aA p)≤P:=by show (tz (aA p)).length≤P;rw [bC,aK];omega
 have lb:ln (aA q)≤Q:=by show (tz (aA q)).length≤Q;rw [bC,aK];omega
 have hE:=xD wa wb (by show _≤4294967296;omega);refine ⟨(S+1)*(P+Q)+S,by omega,Or.inr ⟨fun c e hs x hx=>(hE c e hs x hx).mono ?_,?_⟩⟩
 ·have:(S+1)*(ln (aA p)+ln (aA q))≤(S+1)*(P+Q):=nXf _ (by omega);omega
 ·rw [aK,aK];have:((S+1)*(P+Q)+S+1)*(max (tz p).length (tz q).length+3)≤((S+1)*(P+Q)+S+1)*(P+Q+3):=nXf _ (by omega);omega
def GcI(K:Nat)(p q a b:List Rat)(X:Nat):Prop:=tz a=a∧tz b=b∧(∀ x ∈ a,Wz X x)∧(∀ x ∈ b,Wz X x)∧1≤X∧Zk K X a b∧mq b.length (bj a) (bj b)=dq p q∧a.length≤100000∧b.length≤100000
theorem GcI.small{K:Nat}{p q a b:List Rat}{X:Nat}(h:GcI K p q a b X):X+1≤K:=h.2.2.2.2.2.1.small
theorem GcI.dsz{K:Nat}{p q a b:List Rat}{X:Nat}(h:GcI K p q a b X):X+(a.length+1)*(X+1)≤K:=h.2.2.2.2.2.1.dsz
theorem GcI.next{K:Nat}{p q a b s r:List Rat}{f:Rat}{X:Nat}(h:GcI K p q a b X)(hb:b≠[])(hd:DvP a b X X s r f):∃ X',GcI K p q b (aA r) X':=by
 obtain ⟨h1,h2,h3,h4,h5,h6,h7,h8,h9⟩:=h;obtain ⟨d0,d1,d2,d3,d4,d5,d6,d7⟩:=hd;have hl:(aA r).length=r.length:=by rw [aK,d4]
 have hbt:tz b≠[]:=by rw [h2];exact hb
 have hpr:Pr (aA r) (bq a b):=(gA r).trans (kL hbt d0 (Bd.seq s) (by rw [h2];exact d5) d7);obtain ⟨X',g1,g2,g3⟩:=h6.next h2 hb hpr (qA r) (by omega) (eJ (D:=1) (fun x hx=>by
  have hw:=d3 x (by rw [d4] at hx;exact hx);exact Fr.one hw) (by decide))
 exact ⟨X',h2,bC r,fun x hx=>(h4 x hx).mono g1,g3,by omega,g2,by rw [←sf h2 hb d0 d5 d7,h7],h9,by omega⟩
theorem GcI.start{K S D E:Nat}{p q:List Rat}(hS:1≤S)(hD:0<D)(hE:0<E)(hp:FrL S D p)(hq:FrL S E q)(hg:GZ K S p q)(hpl:p.length≤100000)(hql:q.length≤100000):∃ X,GcI K p q (aA p) (aA q) X:=by
 obtain ⟨X,h1,h2⟩:=hg;have e1:=ag p;have e2:=ag q;exact ⟨X,bC p,bC q,fun x hx=>(eJ (fun x hx=>hp x (ju hx)) hD x hx).mono h1,fun x hx=>(eJ (fun x hx=>hq x (ju hx)) hE x hx).mono h1,by omega,h2,sj p q,by rw [aK];omega,by rw [aK];omega⟩
def GcR(K:Nat)(g:List Rat):Prop:=∃ X D,FrL X D g∧1≤X∧0<D∧D<W32 ^ X∧((X+1)*3 ^ max g.length 1≤K∨3*((X+1)*(g.length+3))≤K)
theorem GcR.small{K:Nat}{g:List Rat}{X:Nat}(h:(X+1)*3 ^ max g.length 1≤K∨3*((X+1)*(g.length+3))≤K):X+1≤K / 3:=by
 rcases h with h|h
 ·have h1:(X+1)*3≤(X+1)*3 ^ max g.length 1:=nXf _ (by
   have:=nXo (n:=3) (by decide) (show 1≤max g.length 1 by omega);omega)
  omega
 ·have h1:(X+1)*1≤(X+1)*(g.length+3):=nXf _ (by omega);omega
theorem GcI.done{K:Nat}{p q a b:List Rat}{X:Nat}(h:GcI K p q a b X)(hb:b=[]):GcR K (dq p q):=by
 obtain ⟨h1,h2,h3,h4,h5,h6,h7,h8,h9⟩:=h;subst hb;have e:dq p q=bj a:=h7.symm;have hf:FrL X 1 a:=fun x hx=>Fr.one (h3 x hx)
 rw [e];have hsz:∀ n,n≤a.length→(X+1)*3 ^ max n 1≤K∨3*((X+1)*(n+3))≤K:=fun n hn=>by
  rcases h6 with h6|⟨-,h6⟩
  ·exact Or.inl (nXe (nXf _ (nXo (by decide) (by simp only [List.length_nil];omega))) h6)
  ·right
   have:(X+1)*(n+3)≤(X+1)*(max a.length ([]:List Rat).length+3):=nXf _ (by omega);omega
 by_cases ha:tz a=[]
 ·have:bj a=[]:=by unfold bj;rw [if_pos ha]
  rw [this];exact ⟨X,1,fun x hx=>by simp at hx,h5,by decide,Nat.one_lt_pow (by omega) (by decide),hsz _ (by simp)⟩
 ·exact ⟨X,ldD (tz a) 1,rJ hf,h5,kY hf.tz (bR ha) (by decide),oK hf.tz,hsz _ (by rw [cm,h1];exact nXd _)⟩
def RmI(K:Nat)(a b:List Rat)(X:Nat):Prop:=tz a=a∧tz b=b∧(∀ x ∈ a,Wz X x)∧(∀ x ∈ b,Wz X x)∧1≤X∧Zk K X a b∧(a=[]∨b.length<a.length)∧a.length≤100000∧b.length≤100000
theorem RmI.small{K:Nat}{a b:List Rat}{X:Nat}(h:RmI K a b X):X+1≤K:=h.2.2.2.2.2.1.small
theorem RmI.dsz{K:Nat}{a b:List Rat}{X:Nat}(h:RmI K a b X):X+(a.length+1)*(X+1)≤K:=h.2.2.2.2.2.1.dsz
theorem RmI.next{K:Nat}{a b s r:List Rat}{f:Rat}{X:Nat}(h:RmI K a b X)(hb:b≠[])(hf:0<f)(hd:DvP a b X X s r f):aA (r.map (·*-1))=aA ((bq a b).map (·*-1))∧∃ X',RmI K b (aA (r.map (·*-1))) X':=by
 obtain ⟨h1,h2,h3,h4,h5,h6,h7,h8,h9⟩:=h;obtain ⟨d0,d1,d2,d3,d4,d5,d6,d7⟩:=hd;have hm:tz (r.map (·*-1))=r.map (·*-1):=by rw [eW (by decide),d4]
 have hl:(aA (r.map (·*-1))).length=r.length:=by rw [aK,hm,nXk]
 have hbt:tz b≠[]:=by rw [h2];exact hb
 have hpr:Pr (aA (r.map (·*-1))) (bq a b):=((gA _).trans ⟨-1,by decide,fun n=>by rw [aS];grind⟩).trans (kL hbt d0 (Bd.seq s) (by rw [h2];exact d5) d7);obtain ⟨X',g1,g2,g3⟩:=h6.next h2 hb hpr (qA _) (by omega) (eJ (D:=1) (fun x hx=>by
  rw [hm] at hx;obtain ⟨y,hy,rfl⟩:=nYd.1 hx;have hw:=(d3 y hy).neg;rw [show y*-1=-y by grind];exact Fr.one hw) (by decide))
 exact ⟨kg (by rw [h2];exact hb) hf (by rw [h2];exact d5) d7,X',h2,bC _,fun x hx=>(h4 x hx).mono g1,g3,by omega,g2,Or.inr (by omega),h9,by omega⟩
def KZ(K S n:Nat):Prop:=(S+2)*3 ^ n≤K∨3*(((S+2)*(2*n)+S+2)*(2*n+3))≤K
theorem KZ.small{K S n:Nat}(h:KZ K S n):S+2≤K:=by
 rcases h with h|h
 ·exact nXe (Nat.le_mul_of_pos_right _ (nYk (by decide))) h
 ·have:((S+2)*(2*n)+S+2)*1≤((S+2)*(2*n)+S+2)*(2*n+3):=nXf _ (by omega);omega
theorem KZ.small3{K S n:Nat}(hn:1≤n)(h:KZ K S n):S+2≤K / 3:=by
 rcases h with h|h
 ·have h1:(S+2)*3≤(S+2)*3 ^ n:=nXf _ (by
   have:=nXo (n:=3) (by decide) hn;omega)
  omega
 ·have:((S+2)*(2*n)+S+2)*1≤((S+2)*(2*n)+S+2)*(2*n+3):=nXf _ (by omega);omega
end Go.Proofs.YtafgmcimcbhhjaaGreat
/- Py6, Py7, Py8 -/
namespace Go.Proofs.YtafgmcimcbhhjaaGreat
open Go.RowKit Go.Front Go.Num Stab
attribute [local go_sem] XW.cell XW.frozen
abbrev QT(x:SH×SH):Value:=.tuple #[x.1.v,x.2.v,.int .i64 0]
end Go.Proofs.YtafgmcimcbhhjaaGreat
