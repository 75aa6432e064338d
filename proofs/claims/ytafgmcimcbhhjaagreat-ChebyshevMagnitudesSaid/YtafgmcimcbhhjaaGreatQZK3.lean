/- Polynomial functions over the rationals: divisors, coprime ones, the greatest common divisor, the polynomial with the same roots, each once. Plain facts. -/
import Derived.Test.YtafgmcimcbhhjaaGreatQZK2
import Derived.Test.YtafgmcimcbhhjaaGreatQZM22
set_option linter.unusedVariables false
namespace Go.Proofs.YtafgmcimcbhhjaaGreat.Sg
open Go.RowKit Go.Front Go.Num Go.Stab Go.Proofs.YtafgmcimcbhhjaaGreat
theorem sv{r a b:List Rat}{c:Rat}(h:∀ i,seq r i=c*seq a i+seq b i)(x:Rat):evV r x=c*evV a x+evV b x:=by
 obtain ⟨N,h1,h2,h3⟩:∃ N,r.length≤N∧a.length≤N∧b.length≤N:=⟨r.length+a.length+b.length,by omega,by omega,by omega⟩;rw [kj h1,kj h2,kj h3,←sm_mul,←fN];exact sm_congr (fun i _=>by rw [h];grind)
theorem jh(r:List Rat):seq (0 :: r)=sh (seq r):=by funext n;cases n <;> rfl
theorem Au(p:List Rat){q r:List Rat}(h:∀ n,seq r n=cv (seq p) (seq q) n)(x:Rat):evV r x=evV p x*evV q x:=by
 induction p generalizing r with
 | nil =>
  have e:evV r x=0*evV [] x:=fQ (fun i=>by rw [h i,←fo];show (0:Rat)=0*_;grind) x;rw [e];show (0:Rat)*_=(0:Rat)*_;grind
 | cons c p ih =>
  have e1:evV (aw p q) x=evV p x*evV q x:=ih (fun n=>by rw [cD,fo]);have e2:evV r x=c*evV q x+evV (0 :: aw p q) x:=sv (fun i=>by
   rw [h i,←fo,jh,cD];rfl) x
  rw [e2,ik,e1,ik];grind
theorem bg(p q:List Rat)(x:Rat):evV (aw p q) x=evV p x*evV q x:=Au p (fun n=>by rw [cD,fo]) x
theorem et(p q:List Rat)(n:Nat):seq (gd p q) n=seq p n+seq q n:=by
 unfold gd;rw [aN];show ((List.range (max p.length q.length)).map (fun i=>p.getD i 0+q.getD i 0)).getD n 0=p.getD n 0+q.getD n 0;rw [cl];split
 ·rfl
 ·rw [aT (l:=p) (by omega),aT (l:=q) (by omega)];exact (Rat.add_zero 0).symm
theorem il(p q:List Rat)(x:Rat):evV (gd p q) x=evV p x+evV q x:=by
 have:=sv (r:=gd p q) (a:=p) (b:=q) (c:=1) (fun i=>by rw [et];grind) x;rw [this];grind
theorem bD(p:List Rat)(c x:Rat):evV (p.map (·*c)) x=c*evV p x:=fQ (fun i=>by rw [aS];grind) x
def Pf(f:Rat→Rat):Prop:=∃ p,f=evV p
theorem Pf.ev(p:List Rat):Pf (evV p):=⟨p,rfl⟩
theorem Pf.const(c:Rat):Pf (fun _=>c):=⟨[c],funext fun x=>by show c=0*x+c;grind⟩
theorem Pf.add{f g:Rat→Rat}(hf:Pf f)(hg:Pf g):Pf (fun x=>f x+g x):=by
 obtain ⟨p,rfl⟩:=hf;obtain ⟨q,rfl⟩:=hg;exact ⟨gd p q,funext fun x=>(il p q x).symm⟩
theorem Pf.mul{f g:Rat→Rat}(hf:Pf f)(hg:Pf g):Pf (fun x=>f x*g x):=by
 obtain ⟨p,rfl⟩:=hf;obtain ⟨q,rfl⟩:=hg;exact ⟨aw p q,funext fun x=>(bg p q x).symm⟩
theorem Pf.smul{f:Rat→Rat}(c:Rat)(hf:Pf f):Pf (fun x=>c*f x):=(Pf.const c).mul hf
theorem Pf.sub{f g:Rat→Rat}(hf:Pf f)(hg:Pf g):Pf (fun x=>f x-g x):=by
 have h:=hf.add (hg.smul (-1));have e:(fun x=>f x-g x)=(fun x=>f x+-1*g x):=funext fun x=>by grind
 rw [e];exact h
theorem Pf.lip{f:Rat→Rat}(h:Pf f)(A B:Rat):∃ K,0≤K∧Lip A B K f:=by obtain ⟨p,rfl⟩:=h;exact oP p A B
theorem Pf.on{f:Rat→Rat}(h:Pf f)(A B:Rat):∃ K,0≤K∧On A B K f:=by obtain ⟨p,rfl⟩:=h;exact xC p A B
theorem oH{K v:Rat}(hK:0≤K)(h:∀ d,0<d→d≤1→v≤K*d):v≤0:=by
 apply Classical.byContradiction;intro hn;obtain ⟨e,he,h1⟩:=hZ hK (show 0<v by grind);obtain ⟨d,hd,h2,h3⟩:=ki he (show (0:Rat)<1 by decide);have h4:=h1 d h2;have h5:=h d hd h3;grind
theorem nw(p:List Rat)(h:∀ x,evV p x=0):∀ i,seq p i=0:=by
 induction p with
 | nil=>intro i;rfl
 | cons c p ih =>
  have hc:c=0:=by have:=h 0;rw [ik] at this;grind
  have h1:∀ x,x≠0→evV p x=0:=fun x hx=>by
   have h2:=h x;rw [ik,hc] at h2;have h3:evV p x*x=0:=by grind
   rcases nXq.1 h3 with h4|h4
   ·exact h4
   ·exact absurd h4 hx
  have h0:evV p 0=0:=by
   obtain ⟨K,hK,hL⟩:=oP p 0 1;have a1:=oH (v:=evV p 0) hK (fun d hd h2=>by
    have h3:=(hL 0 d Rat.le_refl (by grind) h2).1;rw [h1 d (by grind)] at h3;grind)
   have a2:=oH (v:=-evV p 0) hK (fun d hd h2=>by
    have h3:=(hL 0 d Rat.le_refl (by grind) h2).2;rw [h1 d (by grind)] at h3;grind)
   grind
  have h2:=ih (fun x=>by
   by_cases hx:x=0
   ·rw [hx];exact h0
   ·exact h1 x hx)
  intro i;cases i with
  | zero=>exact hc
  | succ i=>exact h2 i
theorem iG{p q:List Rat}(h:∀ x,evV p x=evV q x):∀ i,seq p i=seq q i:=by
 have h1:=nw (gd p (q.map (·*-1))) (fun x=>by rw [il,bD,h x];grind);intro i;have:=h1 i;rw [et,aS] at this;grind
theorem ay{p:List Rat}:tz p=[]↔∀ x,evV p x=0:=by
 constructor
 ·intro h x;rw [←zr,h];rfl
 ·intro h;have:=jp (a:=p) (b:=[]) (fun i=>by rw [nw p h i];rfl);exact this
theorem Aw{p q:List Rat}(hp:tz p≠[])(hq:tz q≠[]):∃ n,cv (seq p) (seq q) n≠0:=by
 obtain ⟨a,ha⟩:∃ a,(tz p).length=a+1:=⟨(tz p).length-1,by have:=nYe.2 hp;omega⟩;obtain ⟨b,hb⟩:∃ b,(tz q).length=b+1:=⟨(tz q).length-1,by have:=nYe.2 hq;omega⟩;refine ⟨a+b,?_⟩;rw [←aN p,←aN q,mC (by rw [←ha];exact Bd.seq _) (by rw [←hb];exact Bd.seq _)];intro h;have h1:=bR hp;have h2:=bR hq;unfold aV at h1 h2;rw [ha,Nat.add_sub_cancel] at h1;rw [hb,Nat.add_sub_cancel] at h2;rcases nXq.1 h with h3|h3
 ·exact h1 h3
 ·exact h2 h3
theorem vE{f g:Rat→Rat}(hf:Pf f)(hg:Pf g)(h:∀ x,f x*g x=0)(h0:∃ x,f x≠0):∀ x,g x=0:=by
 obtain ⟨p,rfl⟩:=hf;obtain ⟨q,rfl⟩:=hg;obtain ⟨y,hy⟩:=h0;have hp:tz p≠[]:=fun h=>hy (ay.1 h y)
 by_cases hq:tz q=[]
 ·exact ay.1 hq
 ·exfalso;obtain ⟨n,hn⟩:=Aw hp hq;have h1:=nw (aw p q) (fun x=>by rw [bg];exact h x) n;rw [cD,fo] at h1;exact hn h1
theorem gG{f g h:Rat→Rat}(hf:Pf f)(hg:Pf g)(hh:Pf h)(he:∀ x,f x*g x=f x*h x)(h0:∃ x,f x≠0):∀ x,g x=h x:=fun x=>by
 have:=vE hf (hg.sub hh) (fun x=>by have:=he x;grind) h0 x;grind
def Dv(a b:Rat→Rat):Prop:=∃ c,Pf c∧∀ x,b x=a x*c x
def Cp(a b:Rat→Rat):Prop:=∃ u v,Pf u∧Pf v∧∀ x,u x*a x+v x*b x=1
theorem Dv.add{a b c:Rat→Rat}(h:Dv a b)(k:Dv a c):Dv a (fun x=>b x+c x):=by
 obtain ⟨u,hu,h1⟩:=h;obtain ⟨v,hv,h2⟩:=k;exact ⟨_,hu.add hv,fun x=>by show b x+c x=_;rw [h2,h1];grind⟩
theorem Dv.sub{a b c:Rat→Rat}(h:Dv a b)(k:Dv a c):Dv a (fun x=>b x-c x):=by
 obtain ⟨u,hu,h1⟩:=h;obtain ⟨v,hv,h2⟩:=k;exact ⟨_,hu.sub hv,fun x=>by show b x-c x=_;rw [h2,h1];grind⟩
theorem Dv.mulr{a b c:Rat→Rat}(h:Dv a b)(k:Pf c):Dv a (fun x=>b x*c x):=by
 obtain ⟨u,hu,h1⟩:=h;exact ⟨_,hu.mul k,fun x=>by show b x*c x=_;rw [h1];grind⟩
theorem Dv.mull{a b c:Rat→Rat}(h:Dv a b)(k:Pf c):Dv a (fun x=>c x*b x):=by
 obtain ⟨u,hu,h1⟩:=h;exact ⟨_,hu.mul k,fun x=>by show c x*b x=_;rw [h1];grind⟩
theorem Cp.dv{a b c:Rat→Rat}(h:Cp a b)(hc:Pf c)(k:Dv a (fun x=>b x*c x)):Dv a c:=by
 obtain ⟨u,v,hu,hv,h1⟩:=h;obtain ⟨d,hd,h2⟩:=k;exact ⟨_,(hu.mul hc).add (hv.mul hd),fun x=>by
  have e1:=h1 x;have e2:b x*c x=a x*d x:=h2 x;have e3:(u x*a x+v x*b x)*c x=c x:=by rw [e1];grind
  have e4:v x*(b x*c x)=v x*(a x*d x):=by rw [e2]
  show c x=a x*((u x*c x)+v x*d x);grind⟩
theorem Cp.dvl{a b c:Rat→Rat}(h:Cp a b)(hc:Pf c)(k:Dv a (fun x=>c x*b x)):Dv a c:=h.dv hc (by
 obtain ⟨d,hd,h2⟩:=k;exact ⟨d,hd,fun x=>by rw [←h2];grind⟩)
def IsD(f g:Rat→Rat):Prop:=∀ A B,∃ K,0≤K∧∀ s t,A≤s→s≤t→t≤B→Bd (K*(t-s)*(t-s)) (f t-f s-g s*(t-s))
theorem IsD.ev(p:List Rat):IsD (evV p) (evD p):=fun A B=>oO p A B
theorem IsD.const(c:Rat):IsD (fun _=>c) (fun _=>0):=fun A B=>⟨0,Rat.le_refl,fun s t _ _ _=>⟨by grind,by grind⟩⟩
theorem IsD.uniq{f g h:Rat→Rat}(a:IsD f g)(b:IsD f h)(x:Rat):g x=h x:=by
 obtain ⟨K,hK,h1⟩:=a x (x+1);obtain ⟨L,hL,h2⟩:=b x (x+1);have key:∀ d,0<d→d≤1→g x-h x≤(K+L)*d∧h x-g x≤(K+L)*d:=fun d hd h3=>by
  obtain ⟨e1,e2⟩:=h1 x (x+d) Rat.le_refl (by grind) (by grind);obtain ⟨e3,e4⟩:=h2 x (x+d) Rat.le_refl (by grind) (by grind);rw [show x+d-x=d by grind] at e1 e2 e3 e4;have cancel:∀ u v:Rat,u*d≤v*d→u≤v:=fun u v h=>by
   apply Classical.byContradiction;intro hn;have:=eK (show v<u by grind) hd;grind
  exact ⟨cancel _ _ (by grind),cancel _ _ (by grind)⟩
 have a1:=oH (v:=g x-h x) (K:=K+L) (by grind) (fun d h1 h2=>(key d h1 h2).1);have a2:=oH (v:=h x-g x) (K:=K+L) (by grind) (fun d h1 h2=>(key d h1 h2).2);grind
theorem IsD.mul{f g f' g':Rat→Rat}(a:IsD f f')(b:IsD g g')(hf:Pf f)(hg:Pf g)(hf':Pf f'):IsD (fun x=>f x*g x) (fun x=>f' x*g x+f x*g' x):=by
 intro A B;obtain ⟨K,hK,h1⟩:=a A B;obtain ⟨L,hL,h2⟩:=b A B;obtain ⟨M,hM,h3⟩:=hf.on A B;obtain ⟨N,hN,h4⟩:=hg.on A B;obtain ⟨P,hP,h5⟩:=hf'.on A B;obtain ⟨Q,hQ,h6⟩:=hg.lip A B;refine ⟨K*N+P*Q+M*L,by have:=kR hK hN;have:=kR hP hQ;have:=kR hM hL;grind,fun s t k1 k2 k3=>?_⟩;have h0:0≤t-s:=by grind
 have b1:=(h1 s t k1 k2 k3).mul (h4 t (by grind) k3);have b2:=((h5 s k1 (by grind)).mul (Bd.self h0)).mul (h6 s t k1 k2 k3);have b3:=(h3 s k1 (by grind)).mul (h2 s t k1 k2 k3);have e:=(b1.add b2).add b3;rw [show (K*N+P*Q+M*L)*(t-s)*(t-s)=K*(t-s)*(t-s)*N+P*(t-s)*(Q*(t-s))+M*(L*(t-s)*(t-s)) by grind,
  show f t*g t-f s*g s-(f' s*g s+f s*g' s)*(t-s)=(f t-f s-f' s*(t-s))*g t+f' s*(t-s)*(g t-g s)+f s*(g t-g s-g' s*(t-s)) by grind]
 exact e
def aM:List Rat→List Rat
 | []=>[]
 | _ :: p=>gd (0 :: aM p) p
theorem cH(p:List Rat)(x:Rat):evV (aM p) x=evD p x:=by
 induction p with
 | nil=>rfl
 | cons c p ih =>
  show evV (gd (0 :: aM p) p) x=evD p x*x+evV p x;rw [il,ik,ih];grind
theorem dt(p:List Rat)(n:Nat):seq (aM p) n=((n+1:Nat):Rat)*seq p (n+1):=by
 induction p generalizing n with
 | nil=>show (0:Rat)=_*(0:Rat);grind
 | cons c p ih =>
  show seq (gd (0 :: aM p) p) n=((n+1:Nat):Rat)*seq p n;rw [et,jh];cases n with
  | zero=>show (0:Rat)+seq p 0=((0+1:Nat):Rat)*seq p 0;rw [show ((0+1:Nat):Rat)=1 from rfl];grind
  | succ n =>
   show seq (aM p) n+seq p (n+1)=_;rw [ih,Rat.natCast_add (n+1) 1,show ((1:Nat):Rat)=1 from rfl];grind
theorem Pf.der(p:List Rat):Pf (evD p):=⟨aM p,funext fun x=>(cH p x).symm⟩
theorem rj{f:Rat→Rat}(h:Pf f):∃ g,Pf g∧IsD f g:=by obtain ⟨p,rfl⟩:=h;exact ⟨_,Pf.der p,IsD.ev p⟩
theorem mw{a p:List Rat}(h:Pr a p):∃ c:Rat,c≠0∧∀ x,evV a x=c*evV p x:=by
 obtain ⟨c,h1,h2⟩:=h;exact ⟨c,h1,fun x=>fQ h2 x⟩
theorem gQ(p:List Rat){q:List Rat}(h:tz q≠[])(x:Rat):evV p x=evV (bv p q) x*evV q x+evV (bq p q) x:=by
 have h1:=(bW p h).2.2.2;have h2:=sv (r:=p) (a:=aw (bv p q) q) (b:=bq p q) (c:=1) (fun i=>by rw [h1 i,cD,fo];grind) x;rw [h2,bg];grind
def IsG(g a b:Rat→Rat):Prop:=Dv g a∧Dv g b∧∃ u v,Pf u∧Pf v∧∀ x,g x=u x*a x+v x*b x
theorem sq:∀ (f:Nat) (p q:List Rat),q.length≤f→tz q=q→IsG (evV (mq f p q)) (evV p) (evV q):=by
 have hbase:∀ p:List Rat,IsG (evV p) (evV p) (evV []):=fun p=>⟨⟨_,Pf.const 1,fun x=>by grind⟩,⟨_,Pf.const 0,fun x=>by show (0:Rat)=_*0;grind⟩,_,_,Pf.const 1,Pf.const 0,fun x=>by show _=1*_+0*(0:Rat);grind⟩
 intro f;induction f with
 | zero =>
  intro p q h ht;obtain rfl:q=[]:=nXi.1 (by omega);exact hbase p
 | succ f ih =>
  intro p q h ht;by_cases h0:q=[]
  ·subst h0;rw [fD];exact hbase p
  ·have hq:tz q≠[]:=by rw [ht];exact h0
   have h1:=(bW p hq).1;have h2:=cm (bq p q);have h3:=ag (bq p q);rw [ht] at h1;rw [fh h0];obtain ⟨g1,g2,u,v,hu,hv,g3⟩:=ih q (bj (bq p q)) (by omega) (dX _);obtain ⟨c,hc,hm⟩:=mw (dY (bq p q));have hr:∀ x,evV (bq p q) x=c⁻¹*evV (bj (bq p q)) x:=fun x=>by
    have:=nYh c hc;rw [hm x];grind
   refine ⟨?_,g1,_,_,hv.smul c,hu.sub ((hv.smul c).mul (Pf.ev (bv p q))),fun x=>?_⟩
   ·have h4:=(g1.mull (Pf.ev (bv p q))).add (g2.mull (Pf.const c⁻¹));obtain ⟨d,hd,h5⟩:=h4;exact ⟨d,hd,fun x=>by rw [←h5 x,gQ p hq x,hr x]⟩
   ·rw [g3 x,hm x,gQ p hq x];grind
theorem gN(p q:List Rat):IsG (evV (dq p q)) (evV p) (evV q):=by
 obtain ⟨g1,g2,u,v,hu,hv,g3⟩:=sq (tz q).length (bj p) (bj q) (by rw [cm];exact nXd _) (dX q);obtain ⟨c,hc,h1⟩:=mw (dY p);obtain ⟨d,hd,h2⟩:=mw (dY q);have inv:∀ {c:Rat} {f g:Rat→Rat},c≠0→(∀ x,f x=c*g x)→∀ x,g x=c⁻¹*f x:=fun hc h x=>by
  have:=nYh _ hc;rw [h x];grind
 refine ⟨?_,?_,_,_,hu.smul c,hv.smul d,fun x=>?_⟩
 ·obtain ⟨e,he,h3⟩:=g1.mull (Pf.const c⁻¹);exact ⟨e,he,fun x=>(inv hc h1 x).trans (h3 x)⟩
 ·obtain ⟨e,he,h3⟩:=g2.mull (Pf.const d⁻¹);exact ⟨e,he,fun x=>(inv hd h2 x).trans (h3 x)⟩
 ·show evV (mq (tz q).length (bj p) (bj q)) x=_;rw [g3 x,h1,h2];grind
theorem jD{a b:List Rat}(h:Dv (evV a) (evV b))(hb:tz b≠[]):(tz a).length≤(tz b).length:=by
 obtain ⟨c,⟨p,rfl⟩,h1⟩:=h;have ha:tz a≠[]:=fun h=>hb (ay.2 fun x=>by rw [h1 x,ay.1 h x];grind)
 have hp:tz p≠[]:=fun h=>hb (ay.2 fun x=>by rw [h1 x,ay.1 h x];grind)
 obtain ⟨i,hi⟩:∃ a',(tz a).length=a'+1:=⟨(tz a).length-1,by have:=nYe.2 ha;omega⟩;obtain ⟨j,hj⟩:∃ b',(tz p).length=b'+1:=⟨(tz p).length-1,by have:=nYe.2 hp;omega⟩;have h2:=iG (p:=b) (q:=aw a p) (fun x=>by rw [bg];exact h1 x) (i+j);rw [cD,fo,←aN a,←aN p,mC (by rw [←hi];exact Bd.seq _) (by rw [←hj];exact Bd.seq _),←aN b] at h2;have k1:=bR ha;have k2:=bR hp;unfold aV at k1 k2;rw [hi,Nat.add_sub_cancel] at k1;rw [hj,Nat.add_sub_cancel] at k2;rcases Nat.lt_or_ge (i+j) (tz b).length with h3|h3
 ·omega
 ·exfalso;rw [Bd.seq (tz b) _ h3] at h2;rcases nXq.1 h2.symm with h4|h4
  ·exact k1 h4
  ·exact k2 h4
theorem eM{p:List Rat}(h:tz p≠[]):∃ n,(tz p).length=n+1∧seq p n≠0:=by
 obtain ⟨n,hn⟩:∃ n,(tz p).length=n+1:=⟨(tz p).length-1,by have:=nYe.2 h;omega⟩;exact ⟨n,hn,gu hn⟩
theorem yW{n:Nat}:((n+1:Nat):Rat)≠0:=fun h=>by
 have:n+1=0:=by exact_mod_cast h
 omega
theorem iu(p:List Rat)(n:Nat)(h:(tz p).length=n+1):(tz (aM p)).length≤n:=by
 rcases Nat.lt_or_ge n (tz (aM p)).length with h1|h1
 ·exfalso;have h2:tz (aM p)≠[]:=fun h=>by rw [h] at h1;simp at h1
  obtain ⟨k,h3,h4⟩:=eM h2;rw [dt] at h4;apply h4;rw [←aN p,Bd.seq (tz p) (k+1) (by omega)];grind
 ·exact h1
theorem vY{p:List Rat}{n:Nat}(h:(tz p).length=n+2):tz (aM p)≠[]:=fun h0=>by
 have h1:seq (aM p) n=0:=by rw [←aN,h0];rfl
 rw [dt] at h1;have h2:seq p (n+1)≠0:=gu h;rcases nXq.1 h1 with h3|h3
 ·exact yW h3
 ·exact h2 h3
theorem ii{p:List Rat}(h:(tz p).length≤1):∀ x,evV p x=seq p 0:=fun x=>by
 rw [←zr,←aN p]
 match tz p,h with
 | [],_=>rfl
 | [c],_=>show 0*x+c=c;grind
theorem yD{g p p' r q1:Rat→Rat}(hg:Pf g)(hr:Pf r)(hq:Pf q1)(h:IsG g p p')(h1:∀ x,p x=g x*r x)(h2:∀ x,p' x=g x*q1 x)(h0:∃ x,p x≠0):Cp r q1:=by
 obtain ⟨-,-,u,v,hu,hv,h3⟩:=h;refine ⟨u,v,hu,hv,fun x=>?_⟩;refine gG (f:=g) (g:=fun x=>u x*r x+v x*q1 x) (h:=fun _=>1) hg ((hu.mul hr).add (hv.mul hq)) (Pf.const 1) (fun x=>?_) ?_ x
 ·have e:=h3 x;rw [h1,h2] at e;grind
 ·obtain ⟨y,hy⟩:=h0;exact ⟨y,fun h=>hy (by rw [h1,h];grind)⟩
theorem tJ:∀ (n:Nat) (p:List Rat),(tz p).length≤n→tz p≠[]→∀ g r:Rat→Rat,Pf g→Pf r→IsG g (evV p) (evD p)→(∀ x,evV p x=g x*r x)→∀ r',Pf r'→IsD r r'→Cp r r':=by
 intro n;induction n with
 | zero=>intro p h h0;exact absurd (nXi.1 (by omega)) h0
 | succ n ih =>
  intro p hn h0 g r hg hr hG h1 r' hr' hd;have hp0:∃ x,evV p x≠0:=Classical.byContradiction fun h=>h0 (ay.2 fun x=>Classical.byContradiction fun h2=>h ⟨x,h2⟩)
  obtain ⟨q1,hq1,h2⟩:=hG.2.1;have hcp:=yD hg hr hq1 hG h1 h2 hp0;obtain ⟨gl,rfl⟩:=id hg;have hg0:tz gl≠[]:=fun h=>by
   obtain ⟨y,hy⟩:=hp0;exact hy (by rw [h1,ay.1 h y];grind)
  have hgx:∃ x,evV gl x≠0:=by
   obtain ⟨y,hy⟩:=hp0;exact ⟨y,fun h=>hy (by rw [h1,h];grind)⟩
  have hslope:∀ x,evD gl x*r x+evV gl x*r' x=evV gl x*q1 x:=fun x=>by
   have e:=(IsD.mul (IsD.ev gl) hd hg hr (Pf.der gl)).uniq (by
    have:=IsD.ev p;rw [show evV p=fun x=>evV gl x*r x from funext h1] at this;exact this) x
   rw [h2 x] at e;exact e
  rcases Nat.lt_or_ge 1 (tz gl).length with hl|hl
  ·-- g is not a constant
   obtain ⟨k,hk,-⟩:=eM hg0;have hpg:=jD hG.1 h0;obtain ⟨m,hm⟩:∃ m,(tz p).length=m+2:=⟨(tz p).length-2,by omega⟩;have hpd:=vY hm;have hdl:Dv (evV gl) (evV (aM p)):=by rw [show evV (aM p)=evD p from funext (cH p)];exact hG.2.1
   have hlen:=jD hdl hpd;have hder:=iu p (m+1) hm;have hG2:=gN gl (aM gl);rw [show evV (aM gl)=evD gl from funext (cH gl)] at hG2;obtain ⟨r1,hr1,e1⟩:=hG2.1;obtain ⟨s1,hs1,e2⟩:=hG2.2.1;obtain ⟨r1',hr1',hd1⟩:=rj hr1;have hc1:=ih gl (by omega) hg0 _ r1 (Pf.ev _) hr1 hG2 e1 r1' hr1' hd1;have hc2:=yD (Pf.ev _) hr1 hs1 hG2 e1 e2 hgx;have hp2x:∃ x,evV (dq gl (aM gl)) x≠0:=by
    obtain ⟨y,hy⟩:=hgx;exact ⟨y,fun h=>hy (by rw [e1,h];grind)⟩
   have e3:∀ x,s1 x*r x=r1 x*(q1 x-r' x):=gG (f:=evV (dq gl (aM gl))) (g:=fun x=>s1 x*r x) (h:=fun x=>r1 x*(q1 x-r' x)) (Pf.ev _) (hs1.mul hr) (hr1.mul (hq1.sub hr')) (fun x=>by
    have h3:=hslope x;rw [e2 x,e1 x] at h3;grind) hp2x
   obtain ⟨w,hw,e4⟩:=hc2.dv hr ⟨_,hq1.sub hr',e3⟩;have hr1x:∃ x,r1 x≠0:=by
    obtain ⟨y,hy⟩:=hgx;exact ⟨y,fun h=>hy (by rw [e1,h];grind)⟩
   have e5:∀ x,s1 x*w x=q1 x-r' x:=gG (f:=r1) (g:=fun x=>s1 x*w x) (h:=fun x=>q1 x-r' x) hr1 (hs1.mul hw) (hq1.sub hr') (fun x=>by
    have h3:=e3 x;rw [e4 x] at h3;grind) hr1x
   obtain ⟨rl,hrl⟩:=id hr;have hrd:r'=evD rl:=funext fun x=>hd.uniq (by rw [hrl];exact IsD.ev rl) x
   have hG3:=gN rl (aM rl);rw [show evV (aM rl)=evD rl from funext (cH rl),←hrl,←hrd] at hG3;obtain ⟨h,hh⟩:∃ h,h=evV (dq rl (aM rl)):=⟨_,rfl⟩;rw [←hh] at hG3;have hhp:Pf h:=⟨_,hh⟩;obtain ⟨d1,d2,ua,va,hua,hva,d3⟩:=hG3;obtain ⟨w',hw',hdw⟩:=rj hw;have hcw:Cp h w:=by
    obtain ⟨u,v,hu,hv,b1⟩:=hcp;obtain ⟨x1,hx1,b2⟩:=d1;obtain ⟨x2,hx2,b3⟩:=d2;refine ⟨_,_,(hu.mul hx1).add (hv.mul hx2),hv.mul hs1,fun x=>?_⟩;have b4:=b1 x;have b5:=e5 x;have b6:q1 x=s1 x*w x+r' x:=by grind
    rw [b6,b2 x,b3 x] at b4;grind
   have hr1d:Dv h r1:=hcw.dvl hr1 (by
    obtain ⟨x1,hx1,b2⟩:=d1;exact ⟨x1,hx1,fun x=>by rw [←b2 x,e4 x]⟩)
   have hrs:∀ x,r1' x*w x+r1 x*w' x=r' x:=fun x=>(IsD.mul hd1 hdw hr1 hw hr1').uniq (by
    rw [←show r=fun x=>r1 x*w x from funext e4];exact hd) x
   have hr1d':Dv h r1':=hcw.dvl hr1' (by
    obtain ⟨x1,hx1,b2⟩:=d2.sub (hr1d.mulr hw');exact ⟨x1,hx1,fun x=>by
     have e:=b2 x;have e':=hrs x;rw [←e];show r1' x*w x=r' x-r1 x*w' x;grind⟩)
   obtain ⟨a,b,ha,hb,c1⟩:=hc1;obtain ⟨x1,hx1,c2⟩:=hr1d;obtain ⟨x2,hx2,c3⟩:=hr1d';refine ⟨_,_,((ha.mul hx1).add (hb.mul hx2)).mul hua,((ha.mul hx1).add (hb.mul hx2)).mul hva,fun x=>?_⟩;have c4:=c1 x;rw [c2 x,c3 x,d3 x] at c4;grind
  ·-- g is a constant
   have hcst:=ii hl;obtain ⟨y,hy⟩:=hgx;have hc0:seq gl 0≠0:=by rw [←hcst y];exact hy
   have hz:∀ x,evD gl x=0:=fun x=>(IsD.ev gl).uniq (by rw [show evV gl=fun _=>seq gl 0 from funext hcst];exact IsD.const _) x
   have he:∀ x,r' x=q1 x:=fun x=>by
    have h3:=hslope x;rw [hz x,hcst x] at h3;have h4:=nYh _ hc0;have h5:(seq gl 0)⁻¹*(seq gl 0*r' x)=(seq gl 0)⁻¹*(seq gl 0*q1 x):=by congr 1;grind
    rw [←nYb,←nYb,nYa _ (seq gl 0),h4,Rat.one_mul,Rat.one_mul] at h5;exact h5
   rw [show r'=q1 from funext he];exact hcp
def chn:Nat→List Rat→List Rat→List (List Rat)
 | 0,_,_=>[]
 | n+1,a,b=>if a=[] then [] else if b=[] then [a] else a :: chn n b (aA ((bq a b).map (·*-1)))
theorem dZ{n:Nat}{a:List Rat}(h:a≠[]):chn (n+1) a []=[a]:=by simp [chn,h]
theorem eF{n:Nat}{a b:List Rat}(h:a≠[])(k:b≠[]):chn (n+1) a b=a :: chn n b (aA ((bq a b).map (·*-1))):=by simp [chn,h,k]
theorem eD(p:List Rat)(x:Rat):evV p x=bO p*evV (aA p) x:=fQ (df p) x
theorem bV{p:List Rat}:aA p=[]↔tz p=[]:=by rw [←nXi,←nXi,aK]
theorem wV(a b:List Rat)(hb:tz b≠[]):∃ d:Rat,0<d∧∀ x,evV a x+d*evV (aA ((bq a b).map (·*-1))) x=evV (bv a b) x*evV b x:=by
 have h1:=gQ a hb;by_cases h0:tz ((bq a b).map (·*-1))=[]
 ·refine ⟨1,by decide,fun x=>?_⟩;have h2:=ay.1 h0 x;rw [bD] at h2;rw [bV.2 h0,h1 x];show _+1*(0:Rat)=_;grind
 ·refine ⟨bO ((bq a b).map (·*-1)),bL h0,fun x=>?_⟩;have h2:=eD ((bq a b).map (·*-1)) x;rw [←h2,bD,h1 x];grind
theorem qU(a b:List Rat)(hb:tz b≠[]):(aA ((bq a b).map (·*-1))).length<(tz b).length:=by
 have h1:=(bW a hb).1;have h2:=ag ((bq a b).map (·*-1));rw [nXk] at h2;rw [aK];omega
theorem yN{A B d:Rat}{f g h q:Rat→Rat}(hd:0<d)(hq:Pf q)(he:∀ x,f x+d*h x=q x*g x):Row A B f g h:=by
 obtain ⟨Q,hQ,h1⟩:=hq.on A B;exact ⟨1,d,Q,by decide,hd,hQ,q,h1,fun x=>by have:=he x;grind⟩
theorem we{A B:Rat}{f u:Rat→Rat}(hu:Pf u)(h:∀ x,u x*f x=1):∃ r,0<r∧∀ x,A≤x→x≤B→Big r (f x):=by
 obtain ⟨M,hM,h1⟩:=hu.on A B;refine ⟨1 / (M+1),tA (by decide) (by grind),fun x ha hb=>?_⟩;have h2:=h x;apply Classical.byContradiction;intro hn;obtain ⟨n1,n2⟩:=kO hn;have h3:=(h1 x ha hb).mul (show Bd (1 / (M+1)) (f x) from ⟨by grind,by grind⟩);rw [h2] at h3;have h4:=h3.2;have h5:=aQ (a:=1) (b:=M+1) (by grind);have h6:=tA (show (0:Rat)<1 by decide) (show 0<M+1 by grind);grind
theorem zK{A B:Rat}:∀ (n:Nat) (a b:List Rat),b.length≤n→tz b=b→a≠[]→Cp (evV a) (evV b)→∃ l,chn (n+1) a b=a :: l∧Ch A B (evV a) (l.map evV)∧(b≠[]→∃ l',l=b :: l'):=by
 intro n;induction n with
 | zero =>
  intro a b h ht ha hc;obtain rfl:b=[]:=nXi.1 (by omega);refine ⟨[],dZ ha,?_,fun h=>absurd rfl h⟩;obtain ⟨u,v,hu,hv,h1⟩:=hc;exact we hu (fun x=>by have:=h1 x;have e:evV [] x=0:=rfl;rw [e] at this;grind)
 | succ n ih =>
  intro a b h ht ha hc;by_cases hb:b=[]
  ·subst hb;refine ⟨[],dZ ha,?_,fun h=>absurd rfl h⟩;obtain ⟨u,v,hu,hv,h1⟩:=hc;exact we hu (fun x=>by have:=h1 x;have e:evV [] x=0:=rfl;rw [e] at this;grind)
  ·have hbt:tz b≠[]:=by rw [ht];exact hb
   obtain ⟨d,hd,he⟩:=wV a b hbt;have hl:=qU a b hbt;rw [ht] at hl;obtain ⟨c,hcc⟩:∃ c,c=aA ((bq a b).map (·*-1)):=⟨_,rfl⟩;have hct:tz c=c:=by rw [hcc,bC]
   rw [←hcc] at he hl;have hcp:Cp (evV b) (evV c):=by
    obtain ⟨u,v,hu,hv,h1⟩:=hc;refine ⟨_,_,(hu.mul (Pf.ev (bv a b))).add hv,hu.smul (-d),fun x=>?_⟩;have e1:=h1 x;have e2:=he x;have e3:evV a x=evV (bv a b) x*evV b x-d*evV c x:=by grind
    rw [e3] at e1;grind
   obtain ⟨l,h1,h2,h3⟩:=ih b c (by omega) hct hb hcp;refine ⟨b :: l,by rw [eF ha hb,←hcc,h1],?_,fun _=>⟨l,rfl⟩⟩;cases l with
   | nil=>exact h2
   | cons e l =>
    have hce:e=c:=by
     by_cases h0:c=[]
     ·subst h0;rw [dZ hb] at h1;cases h1
     ·obtain ⟨l',h4⟩:=h3 h0;cases h4;rfl
    subst hce;exact ⟨yN hd (Pf.ev (bv a b)) he,h2⟩
def cb(p:List Rat):List (List Rat):=chn (p.length+1) (aA p) (aA (aM p))
theorem uU{p:List Rat}(h:tz p≠[])(x:Rat):evD (aA p) x=bO (aM p) / bO p*evV (aA (aM p)) x:=by
 have hm:=bL h;have h1:evD p x=bO p*evD (aA p) x:=by
  rw [←cH,←cH];refine fQ (fun i=>?_) x;rw [dt,dt,df p];grind
 have h2:=eD (aM p) x;rw [cH,h1] at h2;have h3:=aQ (a:=bO (aM p)) (b:=bO p) (by grind);have h4:=nYh (bO p) (by grind);have h5:(bO p)⁻¹*(bO p*evD (aA p) x)=(bO p)⁻¹*(bO (aM p)*evV (aA (aM p)) x):=by rw [h2]
 rw [←nYb,nYa _ (bO p),h4,Rat.one_mul] at h5;rw [h5,Rat.div_def];grind
theorem yE{p:List Rat}(h:tz p≠[])(hc:Cp (evV p) (evD p)):Cp (evV (aA p)) (evV (aA (aM p))):=by
 obtain ⟨u,v,hu,hv,h1⟩:=hc;refine ⟨_,_,hu.smul (bO p),hv.smul (bO (aM p)),fun x=>?_⟩;have e1:=h1 x;rw [eD p x,←cH,eD (aM p) x] at e1;grind
theorem oe{p:List Rat}(h:tz p≠[])(hc:Cp (evV p) (evD p))(A B:Rat):∃ l,cb p=aA p :: l∧Fit A B (evV (aA p)) (l.map evV):=by
 have hlen:(aA (aM p)).length≤p.length:=by
  rw [aK];obtain ⟨n,hn,-⟩:=eM h;have:=iu p n hn;have:=ag p;omega
 obtain ⟨l,h1,h2,h3⟩:=zK (A:=A) (B:=B) p.length (aA p) (aA (aM p)) hlen (bC _) (fun h0=>h (bV.1 h0)) (yE h hc);refine ⟨l,h1,h2,oP _ A B,?_,?_⟩
 ·intro g hg;obtain ⟨q,-,rfl⟩:=nYd.1 hg;exact oP q A B
 ·intro g l' hl;by_cases hb:aA (aM p)=[]
  ·exfalso;have h4:cb p=[aA p]:=by unfold cb;rw [hb,dZ (fun h0=>h (bV.1 h0))]
   have h5:cb p=aA p :: l:=h1;rw [h4] at h5;cases h5;cases hl
  ·obtain ⟨l2,hl2⟩:=h3 hb;subst hl2;rw [List.map_cons] at hl;cases hl;obtain ⟨K,hK,h6⟩:=oO (aA p) A B;have hp1:=bL h;have hp2:=bL (p:=aM p) (fun h0=>hb (bV.2 h0));refine ⟨bO (aM p) / bO p,K,tA hp2 hp1,hK,fun s t k1 k2 k3=>?_⟩;have h7:=h6 s t k1 k2 k3;rw [uU h] at h7;exact h7
def fI(p:List Rat):List Rat:=bj (bv p (dq p (aM p)))
structure Rt (p r:List Rat):Prop where
 ne:tz r≠[]
 cp:Cp (evV r) (evD r)
 dv:∃ g q1:Rat→Rat,Pf g∧Pf q1∧IsG g (evV p) (evD p)∧(∀ x,evV p x=g x*evV r x)∧(∀ x,evD p x=g x*q1 x)
theorem jm{p q:List Rat}(hq:tz q≠[])(h:Dv (evV q) (evV p)):∀ x,evV p x=evV q x*evV (bv p q) x:=by
 obtain ⟨c,⟨s,rfl⟩,h1⟩:=h;have h2:=iG (p:=p) (q:=aw s q) (fun x=>by rw [bg,h1 x];grind);have h3:=iT (p:=p) hq (s:=seq s) (r:=fun _=>0) (F:=1) (N:=s.length) (Bd.seq s) (fun i _=>rfl) (fun n=>by
  rw [Rat.one_mul,h2 n,cD,fo];grind)
 intro x;rw [h1 x]
 congr 1
 exact (fQ (c:=1) (fun i=>h3.1 i) x).trans (Rat.one_mul _)
theorem vN{p g:List Rat}(h:tz p≠[])(hG:IsG (evV g) (evV p) (evD p)):tz g≠[]:=fun h0=>h (ay.2 fun x=>by
 obtain ⟨c,-,h1⟩:=hG.1;rw [h1 x,ay.1 h0 x];grind)
theorem vW{p g:List Rat}(hG:IsG (evV g) (evV p) (evV (aM p))):IsG (evV g) (evV p) (evD p):=by
 rw [show evD p=evV (aM p) from funext fun x=>(cH p x).symm];exact hG
theorem uy{f g:Rat→Rat}(c:Rat)(h:IsD f g)(hf:Pf f)(hg:Pf g):IsD (fun x=>c*f x) (fun x=>c*g x):=by
 have h1:=IsD.mul (IsD.const c) h (Pf.const c) hf (Pf.const 0);have e:(fun x=>0*f x+c*g x)=fun x=>c*g x:=funext fun x=>by grind
 rw [e] at h1;exact h1
theorem qx{p:List Rat}(h:tz p≠[]):Rt p (fI p):=by
 have hG:=vW (gN p (aM p));have hg:=vN h hG;have h1:=jm hg hG.1;obtain ⟨q1,hq1,h2⟩:=hG.2.1;obtain ⟨c,hc,h3⟩:=mw (dY (bv p (dq p (aM p))));have h3':∀ x,evV (fI p) x=c*evV (bv p (dq p (aM p))) x:=h3;have hci:=nYh c hc;have hmain:=tJ (tz p).length p (nXd _) h _ _ (Pf.ev (dq p (aM p))) (Pf.ev (bv p (dq p (aM p)))) hG h1 _ (Pf.der _) (IsD.ev _);have hd:∀ x,evD (fI p) x=c*evD (bv p (dq p (aM p))) x:=fun x=>by
  have e:=uy c (IsD.ev (bv p (dq p (aM p)))) (Pf.ev _) (Pf.der _);rw [←show evV (fI p)=fun x=>c*evV (bv p (dq p (aM p))) x from funext h3'] at e;exact (IsD.ev (fI p)).uniq e x
 refine ⟨fun h0=>h (ay.2 fun x=>?_),?_,?_⟩
 ·have h4:=ay.1 h0 x;rw [h3' x] at h4;rcases nXq.1 h4 with h5|h5
  ·exact absurd h5 hc
  ·rw [h1 x,h5];grind
 ·obtain ⟨u,v,hu,hv,h4⟩:=hmain;refine ⟨_,_,hu.smul c⁻¹,hv.smul c⁻¹,fun x=>?_⟩;have h5:=h4 x;rw [h3' x,hd x];grind
 ·refine ⟨fun x=>c⁻¹*evV (dq p (aM p)) x,fun x=>c*q1 x,(Pf.ev _).smul _,hq1.smul _,?_,fun x=>?_,fun x=>?_⟩
  ·obtain ⟨⟨a,ha,h4⟩,⟨b,hb,h5⟩,u,v,hu,hv,h6⟩:=hG;refine ⟨⟨_,ha.smul c,fun x=>by rw [h4 x];grind⟩,⟨_,hb.smul c,fun x=>by rw [h5 x];grind⟩,_,_,hu.smul c⁻¹,hv.smul c⁻¹,fun x=>by show c⁻¹*evV (dq p (aM p)) x=_;rw [h6 x];grind⟩
  ·rw [h3' x,h1 x];grind
  ·rw [h2 x];grind
theorem oI(a x:Rat):evV [-a,1] x=x-a:=by
 show (0*x+1)*x+-a=x-a;grind
theorem Pf.lin(a:Rat):Pf (fun x=>x-a):=⟨[-a,1],funext fun x=>(oI a x).symm⟩
theorem vK(a:Rat):tz [-a,1]≠[]:=fun h=>by
 have h1:=ay.1 h (a+1);rw [oI] at h1;grind
theorem IsD.lin(a:Rat):IsD (fun x=>x-a) (fun _=>1):=fun A B=>⟨0,Rat.le_refl,fun s t _ _ _=>⟨by grind,by grind⟩⟩
theorem vS{f:Rat→Rat}(hf:Pf f){a:Rat}(h0:f a=0):∃ g,Pf g∧∀ x,f x=(x-a)*g x:=by
 obtain ⟨p,rfl⟩:=hf;have h1:=gQ p (vK a);have h2:=(bW p (vK a)).1;have h3:(tz (bq p [-a,1])).length≤1:=by
  have k1:=ag (bq p [-a,1]);have k2:=ag [-a,1];simp only [List.length_cons,List.length_nil] at k2;omega
 have h4:=ii h3;have h5:seq (bq p [-a,1]) 0=0:=by
  have k:=h1 a;rw [h0,h4 a,oI] at k;grind
 exact ⟨_,Pf.ev (bv p [-a,1]),fun x=>by rw [h1 x,h4 x,h5,oI];grind⟩
theorem rO{p q:List Rat}{a:Rat}(h:∀ x,evV p x=(x-a)*evV q x)(i:Nat):seq p i=sh (seq q) i-a*seq q i:=by
 have h1:=iG (p:=p) (q:=gd (0 :: q) (q.map (·*(-a)))) (fun x=>by
  rw [il,bD,h x];show _=(evV q x*x+0)+_;grind) i
 rw [h1,et,jh,aS];grind
theorem l9{p:List Rat}{i:Nat}(h:seq p i≠0):i<(tz p).length:=by
 apply Classical.byContradiction;intro hn;apply h;rw [←aN];exact aT (by omega)
theorem nq{p q:List Rat}{a:Rat}(h:∀ x,evV p x=(x-a)*evV q x)(hq:tz q≠[]):(tz q).length<(tz p).length:=by
 obtain ⟨m,hm,h0⟩:=eM hq;have h1:=rO h (m+1);have h2:seq q (m+1)=0:=by rw [←aN];exact aT (by omega)
 have h3:sh (seq q) (m+1)=seq q m:=rfl;rw [h2,h3] at h1;have:=l9 (p:=p) (i:=m+1) (by rw [h1];grind);omega
theorem nm{p:List Rat}(h:tz p≠[]):∃ x,evV p x≠0:=Classical.byContradiction fun hn=>h (ay.2 fun x=>Classical.byContradiction fun h2=>hn ⟨x,h2⟩)
theorem AO(a:Rat):∀ (n:Nat) (p:List Rat),(tz p).length≤n→tz p≠[]→∃ (k:Nat) (g:Rat→Rat),Pf g∧g a≠0∧∀ x,evV p x=(x-a) ^ k*g x:=by
 intro n;induction n with
 | zero=>intro p h h0;exact absurd (nXi.1 (by omega)) h0
 | succ n ih =>
  intro p hn h0;by_cases h1:evV p a=0
  ·obtain ⟨g,⟨q,rfl⟩,h2⟩:=vS (Pf.ev p) h1;have hq:tz q≠[]:=fun h=>by
    obtain ⟨y,hy⟩:=nm h0;exact hy (by rw [h2,ay.1 h y];grind)
   have hl:=nq h2 hq;obtain ⟨k,g,hg,hga,h3⟩:=ih q (by omega) hq;exact ⟨k+1,g,hg,hga,fun x=>by rw [h2,h3,Rat.pow_succ];grind⟩
  ·exact ⟨0,evV p,Pf.ev p,h1,fun x=>by rw [Rat.pow_zero];grind⟩
theorem Pf.pow{f:Rat→Rat}(h:Pf f)(k:Nat):Pf (fun x=>f x ^ k):=by
 induction k with
 | zero =>
  have e:(fun x=>f x ^ 0)=fun _=>(1:Rat):=funext fun x=>Rat.pow_zero _
  rw [e];exact Pf.const 1
 | succ k ih =>
  have e:(fun x=>f x ^ (k+1))=fun x=>f x ^ k*f x:=funext fun x=>Rat.pow_succ _ _
  rw [e];exact ih.mul h
theorem IsD.pow(a:Rat)(k:Nat):IsD (fun x=>(x-a) ^ (k+1)) (fun x=>((k+1:Nat):Rat)*(x-a) ^ k):=by
 induction k with
 | zero =>
  have e:(fun x=>(x-a) ^ (0+1))=fun x:Rat=>x-a:=funext fun x=>by rw [Rat.pow_succ,Rat.pow_zero];grind
  have e2:(fun x=>((0+1:Nat):Rat)*(x-a) ^ 0)=fun _=>(1:Rat):=funext fun x=>by rw [Rat.pow_zero,Rat.mul_one];rfl
  rw [e,e2];exact IsD.lin a
 | succ k ih =>
  have h1:=IsD.mul (IsD.lin a) ih (Pf.lin a) ((Pf.lin a).pow (k+1)) (Pf.const 1);have e:(fun x=>(x-a) ^ (k+1+1))=fun x:Rat=>(x-a)*(x-a) ^ (k+1):=funext fun x=>by rw [Rat.pow_succ];grind
  have e2:(fun x=>((k+1+1:Nat):Rat)*(x-a) ^ (k+1))=fun x:Rat=>1*(x-a) ^ (k+1)+(x-a)*(((k+1:Nat):Rat)*(x-a) ^ k):=funext fun x=>by
   rw [Rat.pow_succ,show ((k+1+1:Nat):Rat)=((k+1:Nat):Rat)+1 by rw [Rat.natCast_add];rfl];grind
  rw [e,e2];exact h1
def eI(l:List (List Rat))(x:Rat):Nat:=vr 0 (l.map fun m=>sg (evV m x))
theorem qR{p:List Rat}(h:tz p≠[]):∃ l,cb p=aA p :: l:=by
 have h1:aA p≠[]:=fun h0=>h (bV.1 h0)
 unfold cb;by_cases h2:aA (aM p)=[]
 ·rw [h2,dZ h1];exact ⟨_,rfl⟩
 ·rw [eF h1 h2];exact ⟨_,rfl⟩
def Pd:List Rat→Rat→Rat
 | [],_=>1
 | a :: l,x=>(x-a)*Pd l x
def Qd:Option Rat→Rat→Rat
 | none,_=>1
 | some b,x=>x*x+b
def Fac(p rl:List Rat)(b:Option Rat):Prop:=∃ c:Rat,c≠0∧∀ x,evV p x=c*(Pd rl x*Qd b x)
theorem uq{p:List Rat}(h:tz p≠[]):aV (tz (bj p))=1:=by
 rw [dX,ig h];have h1:=bR h;unfold aV at *
 rw [nXk];rw [nXc,nXu];have h2:=nYe.2 h;rw [List.getElem?_eq_getElem (by omega)];rw [nXc,List.getElem?_eq_getElem (by omega)] at h1 ⊢;show (tz p)[(tz p).length-1]*(((1:Int):Rat) / (tz p)[(tz p).length-1])=1;rw [nYa];exact aQ h1
theorem lJ(a b:Rat):sg (a*b)=sg a*sg b:=by
 rcases bG a with ⟨h,e⟩|⟨h,e⟩|⟨h,e⟩ <;> rcases bG b with ⟨k,f⟩|⟨k,f⟩|⟨k,f⟩ <;> rw [e,f]
 ·have:=Rat.mul_pos (a:=-a) (b:=-b) (by grind) (by grind);rw [fa (by grind)];rfl
 ·rw [k,nXz,fV];rfl
 ·have:=Rat.mul_pos (a:=-a) (b:=b) (by grind) k;rw [cW (by grind)];rfl
 ·rw [h,nXy,fV];rfl
 ·rw [h,nXy,fV];rfl
 ·rw [h,nXy,fV];rfl
 ·have:=Rat.mul_pos (a:=a) (b:=-b) h (by grind);rw [cW (by grind)];rfl
 ·rw [k,nXz,fV];rfl
 ·rw [fa (Rat.mul_pos h k)];rfl
def cn:List Rat→Rat→Rat→Nat
 | [],_,_=>0
 | d :: ds,lo,hi=>(if lo<d∧d≤hi then 1 else 0)+cn ds lo hi
def cc:List Rat→Rat→Rat→Nat
 | [],_,_=>0
 | d :: ds,lo,hi=>(if lo≤d∧d≤hi then 1 else 0)+cc ds lo hi
theorem nQ{r:List Rat}{l:List (List Rat)}(e:cb r=aA r :: l)(x:Rat):eI (cb r) x=V (evV (aA r)) (l.map evV) x:=by
 unfold eI V sgs;rw [e];simp only [List.map_cons,List.map_map];rfl
def ib:Nat→List Rat→Rat→Int
 | 0,_,_=>0
 | n+1,p,x=>if p=[] then 0 else if sg (evV p x)≠0 then sg (evV p x) else ib n (tz (aM p)) x
theorem Ak{q:Rat}(h:q≠0):sg q≠0:=fun h0=>h (lK.1 h0)
theorem AL{r:List Rat}(h:tz r≠[])(hc:Cp (evV r) (evD r)):∃ l,cb r=aA r :: l∧∀ A B,Fit A B (evV (aA r)) (l.map evV):=by
 obtain ⟨l,e,-⟩:=oe h hc 0 0;refine ⟨l,e,fun A B=>?_⟩;obtain ⟨l',e',h'⟩:=oe h hc A B;have:l=l':=by rw [e] at e';exact (List.cons.inj e').2
 rw [this];exact h'
end Go.Proofs.YtafgmcimcbhhjaaGreat.Sg
/- The chain of remainders: plain facts for the walk of remainders. -/
namespace Go.Proofs.YtafgmcimcbhhjaaGreat
open Go.RowKit Go.Front Go.Num Stab
theorem eW{c:Rat}(hc:c≠0)(l:List Rat):tz (l.map (·*c))=(tz l).map (·*c):=by
 induction l using Stab.snoc_ind with
 | h0=>rfl
 | h1 l r ih =>
  by_cases hr:r=0
  ·subst hr;rw [List.map_append,List.map_cons,List.map_nil,nXy,dQ,dQ,ih]
  ·have h2:r*c≠0:=fun h=>by
    rcases nXq.1 h with h3|h3
    ·exact hr h3
    ·exact hc h3
   rw [List.map_append,List.map_cons,List.map_nil,eU _ h2,eU _ hr,List.map_append,List.map_cons,List.map_nil]
theorem lw{c:Rat}(hc:0<c)(a:Rat):(a*c).abs=a.abs*c:=by
 have hc2:=Rat.le_of_lt hc;unfold Rat.abs;by_cases h:0≤a
 ·rw [if_pos h,if_pos (Rat.mul_nonneg h hc2)]
 ·rw [if_neg h];have h1:0 < -a:=by grind
  have h2:=Rat.mul_pos h1 hc;rw [if_neg (by grind)];grind
theorem iU{c:Rat}(hc:c≠0)(a:Rat){b:Rat}(hb:b≠0):a*c / (b*c)=a / b:=by
 have hbc:b*c≠0:=fun h=>by rcases nXq.1 h with h|h <;> contradiction
 have h1:=cY (a:=a*c) hbc;have h2:=cY (a:=a) hb;have h3:(a*c / (b*c)-a / b)*(b*c)=0:=by grind
 rcases nXq.1 h3 with h|h
 ·grind
 ·contradiction
theorem rk{c:Rat}(hc:0<c)(a b:Rat):lZ (a*c) (b*c)=lZ a b*c:=by
 have hc0:c≠0:=fun h=>by rw [h] at hc;exact absurd hc Rat.lt_irrefl
 have hz:∀ x:Rat,x*c=0↔x=0:=fun x=>⟨fun h=>(nXq.1 h).resolve_right hc0,fun h=>by rw [h,nXy]⟩
 unfold lZ;by_cases ha:a=0
 ·rw [if_pos ((hz a).2 ha),if_pos ha,lw hc]
 ·rw [if_neg (fun h=>ha ((hz a).1 h)),if_neg ha];by_cases hb:b=0
  ·rw [if_pos ((hz b).2 hb),if_pos hb]
  ·rw [if_neg (fun h=>hb ((hz b).1 h)),if_neg hb,iU hc0 a hb,←lw hc]
   congr 1
   rw [Rat.div_def,Rat.div_def];grind
theorem pz{c:Rat}(hc:0<c)(l:List Rat):eA (l.map (·*c))=eA l*c:=by
 induction l using snoc_ind with
 | h0=>show (0:Rat)=0*c;rw [nXy]
 | h1 l r ih =>
  rw [List.map_append,List.map_cons,List.map_nil,ff,ff,ih,rk hc]
theorem dH{p q:List Rat}{c:Rat}(hc:0<c)(h:∀ n,seq p n=seq q n*c):aA p=aA q:=by
 have hc0:c≠0:=fun h=>by rw [h] at hc;exact absurd hc Rat.lt_irrefl
 have h1:tz p=(tz q).map (·*c):=by
  rw [←eW hc0];exact jp fun n=>by rw [aS];exact h n
 by_cases h0:tz q=[]
 ·unfold aA;rw [h1,h0];rfl
 ·have hm:eA (tz q)≠0:=wD h0;unfold aA bO;rw [h1,pz hc,List.map_map];refine List.map_congr_left fun x hx=>?_
  exact iU hc0 x hm
theorem qT{a b s r:List Rat}{f:Rat}(hb:tz b≠[])(hr:r.length<(tz b).length)(he:∀ n,f*seq a n=cv (seq s) (seq b) n+seq r n)(n:Nat):seq r n=f*seq (bq a b) n :=
 (iT (p:=a) (q:=b) hb (s:=seq s) (r:=seq r) (F:=f) (N:=s.length) (Bd.seq s) (fun i hi=>by rw [Bd.seq r i (by omega)]) he).2 n
theorem kg{a b s r:List Rat}{f:Rat}(hb:tz b≠[])(hf:0<f)(hr:r.length<(tz b).length)(he:∀ n,f*seq a n=cv (seq s) (seq b) n+seq r n):aA (r.map (·*-1))=aA ((bq a b).map (·*-1)):=by
 refine dH hf fun n=>?_
 rw [aS,aS,qT hb hr he n];grind
end Go.Proofs.YtafgmcimcbhhjaaGreat
/- Package dspcompilerref06: its chain has the program's signs. Plain facts. -/
namespace Go.Proofs.YtafgmcimcbhhjaaGreat.Sg
open Go.RowKit Go.Front Go.Num Go.Stab Go.Proofs.YtafgmcimcbhhjaaGreat
theorem kP{A B:List Rat}(hA:tz A≠[])(hB:tz B≠[]):aA ((bq (aA A) (aA B)).map (·*-1))=aA ((bq A B).map (·*-1)):=by
 obtain ⟨h1,-,-,h4⟩:=bW A hB;have hb:tz (aA B)≠[]:=by rw [bC];exact fun h=>hB (bV.1 h)
 refine (kg (a:=aA A) (b:=aA B) (s:=(bv A B).map (·*bO B)) (r:=bq A B) (f:=bO A) hb (bL hA) (by rw [bC,aK];exact h1) (fun n=>?_)).symm;rw [←df A n,h4 n];have h5:seq ((bv A B).map (·*bO B))=fun i=>bO B*seq (bv A B) i:=by funext i;rw [aS];grind
 have h6:seq B=fun i=>bO B*seq (aA B) i:=by funext i;exact df B i
 rw [h5,fl,h6,cq _ (fun i=>bO B*_),fl,cq]
def aR(p:List Rat):List Rat:=(tz p).map (·*(1 / ((tz p).getLast?.getD 0).abs))
theorem tG{p:List Rat}(h:tz p≠[]):0<1 / ((tz p).getLast?.getD 0).abs:=by
 have h1:((tz p).getLast?.getD 0)≠0:=by
  obtain ⟨n,hn⟩:∃ n,(tz p).length=n+1:=⟨(tz p).length-1,by have:=nYe.2 h;omega⟩;have h2:=gu (l:=tz p) (n:=n) (by rw [aF];exact hn);rw [nXc] at h2;rw [List.getLast?_eq_getElem?,hn];exact h2
 refine tA (by decide) ?_;unfold Rat.abs;split <;> grind
theorem eR(p:List Rat):aA (aR p)=aA p:=by
 by_cases h:tz p=[]
 ·have:aR p=[]:=by unfold aR;rw [h];rfl
  rw [this,bV.2 h];rfl
 ·refine dH (tG h) (fun n=>?_);unfold aR;rw [aS,aN]
theorem eS{p:List Rat}:aR p=[]↔tz p=[]:=by unfold aR;exact List.map_eq_nil_iff
theorem fL(p:List Rat):tz (aR p)=aR p:=by
 by_cases h:tz p=[]
 ·rw [eS.2 h];rfl
 ·unfold aR;rw [eW (fun h0=>by have:=tG h;rw [h0] at this;exact absurd this Rat.lt_irrefl),aF]
def rch:Nat→List Rat→List Rat→List (List Rat)
 | 0,_,_=>[]
 | n+1,a,b=>if a=[] then [] else if b=[] then [a] else a :: rch n b (aR ((bq a b).map (·*-1)))
theorem m9:∀ (n:Nat) (a b:List Rat),tz a=a→tz b=b→(rch n a b).map aA=chn n (aA a) (aA b)
 | 0,_,_,_,_=>rfl
 | n+1,a,b,ha,hb=>by
  have ka:aA a=[]↔a=[]:=by rw [bV,ha]
  have kb:aA b=[]↔b=[]:=by rw [bV,hb]
  unfold rch chn;by_cases h1:a=[]
  ·rw [if_pos h1,if_pos (ka.2 h1)];rfl
  ·rw [if_neg h1,if_neg (fun h=>h1 (ka.1 h))];by_cases h2:b=[]
   ·rw [if_pos h2,if_pos (kb.2 h2)];rfl
   ·rw [if_neg h2,if_neg (fun h=>h2 (kb.1 h)),List.map_cons,m9 n b _ hb (fL _),eR,kP (by rw [ha];exact h1) (by rw [hb];exact h2)]
theorem mX(p:List Rat)(x:Rat):sg (evV (aA p) x)=sg (evV p x):=by
 by_cases h:tz p=[]
 ·rw [bV.2 h,ay.1 h x];rfl
 ·rw [eD p x,lJ,fa (bL h)];omega
theorem wo(l:List (List Rat))(x:Rat):eI (l.map aA) x=eI l x:=by
 unfold eI;rw [List.map_map]
 congr 1
 exact List.map_congr_left fun m _=>mX m x
def f9(q:List Rat):List (List Rat):=rch (q.length+1) (aR q) (aR (aM q))
theorem iX(q:List Rat)(x:Rat):eI (f9 q) x=eI (cb q) x:=by
 rw [←wo (f9 q)];unfold f9 cb;rw [m9 _ _ _ (fL _) (fL _),eR,eR]
def uZ(p:List Rat)(lo hi:Rat):Int:=(eI (f9 (fI p)) lo:Int)-eI (f9 (fI p)) hi+(if sg (evV (fI p) lo)=0 then 1 else 0)
end Go.Proofs.YtafgmcimcbhhjaaGreat.Sg
