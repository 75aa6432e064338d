import Derived.Test.YtafgmcimcbhhjaaGreatQJK2
set_option linter.unusedVariables false
namespace Go.Proofs.YtafgmcimcbhhjaaGreat.Sg
open Go.RowKit Go.Front Go.Num Go.Stab Go.Proofs.YtafgmcimcbhhjaaGreat
theorem uJ{r a b:List Rat}{c:Rat}(h:∀ i,seq r i=c*seq a i+seq b i)(x:Rat):evV r x=c*evV a x+evV b x:=by
 obtain ⟨N,h1,h2,h3⟩:∃ N,r.length≤N∧a.length≤N∧b.length≤N:=⟨r.length+a.length+b.length,zo,zo,zo⟩;rw [oy h1,oy h2,oy h3,←lO,←yt];exact sm_congr (fun i _=>by rw [h];grind)
theorem kB(r:List Rat):seq (0 :: r)=sh (seq r):=by funext n;cases n <;> rfl
theorem Ds(p:List Rat){q r:List Rat}(h:∀ n,seq r n=cv (seq p) (seq q) n)(x:Rat):evV r x=evV p x*evV q x:=by
 induction p generalizing r with
 | nil =>
  have e:evV r x=0*evV [] x:=eC (fun i=>by rw [h i,←iC];show (0:Rat)=0*_;grind) x;rw [e];show (0:Rat)*_=(0:Rat)*_;grind
 | cons c p ih =>
  have e1:evV (aI p q) x=evV p x*evV q x:=ih (fun n=>by rw [dH,iC]);have e2:evV r x=c*evV q x+evV (0 :: aI p q) x:=uJ (fun i=>by
   rw [h i,←iC,kB,dH];rfl) x
  rw [e2,iw,e1,iw];grind
theorem aU(p q:List Rat)(x:Rat):evV (aI p q) x=evV p x*evV q x:=Ds p (fun n=>by rw [dH,iC]) x
theorem fg(p q:List Rat)(n:Nat):seq (gU p q) n=seq p n+seq q n:=by
 unfold gU;rw [aT];show ((List.range (max p.length q.length)).map (fun i=>p.getD i 0+q.getD i 0)).getD n 0=p.getD n 0+q.getD n 0;rw [cG];split
 ·rfl
 ·rw [bh (l:=p) zo,bh (l:=q) zo];exact (Rat.add_zero 0).symm
theorem iz(p q:List Rat)(x:Rat):evV (gU p q) x=evV p x+evV q x:=by
 have:=uJ (r:=gU p q) (a:=p) (b:=q) (c:=1) (fun i=>by rw [fg];grind) x;rw [this];grind
theorem bP(p:List Rat)(c x:Rat):evV (p.map (·*c)) x=c*evV p x:=eC (fun i=>by rw [aQ];grind) x
def Pf(f:Rat→Rat):Prop:=∃ p,f=evV p
theorem Pf.ev(p:List Rat):Pf (evV p):=⟨p,rfl⟩
theorem Pf.const(c:Rat):Pf (fun _=>c):=⟨[c],funext fun x=>by show c=0*x+c;grind⟩
theorem Pf.add{f g:Rat→Rat}(hf:Pf f)(hg:Pf g):Pf (fun x=>f x+g x):=by
 obtain ⟨p,rfl⟩:=hf;obtain ⟨q,rfl⟩:=hg;exact ⟨gU p q,funext fun x=>(iz p q x).symm⟩
theorem Pf.mul{f g:Rat→Rat}(hf:Pf f)(hg:Pf g):Pf (fun x=>f x*g x):=by
 obtain ⟨p,rfl⟩:=hf;obtain ⟨q,rfl⟩:=hg;exact ⟨aI p q,funext fun x=>(aU p q x).symm⟩
theorem Pf.smul{f:Rat→Rat}(c:Rat)(hf:Pf f):Pf (fun x=>c*f x):=(Pf.const c).mul hf
theorem Pf.sub{f g:Rat→Rat}(hf:Pf f)(hg:Pf g):Pf (fun x=>f x-g x):=by
 have h:=hf.add (hg.smul (-1));have e:(fun x=>f x-g x)=(fun x=>f x+-1*g x):=funext fun x=>by grind
 rw [e];exact h
theorem Pf.lip{f:Rat→Rat}(h:Pf f)(A B:Rat):∃ K,0≤K∧Lip A B K f:=by obtain ⟨p,rfl⟩:=h;exact qU p A B
theorem Pf.on{f:Rat→Rat}(h:Pf f)(A B:Rat):∃ K,0≤K∧On A B K f:=by obtain ⟨p,rfl⟩:=h;exact Ax p A B
theorem qJ{K v:Rat}(hK:0≤K)(h:∀ d,0<d→d≤1→v≤K*d):v≤0:=by
 apply Classical.byContradiction;intro hn;obtain ⟨e,he,h1⟩:=fP hK (show 0<v by grind);obtain ⟨d,hd,h2,h3⟩:=ib he (show (0:Rat)<1 by decide);have h4:=h1 d h2;have h5:=h d hd h3;grind
theorem pB(p:List Rat)(h:∀ x,evV p x=0):∀ i,seq p i=0:=by
 induction p with
 | nil=>intro i;rfl
 | cons c p ih =>
  have hc:c=0:=by have:=h 0;rw [iw] at this;grind
  have h1:∀ x,x≠0→evV p x=0:=fun x hx=>by
   have h2:=h x;rw [iw,hc] at h2;have h3:evV p x*x=0:=by grind
   rcases nXr.1 h3 with h4|h4
   ·exact h4
   ·exact absurd h4 hx
  have h0:evV p 0=0:=by
   obtain ⟨K,hK,hL⟩:=qU p 0 1;have a1:=qJ (v:=evV p 0) hK (fun d hd h2=>by
    have h3:=(hL 0 d Rat.le_refl (by grind) h2).1;rw [h1 d (by grind)] at h3;grind)
   have a2:=qJ (v:=-evV p 0) hK (fun d hd h2=>by
    have h3:=(hL 0 d Rat.le_refl (by grind) h2).2;rw [h1 d (by grind)] at h3;grind)
   grind
  have h2:=ih (fun x=>by
   by_cases hx:x=0
   ·rw [hx];exact h0
   ·exact h1 x hx)
  intro i;cases i with
  | zero=>exact hc
  | succ i=>exact h2 i
theorem f9{p q:List Rat}(h:∀ x,evV p x=evV q x):∀ i,seq p i=seq q i:=by
 have h1:=pB (gU p (q.map (·*-1))) (fun x=>by rw [iz,bP,h x];grind);intro i;have:=h1 i;rw [fg,aQ] at this;grind
theorem ax{p:List Rat}:tz p=[]↔∀ x,evV p x=0:=by
 constructor
 ·intro h x;rw [←Aw,h];rfl
 ·intro h;have:=jR (a:=p) (b:=[]) (fun i=>by rw [pB p h i];rfl);exact this
theorem Dt{p q:List Rat}(hp:tz p≠[])(hq:tz q≠[]):∃ n,cv (seq p) (seq q) n≠0:=by
 obtain ⟨a,ha⟩:∃ a,(tz p).length=a+1:=⟨(tz p).length-1,by have:=nYg.2 hp;omega⟩;obtain ⟨b,hb⟩:∃ b,(tz q).length=b+1:=⟨(tz q).length-1,by have:=nYg.2 hq;omega⟩;refine ⟨a+b,?_⟩;rw [←aT p,←aT q,oF (by rw [←ha];exact Bd.seq _) (by rw [←hb];exact Bd.seq _)];intro h;have h1:=bT hp;have h2:=bT hq;unfold aJ at h1 h2;rw [ha,Nat.add_sub_cancel] at h1;rw [hb,Nat.add_sub_cancel] at h2;rcases nXr.1 h with h3|h3
 ·exact h1 h3
 ·exact h2 h3
theorem qz{f g:Rat→Rat}(hf:Pf f)(hg:Pf g)(h:∀ x,f x*g x=0)(h0:∃ x,f x≠0):∀ x,g x=0:=by
 obtain ⟨p,rfl⟩:=hf;obtain ⟨q,rfl⟩:=hg;obtain ⟨y,hy⟩:=h0;have hp:tz p≠[]:=fun h=>hy (ax.1 h y)
 by_cases hq:tz q=[]
 ·exact ax.1 hq
 ·exfalso;obtain ⟨n,hn⟩:=Dt hp hq;have h1:=pB (aI p q) (fun x=>by rw [aU];exact h x) n;rw [dH,iC] at h1;exact hn h1
theorem ek{f g h:Rat→Rat}(hf:Pf f)(hg:Pf g)(hh:Pf h)(he:∀ x,f x*g x=f x*h x)(h0:∃ x,f x≠0):∀ x,g x=h x:=fun x=>by
 have:=qz hf (hg.sub hh) (fun x=>by have:=he x;grind) h0 x;grind
def Dv(a b:Rat→Rat):Prop:=∃ c,Pf c∧∀ x,b x=a x*c x
def Cp(a b:Rat→Rat):Prop:=∃ u v,Pf u∧Pf v∧∀ x,u x*a x+v x*b x=1
theorem Dv.add{a b c:Rat→Rat}(h:Dv a b)(k:Dv a c):Dv a (fun x=>b x+c x):=by
 obtain ⟨u,hu,h1⟩:=h;obtain ⟨v,hv,h2⟩:=k;exact ⟨_,hu.add hv,fun x=>by show b x+c x=_;rw [h2,h1];grind⟩
theorem Dv.sub{a b c:Rat→Rat}(h:Dv a b)(k:Dv a c):Dv a (fun x=>b x-c x):=by
 obtain ⟨u,hu,h1⟩:=h;obtain ⟨v,hv,h2⟩:=k;exact ⟨_,hu.sub hv,fun x=>by show b x-c x=_;rw [h2,h1];grind⟩
theorem Dv.mulr{a b c:Rat→Rat}(h:Dv a b)(k:Pf c):Dv a (fun x=>b x*c x):=by
 obtain ⟨u,hu,h1⟩:=h;exact ⟨_,hu.mul k,fun x=>by show b x*c x=_;rw [h1];grind⟩
theorem Dv.mull{a b c:Rat→Rat}(h:Dv a b)(k:Pf c):Dv a (fun x=>c x*b x):=by
 obtain ⟨u,hu,h1⟩:=h;exact ⟨_,hu.mul k,fun x=>by show c x*b x=_;rw [h1];grind⟩
theorem Cp.dv{a b c:Rat→Rat}(h:Cp a b)(hc:Pf c)(k:Dv a (fun x=>b x*c x)):Dv a c:=by
 obtain ⟨u,v,hu,hv,h1⟩:=h;obtain ⟨d,hd,h2⟩:=k;exact ⟨_,(hu.mul hc).add (hv.mul hd),fun x=>by
  have e1:=h1 x;have e2:b x*c x=a x*d x:=h2 x;have e3:(u x*a x+v x*b x)*c x=c x:=by rw [e1];grind
  have e4:v x*(b x*c x)=v x*(a x*d x):=by rw [e2]
  show c x=a x*((u x*c x)+v x*d x);grind⟩
theorem Cp.dvl{a b c:Rat→Rat}(h:Cp a b)(hc:Pf c)(k:Dv a (fun x=>c x*b x)):Dv a c:=h.dv hc (by
 obtain ⟨d,hd,h2⟩:=k;exact ⟨d,hd,fun x=>by rw [←h2];grind⟩)
def IsD(f g:Rat→Rat):Prop:=∀ A B,∃ K,0≤K∧∀ s t,A≤s→s≤t→t≤B→Bd (K*(t-s)*(t-s)) (f t-f s-g s*(t-s))
theorem IsD.ev(p:List Rat):IsD (evV p) (evD p):=fun A B=>qT p A B
theorem IsD.const(c:Rat):IsD (fun _=>c) (fun _=>0):=fun A B=>⟨0,Rat.le_refl,fun s t _ _ _=>⟨by grind,by grind⟩⟩
theorem IsD.uniq{f g h:Rat→Rat}(a:IsD f g)(b:IsD f h)(x:Rat):g x=h x:=by
 obtain ⟨K,hK,h1⟩:=a x (x+1);obtain ⟨L,hL,h2⟩:=b x (x+1);have key:∀ d,0<d→d≤1→g x-h x≤(K+L)*d∧h x-g x≤(K+L)*d:=fun d hd h3=>by
  obtain ⟨e1,e2⟩:=h1 x (x+d) Rat.le_refl (by grind) (by grind);obtain ⟨e3,e4⟩:=h2 x (x+d) Rat.le_refl (by grind) (by grind);rw [show x+d-x=d by grind] at e1 e2 e3 e4;have cancel:∀ u v:Rat,u*d≤v*d→u≤v:=fun u v h=>by
   apply Classical.byContradiction;intro hn;have:=eS (show v<u by grind) hd;grind
  exact ⟨cancel _ _ (by grind),cancel _ _ (by grind)⟩
 have a1:=qJ (v:=g x-h x) (K:=K+L) (by grind) (fun d h1 h2=>(key d h1 h2).1);have a2:=qJ (v:=h x-g x) (K:=K+L) (by grind) (fun d h1 h2=>(key d h1 h2).2);grind
theorem IsD.mul{f g f' g':Rat→Rat}(a:IsD f f')(b:IsD g g')(hf:Pf f)(hg:Pf g)(hf':Pf f'):IsD (fun x=>f x*g x) (fun x=>f' x*g x+f x*g' x):=by
 intro A B;obtain ⟨K,hK,h1⟩:=a A B;obtain ⟨L,hL,h2⟩:=b A B;obtain ⟨M,hM,h3⟩:=hf.on A B;obtain ⟨N,hN,h4⟩:=hg.on A B;obtain ⟨P,hP,h5⟩:=hf'.on A B;obtain ⟨Q,hQ,h6⟩:=hg.lip A B;refine ⟨K*N+P*Q+M*L,by have:=mX hK hN;have:=mX hP hQ;have:=mX hM hL;grind,fun s t k1 k2 k3=>?_⟩;have h0:0≤t-s:=by grind
 have b1:=(h1 s t k1 k2 k3).mul (h4 t (by grind) k3);have b2:=((h5 s k1 (by grind)).mul (Bd.self h0)).mul (h6 s t k1 k2 k3);have b3:=(h3 s k1 (by grind)).mul (h2 s t k1 k2 k3);have e:=(b1.add b2).add b3;rw [show (K*N+P*Q+M*L)*(t-s)*(t-s)=K*(t-s)*(t-s)*N+P*(t-s)*(Q*(t-s))+M*(L*(t-s)*(t-s)) by grind,
  show f t*g t-f s*g s-(f' s*g s+f s*g' s)*(t-s)=(f t-f s-f' s*(t-s))*g t+f' s*(t-s)*(g t-g s)+f s*(g t-g s-g' s*(t-s)) by grind]
 exact e
def derL:List Rat→List Rat
 | []=>[]
 | _ :: p=>gU (0 :: derL p) p
theorem cI(p:List Rat)(x:Rat):evV (derL p) x=evD p x:=by
 induction p with
 | nil=>rfl
 | cons c p ih =>
  show evV (gU (0 :: derL p) p) x=evD p x*x+evV p x;rw [iz,iw,ih];grind
theorem seq_derL(p:List Rat)(n:Nat):seq (derL p) n=((n+1:Nat):Rat)*seq p (n+1):=by
 induction p generalizing n with
 | nil=>show (0:Rat)=_*(0:Rat);grind
 | cons c p ih =>
  show seq (gU (0 :: derL p) p) n=((n+1:Nat):Rat)*seq p n;rw [fg,kB];cases n with
  | zero=>show (0:Rat)+seq p 0=((0+1:Nat):Rat)*seq p 0;rw [show ((0+1:Nat):Rat)=1 from rfl];grind
  | succ n =>
   show seq (derL p) n+seq p (n+1)=_;rw [ih,Rat.natCast_add (n+1) 1,show ((1:Nat):Rat)=1 from rfl];grind
theorem Pf.der(p:List Rat):Pf (evD p):=⟨derL p,funext fun x=>(cI p x).symm⟩
theorem qy{f:Rat→Rat}(h:Pf f):∃ g,Pf g∧IsD f g:=by obtain ⟨p,rfl⟩:=h;exact ⟨_,Pf.der p,IsD.ev p⟩
theorem oz{a p:List Rat}(h:Pr a p):∃ c:Rat,c≠0∧∀ x,evV a x=c*evV p x:=by
 obtain ⟨c,h1,h2⟩:=h;exact ⟨c,h1,fun x=>eC h2 x⟩
theorem jg(p:List Rat){q:List Rat}(h:tz q≠[])(x:Rat):evV p x=evV (bD p q) x*evV q x+evV (bB p q) x:=by
 have h1:=(cd p h).2.2.2;have h2:=uJ (r:=p) (a:=aI (bD p q) q) (b:=bB p q) (c:=1) (fun i=>by rw [h1 i,dH,iC];grind) x;rw [h2,aU];grind
def IsG(g a b:Rat→Rat):Prop:=Dv g a∧Dv g b∧∃ u v,Pf u∧Pf v∧∀ x,g x=u x*a x+v x*b x
theorem uE:∀ (f:Nat) (p q:List Rat),q.length≤f→tz q=q→IsG (evV (ov f p q)) (evV p) (evV q):=by
 have hbase:∀ p:List Rat,IsG (evV p) (evV p) (evV []):=fun p=>⟨⟨_,Pf.const 1,fun x=>by grind⟩,⟨_,Pf.const 0,fun x=>by show (0:Rat)=_*0;grind⟩,_,_,Pf.const 1,Pf.const 0,fun x=>by show _=1*_+0*(0:Rat);grind⟩
 intro f;induction f with
 | zero =>
  intro p q h ht;obtain rfl:q=[]:=nXj.1 zo;exact hbase p
 | succ f ih =>
  intro p q h ht;by_cases h0:q=[]
  ·subst h0;rw [gI];exact hbase p
  ·have hq:tz q≠[]:=by rw [ht];exact h0
   have h1:=(cd p hq).1;have h2:=cH (bB p q);have h3:=ah (bB p q);rw [ht] at h1;rw [f4 h0];obtain ⟨g1,g2,u,v,hu,hv,g3⟩:=ih q (bq (bB p q)) zo (dI _);obtain ⟨c,hc,hm⟩:=oz (eI (bB p q));have hr:∀ x,evV (bB p q) x=c⁻¹*evV (bq (bB p q)) x:=fun x=>by
    have:=nYj c hc;rw [hm x];grind
   refine ⟨?_,g1,_,_,hv.smul c,hu.sub ((hv.smul c).mul (Pf.ev (bD p q))),fun x=>?_⟩
   ·have h4:=(g1.mull (Pf.ev (bD p q))).add (g2.mull (Pf.const c⁻¹));obtain ⟨d,hd,h5⟩:=h4;exact ⟨d,hd,fun x=>by rw [←h5 x,jg p hq x,hr x]⟩
   ·rw [g3 x,hm x,jg p hq x];grind
theorem gG(p q:List Rat):IsG (evV (bN p q)) (evV p) (evV q):=by
 obtain ⟨g1,g2,u,v,hu,hv,g3⟩:=uE (tz q).length (bq p) (bq q) (by rw [cH];exact nXe _) (dI q);obtain ⟨c,hc,h1⟩:=oz (eI p);obtain ⟨d,hd,h2⟩:=oz (eI q);have inv:∀ {c:Rat} {f g:Rat→Rat},c≠0→(∀ x,f x=c*g x)→∀ x,g x=c⁻¹*f x:=fun hc h x=>by
  have:=nYj _ hc;rw [h x];grind
 refine ⟨?_,?_,_,_,hu.smul c,hv.smul d,fun x=>?_⟩
 ·obtain ⟨e,he,h3⟩:=g1.mull (Pf.const c⁻¹);exact ⟨e,he,fun x=>(inv hc h1 x).trans (h3 x)⟩
 ·obtain ⟨e,he,h3⟩:=g2.mull (Pf.const d⁻¹);exact ⟨e,he,fun x=>(inv hd h2 x).trans (h3 x)⟩
 ·show evV (ov (tz q).length (bq p) (bq q)) x=_;rw [g3 x,h1,h2];grind
theorem gg{a b:List Rat}(h:Dv (evV a) (evV b))(hb:tz b≠[]):(tz a).length≤(tz b).length:=by
 obtain ⟨c,⟨p,rfl⟩,h1⟩:=h;have ha:tz a≠[]:=fun h=>hb (ax.2 fun x=>by rw [h1 x,ax.1 h x];grind)
 have hp:tz p≠[]:=fun h=>hb (ax.2 fun x=>by rw [h1 x,ax.1 h x];grind)
 obtain ⟨i,hi⟩:∃ a',(tz a).length=a'+1:=⟨(tz a).length-1,by have:=nYg.2 ha;omega⟩;obtain ⟨j,hj⟩:∃ b',(tz p).length=b'+1:=⟨(tz p).length-1,by have:=nYg.2 hp;omega⟩;have h2:=f9 (p:=b) (q:=aI a p) (fun x=>by rw [aU];exact h1 x) (i+j);rw [dH,iC,←aT a,←aT p,oF (by rw [←hi];exact Bd.seq _) (by rw [←hj];exact Bd.seq _),←aT b] at h2;have k1:=bT ha;have k2:=bT hp;unfold aJ at k1 k2;rw [hi,Nat.add_sub_cancel] at k1;rw [hj,Nat.add_sub_cancel] at k2;rcases Nat.lt_or_ge (i+j) (tz b).length with h3|h3
 ·omega
 ·exfalso;rw [Bd.seq (tz b) _ h3] at h2;rcases nXr.1 h2.symm with h4|h4
  ·exact k1 h4
  ·exact k2 h4
theorem dN{p:List Rat}(h:tz p≠[]):∃ n,(tz p).length=n+1∧seq p n≠0:=by
 obtain ⟨n,hn⟩:∃ n,(tz p).length=n+1:=⟨(tz p).length-1,by have:=nYg.2 h;omega⟩;exact ⟨n,hn,iM hn⟩
theorem yF{n:Nat}:((n+1:Nat):Rat)≠0:=fun h=>by
 have:n+1=0:=by exact_mod_cast h
 omega
theorem eK(p:List Rat)(n:Nat)(h:(tz p).length=n+1):(tz (derL p)).length≤n:=by
 rcases Nat.lt_or_ge n (tz (derL p)).length with h1|h1
 ·exfalso;have h2:tz (derL p)≠[]:=fun h=>by rw [h] at h1;simp at h1
  obtain ⟨k,h3,h4⟩:=dN h2;rw [seq_derL] at h4;apply h4;rw [←aT p,Bd.seq (tz p) (k+1) zo];grind
 ·exact h1
theorem ve{p:List Rat}{n:Nat}(h:(tz p).length=n+2):tz (derL p)≠[]:=fun h0=>by
 have h1:seq (derL p) n=0:=by rw [←aT,h0];rfl
 rw [seq_derL] at h1;have h2:seq p (n+1)≠0:=iM h;rcases nXr.1 h1 with h3|h3
 ·exact yF h3
 ·exact h2 h3
theorem fo{p:List Rat}(h:(tz p).length≤1):∀ x,evV p x=seq p 0:=fun x=>by
 rw [←Aw,←aT p]
 match tz p,h with
 | [],_=>rfl
 | [c],_=>show 0*x+c=c;grind
theorem Bt{g p p' r q1:Rat→Rat}(hg:Pf g)(hr:Pf r)(hq:Pf q1)(h:IsG g p p')(h1:∀ x,p x=g x*r x)(h2:∀ x,p' x=g x*q1 x)(h0:∃ x,p x≠0):Cp r q1:=by
 obtain ⟨-,-,u,v,hu,hv,h3⟩:=h;refine ⟨u,v,hu,hv,fun x=>?_⟩;refine ek (f:=g) (g:=fun x=>u x*r x+v x*q1 x) (h:=fun _=>1) hg ((hu.mul hr).add (hv.mul hq)) (Pf.const 1) (fun x=>?_) ?_ x
 ·have e:=h3 x;rw [h1,h2] at e;grind
 ·obtain ⟨y,hy⟩:=h0;exact ⟨y,fun h=>hy (by rw [h1,h];grind)⟩
theorem vY:∀ (n:Nat) (p:List Rat),(tz p).length≤n→tz p≠[]→∀ g r:Rat→Rat,Pf g→Pf r→IsG g (evV p) (evD p)→(∀ x,evV p x=g x*r x)→∀ r',Pf r'→IsD r r'→Cp r r':=by
 intro n;induction n with
 | zero=>intro p h h0;exact absurd (nXj.1 zo) h0
 | succ n ih =>
  intro p hn h0 g r hg hr hG h1 r' hr' hd;have hp0:∃ x,evV p x≠0:=Classical.byContradiction fun h=>h0 (ax.2 fun x=>Classical.byContradiction fun h2=>h ⟨x,h2⟩)
  obtain ⟨q1,hq1,h2⟩:=hG.2.1;have hcp:=Bt hg hr hq1 hG h1 h2 hp0;obtain ⟨gl,rfl⟩:=id hg;have hg0:tz gl≠[]:=fun h=>by
   obtain ⟨y,hy⟩:=hp0;exact hy (by rw [h1,ax.1 h y];grind)
  have hgx:∃ x,evV gl x≠0:=by
   obtain ⟨y,hy⟩:=hp0;exact ⟨y,fun h=>hy (by rw [h1,h];grind)⟩
  have hslope:∀ x,evD gl x*r x+evV gl x*r' x=evV gl x*q1 x:=fun x=>by
   have e:=(IsD.mul (IsD.ev gl) hd hg hr (Pf.der gl)).uniq (by
    have:=IsD.ev p;rw [show evV p=fun x=>evV gl x*r x from funext h1] at this;exact this) x
   rw [h2 x] at e;exact e
  rcases Nat.lt_or_ge 1 (tz gl).length with hl|hl
  ·-- g is not a constant
   obtain ⟨k,hk,-⟩:=dN hg0;have hpg:=gg hG.1 h0;obtain ⟨m,hm⟩:∃ m,(tz p).length=m+2:=⟨(tz p).length-2,zo⟩;have hpd:=ve hm;have hdl:Dv (evV gl) (evV (derL p)):=by rw [show evV (derL p)=evD p from funext (cI p)];exact hG.2.1
   have hlen:=gg hdl hpd;have hder:=eK p (m+1) hm;have hG2:=gG gl (derL gl);rw [show evV (derL gl)=evD gl from funext (cI gl)] at hG2;obtain ⟨r1,hr1,e1⟩:=hG2.1;obtain ⟨s1,hs1,e2⟩:=hG2.2.1;obtain ⟨r1',hr1',hd1⟩:=qy hr1;have hc1:=ih gl zo hg0 _ r1 (Pf.ev _) hr1 hG2 e1 r1' hr1' hd1;have hc2:=Bt (Pf.ev _) hr1 hs1 hG2 e1 e2 hgx;have hp2x:∃ x,evV (bN gl (derL gl)) x≠0:=by
    obtain ⟨y,hy⟩:=hgx;exact ⟨y,fun h=>hy (by rw [e1,h];grind)⟩
   have e3:∀ x,s1 x*r x=r1 x*(q1 x-r' x):=ek (f:=evV (bN gl (derL gl))) (g:=fun x=>s1 x*r x) (h:=fun x=>r1 x*(q1 x-r' x)) (Pf.ev _) (hs1.mul hr) (hr1.mul (hq1.sub hr')) (fun x=>by
    have h3:=hslope x;rw [e2 x,e1 x] at h3;grind) hp2x
   obtain ⟨w,hw,e4⟩:=hc2.dv hr ⟨_,hq1.sub hr',e3⟩;have hr1x:∃ x,r1 x≠0:=by
    obtain ⟨y,hy⟩:=hgx;exact ⟨y,fun h=>hy (by rw [e1,h];grind)⟩
   have e5:∀ x,s1 x*w x=q1 x-r' x:=ek (f:=r1) (g:=fun x=>s1 x*w x) (h:=fun x=>q1 x-r' x) hr1 (hs1.mul hw) (hq1.sub hr') (fun x=>by
    have h3:=e3 x;rw [e4 x] at h3;grind) hr1x
   obtain ⟨rl,hrl⟩:=id hr;have hrd:r'=evD rl:=funext fun x=>hd.uniq (by rw [hrl];exact IsD.ev rl) x
   have hG3:=gG rl (derL rl);rw [show evV (derL rl)=evD rl from funext (cI rl),←hrl,←hrd] at hG3;obtain ⟨h,hh⟩:∃ h,h=evV (bN rl (derL rl)):=⟨_,rfl⟩;rw [←hh] at hG3;have hhp:Pf h:=⟨_,hh⟩;obtain ⟨d1,d2,ua,va,hua,hva,d3⟩:=hG3;obtain ⟨w',hw',hdw⟩:=qy hw;have hcw:Cp h w:=by
    obtain ⟨u,v,hu,hv,b1⟩:=hcp;obtain ⟨x1,hx1,b2⟩:=d1;obtain ⟨x2,hx2,b3⟩:=d2;refine ⟨_,_,(hu.mul hx1).add (hv.mul hx2),hv.mul hs1,fun x=>?_⟩;have b4:=b1 x;have b5:=e5 x;have b6:q1 x=s1 x*w x+r' x:=by grind
    rw [b6,b2 x,b3 x] at b4;grind
   have hr1d:Dv h r1:=hcw.dvl hr1 (by
    obtain ⟨x1,hx1,b2⟩:=d1;exact ⟨x1,hx1,fun x=>by rw [←b2 x,e4 x]⟩)
   have hrs:∀ x,r1' x*w x+r1 x*w' x=r' x:=fun x=>(IsD.mul hd1 hdw hr1 hw hr1').uniq (by
    rw [←show r=fun x=>r1 x*w x from funext e4];exact hd) x
   have hr1d':Dv h r1':=hcw.dvl hr1' (by
    obtain ⟨x1,hx1,b2⟩:=d2.sub (hr1d.mulr hw');exact ⟨x1,hx1,fun x=>by
     have e:=b2 x;have e':=hrs x;rw [←e];show r1' x*w x=r' x-r1 x*w' x;grind⟩)
   obtain ⟨a,b,ha,hb,c1⟩:=hc1;obtain ⟨x1,hx1,c2⟩:=hr1d;obtain ⟨x2,hx2,c3⟩:=hr1d';refine ⟨_,_,((ha.mul hx1).add (hb.mul hx2)).mul hua,((ha.mul hx1).add (hb.mul hx2)).mul hva,fun x=>?_⟩;have c4:=c1 x;rw [c2 x,c3 x,d3 x] at c4;grind
  ·-- g is a constant
   have hcst:=fo hl;obtain ⟨y,hy⟩:=hgx;have hc0:seq gl 0≠0:=by rw [←hcst y];exact hy
   have hz:∀ x,evD gl x=0:=fun x=>(IsD.ev gl).uniq (by rw [show evV gl=fun _=>seq gl 0 from funext hcst];exact IsD.const _) x
   have he:∀ x,r' x=q1 x:=fun x=>by
    have h3:=hslope x;rw [hz x,hcst x] at h3;have h4:=nYj _ hc0;have h5:(seq gl 0)⁻¹*(seq gl 0*r' x)=(seq gl 0)⁻¹*(seq gl 0*q1 x):=by congr 1;grind
    rw [←nYd,←nYd,nYc _ (seq gl 0),h4,Rat.one_mul,Rat.one_mul] at h5;exact h5
   rw [show r'=q1 from funext he];exact hcp
def chn:Nat→List Rat→List Rat→List (List Rat)
 | 0,_,_=>[]
 | n+1,a,b=>if a=[] then [] else if b=[] then [a] else a :: chn n b (ar ((bB a b).map (·*-1)))
theorem cX{n:Nat}{a:List Rat}(h:a≠[]):chn (n+1) a []=[a]:=by simp [chn,h]
theorem dS{n:Nat}{a b:List Rat}(h:a≠[])(k:b≠[]):chn (n+1) a b=a :: chn n b (ar ((bB a b).map (·*-1))):=by simp [chn,h,k]
theorem cj(p:List Rat)(x:Rat):evV p x=aK p*evV (ar p) x:=eC (cS p) x
theorem bH{p:List Rat}:ar p=[]↔tz p=[]:=by rw [←nXj,←nXj,aC]
theorem tT(a b:List Rat)(hb:tz b≠[]):∃ d:Rat,0<d∧∀ x,evV a x+d*evV (ar ((bB a b).map (·*-1))) x=evV (bD a b) x*evV b x:=by
 have h1:=jg a hb;by_cases h0:tz ((bB a b).map (·*-1))=[]
 ·refine ⟨1,dZ,fun x=>?_⟩;have h2:=ax.1 h0 x;rw [bP] at h2;rw [bH.2 h0,h1 x];show _+1*(0:Rat)=_;grind
 ·refine ⟨aK ((bB a b).map (·*-1)),aZ h0,fun x=>?_⟩;have h2:=cj ((bB a b).map (·*-1)) x;rw [←h2,bP,h1 x];grind
theorem mN(a b:List Rat)(hb:tz b≠[]):(ar ((bB a b).map (·*-1))).length<(tz b).length:=by
 have h1:=(cd a hb).1;have h2:=ah ((bB a b).map (·*-1));rw [nXl] at h2;rw [aC];omega
theorem BG{A B d:Rat}{f g h q:Rat→Rat}(hd:0<d)(hq:Pf q)(he:∀ x,f x+d*h x=q x*g x):Row A B f g h:=by
 obtain ⟨Q,hQ,h1⟩:=hq.on A B;exact ⟨1,d,Q,dZ,hd,hQ,q,h1,fun x=>by have:=he x;grind⟩
theorem zj{A B:Rat}{f u:Rat→Rat}(hu:Pf u)(h:∀ x,u x*f x=1):∃ r,0<r∧∀ x,A≤x→x≤B→Big r (f x):=by
 obtain ⟨M,hM,h1⟩:=hu.on A B;refine ⟨1 / (M+1),uV dZ (by grind),fun x ha hb=>?_⟩;have h2:=h x;apply Classical.byContradiction;intro hn;obtain ⟨n1,n2⟩:=jG hn;have h3:=(h1 x ha hb).mul (show Bd (1 / (M+1)) (f x) from ⟨by grind,by grind⟩);rw [h2] at h3;have h4:=h3.2;have h5:=aw (a:=1) (b:=M+1) (by grind);have h6:=uV (show (0:Rat)<1 by decide) (show 0<M+1 by grind);grind
theorem CJ{A B:Rat}:∀ (n:Nat) (a b:List Rat),b.length≤n→tz b=b→a≠[]→Cp (evV a) (evV b)→∃ l,chn (n+1) a b=a :: l∧Ch A B (evV a) (l.map evV)∧(b≠[]→∃ l',l=b :: l'):=by
 intro n;induction n with
 | zero =>
  intro a b h ht ha hc;obtain rfl:b=[]:=nXj.1 zo;refine ⟨[],cX ha,?_,fun h=>absurd rfl h⟩;obtain ⟨u,v,hu,hv,h1⟩:=hc;exact zj hu (fun x=>by have:=h1 x;have e:evV [] x=0:=rfl;rw [e] at this;grind)
 | succ n ih =>
  intro a b h ht ha hc;by_cases hb:b=[]
  ·subst hb;refine ⟨[],cX ha,?_,fun h=>absurd rfl h⟩;obtain ⟨u,v,hu,hv,h1⟩:=hc;exact zj hu (fun x=>by have:=h1 x;have e:evV [] x=0:=rfl;rw [e] at this;grind)
  ·have hbt:tz b≠[]:=by rw [ht];exact hb
   obtain ⟨d,hd,he⟩:=tT a b hbt;have hl:=mN a b hbt;rw [ht] at hl;obtain ⟨c,hcc⟩:∃ c,c=ar ((bB a b).map (·*-1)):=⟨_,rfl⟩;have hct:tz c=c:=by rw [hcc,aX]
   rw [←hcc] at he hl;have hcp:Cp (evV b) (evV c):=by
    obtain ⟨u,v,hu,hv,h1⟩:=hc;refine ⟨_,_,(hu.mul (Pf.ev (bD a b))).add hv,hu.smul (-d),fun x=>?_⟩;have e1:=h1 x;have e2:=he x;have e3:evV a x=evV (bD a b) x*evV b x-d*evV c x:=by grind
    rw [e3] at e1;grind
   obtain ⟨l,h1,h2,h3⟩:=ih b c zo hct hb hcp;refine ⟨b :: l,by rw [dS ha hb,←hcc,h1],?_,fun _=>⟨l,rfl⟩⟩;cases l with
   | nil=>exact h2
   | cons e l =>
    have hce:e=c:=by
     by_cases h0:c=[]
     ·subst h0;rw [cX hb] at h1;cases h1
     ·obtain ⟨l',h4⟩:=h3 h0;cases h4;rfl
    subst hce;exact ⟨BG hd (Pf.ev (bD a b)) he,h2⟩
theorem rx:∀ (n:Nat) (a b:List Rat),b.length≤n→tz b=b→tz a=a→a≠[]→∃ e,(chn (n+1) a b).getLast?=some e∧e≠[]∧tz e=e∧IsG (evV e) (evV a) (evV b):=by
 have hbase:∀ p:List Rat,IsG (evV p) (evV p) (evV []):=fun p=>⟨⟨_,Pf.const 1,fun x=>by grind⟩,⟨_,Pf.const 0,fun x=>by show (0:Rat)=_*0;grind⟩,_,_,Pf.const 1,Pf.const 0,fun x=>by show _=1*_+0*(0:Rat);grind⟩
 intro n;induction n with
 | zero =>
  intro a b h ht hta ha;obtain rfl:b=[]:=nXj.1 zo;exact ⟨a,by rw [cX ha];rfl,ha,hta,hbase a⟩
 | succ n ih =>
  intro a b h ht hta ha;by_cases hb:b=[]
  ·subst hb;exact ⟨a,by rw [cX ha];rfl,ha,hta,hbase a⟩
  ·have hbt:tz b≠[]:=by rw [ht];exact hb
   obtain ⟨d,hd,he⟩:=tT a b hbt;have hl:=mN a b hbt;rw [ht] at hl;obtain ⟨c,hcc⟩:∃ c,c=ar ((bB a b).map (·*-1)):=⟨_,rfl⟩;have hct:tz c=c:=by rw [hcc,aX]
   rw [←hcc] at he hl;obtain ⟨e,h1,h2,h3,h4,h5,u,v,hu,hv,h6⟩:=ih b c zo hct ht hb;have hne:chn (n+1) b c≠[]:=fun h=>by rw [h] at h1;cases h1
   refine ⟨e,?_,h2,h3,?_,h4,?_⟩
   ·rw [dS ha hb,←hcc];obtain ⟨x,y,hxy⟩:=List.exists_cons_of_ne_nil hne;rw [hxy] at h1 ⊢;rw [List.getLast?_cons_cons];exact h1
   ·obtain ⟨w,hw,k⟩:=(h4.mull (Pf.ev (bD a b))).sub (h5.mull (Pf.const d));exact ⟨w,hw,fun x=>by rw [←k x];have:=he x;grind⟩
   ·have hdi:=nYj d (by grind);have hce:∀ x,evV c x=d⁻¹*(evV (bD a b) x*evV b x-evV a x):=fun x=>by
     have:=he x;have e1:d*evV c x=evV (bD a b) x*evV b x-evV a x:=by grind
     rw [←e1,←nYd,nYc d⁻¹,hdi,Rat.one_mul]
    refine ⟨_,_,hv.smul (-d⁻¹),hu.add ((hv.smul d⁻¹).mul (Pf.ev (bD a b))),fun x=>?_⟩;rw [h6 x,hce x];grind
def remsV(p:List Rat):List (List Rat):=chn (p.length+1) (ar p) (ar (derL p))
theorem xQ{p:List Rat}(h:tz p≠[])(x:Rat):evD (ar p) x=aK (derL p) / aK p*evV (ar (derL p)) x:=by
 have hm:=aZ h;have h1:evD p x=aK p*evD (ar p) x:=by
  rw [←cI,←cI];refine eC (fun i=>?_) x;rw [seq_derL,seq_derL,cS p];grind
 have h2:=cj (derL p) x;rw [cI,h1] at h2;have h3:=aw (a:=aK (derL p)) (b:=aK p) (by grind);have h4:=nYj (aK p) (by grind);have h5:(aK p)⁻¹*(aK p*evD (ar p) x)=(aK p)⁻¹*(aK (derL p)*evV (ar (derL p)) x):=by rw [h2]
 rw [←nYd,nYc _ (aK p),h4,Rat.one_mul] at h5;rw [h5,Rat.div_def];grind
theorem Bv{p:List Rat}(h:tz p≠[])(hc:Cp (evV p) (evD p)):Cp (evV (ar p)) (evV (ar (derL p))):=by
 obtain ⟨u,v,hu,hv,h1⟩:=hc;refine ⟨_,_,hu.smul (aK p),hv.smul (aK (derL p)),fun x=>?_⟩;have e1:=h1 x;rw [cj p x,←cI,cj (derL p) x] at e1;grind
theorem qj{p:List Rat}(h:tz p≠[])(hc:Cp (evV p) (evD p))(A B:Rat):∃ l,remsV p=ar p :: l∧Fit A B (evV (ar p)) (l.map evV):=by
 have hlen:(ar (derL p)).length≤p.length:=by
  rw [aC];obtain ⟨n,hn,-⟩:=dN h;have:=eK p n hn;have:=ah p;omega
 obtain ⟨l,h1,h2,h3⟩:=CJ (A:=A) (B:=B) p.length (ar p) (ar (derL p)) hlen (aX _) (fun h0=>h (bH.1 h0)) (Bv h hc);refine ⟨l,h1,h2,qU _ A B,?_,?_⟩
 ·intro g hg;obtain ⟨q,-,rfl⟩:=nYf.1 hg;exact qU q A B
 ·intro g l' hl;by_cases hb:ar (derL p)=[]
  ·exfalso;have h4:remsV p=[ar p]:=by unfold remsV;rw [hb,cX (fun h0=>h (bH.1 h0))]
   have h5:remsV p=ar p :: l:=h1;rw [h4] at h5;cases h5;cases hl
  ·obtain ⟨l2,hl2⟩:=h3 hb;subst hl2;rw [List.map_cons] at hl;cases hl;obtain ⟨K,hK,h6⟩:=qT (ar p) A B;have hp1:=aZ h;have hp2:=aZ (p:=derL p) (fun h0=>hb (bH.2 h0));refine ⟨aK (derL p) / aK p,K,uV hp2 hp1,hK,fun s t k1 k2 k3=>?_⟩;have h7:=h6 s t k1 k2 k3;rw [xQ h] at h7;exact h7
def sqfV(p:List Rat):List Rat:=bq (bD p (bN p (derL p)))
def rootV(p:List Rat):List Rat:=if 2≤((remsV p).getLast?.getD []).length then sqfV p else p
structure Rt (p r:List Rat):Prop where
 ne:tz r≠[]
 cp:Cp (evV r) (evD r)
 dv:∃ g q1:Rat→Rat,Pf g∧Pf q1∧IsG g (evV p) (evD p)∧(∀ x,evV p x=g x*evV r x)∧(∀ x,evD p x=g x*q1 x)
theorem kJ{p q:List Rat}(hq:tz q≠[])(h:Dv (evV q) (evV p)):∀ x,evV p x=evV q x*evV (bD p q) x:=by
 obtain ⟨c,⟨s,rfl⟩,h1⟩:=h;have h2:=f9 (p:=p) (q:=aI s q) (fun x=>by rw [aU,h1 x];grind);have h3:=gK (p:=p) hq (s:=seq s) (r:=fun _=>0) (F:=1) (N:=s.length) (Bd.seq s) (fun i _=>rfl) (fun n=>by
  rw [Rat.one_mul,h2 n,dH,iC];grind)
 intro x;rw [h1 x]
 congr 1
 exact (eC (c:=1) (fun i=>h3.1 i) x).trans (Rat.one_mul _)
theorem yK{p g:List Rat}(h:tz p≠[])(hG:IsG (evV g) (evV p) (evD p)):tz g≠[]:=fun h0=>h (ax.2 fun x=>by
 obtain ⟨c,-,h1⟩:=hG.1;rw [h1 x,ax.1 h0 x];grind)
theorem yX{p g:List Rat}(hG:IsG (evV g) (evV p) (evV (derL p))):IsG (evV g) (evV p) (evD p):=by
 rw [show evD p=evV (derL p) from funext fun x=>(cI p x).symm];exact hG
theorem xx{f g:Rat→Rat}(c:Rat)(h:IsD f g)(hf:Pf f)(hg:Pf g):IsD (fun x=>c*f x) (fun x=>c*g x):=by
 have h1:=IsD.mul (IsD.const c) h (Pf.const c) hf (Pf.const 0);have e:(fun x=>0*f x+c*g x)=fun x=>c*g x:=funext fun x=>by grind
 rw [e] at h1;exact h1
theorem kx{p:List Rat}(h:tz p≠[]):Rt p (sqfV p):=by
 have hG:=yX (gG p (derL p));have hg:=yK h hG;have h1:=kJ hg hG.1;obtain ⟨q1,hq1,h2⟩:=hG.2.1;obtain ⟨c,hc,h3⟩:=oz (eI (bD p (bN p (derL p))));have h3':∀ x,evV (sqfV p) x=c*evV (bD p (bN p (derL p))) x:=h3;have hci:=nYj c hc;have hmain:=vY (tz p).length p (nXe _) h _ _ (Pf.ev (bN p (derL p))) (Pf.ev (bD p (bN p (derL p)))) hG h1 _ (Pf.der _) (IsD.ev _);have hd:∀ x,evD (sqfV p) x=c*evD (bD p (bN p (derL p))) x:=fun x=>by
  have e:=xx c (IsD.ev (bD p (bN p (derL p)))) (Pf.ev _) (Pf.der _);rw [←show evV (sqfV p)=fun x=>c*evV (bD p (bN p (derL p))) x from funext h3'] at e;exact (IsD.ev (sqfV p)).uniq e x
 refine ⟨fun h0=>h (ax.2 fun x=>?_),?_,?_⟩
 ·have h4:=ax.1 h0 x;rw [h3' x] at h4;rcases nXr.1 h4 with h5|h5
  ·exact absurd h5 hc
  ·rw [h1 x,h5];grind
 ·obtain ⟨u,v,hu,hv,h4⟩:=hmain;refine ⟨_,_,hu.smul c⁻¹,hv.smul c⁻¹,fun x=>?_⟩;have h5:=h4 x;rw [h3' x,hd x];grind
 ·refine ⟨fun x=>c⁻¹*evV (bN p (derL p)) x,fun x=>c*q1 x,(Pf.ev _).smul _,hq1.smul _,?_,fun x=>?_,fun x=>?_⟩
  ·obtain ⟨⟨a,ha,h4⟩,⟨b,hb,h5⟩,u,v,hu,hv,h6⟩:=hG;refine ⟨⟨_,ha.smul c,fun x=>by rw [h4 x];grind⟩,⟨_,hb.smul c,fun x=>by rw [h5 x];grind⟩,_,_,hu.smul c⁻¹,hv.smul c⁻¹,fun x=>by show c⁻¹*evV (bN p (derL p)) x=_;rw [h6 x];grind⟩
  ·rw [h3' x,h1 x];grind
  ·rw [h2 x];grind
theorem jz{p:List Rat}(h:tz p≠[]):Rt p (rootV p):=by
 unfold rootV;split
 ·exact kx h
 ·rename_i hl
  have hlen:(ar (derL p)).length≤p.length:=by
   rw [aC];obtain ⟨n,hn,-⟩:=dN h;have:=eK p n hn;have:=ah p;omega
  obtain ⟨e,h1,h2,h3,h4,h5,u,v,hu,hv,h6⟩:=rx p.length (ar p) (ar (derL p)) hlen (aX _) (aX _) (fun h0=>h (bH.1 h0));have h7:(remsV p).getLast?=some e:=h1;rw [h7,Option.getD_some] at hl;have h8:=fo (p:=e) (by rw [h3];omega);have h9:seq e 0≠0:=fun h0=>h2 (by rw [←h3];exact ax.2 fun x=>by rw [h8 x,h0])
  have h10:=nYj _ h9;have hm1:=aZ h;have hcp:Cp (evV p) (evD p):=by
   by_cases h0:tz (derL p)=[]
   ·refine ⟨_,_,(hu.smul (aK p)⁻¹).smul (seq e 0)⁻¹,Pf.const 0,fun x=>?_⟩;have k:=h6 x;rw [h8 x,(ax (p:=ar (derL p))).1 (by rw [aX];exact bH.2 h0) x] at k;have k2:=cj p x;have k3:=nYj (aK p) (by grind);have k4:(aK p)⁻¹*evV p x=evV (ar p) x:=by rw [k2,←nYd,nYc _ (aK p),k3,Rat.one_mul]
    have k5:(seq e 0)⁻¹*(u x*evV (ar p) x)=1:=by
     rw [show u x*evV (ar p) x=seq e 0 by grind,nYc];exact h10
    rw [←k4] at k5;grind
   ·have hm2:=aZ h0;refine ⟨_,_,(hu.smul (aK p)⁻¹).smul (seq e 0)⁻¹,(hv.smul (aK (derL p))⁻¹).smul (seq e 0)⁻¹,fun x=>?_⟩;have k:=h6 x;rw [h8 x] at k;have k2:=cj p x;have k3:=nYj (aK p) (by grind);have k4:(aK p)⁻¹*evV p x=evV (ar p) x:=by rw [k2,←nYd,nYc _ (aK p),k3,Rat.one_mul]
    have j2:=cj (derL p) x;rw [cI] at j2;have j3:=nYj (aK (derL p)) (by grind);have j4:(aK (derL p))⁻¹*evD p x=evV (ar (derL p)) x:=by rw [j2,←nYd,nYc _ (aK (derL p)),j3,Rat.one_mul]
    have k5:(seq e 0)⁻¹*(u x*evV (ar p) x+v x*evV (ar (derL p)) x)=1:=by
     rw [←k,nYc];exact h10
    rw [←k4,←j4] at k5;grind
  refine ⟨h,hcp,fun _=>1,evD p,Pf.const 1,Pf.der p,?_,fun x=>by grind,fun x=>by grind⟩;obtain ⟨a,b,ha,hb,h11⟩:=hcp;exact ⟨⟨_,Pf.ev p,fun x=>by grind⟩,⟨_,Pf.der p,fun x=>by grind⟩,a,b,ha,hb,fun x=>(h11 x).symm⟩
theorem n6(a x:Rat):evV [-a,1] x=x-a:=by
 show (0*x+1)*x+-a=x-a;grind
theorem Pf.lin(a:Rat):Pf (fun x=>x-a):=⟨[-a,1],funext fun x=>(n6 a x).symm⟩
theorem yJ(a:Rat):tz [-a,1]≠[]:=fun h=>by
 have h1:=ax.1 h (a+1);rw [n6] at h1;grind
theorem IsD.lin(a:Rat):IsD (fun x=>x-a) (fun _=>1):=fun A B=>⟨0,Rat.le_refl,fun s t _ _ _=>⟨by grind,by grind⟩⟩
theorem qS{f:Rat→Rat}(hf:Pf f){a:Rat}(h0:f a=0):∃ g,Pf g∧∀ x,f x=(x-a)*g x:=by
 obtain ⟨p,rfl⟩:=hf;have h1:=jg p (yJ a);have h2:=(cd p (yJ a)).1;have h3:(tz (bB p [-a,1])).length≤1:=by
  have k1:=ah (bB p [-a,1]);have k2:=ah [-a,1];simp only [List.length_cons,List.length_nil] at k2;omega
 have h4:=fo h3;have h5:seq (bB p [-a,1]) 0=0:=by
  have k:=h1 a;rw [h0,h4 a,n6] at k;grind
 exact ⟨_,Pf.ev (bD p [-a,1]),fun x=>by rw [h1 x,h4 x,h5,n6];grind⟩
theorem pk{p q:List Rat}{a:Rat}(h:∀ x,evV p x=(x-a)*evV q x)(i:Nat):seq p i=sh (seq q) i-a*seq q i:=by
 have h1:=f9 (p:=p) (q:=gU (0 :: q) (q.map (·*(-a)))) (fun x=>by
  rw [iz,bP,h x];show _=(evV q x*x+0)+_;grind) i
 rw [h1,fg,kB,aQ];grind
theorem l7{p:List Rat}{i:Nat}(h:seq p i≠0):i<(tz p).length:=by
 apply Classical.byContradiction;intro hn;apply h;rw [←aT];exact bh zo
theorem po{p q:List Rat}{a:Rat}(h:∀ x,evV p x=(x-a)*evV q x)(hq:tz q≠[]):(tz q).length<(tz p).length:=by
 obtain ⟨m,hm,h0⟩:=dN hq;have h1:=pk h (m+1);have h2:seq q (m+1)=0:=by rw [←aT];exact bh zo
 have h3:sh (seq q) (m+1)=seq q m:=rfl;rw [h2,h3] at h1;have:=l7 (p:=p) (i:=m+1) (by rw [h1];grind);omega
theorem mS{p:List Rat}(h:tz p≠[]):∃ x,evV p x≠0:=Classical.byContradiction fun hn=>h (ax.2 fun x=>Classical.byContradiction fun h2=>hn ⟨x,h2⟩)
theorem BV(a:Rat):∀ (n:Nat) (p:List Rat),(tz p).length≤n→tz p≠[]→∃ (k:Nat) (g:Rat→Rat),Pf g∧g a≠0∧∀ x,evV p x=(x-a) ^ k*g x:=by
 intro n;induction n with
 | zero=>intro p h h0;exact absurd (nXj.1 zo) h0
 | succ n ih =>
  intro p hn h0;by_cases h1:evV p a=0
  ·obtain ⟨g,⟨q,rfl⟩,h2⟩:=qS (Pf.ev p) h1;have hq:tz q≠[]:=fun h=>by
    obtain ⟨y,hy⟩:=mS h0;exact hy (by rw [h2,ax.1 h y];grind)
   have hl:=po h2 hq;obtain ⟨k,g,hg,hga,h3⟩:=ih q zo hq;exact ⟨k+1,g,hg,hga,fun x=>by rw [h2,h3,Rat.pow_succ];grind⟩
  ·exact ⟨0,evV p,Pf.ev p,h1,fun x=>by rw [Rat.pow_zero];grind⟩
theorem Pf.pow{f:Rat→Rat}(h:Pf f)(k:Nat):Pf (fun x=>f x ^ k):=by
 induction k with
 | zero =>
  have e:(fun x=>f x ^ 0)=fun _=>(1:Rat):=funext fun x=>Rat.pow_zero _
  rw [e];exact Pf.const 1
 | succ k ih =>
  have e:(fun x=>f x ^ (k+1))=fun x=>f x ^ k*f x:=funext fun x=>Rat.pow_succ _ _
  rw [e];exact ih.mul h
theorem IsD.pow(a:Rat)(k:Nat):IsD (fun x=>(x-a) ^ (k+1)) (fun x=>((k+1:Nat):Rat)*(x-a) ^ k):=by
 induction k with
 | zero =>
  have e:(fun x=>(x-a) ^ (0+1))=fun x:Rat=>x-a:=funext fun x=>by rw [Rat.pow_succ,Rat.pow_zero];grind
  have e2:(fun x=>((0+1:Nat):Rat)*(x-a) ^ 0)=fun _=>(1:Rat):=funext fun x=>by rw [Rat.pow_zero,Rat.mul_one];rfl
  rw [e,e2];exact IsD.lin a
 | succ k ih =>
  have h1:=IsD.mul (IsD.lin a) ih (Pf.lin a) ((Pf.lin a).pow (k+1)) (Pf.const 1);have e:(fun x=>(x-a) ^ (k+1+1))=fun x:Rat=>(x-a)*(x-a) ^ (k+1):=funext fun x=>by rw [Rat.pow_succ];grind
  have e2:(fun x=>((k+1+1:Nat):Rat)*(x-a) ^ (k+1))=fun x:Rat=>1*(x-a) ^ (k+1)+(x-a)*(((k+1:Nat):Rat)*(x-a) ^ k):=funext fun x=>by
   rw [Rat.pow_succ,show ((k+1+1:Nat):Rat)=((k+1:Nat):Rat)+1 by rw [Rat.natCast_add];rfl];grind
  rw [e,e2];exact h1
theorem Rt.root{p r:List Rat}(h:Rt p r)(hp:tz p≠[])(a:Rat):evV r a=0↔evV p a=0:=by
 obtain ⟨hne,hcp,g,q1,hg,hq1,hG,h1,h2⟩:=h;refine ⟨fun h0=>by rw [h1,h0];grind,fun h0=>Classical.byContradiction fun hr=>?_⟩;obtain ⟨gl,rfl⟩:=hg;have hgl:tz gl≠[]:=fun hh=>by
  obtain ⟨y,hy⟩:=mS hp;exact hy (by rw [h1,ax.1 hh y];grind)
 obtain ⟨k,g1,hg1,hga,h3⟩:=BV a _ gl (nXe _) hgl;have h4:evV gl a=0:=by
  have e:=h1 a;rw [h0] at e;rcases nXr.1 e.symm with h5|h5
  ·exact h5
  ·exact absurd h5 hr
 cases k with
 | zero =>
  rw [h3,Rat.pow_zero] at h4;exact hga (by grind)
 | succ k =>
  obtain ⟨g1',hg1',hd1⟩:=qy hg1;have hgd:=(IsD.mul (IsD.pow a k) hd1 ((Pf.lin a).pow (k+1)) hg1 (((Pf.lin a).pow k).smul _)).uniq (by
   have e:=IsD.ev gl;rw [show evV gl=fun x=>(x-a) ^ (k+1)*g1 x from funext h3] at e;exact e)
  have hsl:∀ x,evD gl x*evV r x+evV gl x*evD r x=evV gl x*q1 x:=fun x=>by
   have e:=(IsD.mul (IsD.ev gl) (IsD.ev r) (Pf.ev gl) (Pf.ev r) (Pf.der gl)).uniq (by
    have:=IsD.ev p;rw [show evV p=fun x=>evV gl x*evV r x from funext h1] at this;exact this) x
   rw [h2 x] at e;exact e
  have key:=ek (f:=fun x=>(x-a) ^ k) (g:=fun x=>(((k+1:Nat):Rat)*g1 x+(x-a)*g1' x)*evV r x) (h:=fun x=>(x-a)*(g1 x*(q1 x-evD r x)))
   ((Pf.lin a).pow k) ((((hg1.smul _).add ((Pf.lin a).mul hg1'))).mul (Pf.ev r)) ((Pf.lin a).mul (hg1.mul (hq1.sub (Pf.der r)))) (fun x=>by
    have e1:=hsl x;have e2:=hgd x;rw [←e2,h3 x,Rat.pow_succ] at e1;have e3:(((k+1:Nat):Rat)*(x-a) ^ k*g1 x+(x-a) ^ k*(x-a)*g1' x)*evV r x+(x-a) ^ k*(x-a)*g1 x*evD r x=(x-a) ^ k*(x-a)*g1 x*q1 x:=e1;grind) ⟨a+1,by
    show (a+1-a) ^ k≠0;have e:a+1-a=1:=by grind
    rw [e];have:∀ k:Nat,(1:Rat) ^ k=1:=fun k=>by
     induction k with
     | zero=>exact Rat.pow_zero _
     | succ k ih=>rw [Rat.pow_succ,ih,Rat.mul_one]
    rw [this];decide⟩ a
  have key2:(((k+1:Nat):Rat)*g1 a+(a-a)*g1' a)*evV r a=(a-a)*(g1 a*(q1 a-evD r a)):=key;have key3:((k+1:Nat):Rat)*g1 a*evV r a=0:=by grind
  rcases nXr.1 key3 with h5|h5
  ·rcases nXr.1 h5 with h6|h6
   ·exact yF h6
   ·exact hga h6
  ·exact hr h5
def cw(l:List (List Rat))(x:Rat):Nat:=vr 0 (l.map fun m=>sg (evV m x))
def rtV(l:List (List Rat))(x:Rat):Bool:=decide (sg (evV (l.getD 0 []) x)=0)
def cntV(p:List Rat)(lo hi:Rat):Int:=(cw (remsV (rootV p)) lo:Int)-cw (remsV (rootV p)) hi+(if rtV (remsV (rootV p)) lo=true then 1 else 0)
theorem i7{p:List Rat}(h:tz p≠[]):∃ l,remsV p=ar p :: l:=by
 have h1:ar p≠[]:=fun h0=>h (bH.1 h0)
 unfold remsV;by_cases h2:ar (derL p)=[]
 ·rw [h2,cX h1];exact ⟨_,rfl⟩
 ·rw [dS h1 h2];exact ⟨_,rfl⟩
theorem we{p:List Rat}(h:tz p≠[])(x:Rat):evV (ar p) x=0↔evV p x=0:=by
 have h1:=cj p x;have h2:=aZ h;constructor
 ·intro h0;rw [h1,h0];grind
 ·intro h0;rw [h0] at h1;rcases nXr.1 h1.symm with h3|h3
  ·rw [h3] at h2;exact absurd h2 Rat.lt_irrefl
  ·exact h3
theorem zJ{p:List Rat}(h:tz p≠[])(x:Rat):rtV (remsV (rootV p)) x=true↔evV p x=0:=by
 have hr:=jz h;obtain ⟨l,e⟩:=i7 hr.ne;rw [←hr.root h x,←we hr.ne x,e];unfold rtV;rw [decide_eq_true_iff];exact cL
end Go.Proofs.YtafgmcimcbhhjaaGreat.Sg
