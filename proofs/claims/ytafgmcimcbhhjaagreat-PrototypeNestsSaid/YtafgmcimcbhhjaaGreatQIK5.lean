/- Polynomial functions over the rationals: divisors, coprime ones, the greatest common divisor, the polynomial with the same roots, each once. Plain facts. -/
import Derived.Test.YtafgmcimcbhhjaaGreatQIK4
import Derived.Test.YtafgmcimcbhhjaaGreatQIM22
set_option linter.unusedVariables false
namespace Go.Proofs.YtafgmcimcbhhjaaGreat.Sg
open Go.RowKit Go.Front Go.Num Go.Stab Go.Proofs.YtafgmcimcbhhjaaGreat
theorem pF{r a b:List Rat}{c:Rat}(h:∀ i,seq r i=c*seq a i+seq b i)(x:Rat):evV r x=c*evV a x+evV b x:=by
 obtain ⟨N,h1,h2,h3⟩:∃ N,r.length≤N∧a.length≤N∧b.length≤N:=⟨r.length+a.length+b.length,by omega,by omega,by omega⟩;rw [m6 h1,m6 h2,m6 h3,←jC,←wR];exact sm_congr (fun i _=>by rw [h];grind)
theorem jH(r:List Rat):seq (0 :: r)=sh (seq r):=by funext n;cases n <;> rfl
theorem BR(p:List Rat){q r:List Rat}(h:∀ n,seq r n=cv (seq p) (seq q) n)(x:Rat):evV r x=evV p x*evV q x:=by
 induction p generalizing r with
 | nil =>
  have e:evV r x=0*evV [] x:=fP (fun i=>by rw [h i,←fT];show (0:Rat)=0*_;grind) x;rw [e];show (0:Rat)*_=(0:Rat)*_;grind
 | cons c p ih =>
  have e1:evV (ar p q) x=evV p x*evV q x:=ih (fun n=>by rw [dJ,fT]);have e2:evV r x=c*evV q x+evV (0 :: ar p q) x:=pF (fun i=>by
   rw [h i,←fT,jH,dJ];rfl) x
  rw [e2,gK,e1,gK];grind
theorem aJ(p q:List Rat)(x:Rat):evV (ar p q) x=evV p x*evV q x:=BR p (fun n=>by rw [dJ,fT]) x
theorem ey(p q:List Rat)(n:Nat):seq (bf p q) n=seq p n+seq q n:=by
 unfold bf;rw [aT];show ((List.range (max p.length q.length)).map (fun i=>p.getD i 0+q.getD i 0)).getD n 0=p.getD n 0+q.getD n 0;rw [dB];split
 ·rfl
 ·rw [bB (l:=p) (by omega),bB (l:=q) (by omega)];exact (Rat.add_zero 0).symm
theorem ev_add5(p q:List Rat)(x:Rat):evV (bf p q) x=evV p x+evV q x:=by
 have:=pF (r:=bf p q) (a:=p) (b:=q) (c:=1) (fun i=>by rw [ey];grind) x;rw [this];grind
theorem bJ(p:List Rat)(c x:Rat):evV (p.map (·*c)) x=c*evV p x:=fP (fun i=>by rw [aU];grind) x
def Pf(f:Rat→Rat):Prop:=∃ p,f=evV p
theorem Pf.ev(p:List Rat):Pf (evV p):=⟨p,rfl⟩
theorem Pf.const(c:Rat):Pf (fun _=>c):=⟨[c],funext fun x=>by show c=0*x+c;grind⟩
theorem Pf.add{f g:Rat→Rat}(hf:Pf f)(hg:Pf g):Pf (fun x=>f x+g x):=by
 obtain ⟨p,rfl⟩:=hf;obtain ⟨q,rfl⟩:=hg;exact ⟨bf p q,funext fun x=>(ev_add5 p q x).symm⟩
theorem Pf.mul{f g:Rat→Rat}(hf:Pf f)(hg:Pf g):Pf (fun x=>f x*g x):=by
 obtain ⟨p,rfl⟩:=hf;obtain ⟨q,rfl⟩:=hg;exact ⟨ar p q,funext fun x=>(aJ p q x).symm⟩
theorem Pf.smul{f:Rat→Rat}(c:Rat)(hf:Pf f):Pf (fun x=>c*f x):=(Pf.const c).mul hf
theorem Pf.sub{f g:Rat→Rat}(hf:Pf f)(hg:Pf g):Pf (fun x=>f x-g x):=by
 have h:=hf.add (hg.smul (-1));have e:(fun x=>f x-g x)=(fun x=>f x+-1*g x):=funext fun x=>by grind
 rw [e];exact h
theorem Pf.lip{f:Rat→Rat}(h:Pf f)(A B:Rat):∃ K,0≤K∧Lip A B K f:=by obtain ⟨p,rfl⟩:=h;exact pC p A B
theorem Pf.on{f:Rat→Rat}(h:Pf f)(A B:Rat):∃ K,0≤K∧On A B K f:=by obtain ⟨p,rfl⟩:=h;exact yW p A B
theorem po{K v:Rat}(hK:0≤K)(h:∀ d,0<d→d≤1→v≤K*d):v≤0:=by
 apply Classical.byContradiction;intro hn;obtain ⟨e,he,h1⟩:=iN hK (show 0<v by grind);obtain ⟨d,hd,h2,h3⟩:=pi he (show (0:Rat)<1 by decide);have h4:=h1 d h2;have h5:=h d hd h3;grind
theorem ou(p:List Rat)(h:∀ x,evV p x=0):∀ i,seq p i=0:=by
 induction p with
 | nil=>intro i;rfl
 | cons c p ih =>
  have hc:c=0:=by have:=h 0;rw [gK] at this;grind
  have h1:∀ x,x≠0→evV p x=0:=fun x hx=>by
   have h2:=h x;rw [gK,hc] at h2;have h3:evV p x*x=0:=by grind
   rcases nXq.1 h3 with h4|h4
   ·exact h4
   ·exact absurd h4 hx
  have h0:evV p 0=0:=by
   obtain ⟨K,hK,hL⟩:=pC p 0 1;have a1:=po (v:=evV p 0) hK (fun d hd h2=>by
    have h3:=(hL 0 d Rat.le_refl (by grind) h2).1;rw [h1 d (by grind)] at h3;grind)
   have a2:=po (v:=-evV p 0) hK (fun d hd h2=>by
    have h3:=(hL 0 d Rat.le_refl (by grind) h2).2;rw [h1 d (by grind)] at h3;grind)
   grind
  have h2:=ih (fun x=>by
   by_cases hx:x=0
   ·rw [hx];exact h0
   ·exact h1 x hx)
  intro i;cases i with
  | zero=>exact hc
  | succ i=>exact h2 i
theorem iE{p q:List Rat}(h:∀ x,evV p x=evV q x):∀ i,seq p i=seq q i:=by
 have h1:=ou (bf p (q.map (·*-1))) (fun x=>by rw [ev_add5,bJ,h x];grind);intro i;have:=h1 i;rw [ey,aU] at this;grind
theorem ev_tznil{p:List Rat}:tz p=[]↔∀ x,evV p x=0:=by
 constructor
 ·intro h x;rw [←tA,h];rfl
 ·intro h;have:=jQ (a:=p) (b:=[]) (fun i=>by rw [ou p h i];rfl);exact this
theorem BW{p q:List Rat}(hp:tz p≠[])(hq:tz q≠[]):∃ n,cv (seq p) (seq q) n≠0:=by
 obtain ⟨a,ha⟩:∃ a,(tz p).length=a+1:=⟨(tz p).length-1,by have:=nYe.2 hp;omega⟩;obtain ⟨b,hb⟩:∃ b,(tz q).length=b+1:=⟨(tz q).length-1,by have:=nYe.2 hq;omega⟩;refine ⟨a+b,?_⟩;rw [←aT p,←aT q,np (by rw [←ha];exact Bd.seq _) (by rw [←hb];exact Bd.seq _)];intro h;have h1:=bZ hp;have h2:=bZ hq;unfold bM at h1 h2;rw [ha,Nat.add_sub_cancel] at h1;rw [hb,Nat.add_sub_cancel] at h2;rcases nXq.1 h with h3|h3
 ·exact h1 h3
 ·exact h2 h3
theorem Ax{f g:Rat→Rat}(hf:Pf f)(hg:Pf g)(h:∀ x,f x*g x=0)(h0:∃ x,f x≠0):∀ x,g x=0:=by
 obtain ⟨p,rfl⟩:=hf;obtain ⟨q,rfl⟩:=hg;obtain ⟨y,hy⟩:=h0;have hp:tz p≠[]:=fun h=>hy (ev_tznil.1 h y)
 by_cases hq:tz q=[]
 ·exact ev_tznil.1 hq
 ·exfalso;obtain ⟨n,hn⟩:=BW hp hq;have h1:=ou (ar p q) (fun x=>by rw [aJ];exact h x) n;rw [dJ,fT] at h1;exact hn h1
theorem jN{f g h:Rat→Rat}(hf:Pf f)(hg:Pf g)(hh:Pf h)(he:∀ x,f x*g x=f x*h x)(h0:∃ x,f x≠0):∀ x,g x=h x:=fun x=>by
 have:=Ax hf (hg.sub hh) (fun x=>by have:=he x;grind) h0 x;grind
def Dv(a b:Rat→Rat):Prop:=∃ c,Pf c∧∀ x,b x=a x*c x
def Cp(a b:Rat→Rat):Prop:=∃ u v,Pf u∧Pf v∧∀ x,u x*a x+v x*b x=1
theorem Dv.add{a b c:Rat→Rat}(h:Dv a b)(k:Dv a c):Dv a (fun x=>b x+c x):=by
 obtain ⟨u,hu,h1⟩:=h;obtain ⟨v,hv,h2⟩:=k;exact ⟨_,hu.add hv,fun x=>by show b x+c x=_;rw [h2,h1];grind⟩
theorem Dv.sub{a b c:Rat→Rat}(h:Dv a b)(k:Dv a c):Dv a (fun x=>b x-c x):=by
 obtain ⟨u,hu,h1⟩:=h;obtain ⟨v,hv,h2⟩:=k;exact ⟨_,hu.sub hv,fun x=>by show b x-c x=_;rw [h2,h1];grind⟩
theorem Dv.mulr{a b c:Rat→Rat}(h:Dv a b)(k:Pf c):Dv a (fun x=>b x*c x):=by
 obtain ⟨u,hu,h1⟩:=h;exact ⟨_,hu.mul k,fun x=>by show b x*c x=_;rw [h1];grind⟩
theorem Dv.mull{a b c:Rat→Rat}(h:Dv a b)(k:Pf c):Dv a (fun x=>c x*b x):=by
 obtain ⟨u,hu,h1⟩:=h;exact ⟨_,hu.mul k,fun x=>by show c x*b x=_;rw [h1];grind⟩
theorem Cp.dv{a b c:Rat→Rat}(h:Cp a b)(hc:Pf c)(k:Dv a (fun x=>b x*c x)):Dv a c:=by
 obtain ⟨u,v,hu,hv,h1⟩:=h;obtain ⟨d,hd,h2⟩:=k;exact ⟨_,(hu.mul hc).add (hv.mul hd),fun x=>by
  have e1:=h1 x;have e2:b x*c x=a x*d x:=h2 x;have e3:(u x*a x+v x*b x)*c x=c x:=by rw [e1];grind
  have e4:v x*(b x*c x)=v x*(a x*d x):=by rw [e2]
  show c x=a x*((u x*c x)+v x*d x);grind⟩
theorem Cp.dvl{a b c:Rat→Rat}(h:Cp a b)(hc:Pf c)(k:Dv a (fun x=>c x*b x)):Dv a c:=h.dv hc (by
 obtain ⟨d,hd,h2⟩:=k;exact ⟨d,hd,fun x=>by rw [←h2];grind⟩)
theorem Cp.symm{a b:Rat→Rat}(h:Cp a b):Cp b a:=by
 obtain ⟨u,v,hu,hv,h1⟩:=h;exact ⟨v,u,hv,hu,fun x=>by have:=h1 x;grind⟩
def IsD(f g:Rat→Rat):Prop:=∀ A B,∃ K,0≤K∧∀ s t,A≤s→s≤t→t≤B→Bd (K*(t-s)*(t-s)) (f t-f s-g s*(t-s))
theorem IsD.ev(p:List Rat):IsD (evV p) (evD p):=fun A B=>pz p A B
theorem IsD.const(c:Rat):IsD (fun _=>c) (fun _=>0):=fun A B=>⟨0,Rat.le_refl,fun s t _ _ _=>⟨by grind,by grind⟩⟩
theorem IsD.uniq{f g h:Rat→Rat}(a:IsD f g)(b:IsD f h)(x:Rat):g x=h x:=by
 obtain ⟨K,hK,h1⟩:=a x (x+1);obtain ⟨L,hL,h2⟩:=b x (x+1);have key:∀ d,0<d→d≤1→g x-h x≤(K+L)*d∧h x-g x≤(K+L)*d:=fun d hd h3=>by
  obtain ⟨e1,e2⟩:=h1 x (x+d) Rat.le_refl (by grind) (by grind);obtain ⟨e3,e4⟩:=h2 x (x+d) Rat.le_refl (by grind) (by grind);rw [show x+d-x=d by grind] at e1 e2 e3 e4;have cancel:∀ u v:Rat,u*d≤v*d→u≤v:=fun u v h=>by
   apply Classical.byContradiction;intro hn;have:=mul_lt (show v<u by grind) hd;grind
  exact ⟨cancel _ _ (by grind),cancel _ _ (by grind)⟩
 have a1:=po (v:=g x-h x) (K:=K+L) (by grind) (fun d h1 h2=>(key d h1 h2).1);have a2:=po (v:=h x-g x) (K:=K+L) (by grind) (fun d h1 h2=>(key d h1 h2).2);grind
theorem IsD.mul{f g f' g':Rat→Rat}(a:IsD f f')(b:IsD g g')(hf:Pf f)(hg:Pf g)(hf':Pf f'):IsD (fun x=>f x*g x) (fun x=>f' x*g x+f x*g' x):=by
 intro A B;obtain ⟨K,hK,h1⟩:=a A B;obtain ⟨L,hL,h2⟩:=b A B;obtain ⟨M,hM,h3⟩:=hf.on A B;obtain ⟨N,hN,h4⟩:=hg.on A B;obtain ⟨P,hP,h5⟩:=hf'.on A B;obtain ⟨Q,hQ,h6⟩:=hg.lip A B;refine ⟨K*N+P*Q+M*L,by have:=mi hK hN;have:=mi hP hQ;have:=mi hM hL;grind,fun s t k1 k2 k3=>?_⟩;have h0:0≤t-s:=by grind
 have b1:=(h1 s t k1 k2 k3).mul (h4 t (by grind) k3);have b2:=((h5 s k1 (by grind)).mul (Bd.self h0)).mul (h6 s t k1 k2 k3);have b3:=(h3 s k1 (by grind)).mul (h2 s t k1 k2 k3);have e:=(b1.add b2).add b3;rw [show (K*N+P*Q+M*L)*(t-s)*(t-s)=K*(t-s)*(t-s)*N+P*(t-s)*(Q*(t-s))+M*(L*(t-s)*(t-s)) by grind,
  show f t*g t-f s*g s-(f' s*g s+f s*g' s)*(t-s)=(f t-f s-f' s*(t-s))*g t+f' s*(t-s)*(g t-g s)+f s*(g t-g s-g' s*(t-s)) by grind]
 exact e
def derL:List Rat→List Rat
 | []=>[]
 | _ :: p=>bf (0 :: derL p) p
theorem cf(p:List Rat)(x:Rat):evV (derL p) x=evD p x:=by
 induction p with
 | nil=>rfl
 | cons c p ih =>
  show evV (bf (0 :: derL p) p) x=evD p x*x+evV p x;rw [ev_add5,gK,ih];grind
theorem seq_derL(p:List Rat)(n:Nat):seq (derL p) n=((n+1:Nat):Rat)*seq p (n+1):=by
 induction p generalizing n with
 | nil=>show (0:Rat)=_*(0:Rat);grind
 | cons c p ih =>
  show seq (bf (0 :: derL p) p) n=((n+1:Nat):Rat)*seq p n;rw [ey,jH];cases n with
  | zero=>show (0:Rat)+seq p 0=((0+1:Nat):Rat)*seq p 0;rw [show ((0+1:Nat):Rat)=1 from rfl];grind
  | succ n =>
   show seq (derL p) n+seq p (n+1)=_;rw [ih,Rat.natCast_add (n+1) 1,show ((1:Nat):Rat)=1 from rfl];grind
theorem Pf.der(p:List Rat):Pf (evD p):=⟨derL p,funext fun x=>(cf p x).symm⟩
theorem wW{f:Rat→Rat}(h:Pf f):∃ g,Pf g∧IsD f g:=by obtain ⟨p,rfl⟩:=h;exact ⟨_,Pf.der p,IsD.ev p⟩
theorem m8{a p:List Rat}(h:Pr a p):∃ c:Rat,c≠0∧∀ x,evV a x=c*evV p x:=by
 obtain ⟨c,h1,h2⟩:=h;exact ⟨c,h1,fun x=>fP h2 x⟩
theorem iD(p:List Rat){q:List Rat}(h:tz q≠[])(x:Rat):evV p x=evV (bA p q) x*evV q x+evV (bP p q) x:=by
 have h1:=(cu p h).2.2.2;have h2:=pF (r:=p) (a:=ar (bA p q) q) (b:=bP p q) (c:=1) (fun i=>by rw [h1 i,dJ,fT];grind) x;rw [h2,aJ];grind
def IsG(g a b:Rat→Rat):Prop:=Dv g a∧Dv g b∧∃ u v,Pf u∧Pf v∧∀ x,g x=u x*a x+v x*b x
theorem tj:∀ (f:Nat) (p q:List Rat),q.length≤f→tz q=q→IsG (evV (mX f p q)) (evV p) (evV q):=by
 have hbase:∀ p:List Rat,IsG (evV p) (evV p) (evV []):=fun p=>⟨⟨_,Pf.const 1,fun x=>by grind⟩,⟨_,Pf.const 0,fun x=>by show (0:Rat)=_*0;grind⟩,_,_,Pf.const 1,Pf.const 0,fun x=>by show _=1*_+0*(0:Rat);grind⟩
 intro f;induction f with
 | zero =>
  intro p q h ht;obtain rfl:q=[]:=nXi.1 (by omega);exact hbase p
 | succ f ih =>
  intro p q h ht;by_cases h0:q=[]
  ·subst h0;rw [f7];exact hbase p
  ·have hq:tz q≠[]:=by rw [ht];exact h0
   have h1:=(cu p hq).1;have h2:=eT (bP p q);have h3:=ai (bP p q);rw [ht] at h1;rw [fN h0];obtain ⟨g1,g2,u,v,hu,hv,g3⟩:=ih q (cg (bP p q)) (by omega) (fJ _);obtain ⟨c,hc,hm⟩:=m8 (fK (bP p q));have hr:∀ x,evV (bP p q) x=c⁻¹*evV (cg (bP p q)) x:=fun x=>by
    have:=nYh c hc;rw [hm x];grind
   refine ⟨?_,g1,_,_,hv.smul c,hu.sub ((hv.smul c).mul (Pf.ev (bA p q))),fun x=>?_⟩
   ·have h4:=(g1.mull (Pf.ev (bA p q))).add (g2.mull (Pf.const c⁻¹));obtain ⟨d,hd,h5⟩:=h4;exact ⟨d,hd,fun x=>by rw [←h5 x,iD p hq x,hr x]⟩
   ·rw [g3 x,hm x,iD p hq x];grind
theorem iB(p q:List Rat):IsG (evV (dp p q)) (evV p) (evV q):=by
 obtain ⟨g1,g2,u,v,hu,hv,g3⟩:=tj (tz q).length (cg p) (cg q) (by rw [eT];exact nXd _) (fJ q);obtain ⟨c,hc,h1⟩:=m8 (fK p);obtain ⟨d,hd,h2⟩:=m8 (fK q);have inv:∀ {c:Rat} {f g:Rat→Rat},c≠0→(∀ x,f x=c*g x)→∀ x,g x=c⁻¹*f x:=fun hc h x=>by
  have:=nYh _ hc;rw [h x];grind
 refine ⟨?_,?_,_,_,hu.smul c,hv.smul d,fun x=>?_⟩
 ·obtain ⟨e,he,h3⟩:=g1.mull (Pf.const c⁻¹);exact ⟨e,he,fun x=>(inv hc h1 x).trans (h3 x)⟩
 ·obtain ⟨e,he,h3⟩:=g2.mull (Pf.const d⁻¹);exact ⟨e,he,fun x=>(inv hd h2 x).trans (h3 x)⟩
 ·show evV (mX (tz q).length (cg p) (cg q)) x=_;rw [g3 x,h1,h2];grind
theorem kS{a b:List Rat}(h:Dv (evV a) (evV b))(hb:tz b≠[]):(tz a).length≤(tz b).length:=by
 obtain ⟨c,⟨p,rfl⟩,h1⟩:=h;have ha:tz a≠[]:=fun h=>hb (ev_tznil.2 fun x=>by rw [h1 x,ev_tznil.1 h x];grind)
 have hp:tz p≠[]:=fun h=>hb (ev_tznil.2 fun x=>by rw [h1 x,ev_tznil.1 h x];grind)
 obtain ⟨i,hi⟩:∃ a',(tz a).length=a'+1:=⟨(tz a).length-1,by have:=nYe.2 ha;omega⟩;obtain ⟨j,hj⟩:∃ b',(tz p).length=b'+1:=⟨(tz p).length-1,by have:=nYe.2 hp;omega⟩;have h2:=iE (p:=b) (q:=ar a p) (fun x=>by rw [aJ];exact h1 x) (i+j);rw [dJ,fT,←aT a,←aT p,np (by rw [←hi];exact Bd.seq _) (by rw [←hj];exact Bd.seq _),←aT b] at h2;have k1:=bZ ha;have k2:=bZ hp;unfold bM at k1 k2;rw [hi,Nat.add_sub_cancel] at k1;rw [hj,Nat.add_sub_cancel] at k2;rcases Nat.lt_or_ge (i+j) (tz b).length with h3|h3
 ·omega
 ·exfalso;rw [Bd.seq (tz b) _ h3] at h2;rcases nXq.1 h2.symm with h4|h4
  ·exact k1 h4
  ·exact k2 h4
theorem eN{p:List Rat}(h:tz p≠[]):∃ n,(tz p).length=n+1∧seq p n≠0:=by
 obtain ⟨n,hn⟩:∃ n,(tz p).length=n+1:=⟨(tz p).length-1,by have:=nYe.2 h;omega⟩;exact ⟨n,hn,gY hn⟩
theorem Ay{n:Nat}:((n+1:Nat):Rat)≠0:=fun h=>by
 have:n+1=0:=by exact_mod_cast h
 omega
theorem gL(p:List Rat)(n:Nat)(h:(tz p).length=n+1):(tz (derL p)).length≤n:=by
 rcases Nat.lt_or_ge n (tz (derL p)).length with h1|h1
 ·exfalso;have h2:tz (derL p)≠[]:=fun h=>by rw [h] at h1;simp at h1
  obtain ⟨k,h3,h4⟩:=eN h2;rw [seq_derL] at h4;apply h4;rw [←aT p,Bd.seq (tz p) (k+1) (by omega)];grind
 ·exact h1
theorem AZ{p:List Rat}{n:Nat}(h:(tz p).length=n+2):tz (derL p)≠[]:=fun h0=>by
 have h1:seq (derL p) n=0:=by rw [←aT,h0];rfl
 rw [seq_derL] at h1;have h2:seq p (n+1)≠0:=gY h;rcases nXq.1 h1 with h3|h3
 ·exact Ay h3
 ·exact h2 h3
theorem j5{p:List Rat}(h:(tz p).length≤1):∀ x,evV p x=seq p 0:=fun x=>by
 rw [←tA,←aT p]
 match tz p,h with
 | [],_=>rfl
 | [c],_=>show 0*x+c=c;grind
theorem Ah{g p p' r q1:Rat→Rat}(hg:Pf g)(hr:Pf r)(hq:Pf q1)(h:IsG g p p')(h1:∀ x,p x=g x*r x)(h2:∀ x,p' x=g x*q1 x)(h0:∃ x,p x≠0):Cp r q1:=by
 obtain ⟨-,-,u,v,hu,hv,h3⟩:=h;refine ⟨u,v,hu,hv,fun x=>?_⟩;refine jN (f:=g) (g:=fun x=>u x*r x+v x*q1 x) (h:=fun _=>1) hg ((hu.mul hr).add (hv.mul hq)) (Pf.const 1) (fun x=>?_) ?_ x
 ·have e:=h3 x;rw [h1,h2] at e;grind
 ·obtain ⟨y,hy⟩:=h0;exact ⟨y,fun h=>hy (by rw [h1,h];grind)⟩
theorem uO:∀ (n:Nat) (p:List Rat),(tz p).length≤n→tz p≠[]→∀ g r:Rat→Rat,Pf g→Pf r→IsG g (evV p) (evD p)→(∀ x,evV p x=g x*r x)→∀ r',Pf r'→IsD r r'→Cp r r':=by
 intro n;induction n with
 | zero=>intro p h h0;exact absurd (nXi.1 (by omega)) h0
 | succ n ih =>
  intro p hn h0 g r hg hr hG h1 r' hr' hd;have hp0:∃ x,evV p x≠0:=Classical.byContradiction fun h=>h0 (ev_tznil.2 fun x=>Classical.byContradiction fun h2=>h ⟨x,h2⟩)
  obtain ⟨q1,hq1,h2⟩:=hG.2.1;have hcp:=Ah hg hr hq1 hG h1 h2 hp0;obtain ⟨gl,rfl⟩:=id hg;have hg0:tz gl≠[]:=fun h=>by
   obtain ⟨y,hy⟩:=hp0;exact hy (by rw [h1,ev_tznil.1 h y];grind)
  have hgx:∃ x,evV gl x≠0:=by
   obtain ⟨y,hy⟩:=hp0;exact ⟨y,fun h=>hy (by rw [h1,h];grind)⟩
  have hslope:∀ x,evD gl x*r x+evV gl x*r' x=evV gl x*q1 x:=fun x=>by
   have e:=(IsD.mul (IsD.ev gl) hd hg hr (Pf.der gl)).uniq (by
    have:=IsD.ev p;rw [show evV p=fun x=>evV gl x*r x from funext h1] at this;exact this) x
   rw [h2 x] at e;exact e
  rcases Nat.lt_or_ge 1 (tz gl).length with hl|hl
  ·-- g is not a constant
   obtain ⟨k,hk,-⟩:=eN hg0;have hpg:=kS hG.1 h0;obtain ⟨m,hm⟩:∃ m,(tz p).length=m+2:=⟨(tz p).length-2,by omega⟩;have hpd:=AZ hm;have hdl:Dv (evV gl) (evV (derL p)):=by rw [show evV (derL p)=evD p from funext (cf p)];exact hG.2.1
   have hlen:=kS hdl hpd;have hder:=gL p (m+1) hm;have hG2:=iB gl (derL gl);rw [show evV (derL gl)=evD gl from funext (cf gl)] at hG2;obtain ⟨r1,hr1,e1⟩:=hG2.1;obtain ⟨s1,hs1,e2⟩:=hG2.2.1;obtain ⟨r1',hr1',hd1⟩:=wW hr1;have hc1:=ih gl (by omega) hg0 _ r1 (Pf.ev _) hr1 hG2 e1 r1' hr1' hd1;have hc2:=Ah (Pf.ev _) hr1 hs1 hG2 e1 e2 hgx;have hp2x:∃ x,evV (dp gl (derL gl)) x≠0:=by
    obtain ⟨y,hy⟩:=hgx;exact ⟨y,fun h=>hy (by rw [e1,h];grind)⟩
   have e3:∀ x,s1 x*r x=r1 x*(q1 x-r' x):=jN (f:=evV (dp gl (derL gl))) (g:=fun x=>s1 x*r x) (h:=fun x=>r1 x*(q1 x-r' x)) (Pf.ev _) (hs1.mul hr) (hr1.mul (hq1.sub hr')) (fun x=>by
    have h3:=hslope x;rw [e2 x,e1 x] at h3;grind) hp2x
   obtain ⟨w,hw,e4⟩:=hc2.dv hr ⟨_,hq1.sub hr',e3⟩;have hr1x:∃ x,r1 x≠0:=by
    obtain ⟨y,hy⟩:=hgx;exact ⟨y,fun h=>hy (by rw [e1,h];grind)⟩
   have e5:∀ x,s1 x*w x=q1 x-r' x:=jN (f:=r1) (g:=fun x=>s1 x*w x) (h:=fun x=>q1 x-r' x) hr1 (hs1.mul hw) (hq1.sub hr') (fun x=>by
    have h3:=e3 x;rw [e4 x] at h3;grind) hr1x
   obtain ⟨rl,hrl⟩:=id hr;have hrd:r'=evD rl:=funext fun x=>hd.uniq (by rw [hrl];exact IsD.ev rl) x
   have hG3:=iB rl (derL rl);rw [show evV (derL rl)=evD rl from funext (cf rl),←hrl,←hrd] at hG3;obtain ⟨h,hh⟩:∃ h,h=evV (dp rl (derL rl)):=⟨_,rfl⟩;rw [←hh] at hG3;have hhp:Pf h:=⟨_,hh⟩;obtain ⟨d1,d2,ua,va,hua,hva,d3⟩:=hG3;obtain ⟨w',hw',hdw⟩:=wW hw;have hcw:Cp h w:=by
    obtain ⟨u,v,hu,hv,b1⟩:=hcp;obtain ⟨x1,hx1,b2⟩:=d1;obtain ⟨x2,hx2,b3⟩:=d2;refine ⟨_,_,(hu.mul hx1).add (hv.mul hx2),hv.mul hs1,fun x=>?_⟩;have b4:=b1 x;have b5:=e5 x;have b6:q1 x=s1 x*w x+r' x:=by grind
    rw [b6,b2 x,b3 x] at b4;grind
   have hr1d:Dv h r1:=hcw.dvl hr1 (by
    obtain ⟨x1,hx1,b2⟩:=d1;exact ⟨x1,hx1,fun x=>by rw [←b2 x,e4 x]⟩)
   have hrs:∀ x,r1' x*w x+r1 x*w' x=r' x:=fun x=>(IsD.mul hd1 hdw hr1 hw hr1').uniq (by
    rw [←show r=fun x=>r1 x*w x from funext e4];exact hd) x
   have hr1d':Dv h r1':=hcw.dvl hr1' (by
    obtain ⟨x1,hx1,b2⟩:=d2.sub (hr1d.mulr hw');exact ⟨x1,hx1,fun x=>by
     have e:=b2 x;have e':=hrs x;rw [←e];show r1' x*w x=r' x-r1 x*w' x;grind⟩)
   obtain ⟨a,b,ha,hb,c1⟩:=hc1;obtain ⟨x1,hx1,c2⟩:=hr1d;obtain ⟨x2,hx2,c3⟩:=hr1d';refine ⟨_,_,((ha.mul hx1).add (hb.mul hx2)).mul hua,((ha.mul hx1).add (hb.mul hx2)).mul hva,fun x=>?_⟩;have c4:=c1 x;rw [c2 x,c3 x,d3 x] at c4;grind
  ·-- g is a constant
   have hcst:=j5 hl;obtain ⟨y,hy⟩:=hgx;have hc0:seq gl 0≠0:=by rw [←hcst y];exact hy
   have hz:∀ x,evD gl x=0:=fun x=>(IsD.ev gl).uniq (by rw [show evV gl=fun _=>seq gl 0 from funext hcst];exact IsD.const _) x
   have he:∀ x,r' x=q1 x:=fun x=>by
    have h3:=hslope x;rw [hz x,hcst x] at h3;have h4:=nYh _ hc0;have h5:(seq gl 0)⁻¹*(seq gl 0*r' x)=(seq gl 0)⁻¹*(seq gl 0*q1 x):=by congr 1;grind
    rw [←nYb,←nYb,nYa _ (seq gl 0),h4,Rat.one_mul,Rat.one_mul] at h5;exact h5
   rw [show r'=q1 from funext he];exact hcp
end Go.Proofs.YtafgmcimcbhhjaaGreat.Sg
/- Siegel's lemma: whole numbers, not all 0, that solve one equation less than there are unknowns. Plain facts. -/
namespace Go.Proofs.YtafgmcimcbhhjaaGreat.Sie
theorem wV:∀ (L K:Nat) (f:Nat→Nat),L<K→(∀ i,i<K→f i<L)→∃ i j,i<j∧j<K∧f i=f j:=by
 intro L;induction L with
 | zero=>intro K f h hf;exact absurd (hf 0 h) (Nat.not_lt_zero _)
 | succ L ih =>
  intro K f h hf;obtain ⟨K',rfl⟩:∃ K',K=K'+1:=⟨K-1,by omega⟩;by_cases h1:∃ i,i<K'∧f i=f K'
  ·obtain ⟨i,hi,he⟩:=h1;exact ⟨i,K',hi,Nat.lt_succ_self _,he⟩
  ·have hn:∀ i,i<K'→f i≠f K':=fun i hi he=>h1 ⟨i,hi,he⟩
   obtain ⟨i,j,h2,h3,h4⟩:=ih K' (fun i=>if f i=L then f K' else f i) (by omega) (fun i hi=>by
    have a1:=hf i (by omega);have a2:=hf K' (by omega);have a3:=hn i hi;split <;> omega)
   refine ⟨i,j,h2,by omega,?_⟩;have b1:=hn i (by omega);have b2:=hn j h3;by_cases e1:f i=L
   ·by_cases e2:f j=L
    ·rw [e1,e2]
    ·rw [if_pos e1,if_neg e2] at h4;exact absurd h4.symm b2
   ·by_cases e2:f j=L
    ·rw [if_neg e1,if_pos e2] at h4;exact absurd h4 b1
    ·rw [if_neg e1,if_neg e2] at h4;exact h4
def dgt(b i t:Nat):Nat:=t / b ^ i % b
theorem tT{b i t:Nat}(hb:0<b):dgt b i t<b:=Nat.mod_lt _ hb
theorem zo{b:Nat}(hb:0<b):∀ (N t u:Nat),t<b ^ N→u<b ^ N→(∀ i,i<N→dgt b i t=dgt b i u)→t=u:=by
 intro N;induction N with
 | zero=>intro t u h1 h2 _;rw [Nat.pow_zero] at h1 h2;omega
 | succ N ih =>
  intro t u h1 h2 h;have e0:=h 0 (Nat.succ_pos _);unfold dgt at e0;rw [Nat.pow_zero,Nat.div_one,Nat.div_one] at e0;have e1:=ih (t / b) (u / b) ((Nat.div_lt_iff_lt_mul hb).2 (by rw [←nXs];exact h1)) ((Nat.div_lt_iff_lt_mul hb).2 (by rw [←nXs];exact h2)) (fun i hi=>by
   have:=h (i+1) (by omega);unfold dgt at this ⊢;rw [Nat.div_div_eq_div_mul,Nat.div_div_eq_div_mul,nYc b,←nXs];exact this)
  rw [←Nat.div_add_mod t b,←Nat.div_add_mod u b,e0,e1]
def cod(R:Nat):Nat→(Nat→Nat)→Nat
 | 0,_=>0
 | M+1,y=>y 0+R*cod R M (fun j=>y (j+1))
theorem Bi{R:Nat}:∀ (M:Nat) (y:Nat→Nat),(∀ j,j<M→y j<R)→cod R M y<R ^ M:=by
 intro M;induction M with
 | zero=>intro y _;exact Nat.one_pos
 | succ M ih =>
  intro y h;have h1:=ih (fun j=>y (j+1)) (fun j hj=>h (j+1) (by omega));have h0:=h 0 (Nat.succ_pos _);have h2:R*(cod R M (fun j=>y (j+1))+1)≤R*R ^ M:=nXf _ h1;show y 0+R*cod R M (fun j=>y (j+1))<R ^ (M+1);rw [nXs,nYc (R ^ M)];rw [Nat.mul_succ] at h2;omega
theorem zy{R:Nat}:∀ (M:Nat) (y z:Nat→Nat),(∀ j,j<M→y j<R)→(∀ j,j<M→z j<R)→cod R M y=cod R M z→∀ j,j<M→y j=z j:=by
 intro M;induction M with
 | zero=>intro y z _ _ _ j hj;omega
 | succ M ih =>
  intro y z hy hz h;have y0:=hy 0 (Nat.succ_pos _);have z0:=hz 0 (Nat.succ_pos _);have h':y 0+R*cod R M (fun j=>y (j+1))=z 0+R*cod R M (fun j=>z (j+1)):=h;have e0:y 0=z 0:=by
   have:=congrArg (· % R) h';simp only [Nat.add_mul_mod_self_left] at this
   rwa [Nat.mod_eq_of_lt y0,Nat.mod_eq_of_lt z0] at this
  have e1:cod R M (fun j=>y (j+1))=cod R M (fun j=>z (j+1)):=by
   rw [e0] at h';exact Nat.eq_of_mul_eq_mul_left (by omega) (Nat.add_left_cancel h')
  intro j hj;cases j with
  | zero=>exact e0
  | succ j=>exact ih _ _ (fun k hk=>hy (k+1) (by omega)) (fun k hk=>hz (k+1) (by omega)) e1 j (by omega)
def gO:Nat→(Nat→Int)→Int
 | 0,_=>0
 | n+1,f=>gO n f+f n
theorem sY{n:Nat}{f:Nat→Int}{C:Nat}(h:∀ i,i<n→(f i).natAbs≤C):(gO n f).natAbs≤n*C:=by
 induction n with
 | zero=>simp [gO]
 | succ n ih =>
  have h1:=ih (fun i hi=>h i (by omega));have h2:=h n (Nat.lt_succ_self n);have h3:=Int.natAbs_add_le (gO n f) (f n);show (gO n f+f n).natAbs≤_;rw [nXx];omega
theorem vN(n:Nat)(f g:Nat→Int):gO n (fun i=>f i-g i)=gO n f-gO n g:=by
 induction n with
 | zero=>rfl
 | succ n ih=>show gO n (fun i=>f i-g i)+(f n-g n)=(gO n f+f n)-(gO n g+g n);rw [ih];omega
theorem qL{n:Nat}{f g:Nat→Int}(h:∀ i,i<n→f i=g i):gO n f=gO n g:=by
 induction n with
 | zero=>rfl
 | succ n ih=>show gO n f+f n=gO n g+g n;rw [ih (fun i hi=>h i (by omega)),h n (Nat.lt_succ_self n)]
theorem mR(n:Nat)(f:Nat→Int):((gO n f:Int):Rat)=Stab.sm n (fun i=>((f i:Int):Rat)):=by
 induction n with
 | zero=>rfl
 | succ n ih=>show ((gO n f+f n:Int):Rat)=Stab.sm n _+_;rw [Rat.intCast_add,ih]
theorem Al(M:Nat)(A:Nat→Nat→Int)(a:Nat)(ha:∀ j i,(A j i).natAbs≤a)(h1:1≤a) :
  ∃ x:Nat→Int,(∃ i,i<M+1∧x i≠0)∧(∀ i,(x i).natAbs≤(2*(M+1)*a) ^ M)∧∀ j,j<M→gO (M+1) (fun i=>A j i*x i)=0:=by
 obtain ⟨G,hG⟩:∃ G,G=2*(M+1)*a:=⟨_,rfl⟩;have hG1:1≤G:=by rw [hG];exact Nat.mul_pos (by omega) h1
 obtain ⟨B,hB⟩:∃ B,B=G ^ M:=⟨_,rfl⟩;obtain ⟨C,hC⟩:∃ C,C=(M+1)*(a*B):=⟨_,rfl⟩;have hb:0<B+1:=Nat.succ_pos _;have hsum:∀ j t,(gO (M+1) (fun i=>A j i*(dgt (B+1) i t:Nat))).natAbs≤C:=fun j t=>by
  rw [hC];refine sY fun i _=>?_
  rw [Int.natAbs_mul,nYf];exact nXw (ha j i) (Nat.le_of_lt_succ (tT hb))
 have hR:(2*C+1)≤G*(B+1):=by
  have e:2*C=G*B:=by
   rw [hC,hG,Nat.mul_assoc 2,Nat.mul_assoc 2,Nat.mul_assoc]
  rw [e,Nat.mul_succ];omega
 have hlt:(2*C+1) ^ M<(B+1) ^ (M+1):=by
  refine nYi (Nat.pow_le_pow_left hR M) ?_;rw [Nat.mul_pow,←hB,nXs,nYc];exact Nat.mul_lt_mul_of_pos_left (Nat.lt_succ_self B) (nYk hb)
 have hy:∀ t j,j<M→(gO (M+1) (fun i=>A j i*(dgt (B+1) i t:Nat))+C).toNat<2*C+1:=fun t j _=>by
  have:=hsum j t;omega
 obtain ⟨t,u,h2,h3,h4⟩:=wV _ _ (fun t=>cod (2*C+1) M (fun j=>(gO (M+1) (fun i=>A j i*(dgt (B+1) i t:Nat))+C).toNat)) hlt (fun t _=>Bi M _ (hy t));have h5:=zy M _ _ (hy t) (hy u) h4;refine ⟨fun i=>(dgt (B+1) i t:Nat)-((dgt (B+1) i u:Nat):Int),?_,fun i=>?_,fun j hj=>?_⟩
 ·apply Classical.byContradiction;intro hn;have:=zo hb (M+1) t u (by omega) h3 (fun i hi=>by
   have h6:¬ (((dgt (B+1) i t:Nat):Int)-((dgt (B+1) i u:Nat):Int)≠0):=fun h6=>hn ⟨i,hi,h6⟩
   omega)
  omega
 ·have a1:=tT (i:=i) (t:=t) hb;have a2:=tT (i:=i) (t:=u) hb;rw [←hG,←hB];show (((dgt (B+1) i t:Nat):Int)-((dgt (B+1) i u:Nat):Int)).natAbs≤B;omega
 ·have h6:=h5 j hj;have b1:=hsum j t;have b2:=hsum j u;have e:=vN (M+1) (fun i=>A j i*(dgt (B+1) i t:Nat)) (fun i=>A j i*(dgt (B+1) i u:Nat));rw [qL (g:=fun i=>A j i*(dgt (B+1) i t:Nat)-A j i*(dgt (B+1) i u:Nat)) (fun i _=>Int.mul_sub _ _ _),e];omega
end Go.Proofs.YtafgmcimcbhhjaaGreat.Sie
/- The chains of the program fit Sturm's theorem. Plain facts. -/
namespace Go.Proofs.YtafgmcimcbhhjaaGreat.Sg
open Go.RowKit Go.Front Go.Num Go.Stab Go.Proofs.YtafgmcimcbhhjaaGreat
def chn:Nat→List Rat→List Rat→List (List Rat)
 | 0,_,_=>[]
 | n+1,a,b=>if a=[] then [] else if b=[] then [a] else a :: chn n b (ax ((bP a b).map (·*-1)))
theorem eE{n:Nat}{a:List Rat}(h:a≠[]):chn (n+1) a []=[a]:=by simp [chn,h]
theorem go{n:Nat}{a b:List Rat}(h:a≠[])(k:b≠[]):chn (n+1) a b=a :: chn n b (ax ((bP a b).map (·*-1))):=by simp [chn,h,k]
theorem eo(p:List Rat)(x:Rat):evV p x=aK p*evV (ax p) x:=fP (cX p) x
theorem cD{p:List Rat}:ax p=[]↔tz p=[]:=by rw [←nXi,←nXi,aD]
theorem sH(a b:List Rat)(hb:tz b≠[]):∃ d:Rat,0<d∧∀ x,evV a x+d*evV (ax ((bP a b).map (·*-1))) x=evV (bA a b) x*evV b x:=by
 have h1:=iD a hb;by_cases h0:tz ((bP a b).map (·*-1))=[]
 ·refine ⟨1,by decide,fun x=>?_⟩;have h2:=ev_tznil.1 h0 x;rw [bJ] at h2;rw [cD.2 h0,h1 x];show _+1*(0:Rat)=_;grind
 ·refine ⟨aK ((bP a b).map (·*-1)),bF h0,fun x=>?_⟩;have h2:=eo ((bP a b).map (·*-1)) x;rw [←h2,bJ,h1 x];grind
theorem lC(a b:List Rat)(hb:tz b≠[]):(ax ((bP a b).map (·*-1))).length<(tz b).length:=by
 have h1:=(cu a hb).1;have h2:=ai ((bP a b).map (·*-1));rw [nXk] at h2;rw [aD];omega
theorem Ar{A B d:Rat}{f g h q:Rat→Rat}(hd:0<d)(hq:Pf q)(he:∀ x,f x+d*h x=q x*g x):Row A B f g h:=by
 obtain ⟨Q,hQ,h1⟩:=hq.on A B;exact ⟨1,d,Q,by decide,hd,hQ,q,h1,fun x=>by have:=he x;grind⟩
theorem xF{A B:Rat}{f u:Rat→Rat}(hu:Pf u)(h:∀ x,u x*f x=1):∃ r,0<r∧∀ x,A≤x→x≤B→Big r (f x):=by
 obtain ⟨M,hM,h1⟩:=hu.on A B;refine ⟨1 / (M+1),q9 (by decide) (by grind),fun x ha hb=>?_⟩;have h2:=h x;apply Classical.byContradiction;intro hn;obtain ⟨n1,n2⟩:=jV hn;have h3:=(h1 x ha hb).mul (show Bd (1 / (M+1)) (f x) from ⟨by grind,by grind⟩);rw [h2] at h3;have h4:=h3.2;have h5:=aE (a:=1) (b:=M+1) (by grind);have h6:=q9 (show (0:Rat)<1 by decide) (show 0<M+1 by grind);grind
theorem Bm{A B:Rat}:∀ (n:Nat) (a b:List Rat),b.length≤n→tz b=b→a≠[]→Cp (evV a) (evV b)→∃ l,chn (n+1) a b=a :: l∧Ch A B (evV a) (l.map evV)∧(b≠[]→∃ l',l=b :: l'):=by
 intro n;induction n with
 | zero =>
  intro a b h ht ha hc;obtain rfl:b=[]:=nXi.1 (by omega);refine ⟨[],eE ha,?_,fun h=>absurd rfl h⟩;obtain ⟨u,v,hu,hv,h1⟩:=hc;exact xF hu (fun x=>by have:=h1 x;have e:evV [] x=0:=rfl;rw [e] at this;grind)
 | succ n ih =>
  intro a b h ht ha hc;by_cases hb:b=[]
  ·subst hb;refine ⟨[],eE ha,?_,fun h=>absurd rfl h⟩;obtain ⟨u,v,hu,hv,h1⟩:=hc;exact xF hu (fun x=>by have:=h1 x;have e:evV [] x=0:=rfl;rw [e] at this;grind)
  ·have hbt:tz b≠[]:=by rw [ht];exact hb
   obtain ⟨d,hd,he⟩:=sH a b hbt;have hl:=lC a b hbt;rw [ht] at hl;obtain ⟨c,hcc⟩:∃ c,c=ax ((bP a b).map (·*-1)):=⟨_,rfl⟩;have hct:tz c=c:=by rw [hcc,bt]
   rw [←hcc] at he hl;have hcp:Cp (evV b) (evV c):=by
    obtain ⟨u,v,hu,hv,h1⟩:=hc;refine ⟨_,_,(hu.mul (Pf.ev (bA a b))).add hv,hu.smul (-d),fun x=>?_⟩;have e1:=h1 x;have e2:=he x;have e3:evV a x=evV (bA a b) x*evV b x-d*evV c x:=by grind
    rw [e3] at e1;grind
   obtain ⟨l,h1,h2,h3⟩:=ih b c (by omega) hct hb hcp;refine ⟨b :: l,by rw [go ha hb,←hcc,h1],?_,fun _=>⟨l,rfl⟩⟩;cases l with
   | nil=>exact h2
   | cons e l =>
    have hce:e=c:=by
     by_cases h0:c=[]
     ·subst h0;rw [eE hb] at h1;cases h1
     ·obtain ⟨l',h4⟩:=h3 h0;cases h4;rfl
    subst hce;exact ⟨Ar hd (Pf.ev (bA a b)) he,h2⟩
theorem pU:∀ (n:Nat) (a b:List Rat),b.length≤n→tz b=b→tz a=a→a≠[]→∃ e,(chn (n+1) a b).getLast?=some e∧e≠[]∧tz e=e∧IsG (evV e) (evV a) (evV b):=by
 have hbase:∀ p:List Rat,IsG (evV p) (evV p) (evV []):=fun p=>⟨⟨_,Pf.const 1,fun x=>by grind⟩,⟨_,Pf.const 0,fun x=>by show (0:Rat)=_*0;grind⟩,_,_,Pf.const 1,Pf.const 0,fun x=>by show _=1*_+0*(0:Rat);grind⟩
 intro n;induction n with
 | zero =>
  intro a b h ht hta ha;obtain rfl:b=[]:=nXi.1 (by omega);exact ⟨a,by rw [eE ha];rfl,ha,hta,hbase a⟩
 | succ n ih =>
  intro a b h ht hta ha;by_cases hb:b=[]
  ·subst hb;exact ⟨a,by rw [eE ha];rfl,ha,hta,hbase a⟩
  ·have hbt:tz b≠[]:=by rw [ht];exact hb
   obtain ⟨d,hd,he⟩:=sH a b hbt;have hl:=lC a b hbt;rw [ht] at hl;obtain ⟨c,hcc⟩:∃ c,c=ax ((bP a b).map (·*-1)):=⟨_,rfl⟩;have hct:tz c=c:=by rw [hcc,bt]
   rw [←hcc] at he hl;obtain ⟨e,h1,h2,h3,h4,h5,u,v,hu,hv,h6⟩:=ih b c (by omega) hct ht hb;have hne:chn (n+1) b c≠[]:=fun h=>by rw [h] at h1;cases h1
   refine ⟨e,?_,h2,h3,?_,h4,?_⟩
   ·rw [go ha hb,←hcc];obtain ⟨x,y,hxy⟩:=List.exists_cons_of_ne_nil hne;rw [hxy] at h1 ⊢;rw [List.getLast?_cons_cons];exact h1
   ·obtain ⟨w,hw,k⟩:=(h4.mull (Pf.ev (bA a b))).sub (h5.mull (Pf.const d));exact ⟨w,hw,fun x=>by rw [←k x];have:=he x;grind⟩
   ·have hdi:=nYh d (by grind);have hce:∀ x,evV c x=d⁻¹*(evV (bA a b) x*evV b x-evV a x):=fun x=>by
     have:=he x;have e1:d*evV c x=evV (bA a b) x*evV b x-evV a x:=by grind
     rw [←e1,←nYb,nYa d⁻¹,hdi,Rat.one_mul]
    refine ⟨_,_,hv.smul (-d⁻¹),hu.add ((hv.smul d⁻¹).mul (Pf.ev (bA a b))),fun x=>?_⟩;rw [h6 x,hce x];grind
def remsV(p:List Rat):List (List Rat):=chn (p.length+1) (ax p) (ax (derL p))
theorem wy{p:List Rat}(h:tz p≠[])(x:Rat):evD (ax p) x=aK (derL p) / aK p*evV (ax (derL p)) x:=by
 have hm:=bF h;have h1:evD p x=aK p*evD (ax p) x:=by
  rw [←cf,←cf];refine fP (fun i=>?_) x;rw [seq_derL,seq_derL,cX p];grind
 have h2:=eo (derL p) x;rw [cf,h1] at h2;have h3:=aE (a:=aK (derL p)) (b:=aK p) (by grind);have h4:=nYh (aK p) (by grind);have h5:(aK p)⁻¹*(aK p*evD (ax p) x)=(aK p)⁻¹*(aK (derL p)*evV (ax (derL p)) x):=by rw [h2]
 rw [←nYb,nYa _ (aK p),h4,Rat.one_mul] at h5;rw [h5,Rat.div_def];grind
theorem Ai{p:List Rat}(h:tz p≠[])(hc:Cp (evV p) (evD p)):Cp (evV (ax p)) (evV (ax (derL p))):=by
 obtain ⟨u,v,hu,hv,h1⟩:=hc;refine ⟨_,_,hu.smul (aK p),hv.smul (aK (derL p)),fun x=>?_⟩;have e1:=h1 x;rw [eo p x,←cf,eo (derL p) x] at e1;grind
theorem oZ{p:List Rat}(h:tz p≠[])(hc:Cp (evV p) (evD p))(A B:Rat):∃ l,remsV p=ax p :: l∧Fit A B (evV (ax p)) (l.map evV):=by
 have hlen:(ax (derL p)).length≤p.length:=by
  rw [aD];obtain ⟨n,hn,-⟩:=eN h;have:=gL p n hn;have:=ai p;omega
 obtain ⟨l,h1,h2,h3⟩:=Bm (A:=A) (B:=B) p.length (ax p) (ax (derL p)) hlen (bt _) (fun h0=>h (cD.1 h0)) (Ai h hc);refine ⟨l,h1,h2,pC _ A B,?_,?_⟩
 ·intro g hg;obtain ⟨q,-,rfl⟩:=nYd.1 hg;exact pC q A B
 ·intro g l' hl;by_cases hb:ax (derL p)=[]
  ·exfalso;have h4:remsV p=[ax p]:=by unfold remsV;rw [hb,eE (fun h0=>h (cD.1 h0))]
   have h5:remsV p=ax p :: l:=h1;rw [h4] at h5;cases h5;cases hl
  ·obtain ⟨l2,hl2⟩:=h3 hb;subst hl2;rw [List.map_cons] at hl;cases hl;obtain ⟨K,hK,h6⟩:=pz (ax p) A B;have hp1:=bF h;have hp2:=bF (p:=derL p) (fun h0=>hb (cD.2 h0));refine ⟨aK (derL p) / aK p,K,q9 hp2 hp1,hK,fun s t k1 k2 k3=>?_⟩;have h7:=h6 s t k1 k2 k3;rw [wy h] at h7;exact h7
def sqfV(p:List Rat):List Rat:=cg (bA p (dp p (derL p)))
def rootV(p:List Rat):List Rat:=if 2≤((remsV p).getLast?.getD []).length then sqfV p else p
structure Rt (p r:List Rat):Prop where
 ne:tz r≠[]
 cp:Cp (evV r) (evD r)
 dv:∃ g q1:Rat→Rat,Pf g∧Pf q1∧IsG g (evV p) (evD p)∧(∀ x,evV p x=g x*evV r x)∧(∀ x,evD p x=g x*q1 x)
theorem jK{p q:List Rat}(hq:tz q≠[])(h:Dv (evV q) (evV p)):∀ x,evV p x=evV q x*evV (bA p q) x:=by
 obtain ⟨c,⟨s,rfl⟩,h1⟩:=h;have h2:=iE (p:=p) (q:=ar s q) (fun x=>by rw [aJ,h1 x];grind);have h3:=gg (p:=p) hq (s:=seq s) (r:=fun _=>0) (F:=1) (N:=s.length) (Bd.seq s) (fun i _=>rfl) (fun n=>by
  rw [Rat.one_mul,h2 n,dJ,fT];grind)
 intro x;rw [h1 x]
 congr 1
 exact (fP (c:=1) (fun i=>h3.1 i) x).trans (Rat.one_mul _)
theorem xk{p g:List Rat}(h:tz p≠[])(hG:IsG (evV g) (evV p) (evD p)):tz g≠[]:=fun h0=>h (ev_tznil.2 fun x=>by
 obtain ⟨c,-,h1⟩:=hG.1;rw [h1 x,ev_tznil.1 h0 x];grind)
theorem xA{p g:List Rat}(hG:IsG (evV g) (evV p) (evV (derL p))):IsG (evV g) (evV p) (evD p):=by
 rw [show evD p=evV (derL p) from funext fun x=>(cf p x).symm];exact hG
theorem vQ{f g:Rat→Rat}(c:Rat)(h:IsD f g)(hf:Pf f)(hg:Pf g):IsD (fun x=>c*f x) (fun x=>c*g x):=by
 have h1:=IsD.mul (IsD.const c) h (Pf.const c) hf (Pf.const 0);have e:(fun x=>0*f x+c*g x)=fun x=>c*g x:=funext fun x=>by grind
 rw [e] at h1;exact h1
theorem ky{p:List Rat}(h:tz p≠[]):Rt p (sqfV p):=by
 have hG:=xA (iB p (derL p));have hg:=xk h hG;have h1:=jK hg hG.1;obtain ⟨q1,hq1,h2⟩:=hG.2.1;obtain ⟨c,hc,h3⟩:=m8 (fK (bA p (dp p (derL p))));have h3':∀ x,evV (sqfV p) x=c*evV (bA p (dp p (derL p))) x:=h3;have hci:=nYh c hc;have hmain:=uO (tz p).length p (nXd _) h _ _ (Pf.ev (dp p (derL p))) (Pf.ev (bA p (dp p (derL p)))) hG h1 _ (Pf.der _) (IsD.ev _);have hd:∀ x,evD (sqfV p) x=c*evD (bA p (dp p (derL p))) x:=fun x=>by
  have e:=vQ c (IsD.ev (bA p (dp p (derL p)))) (Pf.ev _) (Pf.der _);rw [←show evV (sqfV p)=fun x=>c*evV (bA p (dp p (derL p))) x from funext h3'] at e;exact (IsD.ev (sqfV p)).uniq e x
 refine ⟨fun h0=>h (ev_tznil.2 fun x=>?_),?_,?_⟩
 ·have h4:=ev_tznil.1 h0 x;rw [h3' x] at h4;rcases nXq.1 h4 with h5|h5
  ·exact absurd h5 hc
  ·rw [h1 x,h5];grind
 ·obtain ⟨u,v,hu,hv,h4⟩:=hmain;refine ⟨_,_,hu.smul c⁻¹,hv.smul c⁻¹,fun x=>?_⟩;have h5:=h4 x;rw [h3' x,hd x];grind
 ·refine ⟨fun x=>c⁻¹*evV (dp p (derL p)) x,fun x=>c*q1 x,(Pf.ev _).smul _,hq1.smul _,?_,fun x=>?_,fun x=>?_⟩
  ·obtain ⟨⟨a,ha,h4⟩,⟨b,hb,h5⟩,u,v,hu,hv,h6⟩:=hG;refine ⟨⟨_,ha.smul c,fun x=>by rw [h4 x];grind⟩,⟨_,hb.smul c,fun x=>by rw [h5 x];grind⟩,_,_,hu.smul c⁻¹,hv.smul c⁻¹,fun x=>by show c⁻¹*evV (dp p (derL p)) x=_;rw [h6 x];grind⟩
  ·rw [h3' x,h1 x];grind
  ·rw [h2 x];grind
theorem rX{p:List Rat}(h:tz p≠[]):Rt p (rootV p):=by
 unfold rootV;split
 ·exact ky h
 ·rename_i hl
  have hlen:(ax (derL p)).length≤p.length:=by
   rw [aD];obtain ⟨n,hn,-⟩:=eN h;have:=gL p n hn;have:=ai p;omega
  obtain ⟨e,h1,h2,h3,h4,h5,u,v,hu,hv,h6⟩:=pU p.length (ax p) (ax (derL p)) hlen (bt _) (bt _) (fun h0=>h (cD.1 h0));have h7:(remsV p).getLast?=some e:=h1;rw [h7,Option.getD_some] at hl;have h8:=j5 (p:=e) (by rw [h3];omega);have h9:seq e 0≠0:=fun h0=>h2 (by rw [←h3];exact ev_tznil.2 fun x=>by rw [h8 x,h0])
  have h10:=nYh _ h9;have hm1:=bF h;have hcp:Cp (evV p) (evD p):=by
   by_cases h0:tz (derL p)=[]
   ·refine ⟨_,_,(hu.smul (aK p)⁻¹).smul (seq e 0)⁻¹,Pf.const 0,fun x=>?_⟩;have k:=h6 x;rw [h8 x,(ev_tznil (p:=ax (derL p))).1 (by rw [bt];exact cD.2 h0) x] at k;have k2:=eo p x;have k3:=nYh (aK p) (by grind);have k4:(aK p)⁻¹*evV p x=evV (ax p) x:=by rw [k2,←nYb,nYa _ (aK p),k3,Rat.one_mul]
    have k5:(seq e 0)⁻¹*(u x*evV (ax p) x)=1:=by
     rw [show u x*evV (ax p) x=seq e 0 by grind,nYa];exact h10
    rw [←k4] at k5;grind
   ·have hm2:=bF h0;refine ⟨_,_,(hu.smul (aK p)⁻¹).smul (seq e 0)⁻¹,(hv.smul (aK (derL p))⁻¹).smul (seq e 0)⁻¹,fun x=>?_⟩;have k:=h6 x;rw [h8 x] at k;have k2:=eo p x;have k3:=nYh (aK p) (by grind);have k4:(aK p)⁻¹*evV p x=evV (ax p) x:=by rw [k2,←nYb,nYa _ (aK p),k3,Rat.one_mul]
    have j2:=eo (derL p) x;rw [cf] at j2;have j3:=nYh (aK (derL p)) (by grind);have j4:(aK (derL p))⁻¹*evD p x=evV (ax (derL p)) x:=by rw [j2,←nYb,nYa _ (aK (derL p)),j3,Rat.one_mul]
    have k5:(seq e 0)⁻¹*(u x*evV (ax p) x+v x*evV (ax (derL p)) x)=1:=by
     rw [←k,nYa];exact h10
    rw [←k4,←j4] at k5;grind
  refine ⟨h,hcp,fun _=>1,evD p,Pf.const 1,Pf.der p,?_,fun x=>by grind,fun x=>by grind⟩;obtain ⟨a,b,ha,hb,h11⟩:=hcp;exact ⟨⟨_,Pf.ev p,fun x=>by grind⟩,⟨_,Pf.der p,fun x=>by grind⟩,a,b,ha,hb,fun x=>(h11 x).symm⟩
end Go.Proofs.YtafgmcimcbhhjaaGreat.Sg
/- The chain of remainders: plain facts for the walk of remainders. -/
namespace Go.Proofs.YtafgmcimcbhhjaaGreat
open Go.RowKit Go.Front Go.Num Stab
theorem gX{c:Rat}(hc:c≠0)(l:List Rat):tz (l.map (·*c))=(tz l).map (·*c):=by
 induction l using Stab.snoc_ind with
 | h0=>rfl
 | h1 l r ih =>
  by_cases hr:r=0
  ·subst hr;rw [List.map_append,List.map_cons,List.map_nil,nXy,et,et,ih]
  ·have h2:r*c≠0:=fun h=>by
    rcases nXq.1 h with h3|h3
    ·exact hr h3
    ·exact hc h3
   rw [List.map_append,List.map_cons,List.map_nil,fv _ h2,fv _ hr,List.map_append,List.map_cons,List.map_nil]
theorem p9{c:Rat}(hc:0<c)(a:Rat):(a*c).abs=a.abs*c:=by
 have hc2:=Rat.le_of_lt hc;unfold Rat.abs;by_cases h:0≤a
 ·rw [if_pos h,if_pos (Rat.mul_nonneg h hc2)]
 ·rw [if_neg h];have h1:0 < -a:=by grind
  have h2:=Rat.mul_pos h1 hc;rw [if_neg (by grind)];grind
theorem l7{c:Rat}(hc:c≠0)(a:Rat){b:Rat}(hb:b≠0):a*c / (b*c)=a / b:=by
 have hbc:b*c≠0:=fun h=>by rcases nXq.1 h with h|h <;> contradiction
 have h1:=cF (a:=a*c) hbc;have h2:=cF (a:=a) hb;have h3:(a*c / (b*c)-a / b)*(b*c)=0:=by grind
 rcases nXq.1 h3 with h|h
 ·grind
 ·contradiction
theorem sy{c:Rat}(hc:0<c)(a b:Rat):fk (a*c) (b*c)=fk a b*c:=by
 have hc0:c≠0:=fun h=>by rw [h] at hc;exact absurd hc Rat.lt_irrefl
 have hz:∀ x:Rat,x*c=0↔x=0:=fun x=>⟨fun h=>(nXq.1 h).resolve_right hc0,fun h=>by rw [h,nXy]⟩
 unfold fk;by_cases ha:a=0
 ·rw [if_pos ((hz a).2 ha),if_pos ha,p9 hc]
 ·rw [if_neg (fun h=>ha ((hz a).1 h)),if_neg ha];by_cases hb:b=0
  ·rw [if_pos ((hz b).2 hb),if_pos hb]
  ·rw [if_neg (fun h=>hb ((hz b).1 h)),if_neg hb,l7 hc0 a hb,←p9 hc]
   congr 1
   rw [Rat.div_def,Rat.div_def];grind
theorem qI{c:Rat}(hc:0<c)(l:List Rat):aZ (l.map (·*c))=aZ l*c:=by
 induction l using snoc_ind with
 | h0=>show (0:Rat)=0*c;rw [nXy]
 | h1 l r ih =>
  rw [List.map_append,List.map_cons,List.map_nil,eh,eh,ih,sy hc]
theorem bW{p q:List Rat}{c:Rat}(hc:0<c)(h:∀ n,seq p n=seq q n*c):ax p=ax q:=by
 have hc0:c≠0:=fun h=>by rw [h] at hc;exact absurd hc Rat.lt_irrefl
 have h1:tz p=(tz q).map (·*c):=by
  rw [←gX hc0];exact jQ fun n=>by rw [aU];exact h n
 by_cases h0:tz q=[]
 ·unfold ax;rw [h1,h0];rfl
 ·have hm:aZ (tz q)≠0:=nK h0;unfold ax aK;rw [h1,qI hc,List.map_map];refine List.map_congr_left fun x hx=>?_
  exact l7 hc0 x hm
theorem r6{a b s r:List Rat}{f:Rat}(hb:tz b≠[])(hr:r.length<(tz b).length)(he:∀ n,f*seq a n=cv (seq s) (seq b) n+seq r n)(n:Nat):seq r n=f*seq (bP a b) n :=
 (gg (p:=a) (q:=b) hb (s:=seq s) (r:=seq r) (F:=f) (N:=s.length) (Bd.seq s) (fun i hi=>by rw [Bd.seq r i (by omega)]) he).2 n
theorem kN{a b s r:List Rat}{f:Rat}(hb:tz b≠[])(hf:0<f)(hr:r.length<(tz b).length)(he:∀ n,f*seq a n=cv (seq s) (seq b) n+seq r n):ax (r.map (·*-1))=ax ((bP a b).map (·*-1)):=by
 refine bW hf fun n=>?_
 rw [aU,aU,r6 hb hr he n];grind
end Go.Proofs.YtafgmcimcbhhjaaGreat
/- Roots of a polynomial and of that with each root once; what a count says of two halves. Plain facts. -/
namespace Go.Proofs.YtafgmcimcbhhjaaGreat.Sg
open Go.RowKit Go.Front Go.Num Go.Stab Go.Proofs.YtafgmcimcbhhjaaGreat
theorem sR(a x:Rat):evV [-a,1] x=x-a:=by
 show (0*x+1)*x+-a=x-a;grind
theorem xh(a:Rat):tz [-a,1]≠[]:=fun h=>by
 have h1:=ev_tznil.1 h (a+1);rw [sR] at h1;grind
theorem AL{f:Rat→Rat}(hf:Pf f){a:Rat}(h0:f a=0):∃ g,Pf g∧∀ x,f x=(x-a)*g x:=by
 obtain ⟨p,rfl⟩:=hf;have h1:=iD p (xh a);have h2:=(cu p (xh a)).1;have h3:(tz (bP p [-a,1])).length≤1:=by
  have k1:=ai (bP p [-a,1]);have k2:=ai [-a,1];simp only [List.length_cons,List.length_nil] at k2;omega
 have h4:=j5 h3;have h5:seq (bP p [-a,1]) 0=0:=by
  have k:=h1 a;rw [h0,h4 a,sR] at k;grind
 exact ⟨_,Pf.ev (bA p [-a,1]),fun x=>by rw [h1 x,h4 x,h5,sR];grind⟩
theorem sQ{p q:List Rat}{a:Rat}(h:∀ x,evV p x=(x-a)*evV q x)(i:Nat):seq p i=sh (seq q) i-a*seq q i:=by
 have h1:=iE (p:=p) (q:=bf (0 :: q) (q.map (·*(-a)))) (fun x=>by
  rw [ev_add5,bJ,h x];show _=(evV q x*x+0)+_;grind) i
 rw [h1,ey,jH,aU];grind
theorem mP{p:List Rat}{i:Nat}(h:seq p i≠0):i<(tz p).length:=by
 apply Classical.byContradiction;intro hn;apply h;rw [←aT];exact bB (by omega)
theorem yM{p q:List Rat}{a:Rat}(h:∀ x,evV p x=(x-a)*evV q x)(hq:tz q≠[]):(tz q).length<(tz p).length:=by
 obtain ⟨m,hm,h0⟩:=eN hq;have h1:=sQ h (m+1);have h2:seq q (m+1)=0:=by rw [←aT];exact bB (by omega)
 have h3:sh (seq q) (m+1)=seq q m:=rfl;rw [h2,h3] at h1;have:=mP (p:=p) (i:=m+1) (by rw [h1];grind);omega
theorem vF{p:List Rat}(h:tz p≠[]):∃ x,evV p x≠0:=Classical.byContradiction fun hn=>h (ev_tznil.2 fun x=>Classical.byContradiction fun h2=>hn ⟨x,h2⟩)
def iI(l:List (List Rat))(x:Rat):Nat:=vr 0 (l.map fun m=>sg (evV m x))
def rtV(l:List (List Rat))(x:Rat):Bool:=decide (sg (evV (l.getD 0 []) x)=0)
def cntV(p:List Rat)(lo hi:Rat):Int:=(iI (remsV (rootV p)) lo:Int)-iI (remsV (rootV p)) hi+(if rtV (remsV (rootV p)) lo=true then 1 else 0)
theorem mE{p:List Rat}(h:tz p≠[]):∃ l,remsV p=ax p :: l:=by
 have h1:ax p≠[]:=fun h0=>h (cD.1 h0)
 unfold remsV;by_cases h2:ax (derL p)=[]
 ·rw [h2,eE h1];exact ⟨_,rfl⟩
 ·rw [go h1 h2];exact ⟨_,rfl⟩
end Go.Proofs.YtafgmcimcbhhjaaGreat.Sg
