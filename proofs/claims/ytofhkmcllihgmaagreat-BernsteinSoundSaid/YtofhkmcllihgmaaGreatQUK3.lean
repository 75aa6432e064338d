/- Polynomial functions over the rationals: divisors, coprime ones, the greatest common divisor, the polynomial with the same roots, each once. Plain facts. -/
import Derived.Test.YtofhkmcllihgmaaGreatQUK2
import Derived.Test.YtofhkmcllihgmaaGreatQUM7
import Derived.Test.YtofhkmcllihgmaaGreatQUK1
import Derived.Test.YtofhkmcllihgmaaGreatQUM22
set_option linter.unusedVariables false
namespace Go.Proofs.YtofhkmcllihgmaaGreat.Sg
open Go.RowKit Go.Front Go.Num Go.Stab Go.Proofs.YtofhkmcllihgmaaGreat
theorem uj{r a b:List Rat}{c:Rat}(h:∀ i,seq r i=c*seq a i+seq b i)(x:Rat):evV r x=c*evV a x+evV b x:=by
 obtain ⟨N,h1,h2,h3⟩:∃ N,r.length≤N∧a.length≤N∧b.length≤N:=⟨r.length+a.length+b.length,by omega,by omega,by omega⟩;rw [ni h1,ni h2,ni h3,←gx,←mC];exact sm_congr (fun i _=>by rw [h];grind)
theorem jJ(r:List Rat):seq (0 :: r)=sh (seq r):=by funext n;cases n <;> rfl
theorem Di(p:List Rat){q r:List Rat}(h:∀ n,seq r n=cv (seq p) (seq q) n)(x:Rat):evV r x=evV p x*evV q x:=by
 induction p generalizing r with
 | nil =>
  have e:evV r x=0*evV [] x:=kj (fun i=>by rw [h i,←fT];show (0:Rat)=0*_;grind) x;rw [e];show (0:Rat)*_=(0:Rat)*_;grind
 | cons c p ih =>
  have e1:evV (aD p q) x=evV p x*evV q x:=ih (fun n=>by rw [dh,fT]);have e2:evV r x=c*evV q x+evV (0 :: aD p q) x:=uj (fun i=>by
   rw [h i,←fT,jJ,dh];rfl) x
  rw [e2,gO,e1,gO];grind
theorem bg(p q:List Rat)(x:Rat):evV (aD p q) x=evV p x*evV q x:=Di p (fun n=>by rw [dh,fT]) x
theorem ff(p q:List Rat)(n:Nat):seq (cG p q) n=seq p n+seq q n:=by
 unfold cG;rw [bq];show ((List.range (max p.length q.length)).map (fun i=>p.getD i 0+q.getD i 0)).getD n 0=p.getD n 0+q.getD n 0;rw [ck];split
 ·rfl
 ·rw [bs (l:=p) (by omega),bs (l:=q) (by omega)];exact (Rat.add_zero 0).symm
theorem iP(p q:List Rat)(x:Rat):evV (cG p q) x=evV p x+evV q x:=by
 have:=uj (r:=cG p q) (a:=p) (b:=q) (c:=1) (fun i=>by rw [ff];grind) x;rw [this];grind
theorem bQ(p:List Rat)(c x:Rat):evV (p.map (·*c)) x=c*evV p x:=kj (fun i=>by rw [aU];grind) x
def Pf(f:Rat→Rat):Prop:=∃ p,f=evV p
theorem Pf.ev(p:List Rat):Pf (evV p):=⟨p,rfl⟩
theorem Pf.const(c:Rat):Pf (fun _=>c):=⟨[c],funext fun x=>by show c=0*x+c;grind⟩
theorem Pf.add{f g:Rat→Rat}(hf:Pf f)(hg:Pf g):Pf (fun x=>f x+g x):=by
 obtain ⟨p,rfl⟩:=hf;obtain ⟨q,rfl⟩:=hg;exact ⟨cG p q,funext fun x=>(iP p q x).symm⟩
theorem Pf.mul{f g:Rat→Rat}(hf:Pf f)(hg:Pf g):Pf (fun x=>f x*g x):=by
 obtain ⟨p,rfl⟩:=hf;obtain ⟨q,rfl⟩:=hg;exact ⟨aD p q,funext fun x=>(bg p q x).symm⟩
theorem Pf.smul{f:Rat→Rat}(c:Rat)(hf:Pf f):Pf (fun x=>c*f x):=(Pf.const c).mul hf
theorem Pf.sub{f g:Rat→Rat}(hf:Pf f)(hg:Pf g):Pf (fun x=>f x-g x):=by
 have h:=hf.add (hg.smul (-1));have e:(fun x=>f x-g x)=(fun x=>f x+-1*g x):=funext fun x=>by grind
 rw [e];exact h
theorem Pf.lip{f:Rat→Rat}(h:Pf f)(A B:Rat):∃ K,0≤K∧Lip A B K f:=by obtain ⟨p,rfl⟩:=h;exact qo p A B
theorem Pf.on{f:Rat→Rat}(h:Pf f)(A B:Rat):∃ K,0≤K∧On A B K f:=by obtain ⟨p,rfl⟩:=h;exact Av p A B
theorem pY{K v:Rat}(hK:0≤K)(h:∀ d,0<d→d≤1→v≤K*d):v≤0:=by
 apply Classical.byContradiction;intro hn;obtain ⟨e,he,h1⟩:=iG hK (show 0<v by grind);obtain ⟨d,hd,h2,h3⟩:=pU he (show (0:Rat)<1 by decide);have h4:=h1 d h2;have h5:=h d hd h3;grind
theorem oF(p:List Rat)(h:∀ x,evV p x=0):∀ i,seq p i=0:=by
 induction p with
 | nil=>intro i;rfl
 | cons c p ih =>
  have hc:c=0:=by have:=h 0;rw [gO] at this;grind
  have h1:∀ x,x≠0→evV p x=0:=fun x hx=>by
   have h2:=h x;rw [gO,hc] at h2;have h3:evV p x*x=0:=by grind
   rcases Rat.mul_eq_zero.1 h3 with h4|h4
   ·exact h4
   ·exact absurd h4 hx
  have h0:evV p 0=0:=by
   obtain ⟨K,hK,hL⟩:=qo p 0 1;have a1:=pY (v:=evV p 0) hK (fun d hd h2=>by
    have h3:=(hL 0 d Rat.le_refl (by grind) h2).1;rw [h1 d (by grind)] at h3;grind)
   have a2:=pY (v:=-evV p 0) hK (fun d hd h2=>by
    have h3:=(hL 0 d Rat.le_refl (by grind) h2).2;rw [h1 d (by grind)] at h3;grind)
   grind
  have h2:=ih (fun x=>by
   by_cases hx:x=0
   ·rw [hx];exact h0
   ·exact h1 x hx)
  intro i;cases i with
  | zero=>exact hc
  | succ i=>exact h2 i
theorem ev_inj{p q:List Rat}(h:∀ x,evV p x=evV q x):∀ i,seq p i=seq q i:=by
 have h1:=oF (cG p (q.map (·*-1))) (fun x=>by rw [iP,bQ,h x];grind);intro i;have:=h1 i;rw [ff,aU] at this;grind
theorem ev_tznil{p:List Rat}:tz p=[]↔∀ x,evV p x=0:=by
 constructor
 ·intro h x;rw [←BW,h];rfl
 ·intro h;have:=mP (a:=p) (b:=[]) (fun i=>by rw [oF p h i];rfl);exact this
theorem Dk{p q:List Rat}(hp:tz p≠[])(hq:tz q≠[]):∃ n,cv (seq p) (seq q) n≠0:=by
 obtain ⟨a,ha⟩:∃ a,(tz p).length=a+1:=⟨(tz p).length-1,by have:=List.length_pos_iff.2 hp;omega⟩;obtain ⟨b,hb⟩:∃ b,(tz q).length=b+1:=⟨(tz q).length-1,by have:=List.length_pos_iff.2 hq;omega⟩;refine ⟨a+b,?_⟩;rw [←bq p,←bq q,nt (by rw [←ha];exact Bd.seq _) (by rw [←hb];exact Bd.seq _)];intro h;have h1:=bY hp;have h2:=bY hq;unfold aS at h1 h2;rw [ha,Nat.add_sub_cancel] at h1;rw [hb,Nat.add_sub_cancel] at h2;rcases Rat.mul_eq_zero.1 h with h3|h3
 ·exact h1 h3
 ·exact h2 h3
theorem Bw{f g:Rat→Rat}(hf:Pf f)(hg:Pf g)(h:∀ x,f x*g x=0)(h0:∃ x,f x≠0):∀ x,g x=0:=by
 obtain ⟨p,rfl⟩:=hf;obtain ⟨q,rfl⟩:=hg;obtain ⟨y,hy⟩:=h0;have hp:tz p≠[]:=fun h=>hy (ev_tznil.1 h y)
 by_cases hq:tz q=[]
 ·exact ev_tznil.1 hq
 ·exfalso;obtain ⟨n,hn⟩:=Dk hp hq;have h1:=oF (aD p q) (fun x=>by rw [bg];exact h x) n;rw [dh,fT] at h1;exact hn h1
theorem im{f g h:Rat→Rat}(hf:Pf f)(hg:Pf g)(hh:Pf h)(he:∀ x,f x*g x=f x*h x)(h0:∃ x,f x≠0):∀ x,g x=h x:=fun x=>by
 have:=Bw hf (hg.sub hh) (fun x=>by have:=he x;grind) h0 x;grind
def Dv(a b:Rat→Rat):Prop:=∃ c,Pf c∧∀ x,b x=a x*c x
def Cp(a b:Rat→Rat):Prop:=∃ u v,Pf u∧Pf v∧∀ x,u x*a x+v x*b x=1
theorem Dv.add{a b c:Rat→Rat}(h:Dv a b)(k:Dv a c):Dv a (fun x=>b x+c x):=by
 obtain ⟨u,hu,h1⟩:=h;obtain ⟨v,hv,h2⟩:=k;exact ⟨_,hu.add hv,fun x=>by show b x+c x=_;rw [h2,h1];grind⟩
theorem Dv.sub{a b c:Rat→Rat}(h:Dv a b)(k:Dv a c):Dv a (fun x=>b x-c x):=by
 obtain ⟨u,hu,h1⟩:=h;obtain ⟨v,hv,h2⟩:=k;exact ⟨_,hu.sub hv,fun x=>by show b x-c x=_;rw [h2,h1];grind⟩
theorem Dv.mulr{a b c:Rat→Rat}(h:Dv a b)(k:Pf c):Dv a (fun x=>b x*c x):=by
 obtain ⟨u,hu,h1⟩:=h;exact ⟨_,hu.mul k,fun x=>by show b x*c x=_;rw [h1];grind⟩
theorem Dv.mull{a b c:Rat→Rat}(h:Dv a b)(k:Pf c):Dv a (fun x=>c x*b x):=by
 obtain ⟨u,hu,h1⟩:=h;exact ⟨_,hu.mul k,fun x=>by show c x*b x=_;rw [h1];grind⟩
theorem Cp.dv{a b c:Rat→Rat}(h:Cp a b)(hc:Pf c)(k:Dv a (fun x=>b x*c x)):Dv a c:=by
 obtain ⟨u,v,hu,hv,h1⟩:=h;obtain ⟨d,hd,h2⟩:=k;exact ⟨_,(hu.mul hc).add (hv.mul hd),fun x=>by
  have e1:=h1 x;have e2:b x*c x=a x*d x:=h2 x;have e3:(u x*a x+v x*b x)*c x=c x:=by rw [e1];grind
  have e4:v x*(b x*c x)=v x*(a x*d x):=by rw [e2]
  show c x=a x*((u x*c x)+v x*d x);grind⟩
theorem Cp.dvl{a b c:Rat→Rat}(h:Cp a b)(hc:Pf c)(k:Dv a (fun x=>c x*b x)):Dv a c:=h.dv hc (by
 obtain ⟨d,hd,h2⟩:=k;exact ⟨d,hd,fun x=>by rw [←h2];grind⟩)
def IsD(f g:Rat→Rat):Prop:=∀ A B,∃ K,0≤K∧∀ s t,A≤s→s≤t→t≤B→Bd (K*(t-s)*(t-s)) (f t-f s-g s*(t-s))
theorem IsD.ev(p:List Rat):IsD (evV p) (evD p):=fun A B=>qk p A B
theorem IsD.const(c:Rat):IsD (fun _=>c) (fun _=>0):=fun A B=>⟨0,Rat.le_refl,fun s t _ _ _=>⟨by grind,by grind⟩⟩
theorem IsD.uniq{f g h:Rat→Rat}(a:IsD f g)(b:IsD f h)(x:Rat):g x=h x:=by
 obtain ⟨K,hK,h1⟩:=a x (x+1);obtain ⟨L,hL,h2⟩:=b x (x+1);have key:∀ d,0<d→d≤1→g x-h x≤(K+L)*d∧h x-g x≤(K+L)*d:=fun d hd h3=>by
  obtain ⟨e1,e2⟩:=h1 x (x+d) Rat.le_refl (by grind) (by grind);obtain ⟨e3,e4⟩:=h2 x (x+d) Rat.le_refl (by grind) (by grind);rw [show x+d-x=d by grind] at e1 e2 e3 e4;have cancel:∀ u v:Rat,u*d≤v*d→u≤v:=fun u v h=>by
   apply Classical.byContradiction;intro hn;have:=io (show v<u by grind) hd;grind
  exact ⟨cancel _ _ (by grind),cancel _ _ (by grind)⟩
 have a1:=pY (v:=g x-h x) (K:=K+L) (by grind) (fun d h1 h2=>(key d h1 h2).1);have a2:=pY (v:=h x-g x) (K:=K+L) (by grind) (fun d h1 h2=>(key d h1 h2).2);grind
theorem IsD.mul{f g f' g':Rat→Rat}(a:IsD f f')(b:IsD g g')(hf:Pf f)(hg:Pf g)(hf':Pf f'):IsD (fun x=>f x*g x) (fun x=>f' x*g x+f x*g' x):=by
 intro A B;obtain ⟨K,hK,h1⟩:=a A B;obtain ⟨L,hL,h2⟩:=b A B;obtain ⟨M,hM,h3⟩:=hf.on A B;obtain ⟨N,hN,h4⟩:=hg.on A B;obtain ⟨P,hP,h5⟩:=hf'.on A B;obtain ⟨Q,hQ,h6⟩:=hg.lip A B;refine ⟨K*N+P*Q+M*L,by have:=wG hK hN;have:=wG hP hQ;have:=wG hM hL;grind,fun s t k1 k2 k3=>?_⟩;have h0:0≤t-s:=by grind
 have b1:=(h1 s t k1 k2 k3).mul (h4 t (by grind) k3);have b2:=((h5 s k1 (by grind)).mul (Bd.self h0)).mul (h6 s t k1 k2 k3);have b3:=(h3 s k1 (by grind)).mul (h2 s t k1 k2 k3);have e:=(b1.add b2).add b3;rw [show (K*N+P*Q+M*L)*(t-s)*(t-s)=K*(t-s)*(t-s)*N+P*(t-s)*(Q*(t-s))+M*(L*(t-s)*(t-s)) by grind,
  show f t*g t-f s*g s-(f' s*g s+f s*g' s)*(t-s)=(f t-f s-f' s*(t-s))*g t+f' s*(t-s)*(g t-g s)+f s*(g t-g s-g' s*(t-s)) by grind]
 exact e
def aT:List Rat→List Rat
 | []=>[]
 | _ :: p=>cG (0 :: aT p) p
theorem eK(p:List Rat)(x:Rat):evV (aT p) x=evD p x:=by
 induction p with
 | nil=>rfl
 | cons c p ih =>
  show evV (cG (0 :: aT p) p) x=evD p x*x+evV p x;rw [iP,gO,ih];grind
theorem fZ(p:List Rat)(n:Nat):seq (aT p) n=((n+1:Nat):Rat)*seq p (n+1):=by
 induction p generalizing n with
 | nil=>show (0:Rat)=_*(0:Rat);grind
 | cons c p ih =>
  show seq (cG (0 :: aT p) p) n=((n+1:Nat):Rat)*seq p n;rw [ff,jJ];cases n with
  | zero=>show (0:Rat)+seq p 0=((0+1:Nat):Rat)*seq p 0;rw [show ((0+1:Nat):Rat)=1 from rfl];grind
  | succ n =>
   show seq (aT p) n+seq p (n+1)=_;rw [ih,Rat.natCast_add (n+1) 1,show ((1:Nat):Rat)=1 from rfl];grind
theorem Pf.der(p:List Rat):Pf (evD p):=⟨aT p,funext fun x=>(eK p x).symm⟩
theorem sW{f:Rat→Rat}(h:Pf f):∃ g,Pf g∧IsD f g:=by obtain ⟨p,rfl⟩:=h;exact ⟨_,Pf.der p,IsD.ev p⟩
theorem nj{a p:List Rat}(h:Pr a p):∃ c:Rat,c≠0∧∀ x,evV a x=c*evV p x:=by
 obtain ⟨c,h1,h2⟩:=h;exact ⟨c,h1,fun x=>kj h2 x⟩
theorem iu(p:List Rat){q:List Rat}(h:tz q≠[])(x:Rat):evV p x=evV (bB p q) x*evV q x+evV (bA p q) x:=by
 have h1:=(cu p h).2.2.2;have h2:=uj (r:=p) (a:=aD (bB p q) q) (b:=bA p q) (c:=1) (fun i=>by rw [h1 i,dh,fT];grind) x;rw [h2,bg];grind
def IsG(g a b:Rat→Rat):Prop:=Dv g a∧Dv g b∧∃ u v,Pf u∧Pf v∧∀ x,g x=u x*a x+v x*b x
theorem t7:∀ (f:Nat) (p q:List Rat),q.length≤f→tz q=q→IsG (evV (nd f p q)) (evV p) (evV q):=by
 have hbase:∀ p:List Rat,IsG (evV p) (evV p) (evV []):=fun p=>⟨⟨_,Pf.const 1,fun x=>by grind⟩,⟨_,Pf.const 0,fun x=>by show (0:Rat)=_*0;grind⟩,_,_,Pf.const 1,Pf.const 0,fun x=>by show _=1*_+0*(0:Rat);grind⟩
 intro f;induction f with
 | zero =>
  intro p q h ht;obtain rfl:q=[]:=List.length_eq_zero_iff.1 (by omega);exact hbase p
 | succ f ih =>
  intro p q h ht;by_cases h0:q=[]
  ·subst h0;rw [gi];exact hbase p
  ·have hq:tz q≠[]:=by rw [ht];exact h0
   have h1:=(cu p hq).1;have h2:=cH (bA p q);have h3:=aj (bA p q);rw [ht] at h1;rw [fQ h0];obtain ⟨g1,g2,u,v,hu,hv,g3⟩:=ih q (bu (bA p q)) (by omega) (eI _);obtain ⟨c,hc,hm⟩:=nj (eJ (bA p q));have hr:∀ x,evV (bA p q) x=c⁻¹*evV (bu (bA p q)) x:=fun x=>by
    have:=Rat.mul_inv_cancel c hc;rw [hm x];grind
   refine ⟨?_,g1,_,_,hv.smul c,hu.sub ((hv.smul c).mul (Pf.ev (bB p q))),fun x=>?_⟩
   ·have h4:=(g1.mull (Pf.ev (bB p q))).add (g2.mull (Pf.const c⁻¹));obtain ⟨d,hd,h5⟩:=h4;exact ⟨d,hd,fun x=>by rw [←h5 x,iu p hq x,hr x]⟩
   ·rw [g3 x,hm x,iu p hq x];grind
theorem ir(p q:List Rat):IsG (evV (dL p q)) (evV p) (evV q):=by
 obtain ⟨g1,g2,u,v,hu,hv,g3⟩:=t7 (tz q).length (bu p) (bu q) (by rw [cH];exact Nat.le_refl _) (eI q);obtain ⟨c,hc,h1⟩:=nj (eJ p);obtain ⟨d,hd,h2⟩:=nj (eJ q);have inv:∀ {c:Rat} {f g:Rat→Rat},c≠0→(∀ x,f x=c*g x)→∀ x,g x=c⁻¹*f x:=fun hc h x=>by
  have:=Rat.mul_inv_cancel _ hc;rw [h x];grind
 refine ⟨?_,?_,_,_,hu.smul c,hv.smul d,fun x=>?_⟩
 ·obtain ⟨e,he,h3⟩:=g1.mull (Pf.const c⁻¹);exact ⟨e,he,fun x=>(inv hc h1 x).trans (h3 x)⟩
 ·obtain ⟨e,he,h3⟩:=g2.mull (Pf.const d⁻¹);exact ⟨e,he,fun x=>(inv hd h2 x).trans (h3 x)⟩
 ·show evV (nd (tz q).length (bu p) (bu q)) x=_;rw [g3 x,h1,h2];grind
theorem kY{a b:List Rat}(h:Dv (evV a) (evV b))(hb:tz b≠[]):(tz a).length≤(tz b).length:=by
 obtain ⟨c,⟨p,rfl⟩,h1⟩:=h;have ha:tz a≠[]:=fun h=>hb (ev_tznil.2 fun x=>by rw [h1 x,ev_tznil.1 h x];grind)
 have hp:tz p≠[]:=fun h=>hb (ev_tznil.2 fun x=>by rw [h1 x,ev_tznil.1 h x];grind)
 obtain ⟨i,hi⟩:∃ a',(tz a).length=a'+1:=⟨(tz a).length-1,by have:=List.length_pos_iff.2 ha;omega⟩;obtain ⟨j,hj⟩:∃ b',(tz p).length=b'+1:=⟨(tz p).length-1,by have:=List.length_pos_iff.2 hp;omega⟩;have h2:=ev_inj (p:=b) (q:=aD a p) (fun x=>by rw [bg];exact h1 x) (i+j);rw [dh,fT,←bq a,←bq p,nt (by rw [←hi];exact Bd.seq _) (by rw [←hj];exact Bd.seq _),←bq b] at h2;have k1:=bY ha;have k2:=bY hp;unfold aS at k1 k2;rw [hi,Nat.add_sub_cancel] at k1;rw [hj,Nat.add_sub_cancel] at k2;rcases Nat.lt_or_ge (i+j) (tz b).length with h3|h3
 ·omega
 ·exfalso;rw [Bd.seq (tz b) _ h3] at h2;rcases Rat.mul_eq_zero.1 h2.symm with h4|h4
  ·exact k1 h4
  ·exact k2 h4
theorem eT{p:List Rat}(h:tz p≠[]):∃ n,(tz p).length=n+1∧seq p n≠0:=by
 obtain ⟨n,hn⟩:∃ n,(tz p).length=n+1:=⟨(tz p).length-1,by have:=List.length_pos_iff.2 h;omega⟩;exact ⟨n,hn,gY hn⟩
theorem yx{n:Nat}:((n+1:Nat):Rat)≠0:=fun h=>by
 have:n+1=0:=by exact_mod_cast h
 omega
theorem iS(p:List Rat)(n:Nat)(h:(tz p).length=n+1):(tz (aT p)).length≤n:=by
 rcases Nat.lt_or_ge n (tz (aT p)).length with h1|h1
 ·exfalso;have h2:tz (aT p)≠[]:=fun h=>by rw [h] at h1;simp at h1
  obtain ⟨k,h3,h4⟩:=eT h2;rw [fZ] at h4;apply h4;rw [←bq p,Bd.seq (tz p) (k+1) (by omega)];grind
 ·exact h1
theorem Ce{p:List Rat}{n:Nat}(h:(tz p).length=n+2):tz (aT p)≠[]:=fun h0=>by
 have h1:seq (aT p) n=0:=by rw [←bq,h0];rfl
 rw [fZ] at h1;have h2:seq p (n+1)≠0:=gY h;rcases Rat.mul_eq_zero.1 h1 with h3|h3
 ·exact yx h3
 ·exact h2 h3
theorem j7{p:List Rat}(h:(tz p).length≤1):∀ x,evV p x=seq p 0:=fun x=>by
 rw [←BW,←bq p]
 match tz p,h with
 | [],_=>rfl
 | [c],_=>show 0*x+c=c;grind
theorem Bi{g p p' r q1:Rat→Rat}(hg:Pf g)(hr:Pf r)(hq:Pf q1)(h:IsG g p p')(h1:∀ x,p x=g x*r x)(h2:∀ x,p' x=g x*q1 x)(h0:∃ x,p x≠0):Cp r q1:=by
 obtain ⟨-,-,u,v,hu,hv,h3⟩:=h;refine ⟨u,v,hu,hv,fun x=>?_⟩;refine im (f:=g) (g:=fun x=>u x*r x+v x*q1 x) (h:=fun _=>1) hg ((hu.mul hr).add (hv.mul hq)) (Pf.const 1) (fun x=>?_) ?_ x
 ·have e:=h3 x;rw [h1,h2] at e;grind
 ·obtain ⟨y,hy⟩:=h0;exact ⟨y,fun h=>hy (by rw [h1,h];grind)⟩
theorem vJ:∀ (n:Nat) (p:List Rat),(tz p).length≤n→tz p≠[]→∀ g r:Rat→Rat,Pf g→Pf r→IsG g (evV p) (evD p)→(∀ x,evV p x=g x*r x)→∀ r',Pf r'→IsD r r'→Cp r r':=by
 intro n;induction n with
 | zero=>intro p h h0;exact absurd (List.length_eq_zero_iff.1 (by omega)) h0
 | succ n ih =>
  intro p hn h0 g r hg hr hG h1 r' hr' hd;have hp0:∃ x,evV p x≠0:=Classical.byContradiction fun h=>h0 (ev_tznil.2 fun x=>Classical.byContradiction fun h2=>h ⟨x,h2⟩)
  obtain ⟨q1,hq1,h2⟩:=hG.2.1;have hcp:=Bi hg hr hq1 hG h1 h2 hp0;obtain ⟨gl,rfl⟩:=id hg;have hg0:tz gl≠[]:=fun h=>by
   obtain ⟨y,hy⟩:=hp0;exact hy (by rw [h1,ev_tznil.1 h y];grind)
  have hgx:∃ x,evV gl x≠0:=by
   obtain ⟨y,hy⟩:=hp0;exact ⟨y,fun h=>hy (by rw [h1,h];grind)⟩
  have hslope:∀ x,evD gl x*r x+evV gl x*r' x=evV gl x*q1 x:=fun x=>by
   have e:=(IsD.mul (IsD.ev gl) hd hg hr (Pf.der gl)).uniq (by
    have:=IsD.ev p;rw [show evV p=fun x=>evV gl x*r x from funext h1] at this;exact this) x
   rw [h2 x] at e;exact e
  rcases Nat.lt_or_ge 1 (tz gl).length with hl|hl
  ·-- g is not a constant
   obtain ⟨k,hk,-⟩:=eT hg0;have hpg:=kY hG.1 h0;obtain ⟨m,hm⟩:∃ m,(tz p).length=m+2:=⟨(tz p).length-2,by omega⟩;have hpd:=Ce hm;have hdl:Dv (evV gl) (evV (aT p)):=by rw [show evV (aT p)=evD p from funext (eK p)];exact hG.2.1
   have hlen:=kY hdl hpd;have hder:=iS p (m+1) hm;have hG2:=ir gl (aT gl);rw [show evV (aT gl)=evD gl from funext (eK gl)] at hG2;obtain ⟨r1,hr1,e1⟩:=hG2.1;obtain ⟨s1,hs1,e2⟩:=hG2.2.1;obtain ⟨r1',hr1',hd1⟩:=sW hr1;have hc1:=ih gl (by omega) hg0 _ r1 (Pf.ev _) hr1 hG2 e1 r1' hr1' hd1;have hc2:=Bi (Pf.ev _) hr1 hs1 hG2 e1 e2 hgx;have hp2x:∃ x,evV (dL gl (aT gl)) x≠0:=by
    obtain ⟨y,hy⟩:=hgx;exact ⟨y,fun h=>hy (by rw [e1,h];grind)⟩
   have e3:∀ x,s1 x*r x=r1 x*(q1 x-r' x):=im (f:=evV (dL gl (aT gl))) (g:=fun x=>s1 x*r x) (h:=fun x=>r1 x*(q1 x-r' x)) (Pf.ev _) (hs1.mul hr) (hr1.mul (hq1.sub hr')) (fun x=>by
    have h3:=hslope x;rw [e2 x,e1 x] at h3;grind) hp2x
   obtain ⟨w,hw,e4⟩:=hc2.dv hr ⟨_,hq1.sub hr',e3⟩;have hr1x:∃ x,r1 x≠0:=by
    obtain ⟨y,hy⟩:=hgx;exact ⟨y,fun h=>hy (by rw [e1,h];grind)⟩
   have e5:∀ x,s1 x*w x=q1 x-r' x:=im (f:=r1) (g:=fun x=>s1 x*w x) (h:=fun x=>q1 x-r' x) hr1 (hs1.mul hw) (hq1.sub hr') (fun x=>by
    have h3:=e3 x;rw [e4 x] at h3;grind) hr1x
   obtain ⟨rl,hrl⟩:=id hr;have hrd:r'=evD rl:=funext fun x=>hd.uniq (by rw [hrl];exact IsD.ev rl) x
   have hG3:=ir rl (aT rl);rw [show evV (aT rl)=evD rl from funext (eK rl),←hrl,←hrd] at hG3;obtain ⟨h,hh⟩:∃ h,h=evV (dL rl (aT rl)):=⟨_,rfl⟩;rw [←hh] at hG3;have hhp:Pf h:=⟨_,hh⟩;obtain ⟨d1,d2,ua,va,hua,hva,d3⟩:=hG3;obtain ⟨w',hw',hdw⟩:=sW hw;have hcw:Cp h w:=by
    obtain ⟨u,v,hu,hv,b1⟩:=hcp;obtain ⟨x1,hx1,b2⟩:=d1;obtain ⟨x2,hx2,b3⟩:=d2;refine ⟨_,_,(hu.mul hx1).add (hv.mul hx2),hv.mul hs1,fun x=>?_⟩;have b4:=b1 x;have b5:=e5 x;have b6:q1 x=s1 x*w x+r' x:=by grind
    rw [b6,b2 x,b3 x] at b4;grind
   have hr1d:Dv h r1:=hcw.dvl hr1 (by
    obtain ⟨x1,hx1,b2⟩:=d1;exact ⟨x1,hx1,fun x=>by rw [←b2 x,e4 x]⟩)
   have hrs:∀ x,r1' x*w x+r1 x*w' x=r' x:=fun x=>(IsD.mul hd1 hdw hr1 hw hr1').uniq (by
    rw [←show r=fun x=>r1 x*w x from funext e4];exact hd) x
   have hr1d':Dv h r1':=hcw.dvl hr1' (by
    obtain ⟨x1,hx1,b2⟩:=d2.sub (hr1d.mulr hw');exact ⟨x1,hx1,fun x=>by
     have e:=b2 x;have e':=hrs x;rw [←e];show r1' x*w x=r' x-r1 x*w' x;grind⟩)
   obtain ⟨a,b,ha,hb,c1⟩:=hc1;obtain ⟨x1,hx1,c2⟩:=hr1d;obtain ⟨x2,hx2,c3⟩:=hr1d';refine ⟨_,_,((ha.mul hx1).add (hb.mul hx2)).mul hua,((ha.mul hx1).add (hb.mul hx2)).mul hva,fun x=>?_⟩;have c4:=c1 x;rw [c2 x,c3 x,d3 x] at c4;grind
  ·-- g is a constant
   have hcst:=j7 hl;obtain ⟨y,hy⟩:=hgx;have hc0:seq gl 0≠0:=by rw [←hcst y];exact hy
   have hz:∀ x,evD gl x=0:=fun x=>(IsD.ev gl).uniq (by rw [show evV gl=fun _=>seq gl 0 from funext hcst];exact IsD.const _) x
   have he:∀ x,r' x=q1 x:=fun x=>by
    have h3:=hslope x;rw [hz x,hcst x] at h3;have h4:=Rat.mul_inv_cancel _ hc0;have h5:(seq gl 0)⁻¹*(seq gl 0*r' x)=(seq gl 0)⁻¹*(seq gl 0*q1 x):=by congr 1;grind
    rw [←Rat.mul_assoc,←Rat.mul_assoc,Rat.mul_comm _ (seq gl 0),h4,Rat.one_mul,Rat.one_mul] at h5;exact h5
   rw [show r'=q1 from funext he];exact hcp
end Go.Proofs.YtofhkmcllihgmaaGreat.Sg
/- Bernstein coefficients and the algorithm of de Casteljau. Plain facts. -/
set_option linter.unusedVariables false
namespace Go.Proofs.YtofhkmcllihgmaaGreat
open Go.RowKit Go.Front Go.Num Stab
def row(n:Nat)(f:Nat→Rat):List Rat:=(List.range n).map f
theorem aF(n:Nat)(f:Nat→Rat):(row n f).length=n:=by simp [row]
theorem bM{n i:Nat}(f:Nat→Rat)(h:i<n):(row n f).getD i 0=f i:=by unfold row;rw [ck,if_pos h]
theorem aR{n:Nat}{f g:Nat→Rat}(h:∀ i,i<n→f i=g i):row n f=row n g:=List.map_congr_left (fun i hi=>h i (List.mem_range.1 hi))
theorem jL(n k:Nat)(f:Nat→Rat)(v:Rat):(row n f).set k v=row n (fun i=>if i=k then v else f i):=by
 apply List.ext_getElem
 ·rw [List.length_set,aF,aF]
 ·intro i h1 h2;simp only [row,List.getElem_set,List.getElem_map,List.getElem_range];by_cases h:k=i
  ·rw [if_pos h,if_pos h.symm]
  ·rw [if_neg h,if_neg (fun e=>h e.symm)]
theorem vU(n:Nat):row n (fun _=>0)=List.replicate n 0:=by
 apply List.ext_getElem
 ·simp [row]
 ·intro i h1 h2;simp [row]
theorem zD{n:Nat}{l:List Rat}(h:l.length=n):row n (fun i=>l.getD i 0)=l:=by
 apply List.ext_getElem
 ·rw [aF,h]
 ·intro i h1 h2;simp only [row,List.getElem_map,List.getElem_range];rw [List.getD_eq_getElem?_getD,List.getElem?_eq_getElem h2];rfl
def cs(t:Rat)(b:Nat→Rat)(i:Nat):Rat:=(1-t)*b i+t*b (i+1)
def csn:Nat→Rat→(Nat→Rat)→Nat→Rat
 | 0,_,b=>b
 | n+1,t,b=>csn n t (cs t b)
theorem oJ(n:Nat)(s x y:Rat)(a b:Nat→Rat):csn n s (fun i=>x*a i+y*b i)=fun i=>x*csn n s a i+y*csn n s b i:=by
 induction n generalizing a b with
 | zero=>rfl
 | succ n ih =>
  show csn n s (cs s _)=_;rw [show cs s (fun i=>x*a i+y*b i)=fun i=>x*cs s a i+y*cs s b i from funext fun i=>by unfold cs;grind,ih];rfl
theorem Cl(n:Nat)(s t:Rat)(b:Nat→Rat):csn n s (cs t b)=cs t (csn n s b):=by
 rw [show cs t b=fun i=>(1-t)*b i+t*(fun i=>b (i+1)) i from rfl,oJ]
 funext i
 unfold cs
 congr 2
 induction n generalizing b with
 | zero=>rfl
 | succ n ih =>
  show csn n s (cs s (fun i=>b (i+1))) i=csn n s (cs s b) (i+1);exact ih (cs s b)
theorem xI(n:Nat)(s:Rat)(b:Nat→Rat):csn (n+1) s b=cs s (csn n s b):=Cl n s s b
theorem Ck(n:Nat)(s:Rat)(b:Nat→Rat)(i:Nat):csn n s (fun i=>b (i+1)) i=csn n s b (i+1):=by
 induction n generalizing b with
 | zero=>rfl
 | succ n ih=>exact ih (cs s b)
theorem kr(n:Nat)(s:Rat){a b:Nat→Rat}{i:Nat}(h:∀ j,i≤j→j≤i+n→a j=b j):csn n s a i=csn n s b i:=by
 induction n generalizing a b with
 | zero=>exact h i (Nat.le_refl _) (Nat.le_refl _)
 | succ n ih =>
  refine ih (fun j h1 h2=>?_);unfold cs;rw [h j h1 (by omega),h (j+1) (by omega) (by omega)]
def vl(n:Nat)(b:Nat→Rat)(t:Rat):Rat:=csn n t b 0
theorem vB{n:Nat}{a b:Nat→Rat}(h:∀ j,j≤n→a j=b j)(t:Rat):vl n a t=vl n b t:=kr n t (fun j _ h2=>h j (by omega))
def hf:Rat:=((1:Int):Rat) / ((2:Int):Rat)
theorem hf2:hf+hf=1:=by decide +kernel
def lfb(b:Nat→Rat)(j:Nat):Rat:=csn j hf b 0
def rtb(n:Nat)(b:Nat→Rat)(i:Nat):Rat:=csn (n-i) hf b i
theorem Cm(t:Rat)(b:Nat→Rat):cs t (lfb b)=lfb (cs (t*hf) b):=by
 funext j
 unfold lfb;rw [show cs (t*hf) b=fun i=>(1-t)*b i+t*cs hf b i from funext fun i=>by unfold cs;grind,oJ];show (1-t)*csn j hf b 0+t*csn (j+1) hf b 0=_;rfl
theorem AF(n:Nat)(t:Rat)(b:Nat→Rat):csn n t (lfb b)=lfb (csn n (t*hf) b):=by
 induction n generalizing b with
 | zero=>rfl
 | succ n ih =>
  show csn n t (cs t (lfb b))=lfb (csn n (t*hf) (cs (t*hf) b));rw [Cm,ih]
theorem Bc(n:Nat)(b:Nat→Rat)(t:Rat):vl n (lfb b) t=vl n b (t*hf):=by
 unfold vl;rw [AF];rfl
theorem Bb(n:Nat)(b:Nat→Rat)(t:Rat):vl n (rtb n b) t=vl n b (hf+t*hf):=by
 induction n generalizing b with
 | zero=>rfl
 | succ n ih =>
  show vl n (cs t (rtb (n+1) b)) t=vl n (cs (hf+t*hf) b) (hf+t*hf);rw [←ih];refine vB (fun i hi=>?_) t;unfold cs rtb;rw [show n+1-(i+1)=n-i by omega,show n+1-i=(n-i)+1 by omega];show (1-t)*csn (n-i) hf (cs hf b) i+t*csn (n-i) hf b (i+1)=_;rw [←Ck];have e:(fun i=>(1-(hf+t*hf))*b i+(hf+t*hf)*b (i+1))=fun i=>(1-t)*cs hf b i+t*(fun i=>b (i+1)) i:=by
   funext i
   have:=hf2;unfold cs;grind
  rw [e,oJ]
theorem uE{n:Nat}{t M:Rat}{b:Nat→Rat}(h0:0≤t)(h1:t≤1){i:Nat}(h:∀ j,i≤j→j≤i+n→b j≤M):csn n t b i≤M:=by
 induction n generalizing b with
 | zero=>exact h i (Nat.le_refl _) (Nat.le_refl _)
 | succ n ih =>
  refine ih (fun j h2 h3=>?_);have e1:=h j h2 (by omega);have e2:=h (j+1) (by omega) (by omega);have e3:=Rat.mul_le_mul_of_nonneg_left e1 (show (0:Rat)≤1-t by grind);have e4:=Rat.mul_le_mul_of_nonneg_left e2 h0;unfold cs;grind
theorem uF{n:Nat}{t M:Rat}{b:Nat→Rat}(h0:0≤t)(h1:t≤1){i:Nat}(h:∀ j,i≤j→j≤i+n→M≤b j):M≤csn n t b i:=by
 induction n generalizing b with
 | zero=>exact h i (Nat.le_refl _) (Nat.le_refl _)
 | succ n ih =>
  refine ih (fun j h2 h3=>?_);have e1:=h j h2 (by omega);have e2:=h (j+1) (by omega) (by omega);have e3:=Rat.mul_le_mul_of_nonneg_left e1 (show (0:Rat)≤1-t by grind);have e4:=Rat.mul_le_mul_of_nonneg_left e2 h0;unfold cs;grind
theorem CN{n:Nat}{t M:Rat}{b:Nat→Rat}(h0:0≤t)(h1:t≤1)(h:∀ j,j≤n→b j≤M):vl n b t≤M:=uE h0 h1 (fun j _ h2=>h j (by omega))
theorem CO{n:Nat}{t M:Rat}{b:Nat→Rat}(h0:0≤t)(h1:t≤1)(h:∀ j,j≤n→M≤b j):M≤vl n b t:=uF h0 h1 (fun j _ h2=>h j (by omega))
def up(c:Rat)(u:Nat→Rat)(k:Nat):Rat:=u k+c*u (k+1)
def upn:Nat→Rat→(Nat→Rat)→Nat→Rat
 | 0,_,u=>u
 | n+1,c,u=>upn n c (up c u)
def bt(u:Nat→Rat)(i:Nat):Rat:=upn i 1 u 0
theorem zk(n:Nat)(s x y:Rat)(a b:Nat→Rat):upn n s (fun i=>x*a i+y*b i)=fun i=>x*upn n s a i+y*upn n s b i:=by
 induction n generalizing a b with
 | zero=>rfl
 | succ n ih =>
  show upn n s (up s _)=_;rw [show up s (fun i=>x*a i+y*b i)=fun i=>x*up s a i+y*up s b i from funext fun i=>by unfold up;grind,ih];rfl
theorem Dl(t:Rat)(u:Nat→Rat):cs t (bt u)=bt (up t u):=by
 funext i
 unfold bt;rw [show up t u=fun i=>(1-t)*u i+t*up 1 u i from funext fun i=>by unfold up;grind,zk];rfl
theorem CP(n:Nat)(u:Nat→Rat)(t:Rat):vl n (bt u) t=upn n t u 0:=by
 unfold vl;have:∀ u,csn n t (bt u)=bt (upn n t u):=by
  induction n with
  | zero=>intro u;rfl
  | succ n ih =>
   intro u;show csn n t (cs t (bt u))=bt (upn n t (up t u));rw [Dl,ih]
 rw [this];rfl
def ch:Nat→Nat→Nat
 | _,0=>1
 | 0,_+1=>0
 | n+1,k+1=>ch n k+ch n (k+1)
theorem kt(n:Nat):ch n 0=1:=by cases n <;> rfl
theorem uR{n k:Nat}(h:n<k):ch n k=0:=by
 induction n generalizing k with
 | zero =>
  obtain ⟨k,rfl⟩:∃ j,k=j+1:=⟨k-1,by omega⟩;rfl
 | succ n ih =>
  obtain ⟨k,rfl⟩:∃ j,k=j+1:=⟨k-1,by omega⟩;show ch n k+ch n (k+1)=0;rw [ih (by omega),ih (by omega)]
theorem uQ{n k:Nat}(h:k≤n):0<ch n k:=by
 induction n generalizing k with
 | zero =>
  obtain rfl:k=0:=by omega
  decide
 | succ n ih =>
  rcases Nat.eq_zero_or_pos k with rfl|h0
  ·rw [kt];decide
  ·obtain ⟨k,rfl⟩:∃ j,k=j+1:=⟨k-1,by omega⟩;show 0<ch n k+ch n (k+1);have:=ih (k:=k) (by omega);omega
theorem ye(n:Nat)(t:Rat)(u:Nat→Rat)(j:Nat):upn n t u j=sm (n+1) (fun k=>(ch n k:Rat)*t ^ k*u (j+k)):=by
 induction n generalizing u with
 | zero =>
  show u j=sm 0 _+((ch 0 0:Nat):Rat)*t ^ 0*u (j+0);rw [show ch 0 0=1 from rfl,Rat.pow_zero];show u j=0+((1:Nat):Rat)*1*u (j+0);rw [Nat.add_zero];grind
 | succ n ih =>
  show upn n t (up t u) j=_;rw [ih];have e1:sm (n+1) (fun k=>(ch n k:Rat)*t ^ k*up t u (j+k))=sm (n+1) (fun k=>(ch n k:Rat)*t ^ k*u (j+k))+sm (n+1) (fun k=>(ch n k:Rat)*t ^ (k+1)*u (j+(k+1))):=by
   rw [←mC];refine sm_congr (fun k _=>?_);unfold up;rw [Rat.pow_succ,Nat.add_assoc];grind
  have e2:sm (n+1) (fun k=>(ch n k:Rat)*t ^ k*u (j+k))=sm (n+2) (fun k=>(ch n k:Rat)*t ^ k*u (j+k)):=by
   show _=sm (n+1) _+(ch n (n+1):Rat)*t ^ (n+1)*u (j+(n+1));rw [uR (Nat.lt_succ_self n)];have:((0:Nat):Rat)=0:=rfl;rw [this];grind
  rw [e1,e2,dO (n+1),dO (n+1),kt,kt];have e3:sm (n+1) (fun i=>(ch (n+1) (i+1):Rat)*t ^ (i+1)*u (j+(i+1)))=sm (n+1) (fun i=>(ch n (i+1):Rat)*t ^ (i+1)*u (j+(i+1)))+sm (n+1) (fun k=>(ch n k:Rat)*t ^ (k+1)*u (j+(k+1))):=by
   rw [←mC];refine sm_congr (fun k _=>?_);show ((ch n k+ch n (k+1):Nat):Rat)*_*_=_;rw [Rat.natCast_add];grind
  rw [e3];grind
theorem zg(n:Nat)(u:Nat→Rat)(t:Rat):vl n (bt u) t=evV (row (n+1) (fun k=>(ch n k:Rat)*u k)) t:=by
 rw [CP,ye,xx,aF];refine sm_congr (fun k hk=>?_);rw [bM _ hk,Nat.zero_add];grind
theorem uU(u:Nat→Rat)(i:Nat):bt u i=sm (i+1) (fun k=>(ch i k:Rat)*u k):=by
 unfold bt;rw [ye];refine sm_congr (fun k _=>?_);rw [show (1:Rat) ^ k=1 by induction k with
  | zero=>rfl
  | succ k ih=>rw [Rat.pow_succ,ih (by omega),Rat.one_mul],Nat.zero_add]
 grind
def df(b:Nat→Rat)(i:Nat):Rat:=b (i+1)-b i
def dfn:Nat→(Nat→Rat)→Nat→Rat
 | 0,b=>b
 | n+1,b=>df (dfn n b)
theorem xP(b:Nat→Rat)(i:Nat):bt (fun k=>dfn k b 0) i=b i:=by
 have key:∀ (n j:Nat),upn n 1 (fun k=>dfn k b j)=fun k=>dfn k b (j+n):=by
  intro n;induction n with
  | zero=>intro j;rfl
  | succ n ih =>
   intro j;show upn n 1 (up 1 (fun k=>dfn k b j))=_;rw [show up 1 (fun k=>dfn k b j)=fun k=>dfn k b (j+1) from funext fun k=>by
    unfold up;show dfn k b j+1*(dfn k b (j+1)-dfn k b j)=_;grind,ih]
   funext k
   rw [show j+1+n=j+(n+1) by omega]
 unfold bt;rw [key i 0,Nat.zero_add];rfl
theorem xQ{u v:Nat→Rat}{i:Nat}(h:∀ k,k≤i→u k=v k):bt u i=bt v i:=by
 rw [uU,uU];exact sm_congr (fun k hk=>by rw [h k (by omega)])
theorem wD{n:Nat}(h:0<n):(n:Rat)≠0:=fun e=>by
 have:n=0:=by exact_mod_cast e
 omega
theorem Be{n:Nat}{a b:Nat→Rat}(h:∀ t,vl n a t=vl n b t):∀ i,i≤n→a i=b i:=by
 intro i hi;have e:∀ k,k≤n→dfn k a 0=dfn k b 0:=by
  have h2:∀ t,evV (row (n+1) (fun k=>(ch n k:Rat)*dfn k a 0)) t=evV (row (n+1) (fun k=>(ch n k:Rat)*dfn k b 0)) t:=fun t=>by
   rw [←zg,←zg,show bt (fun k=>dfn k a 0)=a from funext (xP a),show bt (fun k=>dfn k b 0)=b from funext (xP b)];exact h t
  intro k hk;have h3:=Sg.ev_inj h2 k;unfold seq at h3;rw [bM _ (by omega),bM _ (by omega)] at h3;have h4:=wD (uQ hk);have h5:=Rat.mul_inv_cancel _ h4;have h6:=congrArg (fun x=>((ch n k:Nat):Rat)⁻¹*x) h3;rw [←Rat.mul_assoc,←Rat.mul_assoc,Rat.mul_comm _ (ch n k:Rat),h5,Rat.one_mul,Rat.one_mul] at h6;exact h6
 rw [←xP a i,←xP b i];exact xQ (fun k hk=>e k (by omega))
end Go.Proofs.YtofhkmcllihgmaaGreat
/- Py1, Py2 -/
set_option linter.unusedVariables false
namespace Go.Proofs.YtofhkmcllihgmaaGreat
open Go.RowKit Go.Front Go.Num
attribute [local go_sem] XW.cell XW.frozen
def aX(w:World)(L:Nat)(os:List Rat):Prop:=∃ rs re,RBk w L rs re∧re.toList.all eX=true∧dT aw w rs os
theorem aX.ext{w w':World}{L:Nat}{os:List Rat}(h:aX w L os)(he:Ext w w'):aX w' L os:=let ⟨rs,re,h1,h0,h2⟩:=h;⟨rs,re,h1.ext he,h0,h2.can_ext he⟩
instance {w w':World} {L:Nat} {os:List Rat}:Go.Front.Mv w w' (aX w L os) (aX w' L os):=⟨fun e h=>aX.ext h e⟩

theorem aX.lt{w:World}{L:Nat}{os:List Rat}(h:aX w L os):L<w.heap.size:=let ⟨_,_,h1,_⟩:=h;h1.lt
theorem aX.frozen{w:World}{L:Nat}{os:List Rat}(h:aX w L os)(i:Nat):w.frozen? ⟨L,i,none⟩=false:=let ⟨_,_,h1,_⟩:=h;h1.frozen i
theorem aX.cells{w:World}{L:Nat}{os:List Rat}(h:aX w L os){k:Nat}(hk:k<os.length):∃ r,RAt w L (k*3) r∧aw w r (os.getD k 0):=by
 obtain ⟨rs,re,h1,h0,h2⟩:=h;exact ⟨_,h1.at (by rw [h2.1];exact hk),h2.2 k hk⟩
theorem aX.can{w:World}{L M c:Nat}{os:List Rat}(h:aX w L os)(hl:os.length=M)(hc:M≤c)(hM:c≤9223372036854775807):ce w ⟨some ⟨L,0,none⟩,M,c⟩ os:=by
 obtain ⟨rs,re,h1,h0,h2⟩:=h;exact ⟨rs,h1.rs (by rw [h2.1,hl]) hc hM,h2⟩
theorem aX.put{w1 w2:World}{L b:Nat}{os:List Rat}{T:TypeId}{cs:Array Value}(h:aX w1 L os)(T2:dN w1 b T cs w2)(hb:b≠L):aX w2 L os:=by
 obtain ⟨rs,re,h1,h0,h2⟩:=h;exact ⟨rs,re,T2.rest L _ (Ne.symm hb) h1,h0,h2.keep T2.keep⟩
theorem j1{w1:World}{L k:Nat}{os:List Rat}{q:Rat}{F:World→Prop}{x:RH}(h:aX w1 L os)(hk:k<os.length)(hx:aw w1 x q)
 (H:∀ w2,(∃ cs,dN w1 L 30 cs w2)→aX w2 L (os.set k q)→F w2) :
  F (((w1.setCell ⟨L,k*3,none⟩ (.bool x.neg)).setCell ⟨L,k*3+1,none⟩ (.slice x.a x.n x.c)).setCell ⟨L,k*3+2,none⟩ (.slice x.b x.m x.d)):=by
 obtain ⟨rs,re,h1,h0,h2⟩:=h;refine mR h1 h0 (by rw [h2.1];exact hk) fun w2 T=>H w2 ⟨_,T⟩ ⟨rs.set k x,re,T.bx,h0,(h2.keep T.keep).set (hx.keep T.keep) k⟩
theorem oX.row{w:World}{L M:Nat}{rs:List RH}{ts:List Rat}(h:oX w rs ts)(hb:RBk w L rs #[])(hl:rs.length=M)(ht:ts.length=M):aX w L ts:=⟨rs,#[],hb,rfl,by rw [hl,ht],h⟩
def ls(B:Nat)(w:World)(x:SH)(os:List Rat):Prop:=∃ L,B≤L∧x=⟨some ⟨L,0,none⟩,os.length,os.length⟩∧aX w L os
theorem ls.new{B:Nat}{w:World}{x:SH}{os:List Rat}(h:ls B w x os)(hl:os.length≤9223372036854775807):dA B w x os:=by
 obtain ⟨L,h1,rfl,rs,re,h3,h0,h4⟩:=h;exact ⟨rs,h3.rs h4.1 (Nat.le_refl _) hl,h4,Or.inr ⟨L,0,rfl,h1,h3.lt⟩⟩
theorem v7{w:World}{L:Nat}{T:TypeId}(h:w.heap[L]?=some (.cells #[.int .u32 1] T (0,0))):U32 w (some ⟨L,0,none⟩) 1 1 (digs 1):=by
 rw [jr];refine ⟨rfl,Nat.le_refl _,by decide,fun d hd=>?_,Or.inr ⟨L,0,rfl,fun k hk=>?_⟩⟩
 ·obtain rfl:d=1:=by simpa using hd
  decide
 ·obtain rfl:k=0:=by omega
  rw [ae h];rfl
theorem s5{w1:World}{b b':Nat}{T T':TypeId}{c0 c1 c2 v0 v1 v2 c0' c1' c2' v0' v1' v2':Value}{F:World→Prop}(hb:w1.heap[b]?=some (.cells #[c0,c1,c2] T (0,0)))(hn:#[c0,c1,c2].toList.all eX=true)
 (hb':w1.heap[b']?=some (.cells #[c0',c1',c2'] T' (0,0)))(hn':#[c0',c1',c2'].toList.all eX=true)(hne:b'≠b)
 (H:∀ w2 w3 w4,dN w1 b T #[v0,v1,v2] w2→dN w2 b' T' #[v0',v1',v2'] w3→Ext w3 w4→F w4) :
  F ((((((w1.setCell ⟨b,0,none⟩ v0).setCell ⟨b,1,none⟩ v1).setCell ⟨b,2,none⟩ v2).setCell ⟨b',0,none⟩ v0').setCell ⟨b',1,none⟩ v1').setCell ⟨b',2,none⟩ v2').drew :=
 aI (v0:=v0) (v1:=v1) (v2:=v2) (F:=fun W=>F ((((W.setCell ⟨b',0,none⟩ v0').setCell ⟨b',1,none⟩ v1').setCell ⟨b',2,none⟩ v2').drew)) hb hn fun w2 T2 =>
  aI (v0:=v0') (v1:=v1') (v2:=v2') (F:=fun W=>F W.drew) (T2.rest _ _ hne hb') hn' fun w3 T3=>H w2 w3 _ T2 T3 (Ext.drew _)
abbrev PT(x:RH×RH):Value:=.tuple #[x.1.v,x.2.v]
theorem Sz.denz{k:Nat}{q:Rat}(h:Sz k q):Sz k ((q.den:Int):Rat):=⟨by rw [Rat.num_intCast];simpa using h.2,by rw [Rat.den_intCast];have:=gt h.one_le;omega⟩
structure Mut (L:Nat) (w w':World):Prop where
 keep:dB w w'
 mods:aJ (·=L) w w'
theorem Mut.refl(L:Nat)(w:World):Mut L w w:=⟨dB.refl w,aJ.refl _ w⟩
theorem Mut.of_ext{L:Nat}{w w':World}(h:Ext w w'):Mut L w w':=⟨bD h,aJ.of_ext h⟩
theorem Mut.trans{L:Nat}{a b c:World}(h:Mut L a b)(k:Mut L b c):Mut L a c:=⟨h.keep.trans k.keep,h.mods.trans k.mods⟩
theorem Mut.put{L b:Nat}{w w1 w2:World}{T:TypeId}{cs:Array Value}(h:Mut L w w1)(T2:dN w1 b T cs w2)(hb:b=L∨w.heap.size≤b):Mut L w w2:=⟨h.keep.trans T2.keep,aJ.put h.mods T2 hb⟩
theorem Mut.rest{L:Nat}{w w':World}(h:Mut L w w')(k:Nat)(o:Obj)(hk:k≠L)(ho:w.heap[k]?=some o):w'.heap[k]?=some o:=h.mods.blk hk ho
theorem Mut.size{L:Nat}{w w':World}(h:Mut L w w'):w.heap.size≤w'.heap.size:=h.mods.size
theorem Mut.ext{L:Nat}{w0 w w':World}(h:Mut L w w')(hE:Ext w0 w)(hL:w0.heap.size≤L):Ext w0 w' :=
 Ext.of_below (N:=w0.heap.size) hE (h.mods.below hE.size fun k hk=>by have hk:k=L:=hk;omega) (Nat.le_refl _)
theorem RS.mut{w w':World}{M lo hi:Nat}{s:SH}{rs:List RH}(h:RS w s rs)(hp:s.n=0∨∃ b off,s.a=some ⟨b,off,none⟩∧lo≤b∧b<hi)(T:Mut M w w')(hb:M<lo∨hi≤M):RS w' s rs:=by
 refine ⟨h.len,h.le,h.max,?_⟩;rcases hp with h0|⟨x,o,e,h1,h2⟩
 ·exact Or.inl h0
 ·rcases h.at' with h0|⟨b,off,e2,hc⟩
  ·exact Or.inl h0
  ·rw [e] at e2;obtain ⟨rfl,rfl⟩:x=b∧o=off:=by simpa using e2
   refine Or.inr ⟨x,o,e,fun k hk=>?_⟩;have h3:=hc k hk;have hl:=World.block_lt_of_cell? _ _ h3.1;simp only at hl;have hbk:w'.heap[x]?=w.heap[x]?:=by
    rw [Array.getElem?_eq_getElem hl];exact T.rest x _ (by omega) (Array.getElem?_eq_getElem hl)
   have cc:∀ i,w'.cell? ⟨x,i,none⟩=w.cell? ⟨x,i,none⟩:=fun i=>World.cell?_of_block (w:=w) hbk
   exact ⟨(cc _).trans h3.1,(cc _).trans h3.2.1,(cc _).trans h3.2.2⟩
theorem LIn.mut{w w':World}{M lo hi:Nat}{s:SH}{qs:List Rat}(h:LIn w s qs lo hi)(T:Mut M w w')(hb:M<lo∨hi≤M):LIn w' s qs lo hi:=by
 obtain ⟨rs,h1,h2,h3⟩:=h;exact ⟨rs,h1.mut h3 T hb,h2.keep T.keep,h3⟩
theorem wF{os:List Rat}{q:Rat}{i:Nat}(hi:i<os.length):(rY os i q).set i (os.getD i 0*q)=rY os (i+1) q:=by
 unfold rY;have h1:((os.take i).map (·*q)).length=i:=by rw [List.length_map,List.length_take];omega
 rw [List.set_append_right _ _ (by omega),h1,Nat.sub_self,List.take_add_one,List.map_append,List.append_assoc]
 congr 1
 rw [List.drop_eq_getElem_cons hi,List.set_cons_zero,List.getElem?_eq_getElem hi,List.getD_eq_getElem?_getD,List.getElem?_eq_getElem hi];rfl
end Go.Proofs.YtofhkmcllihgmaaGreat
/- Py3, Py4 -/
set_option linter.unusedVariables false
namespace Go.Proofs.YtofhkmcllihgmaaGreat
open Go.RowKit Go.Front Go.Num Stab
attribute [local go_sem] XW.cell XW.frozen
theorem ce.celx{w:World}{ao:Option Addr}{n c:Nat}{qs:List Rat}(h:ce w ⟨ao,n,c⟩ qs){k:Nat}(hk:k<n):∃ b off r,ao=some ⟨b,off,none⟩∧b<w.heap.size∧RAt w b (off+k*3) r∧aw w r (qs.getD k 0):=by
 have hl:=h.len;obtain ⟨rs,h1,h2⟩:=h;obtain ⟨b,off,e1,e2⟩:∃ b off,ao=some ⟨b,off,none⟩∧RAt w b (off+k*3) (rs.getD k default):=by
  rcases h1.at' with h0|⟨b,off,e,hc⟩
  ·have h0:n=0:=h0;omega
  ·exact ⟨b,off,e,hc k hk⟩
 exact ⟨b,off,_,e1,World.block_lt_of_cell? _ _ e2.1,e2,h2.2 k (by rw [hl];exact hk)⟩
theorem LIn.celx{w:World}{ao:Option Addr}{n c lo hi:Nat}{qs:List Rat}(h:LIn w ⟨ao,n,c⟩ qs lo hi){k:Nat}(hk:k<n):∃ b off r,ao=some ⟨b,off,none⟩∧b<w.heap.size∧RAt w b (off+k*3) r∧aw w r (qs.getD k 0):=h.can.celx hk
theorem nf{S D:Nat}{p:List Rat}(hS:1≤S)(hD:0<D)(hl:D<W32 ^ S)(h:∀ x ∈ p,Fr S D x):SzL S p:=fun x hx=>(h x hx).sz hS hD hl
theorem jM{w:World}{b off n:Nat}{rs:List RH}(hl:rs.length=n)(hc:∀ k,k<n→RAt w b (off+k*3) (rs.getD k default)):∀ j u,(ax rs)[j]?=some u→w.cell? ((⟨b,off,none⟩:Addr).add j)=some u:=by
 intro j u hj;have hlt:j<(ax rs).length:=(List.getElem?_eq_some_iff.1 hj).1;rw [aH,hl] at hlt;obtain ⟨k,i,hk,hi,rfl⟩:∃ k i,k<n∧i<3∧j=k*3+i:=⟨j / 3,j % 3,by omega,by omega,by omega⟩;rw [f8 rs (by omega) hi] at hj;obtain ⟨h1,h2,h3⟩:=hc k hk;rw [gq];have hi3:i=0∨i=1∨i=2:=by omega
 rcases hi3 with rfl|rfl|rfl
 ·have:u=.bool (rs.getD k default).neg:=by simpa [jf] using hj.symm
  rw [this,←h1];congr 2
 ·have:u=.slice (rs.getD k default).a (rs.getD k default).n (rs.getD k default).c:=by simpa [jf] using hj.symm
  rw [this,←h2];congr 2
 ·have:u=.slice (rs.getD k default).b (rs.getD k default).m (rs.getD k default).d:=by simpa [jf] using hj.symm
  rw [this,←h3];congr 2
theorem iD{w:World}{ops:Array Oper}{rest:List Oper}{o:Oper}{a:Act}{Q:Exit→Act→World→Prop}(hgd:o.guard=none)(s x:Operand)(T:TypeId)(hT:Tryz.prog.underlying T=some (.slice 30))
 (ho:o.op=.call { callee:=.builtin .append,args:=#[s,x],argTypes:=#[T,T] })(N:Nat)(hs:a.eval s=.slice (some ⟨N,0,none⟩) 0 0)(b off n c:Nat)(rs:List RH)(hx:a.eval x=.slice (some ⟨b,off,none⟩) n c)
 (hl:rs.length=n)(hn0:0<n)(hn:n≤1073741824)(hc:∀ k,k<n→RAt w b (off+k*3) (rs.getD k default))
 (h:∀ w' cap re,n≤cap→cap≤9223372036854775807→Ext w w'→RBk w' w.heap.size rs re→re.toList.all eX=true→wpList Tryz.prog ops Q rest (a.put o.dst (.slice (some ⟨w.heap.size,0,none⟩) n cap)) w'):wpList Tryz.prog ops Q (o :: rest) a w:=by
 obtain ⟨i0,hi0,hz0,hz1,hz2⟩:=info_parts lW;have hgc:∀ need old,need≤9223372036854775807→need≤grownCap w need old 30∧grownCap w need old 30≤9223372036854775807:=fun need old h=>⟨grownCap_ge _ _ _ _,by have:=grownCap_le_maxLen w need old 30 (by simpa [maxLen] using h);simpa [maxLen] using this⟩
 have hr:=run_append_grow (P:=Tryz.prog) w T o.type _ i0 _ hT hi0 hz0 ⟨N,0,none⟩ 0 0 [] (by simp) (fun j u hj=>by simp at hj) ⟨b,off,none⟩ n c (ax rs) (by rw [aH,hl,hz1]) (jM hl hc) (by omega) (by omega) (growslice_fits (by omega) (by rw [hz2];omega));rw [show ([]:List Value).toArray++(ax rs).toArray=(ax rs).toArray from by simp] at hr;simp only [Nat.zero_add] at hr;obtain ⟨g1,g2⟩:=hgc n 0 (by omega);have he:Ext w (w.drew.alloc (.cells ((ax rs).toArray++Builtin.zeroCells (RH.v default).cells (grownCap w n 0 30-n)) 30)):=(Ext.drew w).trans (Ext.alloc _ _);have hb:RBk (w.drew.alloc (.cells ((ax rs).toArray++Builtin.zeroCells (RH.v default).cells (grownCap w n 0 30-n)) 30)) w.heap.size rs (Builtin.zeroCells (RH.v default).cells (grownCap w n 0 30-n)):=by
  unfold RBk;exact heap_alloc_new w.drew _
 have hh:=h _ _ _ g1 g2 he hb (dt _);refine wpList_plain hgd fun K hK=>?_
 unfold Oper.wp;simp [execOp,ho,resolve,invoke,builtin,hs,hx,hr,Result.andThen];exact hK _ _ hh
theorem CK(w:World)(a:Option Addr)(n c:Nat):(binOp .eql 41 (.slice a n c) (.slice none 0 0)).run Tryz.prog w=.ok (.bool a.isNone) w:=by
 have h:∀ d:Nat,(Op.equalIn (d+1) 41 (.slice a n c) (.slice none 0 0)).run Tryz.prog w=.ok a.isNone w:=fun d=>by
  cases a <;> simp [Op.equalIn,run_underlying Tryz.underlying41]
 simp only [binOp];simp [Op.equal,Op.maxDepth,h]
attribute [local go_sem] CK
end Go.Proofs.YtofhkmcllihgmaaGreat
/- cut, parts of package sturm. Printed by gen/sturm.py. -/
set_option linter.unusedVariables false
namespace Go.Proofs.YtofhkmcllihgmaaGreat
open Go.RowKit Go.Front Go.Num Stab
attribute [local go_sem] XW.cell XW.frozen
end Go.Proofs.YtofhkmcllihgmaaGreat
