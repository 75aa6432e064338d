/- Fb, Crs, Acr, Amp, Awk8 -/
import Derived.Test.YtafgmcimcbhhjaaGreatQIM12
import Derived.Test.YtafgmcimcbhhjaaGreatQIK2
import Derived.Test.YtafgmcimcbhhjaaGreatQIM22
set_option linter.unusedVariables false
namespace Go.Proofs.YtafgmcimcbhhjaaGreat
open Go.RowKit Go.Front Go.Num
attribute [local go_sem] XW.cell XW.frozen
theorem SzL.scale{s c:Nat}{l:List Rat}{S:Rat}(h:SzL s l)(hS:Sz c S):SzL (s+c) (l.map (·*S)):=by
 intro q hq;obtain ⟨y,hy,rfl⟩:=nYd.1 hq;exact (h y hy).mul hS
end Go.Proofs.YtafgmcimcbhhjaaGreat
namespace Go.Proofs.YtafgmcimcbhhjaaGreat
open Go.RowKit Go.Front Go.Num
theorem rN{n m:Nat}{f:Nat→Rat}(h:n≤m)(h0:∀ i,n≤i→i<m→f i=0):Stab.sm n f=Stab.sm m f:=by
 obtain ⟨d,rfl⟩:∃ d,m=n+d:=⟨m-n,by omega⟩;rw [Stab.sm_split,Stab.sm_congr (n:=d) (g:=fun _=>0) (fun i hi=>h0 (n+i) (by omega) (by omega)),Stab.sm_zero];grind
end Go.Proofs.YtafgmcimcbhhjaaGreat
namespace Go.Proofs.YtafgmcimcbhhjaaGreat
open Go.RowKit Go.Front Go.Num
attribute [local go_sem] XW.cell XW.frozen
end Go.Proofs.YtafgmcimcbhhjaaGreat
namespace Go.Proofs.YtafgmcimcbhhjaaGreat
open Go.RowKit Go.Front Go.Num
end Go.Proofs.YtafgmcimcbhhjaaGreat
/- Fr, Run, MgP, FrB -/
namespace Go.Proofs.YtafgmcimcbhhjaaGreat
open Go.RowKit Go.Front Go.Num Stab
theorem Fr.mono{S S' D:Nat}{q:Rat}(h:Fr S D q)(hS:S≤S'):Fr S' D q:=Wz.mono (q:=q*(D:Rat)) h hS
theorem Fr.add{S D:Nat}{a b:Rat}(ha:Fr S D a)(hb:Fr S D b):Fr (S+1) D (a+b):=by
 have:=Wz.add (a:=a*(D:Rat)) (b:=b*(D:Rat)) ha hb;rw [←Rat.add_mul] at this;exact this
theorem Fr.mul{S U D E:Nat}{a b:Rat}(ha:Fr S D a)(hb:Fr U E b):Fr (S+U) (D*E) (a*b):=by
 have:=Wz.mul (a:=a*(D:Rat)) (b:=b*(E:Rat)) ha hb;have e:a*b*((D*E:Nat):Rat)=a*(D:Rat)*(b*(E:Rat)):=by rw [Rat.natCast_mul];grind
 unfold Fr;rw [e];exact this
theorem Fr.one{S:Nat}{q:Rat}(h:Wz S q):Fr S 1 q:=by
 unfold Fr;rw [show q*((1:Nat):Rat)=q from Rat.mul_one q];exact h
theorem Fr.wz{S:Nat}{q:Rat}(h:Fr S 1 q):Wz S q:=by
 unfold Fr at h;rw [show q*((1:Nat):Rat)=q from Rat.mul_one q] at h;exact h
theorem Wz.nat{S n:Nat}(h:n<W32 ^ S):Wz S ((n:Nat):Rat):=by
 have:=Wz.int (S:=S) (z:=(n:Int)) (by simpa using h);exact this
theorem Fr.den{S U D E:Nat}{a:Rat}(ha:Fr S D a)(hE:E<W32 ^ U):Fr (S+U) (D*E) a:=by
 have:=Wz.mul (a:=a*(D:Rat)) (b:=(E:Rat)) ha (Wz.nat hE);have e:a*((D*E:Nat):Rat)=a*(D:Rat)*(E:Rat):=by rw [Rat.natCast_mul];grind
 unfold Fr;rw [e];exact this
theorem Fr.denl{S U D E:Nat}{a:Rat}(ha:Fr S D a)(hE:E<W32 ^ U):Fr (S+U) (E*D) a:=by rw [nYc];exact ha.den hE
theorem BA{S:Nat}{f:Nat→Rat}:∀ n,(∀ i,i<n→Wz S (f i))→Wh (sm n f)∧(sm n f).num.natAbs+n≤n*W32 ^ S:=by
 intro n;induction n with
 | zero=>intro _;exact ⟨rfl,Nat.zero_le (0*W32 ^ S)⟩
 | succ n ih =>
  intro h;obtain ⟨h1,h2⟩:=ih (fun i hi=>h i (by omega));obtain ⟨h3,h4⟩:=h n (by omega);show Wh (sm n f+f n)∧(sm n f+f n).num.natAbs+(n+1)≤_;refine ⟨h1.add h3,?_⟩;have e:(sm n f+f n)=(((sm n f).num+(f n).num:Int):Rat):=by rw [Rat.intCast_add,←h1.eq,←h3.eq]
  rw [e,Rat.num_intCast];have:=Int.natAbs_add_le (sm n f).num (f n).num;rw [nXx];omega
theorem Wz.sm{S n:Nat}{f:Nat→Rat}(h:∀ i,i<n→Wz S (f i))(hn:n≤W32):Wz (S+1) (sm n f):=by
 obtain ⟨h1,h2⟩:=BA n h;refine ⟨h1,?_⟩;have h3:n*W32 ^ S≤W32 ^ (S+1):=by rw [nXs,nYc];exact nXf _ hn
 rcases Nat.eq_zero_or_pos n with h0|h0
 ·subst h0;have h4:(Stab.sm 0 f).num.natAbs=0:=rfl;have:=nYk (n:=S+1) aA;omega
 ·omega
theorem Fr.sm{S D n:Nat}{f:Nat→Rat}(h:∀ i,i<n→Fr S D (f i))(hn:n≤W32):Fr (S+1) D (sm n f):=by
 have:=Wz.sm (f:=fun i=>f i*(D:Rat)) (S:=S) (n:=n) h hn;have e:Stab.sm n (fun i=>f i*(D:Rat))=Stab.sm n f*(D:Rat):=by
  rw [sm_congr (g:=fun i=>(D:Rat)*f i) (fun i _=>nYa _ _),jC,nYa]
 rw [e] at this;exact this
def FrL(S D:Nat)(l:List Rat):Prop:=∀ x ∈ l,Fr S D x
theorem FrL.mono{S S' D:Nat}{l:List Rat}(h:FrL S D l)(hS:S≤S'):FrL S' D l:=fun x hx=>(h x hx).mono hS
theorem FrL.at{S D:Nat}{l:List Rat}(h:FrL S D l)(i:Nat):Fr S D (l.getD i 0):=by
 rcases Nat.lt_or_ge i l.length with hi|hi
 ·exact h _ (el hi)
 ·rw [bB hi];exact Fr.zero _ _
theorem FrL.of{S D:Nat}{l:List Rat}(h:∀ i,Fr S D (l.getD i 0)):FrL S D l:=fun x hx=>by
 obtain ⟨i,-,rfl⟩:=dD hx;exact h i
theorem FrL.tz{S D:Nat}{l:List Rat}(h:FrL S D l):FrL S D (tz l):=FrL.of fun i=>by rw [bj];exact h.at i
theorem FrL.den{S U D E:Nat}{l:List Rat}(h:FrL S D l)(hE:E<W32 ^ U):FrL (S+U) (D*E) l:=fun x hx=>(h x hx).den hE
theorem FrL.denl{S U D E:Nat}{l:List Rat}(h:FrL S D l)(hE:E<W32 ^ U):FrL (S+U) (E*D) l:=fun x hx=>(h x hx).denl hE
theorem FrL.sz{S D:Nat}{l:List Rat}(h:FrL S D l)(hS:1≤S)(hD:0<D)(hl:D<W32 ^ S):SzL S l:=fun x hx=>(h x hx).sz hS hD hl
theorem FrL.range{S D n:Nat}{f:Nat→Rat}(h:∀ i,i<n→Fr S D (f i)):FrL S D ((List.range n).map f):=fun x hx=>by
 obtain ⟨i,hi,rfl⟩:=nYd.1 hx;exact h i (List.mem_range.1 hi)
theorem Cf{S U D E:Nat}{p q:List Rat}(hp:FrL S D p)(hq:FrL U E q)(hl:p.length≤W32)(n:Nat):Fr (S+U+1) (D*E) (ap p (seq q) n):=by
 rw [ap_sum];refine Fr.sm (fun i _=>(hp.at i).mul ?_) hl;unfold shn;split
 ·exact hq.at _
 ·exact Fr.zero _ _
theorem yF{S U D E:Nat}{p q:List Rat}(hp:FrL S D p)(hq:FrL U E q)(hl:p.length≤W32):FrL (S+U+1) (D*E) (ar p q):=by
 unfold ar;exact FrL.tz (FrL.range fun i _=>Cf hp.tz hq.tz (nXe (ai p) hl) i)
theorem zM{S D:Nat}{p q:List Rat}(hp:FrL S D p)(hq:FrL S D q):FrL (S+1) D (bf p q):=by
 unfold bf;exact FrL.tz (FrL.range fun i _=>(hp.at i).add (hq.at i))
theorem Ck{k i:Nat}(hk:k≤20):Wz 1 (Tf k i):=by
 have h:=(ue k).1;have hb:3 ^ k<W32 ^ 1:=nYi (nXo (by decide) hk) (by decide);unfold Tf;rcases Nat.lt_or_ge i (chP k).1.length with hi|hi
 ·obtain ⟨h1,h2⟩:=h _ (el hi);exact ⟨h1,nYi h2 hb⟩
 ·rw [bB hi];exact Wz.zero 1
theorem AJ{S U D:Nat}{L x:Rat}(hL:Wz U L)(h:Wz S (x*(D:Rat)*L)):Fr S (D*L.num.natAbs) x:=by
 have e0:x*((D*L.num.natAbs:Nat):Rat)=x*(D:Rat)*((L.num.natAbs:Nat):Rat):=by rw [Rat.natCast_mul,nYb]
 unfold Fr;rw [e0];have e1:=hL.1.eq;have e2:((L.num.natAbs:Nat):Rat)=(((L.num.natAbs:Nat):Int):Rat):=rfl;rcases Int.natAbs_eq L.num with h1|h1
 ·rw [e2,←h1,←e1];exact h
 ·have e3:(((L.num.natAbs:Nat):Int):Rat)=-L:=by
   have:((L.num.natAbs:Nat):Int)=-L.num:=by omega
   rw [this,Rat.intCast_neg,←e1]
  rw [e2,e3,Rat.mul_neg];exact h.neg
theorem nz{U E:Nat}{q:List Rat}(hq:FrL U E q):Wz U (bM q*(E:Rat)):=hq.at _
def ldD(q:List Rat)(E:Nat):Nat:=(bM q*(E:Rat)).num.natAbs
theorem xi{U E:Nat}{q:List Rat}(hq:FrL U E q):ldD q E<W32 ^ U:=(nz hq).2
theorem sW{U E:Nat}{q:List Rat}(hq:FrL U E q)(h0:bM q≠0)(hE:0<E):0<ldD q E:=by
 rcases Nat.eq_zero_or_pos (ldD q E) with h|h
 ·exfalso;have h1:(bM q*(E:Rat)).num=0:=by unfold ldD at h;omega
  have h2:=(nz hq).1.eq;rw [h1] at h2;rcases nXq.1 h2 with h3|h3
  ·exact h0 h3
  ·have:((E:Nat):Rat)=(((E:Nat):Int):Rat):=rfl;rw [this] at h3;have h4:=congrArg Rat.num h3;rw [Rat.num_intCast] at h4;have:((0:Rat)).num=0:=rfl;omega
 ·exact h
theorem sM{S D:Nat}{p:List Rat}(hp:FrL S D p):FrL S (ldD (tz p) D) (cg p):=by
 unfold cg;split
 ·intro x hx;simp at hx
 ·next h =>
  refine FrL.tz fun x hx=>?_
  obtain ⟨y,hy,rfl⟩:=nYd.1 hx;have h1:=AJ (S:=S) (D:=1) (x:=y*(((1:Int):Rat) / bM (tz p))) (nz hp.tz) (by
   have h2:=cF (a:=((1:Int):Rat)) (bZ h);have e:y*(((1:Int):Rat) / bM (tz p))*((1:Nat):Rat)*(bM (tz p)*(D:Rat))=y*(D:Rat):=by
    have h3:((1:Int):Rat)=1:=rfl;have h4:((1:Nat):Rat)=1:=rfl;rw [h4];rw [h3] at h2 ⊢;generalize 1 / bM (tz p)=c at *
    grind
   rw [e];exact hp.tz y hy)
  rwa [Nat.one_mul] at h1
theorem Ce(p:List Rat)(u:Nat→Rat):ap (tz p) u=ap p u:=by rw [fT,fT,aT]
theorem dJ(p q:List Rat):seq (ar p q)=ap p (seq q):=by rw [vH,Ce,aT]
def TZ(d:Int)(n:Nat):Rat:=Tf d.natAbs n
theorem zt(c:Rat)(s u:Nat→Rat):cv u (fun n=>c*s n)=fun n=>c*cv u s n:=by rw [eD,eO,eD s]
def FrB(S:Nat)(l:List Rat):Prop:=1≤S∧∃ D,0<D∧D<W32 ^ S∧FrL S D l
theorem qe{S U:Nat}(h:S≤U):W32 ^ S≤W32 ^ U:=nXo aA h
theorem FrB.mono{S U:Nat}{l:List Rat}(h:FrB S l)(hS:S≤U):FrB U l:=by
 obtain ⟨h0,D,h1,h2,h3⟩:=h;exact ⟨by omega,D,h1,nXm h2 (qe hS),h3.mono hS⟩
theorem FrB.sz{S:Nat}{l:List Rat}(h:FrB S l):SzL S l:=by
 obtain ⟨h0,D,h1,h2,h3⟩:=h;exact h3.sz h0 h1 h2
theorem FrB.tz{S:Nat}{l:List Rat}(h:FrB S l):FrB S (tz l):=by
 obtain ⟨h0,D,h1,h2,h3⟩:=h;exact ⟨h0,D,h1,h2,h3.tz⟩
theorem ph{S U D E:Nat}(hD:D<W32 ^ S)(hE:E<W32 ^ U)(h:0<E):D*E<W32 ^ (S+U):=by
 rw [Nat.pow_add];exact Nat.mul_lt_mul_of_lt_of_lt hD hE
theorem FrB.mul{S U:Nat}{p q:List Rat}(hp:FrB S p)(hq:FrB U q)(hl:p.length≤1000000):FrB (S+U+1) (ar p q):=by
 obtain ⟨h0,D,h1,h2,h3⟩:=hp;obtain ⟨k0,E,k1,k2,k3⟩:=hq;exact ⟨by omega,D*E,Nat.mul_pos h1 k1,nXm (ph h2 k2 k1) (qe (by omega)),yF h3 k3 (nXe hl (by decide))⟩
theorem FrB.add{S U:Nat}{p q:List Rat}(hp:FrB S p)(hq:FrB U q):FrB (S+U+1) (bf p q):=by
 obtain ⟨h0,D,h1,h2,h3⟩:=hp;obtain ⟨k0,E,k1,k2,k3⟩:=hq;refine ⟨by omega,D*E,Nat.mul_pos h1 k1,nXm (ph h2 k2 k1) (qe (by omega)),zM (h3.den k2) ?_⟩;have:=k3.denl h2
 rwa [nYg U S] at this
theorem FrB.neg{S:Nat}{p:List Rat}(hp:FrB S p):FrB S (p.map (fun x=>-x)):=by
 obtain ⟨h0,D,h1,h2,h3⟩:=hp;exact ⟨h0,D,h1,h2,fun x hx=>by
  obtain ⟨y,hy,rfl⟩:=nYd.1 hx;exact (h3 y hy).neg⟩
theorem FrB.of{k n:Nat}{p:List Rat}(h:SzL k p)(hl:p.length≤n):FrB (k*(n+1)+1) p:=by
 obtain ⟨D,h1,h2,h3⟩:=xt p h;have e:=nXf k (show p.length+1≤n+1 by omega);have e2:=nXf k (show p.length≤n+1 by omega);exact ⟨by omega,D,h1,nXm h2 (qe (by omega)),FrL.mono h3 (by omega)⟩
theorem FrB.nil:FrB 1 []:=⟨by decide,1,by decide,by decide,fun x hx=>by simp at hx⟩
def evV(p:List Rat)(x:Rat):Rat:=p.foldr (fun c y=>y*x+c) 0
theorem gK(c:Rat)(p:List Rat)(x:Rat):evV (c :: p) x=evV p x*x+c:=rfl
theorem BP(p:List Rat)(x:Rat):evV p x=sm p.length (fun i=>p.getD i 0*x ^ i):=by
 induction p with
 | nil=>rfl
 | cons c p ih =>
  rw [gK,ih,List.length_cons,ie,nYa,←jC];rw [sm_congr (f:=fun i=>(c :: p).getD (i+1) 0*x ^ (i+1)) (g:=fun i=>x*(p.getD i 0*x ^ i)) (fun i _=>by rw [List.getD_cons_succ,Rat.pow_succ];grind)];rw [List.getD_cons_zero,Rat.pow_zero];grind
theorem m6{p:List Rat}{N:Nat}(h:p.length≤N)(x:Rat):evV p x=sm N (fun i=>seq p i*x ^ i):=by
 rw [BP];exact rN h (fun i h1 h2=>by rw [bB h1];grind)
theorem fP{p q:List Rat}{c:Rat}(h:∀ i,seq p i=c*seq q i)(x:Rat):evV p x=c*evV q x:=by
 rw [m6 (Nat.le_max_left p.length q.length),m6 (Nat.le_max_right p.length q.length),←jC];exact sm_congr (fun i _=>by rw [h];grind)
theorem tA(p:List Rat)(x:Rat):evV (tz p) x=evV p x:=by
 rw [fP (p:=tz p) (q:=p) (c:=1) (fun i=>by rw [aT];grind) x];grind
theorem tK{p:List Rat}{i:Nat}(h:i<p.length):p.drop i=p.getD i 0 :: p.drop (i+1):=by
 rw [List.drop_eq_getElem_cons h,nXc,List.getElem?_eq_getElem h];rfl
theorem yX{p:List Rat}{i:Nat}(h:i<p.length)(x:Rat):evV (p.drop i) x=evV (p.drop (i+1)) x*x+p.getD i 0:=by rw [tK h,gK]
def ehS(a:List Rat)(x:Rat)(i:Nat):Rat:=if i=0 then 0 else ((x.den:Int):Rat) ^ (i-1)*evV (a.drop (a.length-i)) x
def ehP(x:Rat)(i:Nat):Rat:=((x.den:Int):Rat) ^ (i-1)
theorem Bc(x:Rat):((x.den:Int):Rat)≠0:=fun h=>by
 have h1:=congrArg Rat.num h;rw [Rat.num_intCast] at h1;have:=x.den_nz;have h2:((0:Rat)).num=0:=rfl;omega
theorem tI{a:List Rat}{i:Nat}(x:Rat)(h:i<a.length):ehS a x i*(x.num:Rat)+a.getD (a.length-1-i) 0*ehP x (i+1)=ehS a x (i+1):=by
 have hx:x*((x.den:Int):Rat)=(x.num:Rat):=low x;have e1:=yX (p:=a) (i:=a.length-1-i) (by omega) x;rw [show a.length-1-i+1=a.length-i by omega] at e1;unfold ehS ehP;rw [if_neg (Nat.succ_ne_zero i),Nat.add_sub_cancel,show a.length-(i+1)=a.length-1-i by omega,e1];rcases Nat.eq_zero_or_pos i with h0|h0
 ·subst h0;rw [if_pos rfl];simp only [Nat.sub_zero,Rat.pow_zero];rw [List.drop_of_length_le (nXd _)];show (0:Rat)*_+_=1*(0*x+_);grind
 ·rw [if_neg (by omega)];obtain ⟨j,rfl⟩:∃ j,i=j+1:=⟨i-1,by omega⟩;rw [Nat.add_sub_cancel,Rat.pow_succ,←hx];grind
theorem wo(x:Rat){i:Nat}(h:0<i):ehP x i*((x.den:Int):Rat)=ehP x (i+1):=by
 unfold ehP;obtain ⟨j,rfl⟩:∃ j,i=j+1:=⟨i-1,by omega⟩;rw [Nat.add_sub_cancel,Nat.add_sub_cancel,Rat.pow_succ]
theorem Au{x:Rat}(h:x≠0)(n:Nat):x ^ n≠0:=by
 induction n with
 | zero=>rw [Rat.pow_zero];decide
 | succ n ih =>
  rw [Rat.pow_succ];intro h1;rcases nXq.1 h1 with h2|h2
  ·exact ih h2
  ·exact h h2
theorem AS(a:List Rat)(x:Rat):ehS a x a.length / ehP x a.length=evV a x:=by
 unfold ehS ehP;split
 ·next h =>
  rw [nXi.1 h,Rat.div_def,nXy];rfl
 ·rw [Nat.sub_self,List.drop_zero,nYa,Rat.div_def,nYb,nYh _ (Au (Bc x) _),Rat.mul_one]
theorem o8{t:Nat}{x:Rat}(h:Sz t x)(ht:1≤t):Sz t (x.num:Rat):=⟨by rw [Rat.num_intCast];exact h.1,by rw [Rat.den_intCast];exact Nat.one_lt_pow (by omega) (by decide)⟩
theorem Bb{t:Nat}{x:Rat}(h:Sz t x)(ht:1≤t):Sz t ((x.den:Int):Rat):=⟨by rw [Rat.num_intCast];exact h.2,by rw [Rat.den_intCast];exact Nat.one_lt_pow (by omega) (by decide)⟩
theorem Fr.up{S U D E:Nat}{a:Rat}(ha:Fr S D a)(hE:E≤W32 ^ U)(h0:0<E):Fr (S+U) (D*E) a:=by
 have e:a*((D*E:Nat):Rat)=a*(D:Rat)*(((E:Nat):Int):Rat):=by rw [Rat.natCast_mul];show _=a*(D:Rat)*(E:Rat);grind
 have h1:Wz S (a*(D:Rat)):=ha;unfold Fr;rw [e];refine ⟨h1.1.mul (Wh.int _),?_⟩;rw [h1.1.eq,←Rat.intCast_mul,Rat.num_intCast,Int.natAbs_mul,nYf,Nat.pow_add];exact Nat.mul_lt_mul_of_lt_of_le h1.2 hE (nYk aA)
theorem tJ{t i:Nat}{x:Rat}(h:Sz t x):Wz (t*i+1) (ehP x i):=by
 unfold ehP;have h1:∀ j,Wz (t*j+1) (((x.den:Int):Rat) ^ j):=by
  intro j;induction j with
  | zero=>rw [Rat.pow_zero];exact Wz.one.mono (by omega)
  | succ j ih =>
   rw [Rat.pow_succ];refine (ih.mul (Wz.int (S:=t) (z:=(x.den:Int)) (by simpa using h.2))).mono (by rw [Nat.mul_succ];omega)
 exact (h1 (i-1)).mono (by have:=nXf t (show i-1≤i by omega);omega)
theorem AT{S t:Nat}{a:List Rat}{x:Rat}(ha:∀ y ∈ a,Wz S y)(h:Sz t x):∀ i,i≤a.length→Wz (S+t+(t+1)*i+1) (ehS a x i):=by
 intro i;induction i with
 | zero=>intro _;unfold ehS;rw [if_pos rfl];exact Wz.zero _
 | succ i ih =>
  intro hi;rw [←tI x (by omega)];have h1:=(ih (by omega)).mul (Wz.int (S:=t) (z:=x.num) h.1);have h2:Wz (S+(t*(i+1)+1)) (a.getD (a.length-1-i) 0*ehP x (i+1)):=(ha _ (el (by omega))).mul (tJ h);have e:(t+1)*(i+1)=(t+1)*i+t+1:=by rw [Nat.mul_succ];omega
  have e2:t*(i+1)=t*i+t:=by rw [Nat.mul_succ]
  have e3:(t+1)*i=t*i+i:=nXx t i;exact ((h1.mono (S':=S+t+(t+1)*i+1+t) (by omega)).add (h2.mono (by omega))).mono (by omega)
end Go.Proofs.YtafgmcimcbhhjaaGreat
/- Sturm's theorem over the rationals: on a fine enough grid the changes of sign in a chain fall by one where the first member changes its sign. Plain facts. -/
namespace Go.Proofs.YtafgmcimcbhhjaaGreat.Sg
def sg(q:Rat):Int:=if q<0 then -1 else if q=0 then 0 else 1
theorem dF{q:Rat}(h:q<0):sg q=-1:=if_pos h
theorem iP:sg 0=0:=by decide
theorem sg_pos{q:Rat}(h:0<q):sg q=1:=by unfold sg;rw [if_neg (by grind),if_neg (by grind)]
theorem tri(a b:Rat):a<b∨a=b∨b<a:=by grind
theorem tot(a b:Rat):a≤b∨b≤a:=by grind
theorem ew(q:Rat):(q<0∧sg q=-1)∨(q=0∧sg q=0)∨(0<q∧sg q=1):=by
 rcases tri q 0 with h|h|h
 ·exact Or.inl ⟨h,dF h⟩
 ·subst h;exact Or.inr (Or.inl ⟨rfl,iP⟩)
 ·exact Or.inr (Or.inr ⟨h,sg_pos h⟩)
theorem oV{q:Rat}:sg q=0↔q=0:=by rcases ew q with ⟨h,e⟩|⟨h,e⟩|⟨h,e⟩ <;> rw [e] <;> constructor <;> intro k <;> first|omega|grind
def vr:Int→List Int→Nat
 | _,[]=>0
 | last,s :: l=>if s=0 then vr last l else (if last≠0∧s≠last then 1 else 0)+vr s l
def IsS(x:Int):Prop:=x=-1∨x=0∨x=1
theorem uV(q:Rat):IsS (sg q):=by rcases ew q with ⟨h,e⟩|⟨h,e⟩|⟨h,e⟩ <;> rw [e] <;> unfold IsS <;> omega
inductive Rl:Int→List Int→List Int→Prop
 | nil (p:Int):Rl p [] []
 | big {p x:Int} {a b:List Int} (hx:x≠0) (h:Rl x a b):Rl p (x :: a) (x :: b)
 | small {p x y z:Int} {a b:List Int} (hp:p≠0) (hz:z=-p) (ip:IsS p) (ix:IsS x) (iy:IsS y) (h:Rl z a b):Rl p (x :: z :: a) (y :: z :: b)
theorem oL{p x z:Int}{a:List Int}(hp:p≠0)(hz:z=-p)(ip:IsS p)(ix:IsS x):vr p (x :: z :: a)=1+vr z a:=by
 have hz0:z≠0:=by omega
 have hzp:z≠p:=by omega
 by_cases h0:x=0
 ·subst h0;simp [vr,hz0,hp,hzp]
 ·by_cases h1:x=p
  ·subst h1;simp [vr,h0,hz0,hzp]
  ·have h2:x=z:=by unfold IsS at ip ix;omega
   subst h2;simp [vr,h0,hp,h1]
theorem Rl.vr{p:Int}{a b:List Int}(h:Rl p a b):vr p a=vr p b:=by
 induction h with
 | nil p=>rfl
 | big hx h ih=>simp [Sg.vr,hx,ih]
 | small hp hz ip ix iy h ih=>rw [oL hp hz ip ix,oL hp hz ip iy,ih]
def Bd(M x:Rat):Prop:=-M≤x∧x≤M
theorem Bd.mono{M N x:Rat}(h:Bd M x)(k:M≤N):Bd N x:=by have h1:=h.1;have h2:=h.2;exact ⟨by grind,by grind⟩
theorem Bd.add{M N x y:Rat}(h:Bd M x)(k:Bd N y):Bd (M+N) (x+y):=by have h1:=h.1;have h2:=h.2;have h3:=k.1;have h4:=k.2;exact ⟨by grind,by grind⟩
theorem Bd.sub{M N x y:Rat}(h:Bd M x)(k:Bd N y):Bd (M+N) (x-y):=by have h1:=h.1;have h2:=h.2;have h3:=k.1;have h4:=k.2;exact ⟨by grind,by grind⟩
theorem Bd.neg{M x:Rat}(h:Bd M x):Bd M (-x):=by have h1:=h.1;have h2:=h.2;exact ⟨by grind,by grind⟩
theorem Bd.mul{M N x y:Rat}(h:Bd M x)(k:Bd N y):Bd (M*N) (x*y):=by
 have h1:=h.1;have h2:=h.2;have h3:=k.1;have h4:=k.2;have e1:=Rat.mul_nonneg (a:=M-x) (b:=N+y) (by grind) (by grind);have e2:=Rat.mul_nonneg (a:=M+x) (b:=N-y) (by grind) (by grind);have e3:=Rat.mul_nonneg (a:=M-x) (b:=N-y) (by grind) (by grind);have e4:=Rat.mul_nonneg (a:=M+x) (b:=N+y) (by grind) (by grind);exact ⟨by grind,by grind⟩
theorem Bd.self{x:Rat}(h:0≤x):Bd x x:=⟨by grind,by grind⟩
theorem Bd.ex(x:Rat):∃ M,0≤M∧Bd M x:=by
 rcases tot 0 x with h|h
 ·exact ⟨x,h,by grind,by grind⟩
 ·exact ⟨-x,by grind,by grind,by grind⟩
theorem eZ{A B x:Rat}:∃ R,0≤R∧∀ x,A≤x→x≤B→Bd R x:=by
 obtain ⟨M,h1,h2⟩:=Bd.ex A;obtain ⟨N,h3,h4⟩:=Bd.ex B;refine ⟨M+N,by grind,fun x hA hB=>?_⟩;have h5:=h2.1;have h6:=h2.2;have h7:=h4.1;have h8:=h4.2;exact ⟨by grind,by grind⟩
theorem mi{a b:Rat}(h:0≤a)(k:0≤b):0≤a*b:=Rat.mul_nonneg h k
theorem gH{a b:Rat}(h:0<a)(k:0<b):0<a*b:=Rat.mul_pos h k
theorem q9{a b:Rat}(h:0<a)(k:0<b):0<a / b:=by rw [Rat.div_def];exact Rat.mul_pos h (Rat.inv_pos.2 k)
theorem aE{a b:Rat}(k:b≠0):a / b*b=a:=by rw [Rat.div_def,nYb,Rat.inv_mul_cancel _ k,Rat.mul_one]
theorem fi{a b c:Rat}(h:a≤b)(k:0≤c):a*c≤b*c:=Rat.mul_le_mul_of_nonneg_right h k
theorem dK{a b c:Rat}(h:a≤b)(k:0≤c):c*a≤c*b:=Rat.mul_le_mul_of_nonneg_left h k
theorem mul_lt{a b c:Rat}(h:a<b)(k:0<c):a*c<b*c:=by
 have:=Rat.mul_pos (show 0<b-a by grind) k;grind
theorem thr{c m x:Rat}(hc:0<c)(hm:0<m)(h:m*3≤c*x*4):m / (2*c)≤x:=by
 apply Classical.byContradiction;intro hn;have h1:=mul_lt (show x<m / (2*c) by grind) hc;have h2:m / (2*c)*(2*c)=m:=aE (by grind);grind
def Lip(A B K:Rat)(f:Rat→Rat):Prop:=∀ s t,A≤s→s≤t→t≤B→Bd (K*(t-s)) (f t-f s)
theorem Lip.mono{A B K L:Rat}{f:Rat→Rat}(h:Lip A B K f)(k:K≤L):Lip A B L f:=fun s t h1 h2 h3=>(h s t h1 h2 h3).mono (fi k (by grind))
def On(A B M:Rat)(f:Rat→Rat):Prop:=∀ x,A≤x→x≤B→Bd M (f x)
def Big(r x:Rat):Prop:=r≤x∨x≤-r
theorem jV{r x:Rat}(h:¬ Big r x):-r<x∧x<r:=by
 unfold Big at h;exact ⟨by grind,by grind⟩
theorem Big.sign{A B K r s t:Rat}{f:Rat→Rat}(hf:Lip A B K f)(hb:Big r (f s))(h1:A≤s)(h2:s≤t)(h3:t≤B)(h4:K*(t-s)<r):sg (f t)=sg (f s)∧sg (f s)≠0:=by
 obtain ⟨e1,e2⟩:=hf s t h1 h2 h3;have hr:0<r:=by grind
 rcases hb with h|h
 ·rw [sg_pos (show 0<f s by grind),sg_pos (show 0<f t by grind)];exact ⟨rfl,by decide⟩
 ·rw [dF (show f s<0 by grind),dF (show f t<0 by grind)];exact ⟨rfl,by decide⟩
def Row(A B:Rat)(f g h:Rat→Rat):Prop:=∃ c d Q:Rat,0<c∧0<d∧0≤Q∧∃ q:Rat→Rat,On A B Q q∧∀ x,c*f x+d*h x=q x*g x
def Ch(A B:Rat):(Rat→Rat)→List (Rat→Rat)→Prop
 | f,[]=>∃ r,0<r∧∀ x,A≤x→x≤B→Big r (f x)
 | f,[g]=>Ch A B g []
 | f,g :: h :: l=>Row A B f g h∧Ch A B g (h :: l)
def sgs(l:List (Rat→Rat))(x:Rat):List Int:=l.map (fun f=>sg (f x))
def CI(f:Rat→Rat)(l:List (Rat→Rat))(b r s t:Rat):Prop :=
 (Big r (f s)→sg (f s)≠0∧sg (f t)=sg (f s)∧Rl (sg (f s)) (sgs l s) (sgs l t)) ∧
 (¬ Big r (f s)→∃ g l',l=g :: l'∧Big b (g s)∧sg (g s)≠0∧sg (g t)=sg (g s)∧Rl (sg (g s)) (sgs l' s) (sgs l' t))
def St(A B:Rat)(f:Rat→Rat)(l:List (Rat→Rat)):Prop :=
 ∃ b,0<b∧∃ r0,0<r0∧∀ r,0<r→r≤r0→∃ e,0<e∧∀ s t,A≤s→s≤t→t≤B→t-s≤e→CI f l b r s t
theorem iN{K r:Rat}(hK:0≤K)(hr:0<r):∃ e,0<e∧∀ d,d≤e→K*d<r:=by
 refine ⟨r / (K+1),q9 hr (by grind),fun d hd=>?_⟩;have h1:=dK hd hK;have h2:r / (K+1)*(K+1)=r:=aE (by grind);have h3:=q9 hr (show 0<K+1 by grind);grind
theorem pi{a b:Rat}(ha:0<a)(hb:0<b):∃ c,0<c∧c≤a∧c≤b:=by
 rcases tot a b with h|h
 ·exact ⟨a,ha,Rat.le_refl,h⟩
 ·exact ⟨b,hb,h,Rat.le_refl⟩
theorem rV{A B b r s c d Q:Rat}{f g h q:Rat→Rat}(hc:0<c)(hd:0<d)(hQ:0≤Q)(hq:On A B Q q)(he:∀ x,c*f x+d*h x=q x*g x)(h1:A≤s)(h2:s≤B)(hg:¬ Big r (g s))(hr:Q*r*4≤d*b)(hb0:0<b)(hb:Big b (h s)) :
  (f s<0∧0<h s∧d*b*3≤-(c*f s)*4)∨(0<f s∧h s<0∧d*b*3≤c*f s*4):=by
 obtain ⟨g1,g2⟩:=jV hg;obtain ⟨k1,k2⟩:=(hq s h1 h2).mul (show Bd r (g s) from ⟨by grind,by grind⟩);have e:=he s;have hdb:=gH hd hb0;rcases hb with h3|h3
 ·left
  have h4:=dK h3 (Rat.le_of_lt hd);have h5:c*f s<0:=by grind
  refine ⟨?_,by grind,by grind⟩;rcases tri (f s) 0 with h6|h6|h6
  ·exact h6
  ·rw [h6] at h5;grind
  ·have:=gH hc h6;grind
 ·right
  have h4:=dK (show b≤-h s by grind) (Rat.le_of_lt hd);have h5:0<c*f s:=by grind
  refine ⟨?_,by grind,by grind⟩;rcases tri (f s) 0 with h6|h6|h6
  ·have:=gH hc (show 0 < -f s by grind);grind
  ·rw [h6] at h5;grind
  ·exact h6
theorem BZ{A B:Rat}:∀ (l:List (Rat→Rat)) (f:Rat→Rat),Ch A B f l→(∃ K,0≤K∧Lip A B K f)→(∀ g ∈ l,∃ K,0≤K∧Lip A B K g)→St A B f l:=by
 intro l;induction l with
 | nil =>
  intro f ⟨d,hd,hb⟩ ⟨K,hK,hL⟩ _;refine ⟨1,by decide,d,hd,fun r hr hrd=>?_⟩;obtain ⟨e,he,h⟩:=iN hK hr;refine ⟨e,he,fun s t h1 h2 h3 h4=>⟨fun h5=>?_,fun h5=>?_⟩⟩
  ·obtain ⟨g1,g2⟩:=h5.sign hL h1 h2 h3 (h _ h4);exact ⟨g2,g1,Rl.nil _⟩
  ·refine absurd ?_ h5;rcases hb s h1 (by grind) with h6|h6
   ·exact Or.inl (by grind)
   ·exact Or.inr (by grind)
 | cons g l ih =>
  intro f hc ⟨K,hK,hL⟩ hl;have hg:Ch A B g l:=by
   cases l with
   | nil=>exact hc
   | cons h l=>exact hc.2
  obtain ⟨b,hb,r0,hr0,hst⟩:=ih g hg (hl g List.mem_cons_self) (fun x hx=>hl x (List.mem_cons_of_mem _ hx))
  -- the threshold of g and that of f
  obtain ⟨rg,hrg,hrg0,rf,hrf,hsm⟩:∃ rg,0<rg∧rg≤r0∧∃ rf,0<rf∧∀ s,A≤s→s≤B→∀ h l',l=h :: l'→¬ Big rg (g s)→Big b (h s)→sg (h s)=-sg (f s)∧sg (f s)≠0∧Big rf (f s):=by
   cases l with
   | nil=>exact ⟨r0,hr0,Rat.le_refl,1,by decide,fun s _ _ h l' e=>by cases e⟩
   | cons h l =>
    obtain ⟨⟨c,d,Q,hc,hd,hQ,q,hq,he⟩,-⟩:=hc;obtain ⟨e,he0,hee⟩:=iN (K:=Q*4) (r:=d*b) (by grind) (gH hd hb);obtain ⟨rg,h1,h2,h3⟩:=pi hr0 he0;have hp:=q9 (gH hd hb) (show 0<2*c by grind);refine ⟨rg,h1,h2,d*b / (2*c),hp,fun s k1 k2 h' l' e k3 k4=>?_⟩;cases e;have hr4:=hee rg h3;rcases rV hc hd hQ hq he k1 k2 k3 (by grind) hb k4 with ⟨m1,m2,m3⟩|⟨m1,m2,m3⟩
    ·rw [sg_pos m2,dF m1];refine ⟨rfl,by decide,Or.inr ?_⟩;have:=thr (x:=-f s) hc (gH hd hb) (by grind);grind
    ·rw [dF m2,sg_pos m1];exact ⟨rfl,by decide,Or.inl (thr hc (gH hd hb) m3)⟩
  obtain ⟨eg,heg,hcell⟩:=hst rg hrg hrg0;refine ⟨rg,hrg,rf,hrf,fun r hr hrf'=>?_⟩;obtain ⟨ef,hef,hstep⟩:=iN hK hr;obtain ⟨e,he,he1,he2⟩:=pi heg hef;refine ⟨e,he,fun s t h1 h2 h3 h4=>?_⟩;have hg:=hcell s t h1 h2 h3 (by grind);refine ⟨fun h5=>?_,fun h5=>?_⟩
  ·obtain ⟨g1,g2⟩:=h5.sign hL h1 h2 h3 (hstep _ (by grind));refine ⟨g2,g1,?_⟩;by_cases hb':Big rg (g s)
   ·obtain ⟨k1,k2,k3⟩:=hg.1 hb';show Rl _ (sg (g s) :: sgs l s) (sg (g t) :: sgs l t);rw [k2];exact Rl.big k1 k3
   ·obtain ⟨h,l',rfl,k1,k2,k3,k4⟩:=hg.2 hb';obtain ⟨m1,m2,m3⟩:=hsm s h1 (by grind) h l' rfl hb' k1;show Rl _ (sg (g s) :: sg (h s) :: sgs l' s) (sg (g t) :: sg (h t) :: sgs l' t);rw [k3];exact Rl.small g2 m1 (uV _) (uV _) (uV _) k4
  ·refine ⟨g,l,rfl,?_⟩;by_cases hb':Big rg (g s)
   ·obtain ⟨k1,k2,k3⟩:=hg.1 hb';exact ⟨hb',k1,k2,k3⟩
   ·obtain ⟨h,l',rfl,k1,k2,k3,k4⟩:=hg.2 hb';obtain ⟨m1,m2,m3⟩:=hsm s h1 (by grind) h l' rfl hb' k1;refine absurd ?_ h5;rcases m3 with m|m
    ·exact Or.inl (by grind)
    ·exact Or.inr (by grind)
def V(f:Rat→Rat)(l:List (Rat→Rat))(x:Rat):Nat:=vr 0 (sgs (f :: l) x)
theorem fV{x:Int}{a:List Int}(h:x≠0):vr 0 (x :: a)=vr x a:=by simp [vr,h]
theorem oM{a:List Int}:vr 0 (0 :: a)=vr 0 a:=by simp [vr]
def Br(A B:Rat)(f g:Rat→Rat):Prop:=∃ k K,0<k∧0≤K∧∀ s t,A≤s→s≤t→t≤B→Bd (K*(t-s)*(t-s)) (f t-f s-k*g s*(t-s))
def tY(f:Rat→Rat)(s t:Rat):Nat:=if sg (f s)≠0∧sg (f t)≠sg (f s) then 1 else 0
theorem qk{A B:Rat}{f:Rat→Rat}{l:List (Rat→Rat)}(hc:Ch A B f l)(hf:∃ K,0≤K∧Lip A B K f)(hl:∀ g ∈ l,∃ K,0≤K∧Lip A B K g)(hs:∀ g l',l=g :: l'→Br A B f g) :
  ∃ e,0<e∧∀ s t,A≤s→s<t→t≤B→t-s≤e→V f l s=V f l t+tY f s t∧(f s=0→f t≠0):=by
 obtain ⟨b,hb,r0,hr0,hst⟩:=BZ l f hc hf hl;obtain ⟨e1,he1,hcell⟩:=hst r0 hr0 Rat.le_refl;obtain ⟨e2,he2,hsl⟩:∃ e2,0<e2∧∀ g l',l=g :: l'→∀ s t,A≤s→s<t→t≤B→t-s≤e2→(b≤g s→f s<f t)∧(g s≤-b→f t<f s):=by
  cases l with
  | nil=>exact ⟨1,by decide,fun g l' e=>by cases e⟩
  | cons g l =>
   obtain ⟨k,K,hk,hK,h⟩:=hs g l rfl;obtain ⟨e,he,h2⟩:=iN hK (gH hk hb);refine ⟨e,he,fun g' l' ee s t h3 h4 h5 h6=>?_⟩;cases ee;obtain ⟨m1,m2⟩:=h s t h3 (by grind) h5;have h7:=mul_lt (h2 _ h6) (show 0<t-s by grind);refine ⟨fun h8=>?_,fun h8=>?_⟩
   ·have h9:=fi (dK h8 (Rat.le_of_lt hk)) (show 0≤t-s by grind);grind
   ·have h9:=fi (dK h8 (Rat.le_of_lt hk)) (show 0≤t-s by grind);grind
 obtain ⟨e,he,hm1,hm2⟩:=pi he1 he2;refine ⟨e,he,fun s t h1 h2 h3 h4=>?_⟩;obtain ⟨c1,c2⟩:=hcell s t h1 (by grind) h3 (by grind);by_cases h5:Big r0 (f s)
 ·obtain ⟨k1,k2,k3⟩:=c1 h5;refine ⟨?_,fun h=>absurd (oV.2 h) k1⟩;unfold V tY;show vr 0 (sg (f s) :: sgs l s)=vr 0 (sg (f t) :: sgs l t)+_;rw [k2,fV k1,fV k1,k3.vr,if_neg (by simp)];rfl
 ·obtain ⟨g,l',rfl,k1,k2,k3,k4⟩:=c2 h5;obtain ⟨s1,s2⟩:=hsl g l' rfl s t h1 h2 h3 (by grind);have e0:V f (g :: l') s=(if sg (f s)≠0∧sg (g s)≠sg (f s) then 1 else 0)+vr (sg (g s)) (sgs l' s):=by
   show vr 0 (sg (f s) :: sg (g s) :: sgs l' s)=_;by_cases h0:sg (f s)=0
   ·rw [h0,oM,fV k2];simp
   ·rw [fV h0];simp [vr,k2,h0]
  have e1:V f (g :: l') t=(if sg (f t)≠0∧sg (g s)≠sg (f t) then 1 else 0)+vr (sg (g s)) (sgs l' s):=by
   show vr 0 (sg (f t) :: sg (g t) :: sgs l' t)=_;rw [k3,k4.vr];by_cases h0:sg (f t)=0
   ·rw [h0,oM,fV k2];simp
   ·rw [fV h0];simp [vr,k2,h0]
  rw [e0,e1];unfold tY;rcases k1 with k|k
  ·have hlt:=s1 k;rw [sg_pos (show 0<g s by grind)];clear hc hf hl hs hst hcell hsl c1 c2 k3 k4 s1 s2 e0 e1;rcases ew (f s) with ⟨a1,a2⟩|⟨a1,a2⟩|⟨a1,a2⟩ <;> rcases ew (f t) with ⟨b1,b2⟩|⟨b1,b2⟩|⟨b1,b2⟩ <;> rw [a2,b2] <;> first|(exfalso;grind)|(refine ⟨by simp <;> omega,?_⟩;grind)
  ·have hlt:=s2 k;rw [dF (show g s<0 by grind)];clear hc hf hl hs hst hcell hsl c1 c2 k3 k4 s1 s2 e0 e1;rcases ew (f s) with ⟨a1,a2⟩|⟨a1,a2⟩|⟨a1,a2⟩ <;> rcases ew (f t) with ⟨b1,b2⟩|⟨b1,b2⟩|⟨b1,b2⟩ <;> rw [a2,b2] <;> first|(exfalso;grind)|(refine ⟨by simp <;> omega,?_⟩;grind)
theorem pt{A B e:Rat}{P:Rat→Rat→Prop}(he:0<e)(h1:∀ s t,A≤s→s<t→t≤B→t-s≤e→P s t)(h2:∀ s t u,A≤s→s<t→t<u→u≤B→P s t→P t u→P s u):∀ s t,A≤s→s<t→t≤B→P s t:=by
  have key:∀ n:Nat,∀ s t,A≤s→s<t→t≤B→t-s≤(n:Rat)*e→P s t:=by
    intro n;induction n with
    | zero => intro s t a b c d; exfalso; have : ((0 : Nat) : Rat) * e = 0 := by rw [show ((0 : Nat) : Rat) = 0 from rfl]; grind
              grind
    | succ n ih =>
      intro s t a b c d;rcases tot (t-s) e with h|h
      · exact h1 s t a b c h
      · by_cases hq:t-s=e
        · exact h1 s t a b c (by grind)
        · have e1:((n+1:Nat):Rat)*e=(n:Rat)*e+e:=by rw [Rat.natCast_add,show ((1:Nat):Rat)=1 from rfl];grind
          exact h2 s (s+e) t a (by grind) (by grind) c (h1 s (s+e) a (by grind) (by grind) (by grind)) (ih (s+e) t (by grind) (by grind) c (by grind))
  intro s t a b c;have hx:0<(t-s) / e:=q9 (by grind) he;obtain ⟨n,hn⟩:∃ n:Nat,(t-s) / e≤(n:Rat):=by
    have h3:=Rat.lt_floor_add_one ((t-s) / e);refine ⟨((t-s) / e).floor.toNat+1,?_⟩;have h4:(((t-s) / e).floor+1:Int)≤((((t-s) / e).floor.toNat+1:Nat):Int):=by omega
    have h5:=Rat.intCast_le_intCast.2 h4;rw [Rat.intCast_natCast] at h5;grind
  refine key n s t a b c ?_;have h8:=fi hn (Rat.le_of_lt he);rw [aE (by grind)] at h8;exact h8
theorem yW(p:List Rat)(A B:Rat):∃ M,0≤M∧On A B M (evV p):=by
 obtain ⟨R,hR,hb⟩:=eZ (A:=A) (B:=B) (x:=0);induction p with
 | nil=>exact ⟨0,Rat.le_refl,fun x _ _=>⟨by show -0≤(0:Rat);decide,by show (0:Rat)≤0;decide⟩⟩
 | cons c p ih =>
  obtain ⟨M,hM,h⟩:=ih;obtain ⟨N,hN,k⟩:=Bd.ex c;exact ⟨M*R+N,by have:=mi hM hR;grind,fun x h1 h2=>((h x h1 h2).mul (hb x h1 h2)).add k⟩
theorem pC(p:List Rat)(A B:Rat):∃ K,0≤K∧Lip A B K (evV p):=by
 obtain ⟨R,hR,hb⟩:=eZ (A:=A) (B:=B) (x:=0);induction p with
 | nil=>exact ⟨0,Rat.le_refl,fun s t _ h _=>⟨by show -(0*(t-s))≤(0:Rat)-0;grind,by show (0:Rat)-0≤0*(t-s);grind⟩⟩
 | cons c p ih =>
  obtain ⟨K,hK,h⟩:=ih;obtain ⟨M,hM,k⟩:=yW p A B;refine ⟨K*R+M,by have:=mi hK hR;grind,fun s t h1 h2 h3=>?_⟩;have a:=(h s t h1 h2 h3).mul (hb t (by grind) h3);have b:=(k s h1 (by grind)).mul (Bd.self (show 0≤t-s by grind));have e:evV (c :: p) t-evV (c :: p) s=(evV p t-evV p s)*t+evV p s*(t-s):=by
   show evV p t*t+c-(evV p s*s+c)=_;grind
  rw [e,show (K*R+M)*(t-s)=K*(t-s)*R+M*(t-s) by grind];exact a.add b
def evD:List Rat→Rat→Rat
 | [],_=>0
 | _ :: p,x=>evD p x*x+evV p x
theorem AP(p:List Rat)(A B:Rat):∃ M,0≤M∧On A B M (evD p):=by
 obtain ⟨R,hR,hb⟩:=eZ (A:=A) (B:=B) (x:=0);induction p with
 | nil=>exact ⟨0,Rat.le_refl,fun x _ _=>⟨by show -0≤(0:Rat);decide,by show (0:Rat)≤0;decide⟩⟩
 | cons c p ih =>
  obtain ⟨M,hM,h⟩:=ih;obtain ⟨N,hN,k⟩:=yW p A B;exact ⟨M*R+N,by have:=mi hM hR;grind,fun x h1 h2=>((h x h1 h2).mul (hb x h1 h2)).add (k x h1 h2)⟩
theorem pz(p:List Rat)(A B:Rat):∃ K,0≤K∧∀ s t,A≤s→s≤t→t≤B→Bd (K*(t-s)*(t-s)) (evV p t-evV p s-evD p s*(t-s)):=by
 obtain ⟨R,hR,hb⟩:=eZ (A:=A) (B:=B) (x:=0);induction p with
 | nil=>exact ⟨0,Rat.le_refl,fun s t _ h _=>⟨by show -(0*(t-s)*(t-s))≤(0:Rat)-0-0*(t-s);grind,by show (0:Rat)-0-0*(t-s)≤0*(t-s)*(t-s);grind⟩⟩
 | cons c p ih =>
  obtain ⟨K,hK,h⟩:=ih;obtain ⟨M,hM,k⟩:=AP p A B;refine ⟨K*R+M,by have:=mi hK hR;grind,fun s t h1 h2 h3=>?_⟩;have a:=(h s t h1 h2 h3).mul (hb t (by grind) h3);have h0:0≤t-s:=by grind
  have b:=((k s h1 (by grind)).mul (Bd.self h0)).mul (Bd.self h0);have e:evV (c :: p) t-evV (c :: p) s-evD (c :: p) s*(t-s)=(evV p t-evV p s-evD p s*(t-s))*t+evD p s*(t-s)*(t-s):=by
   show evV p t*t+c-(evV p s*s+c)-(evD p s*s+evV p s)*(t-s)=_;grind
  rw [e,show (K*R+M)*(t-s)*(t-s)=K*(t-s)*(t-s)*R+M*(t-s)*(t-s) by grind];exact a.add b
structure Fit (A B:Rat) (f:Rat→Rat) (l:List (Rat→Rat)):Prop where
 ch:Ch A B f l
 lf:∃ K,0≤K∧Lip A B K f
 ll:∀ g ∈ l,∃ K,0≤K∧Lip A B K g
 sl:∀ g l',l=g :: l'→Br A B f g
theorem Fit.cell{A B:Rat}{f:Rat→Rat}{l:List (Rat→Rat)}(h:Fit A B f l):∃ e,0<e∧∀ s t,A≤s→s<t→t≤B→t-s≤e→V f l s=V f l t+tY f s t∧(f s=0→f t≠0):=qk h.ch h.lf h.ll h.sl
theorem Fit.calm{A B:Rat}{f:Rat→Rat}{l:List (Rat→Rat)}(h:Fit A B f l){x y:Rat}(hx:A≤x)(hxy:x<y)(hy:y≤B)(hs:∀ s t,x≤s→s<t→t≤y→f s≠0→sg (f t)=sg (f s)):V f l x=V f l y:=by
 obtain ⟨e,he,hc⟩:=h.cell;refine pt (A:=x) (B:=y) (P:=fun s t=>V f l s=V f l t) he (fun s t h1 h2 h3 h4=>?_) (fun s t u _ _ _ _ h1 h2=>h1.trans h2) x y Rat.le_refl hxy Rat.le_refl;rw [(hc s t (by grind) h2 (by grind) h4).1];unfold tY;rw [if_neg (fun h5=>h5.2 (hs s t h1 h2 h3 (fun h=>h5.1 (oV.2 h))))];rfl
end Go.Proofs.YtafgmcimcbhhjaaGreat.Sg
