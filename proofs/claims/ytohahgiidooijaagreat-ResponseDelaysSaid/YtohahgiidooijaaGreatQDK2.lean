/- Tb, Bsz -/
import Derived.Test.YtohahgiidooijaaGreatQDM13
import Derived.Test.YtohahgiidooijaaGreatQDM11
import Derived.Test.YtohahgiidooijaaGreatQDM22
set_option linter.unusedVariables false
namespace Go.Proofs.YtohahgiidooijaaGreat
open Go.RowKit Go.Front Go.Num
attribute [local go_sem] XW.cell XW.frozen
def jX(R C:Nat)(w:World)(s:SH)(qs:List Rat):Prop:=∃ lo hi,LIn w s qs lo hi∧(R<lo∨hi≤R)∧(C<lo∨hi≤C)
theorem jX.ext{R C:Nat}{w w':World}{s:SH}{qs:List Rat}(h:jX R C w s qs)(he:Ext w w'):jX R C w' s qs:=let ⟨lo,hi,h1,h2⟩:=h;⟨lo,hi,h1.ext he,h2⟩
instance {R C:Nat} {w w':World} {s:SH} {qs:List Rat}:Go.Front.Mv w w' (jX R C w s qs) (jX R C w' s qs):=⟨fun e h=>jX.ext h e⟩

theorem jX.put{R C b:Nat}{w1 w2:World}{s:SH}{qs:List Rat}{T:TypeId}{cs:Array Value}(h:jX R C w1 s qs)(T2:fv w1 b T cs w2)(hb:b=R∨b=C):jX R C w2 s qs:=by
  obtain ⟨lo,hi,h1,h2,h3⟩:=h
  exact ⟨lo, hi, h1.put T2 (by rcases hb with rfl | rfl; · exact h2
                               · exact h3),h2,h3⟩
theorem aJ.apart{R C:Nat}{w:World}{s:SH}{qs:List Rat}(h:aJ w s qs)(hR:w.heap.size≤R)(hC:w.heap.size≤C):jX R C w s qs:=⟨_,_,h.lin,Or.inr hR,Or.inr hC⟩
end Go.Proofs.YtohahgiidooijaaGreat
namespace Go.Proofs.YtohahgiidooijaaGreat
open Go.RowKit Go.Front Go.Num
theorem DO(xs:List Int)(d:Nat):(kK xs d).length≤d+1:=by
 unfold kK;refine nXe (af _) ?_;rw [nXk,nXj];omega
theorem Fv(xs:List Int)(d:Nat):SzL 1 (kK xs d):=SzL.tz (mT _)
end Go.Proofs.YtohahgiidooijaaGreat
/- Fr, Run, MgP, FrB -/
namespace Go.Proofs.YtohahgiidooijaaGreat
open Go.RowKit Go.Front Go.Num Stab
theorem Fr.mono{S S' D:Nat}{q:Rat}(h:Fr S D q)(hS:S≤S'):Fr S' D q:=Wz.mono (q:=q*(D:Rat)) h hS
theorem Fr.add{S D:Nat}{a b:Rat}(ha:Fr S D a)(hb:Fr S D b):Fr (S+1) D (a+b):=by
 have:=Wz.add (a:=a*(D:Rat)) (b:=b*(D:Rat)) ha hb;rw [←Rat.add_mul] at this;exact this
theorem Fr.sub{S D:Nat}{a b:Rat}(ha:Fr S D a)(hb:Fr S D b):Fr (S+1) D (a-b):=by
 rw [Rat.sub_eq_add_neg];exact ha.add hb.neg
theorem Fr.mul{S U D E:Nat}{a b:Rat}(ha:Fr S D a)(hb:Fr U E b):Fr (S+U) (D*E) (a*b):=by
 have:=Wz.mul (a:=a*(D:Rat)) (b:=b*(E:Rat)) ha hb;have e:a*b*((D*E:Nat):Rat)=a*(D:Rat)*(b*(E:Rat)):=by rw [Rat.natCast_mul];grind
 unfold Fr;rw [e];exact this
theorem Fr.one{S:Nat}{q:Rat}(h:Wz S q):Fr S 1 q:=by
 unfold Fr;rw [show q*((1:Nat):Rat)=q from Rat.mul_one q];exact h
theorem Fr.wz{S:Nat}{q:Rat}(h:Fr S 1 q):Wz S q:=by
 unfold Fr at h;rw [show q*((1:Nat):Rat)=q from Rat.mul_one q] at h;exact h
theorem Fr.muli{S U D:Nat}{a b:Rat}(ha:Fr S D a)(hb:Wz U b):Fr (S+U) D (a*b):=by
 have:=ha.mul (Fr.one hb)
 rwa [Nat.mul_one] at this
theorem Fr.imul{S U D:Nat}{a b:Rat}(hb:Wz U b)(ha:Fr S D a):Fr (S+U) D (b*a):=by rw [nYb];exact ha.muli hb
theorem Wz.nat{S n:Nat}(h:n<W32 ^ S):Wz S ((n:Nat):Rat):=by
 have:=Wz.int (S:=S) (z:=(n:Int)) (by simpa using h);exact this
theorem Fr.den{S U D E:Nat}{a:Rat}(ha:Fr S D a)(hE:E<W32 ^ U):Fr (S+U) (D*E) a:=by
 have:=Wz.mul (a:=a*(D:Rat)) (b:=(E:Rat)) ha (Wz.nat hE);have e:a*((D*E:Nat):Rat)=a*(D:Rat)*(E:Rat):=by rw [Rat.natCast_mul];grind
 unfold Fr;rw [e];exact this
theorem Fr.denl{S U D E:Nat}{a:Rat}(ha:Fr S D a)(hE:E<W32 ^ U):Fr (S+U) (E*D) a:=by rw [nYd];exact ha.den hE
theorem Fk{S:Nat}{f:Nat→Rat}:∀ n,(∀ i,i<n→Wz S (f i))→Wh (sm n f)∧(sm n f).num.natAbs+n≤n*W32 ^ S:=by
 intro n;induction n with
 | zero=>intro _;exact ⟨rfl,Nat.zero_le (0*W32 ^ S)⟩
 | succ n ih =>
  intro h;obtain ⟨h1,h2⟩:=ih (fun i hi=>h i (by omega));obtain ⟨h3,h4⟩:=h n (by omega);show Wh (sm n f+f n)∧(sm n f+f n).num.natAbs+(n+1)≤_;refine ⟨h1.add h3,?_⟩;have e:(sm n f+f n)=(((sm n f).num+(f n).num:Int):Rat):=by rw [Rat.intCast_add,←h1.eq,←h3.eq]
  rw [e,Rat.num_intCast];have:=Int.natAbs_add_le (sm n f).num (f n).num;rw [nXx];omega
theorem Wz.sm{S n:Nat}{f:Nat→Rat}(h:∀ i,i<n→Wz S (f i))(hn:n≤W32):Wz (S+1) (sm n f):=by
 obtain ⟨h1,h2⟩:=Fk n h;refine ⟨h1,?_⟩;have h3:n*W32 ^ S≤W32 ^ (S+1):=by rw [nXt,nYd];exact nXf _ hn
 rcases Nat.eq_zero_or_pos n with h0|h0
 ·subst h0;have h4:(Stab.sm 0 f).num.natAbs=0:=rfl;have:=nYl (n:=S+1) aC;omega
 ·omega
theorem Fr.sm{S D n:Nat}{f:Nat→Rat}(h:∀ i,i<n→Fr S D (f i))(hn:n≤W32):Fr (S+1) D (sm n f):=by
 have:=Wz.sm (f:=fun i=>f i*(D:Rat)) (S:=S) (n:=n) h hn;have e:Stab.sm n (fun i=>f i*(D:Rat))=Stab.sm n f*(D:Rat):=by
  rw [sm_congr (g:=fun i=>(D:Rat)*f i) (fun i _=>nYb _ _),sm_mul,nYb]
 rw [e] at this;exact this
def FrL(S D:Nat)(l:List Rat):Prop:=∀ x ∈ l,Fr S D x
theorem FrL.mono{S S' D:Nat}{l:List Rat}(h:FrL S D l)(hS:S≤S'):FrL S' D l:=fun x hx=>(h x hx).mono hS
theorem FrL.at{S D:Nat}{l:List Rat}(h:FrL S D l)(i:Nat):Fr S D (l.getD i 0):=by
 rcases Nat.lt_or_ge i l.length with hi|hi
 ·exact h _ (eP hi)
 ·rw [aG hi];exact Fr.zero _ _
theorem FrL.of{S D:Nat}{l:List Rat}(h:∀ i,Fr S D (l.getD i 0)):FrL S D l:=fun x hx=>by
 obtain ⟨i,-,rfl⟩:=dr hx;exact h i
theorem FrL.tz{S D:Nat}{l:List Rat}(h:FrL S D l):FrL S D (tz l):=FrL.of fun i=>by rw [ax];exact h.at i
theorem FrL.den{S U D E:Nat}{l:List Rat}(h:FrL S D l)(hE:E<W32 ^ U):FrL (S+U) (D*E) l:=fun x hx=>(h x hx).den hE
theorem FrL.denl{S U D E:Nat}{l:List Rat}(h:FrL S D l)(hE:E<W32 ^ U):FrL (S+U) (E*D) l:=fun x hx=>(h x hx).denl hE
theorem FrL.sz{S D:Nat}{l:List Rat}(h:FrL S D l)(hS:1≤S)(hD:0<D)(hl:D<W32 ^ S):SzL S l:=fun x hx=>(h x hx).sz hS hD hl
theorem FrL.range{S D n:Nat}{f:Nat→Rat}(h:∀ i,i<n→Fr S D (f i)):FrL S D ((List.range n).map f):=fun x hx=>by
 obtain ⟨i,hi,rfl⟩:=nYe.1 hx;exact h i (List.mem_range.1 hi)
theorem F0{S U D E:Nat}{p q:List Rat}(hp:FrL S D p)(hq:FrL U E q)(hl:p.length≤W32)(n:Nat):Fr (S+U+1) (D*E) (ap p (seq q) n):=by
 rw [ap_sum];refine Fr.sm (fun i _=>(hp.at i).mul ?_) hl;unfold shn;split
 ·exact hq.at _
 ·exact Fr.zero _ _
theorem BN{S U D E:Nat}{p q:List Rat}(hp:FrL S D p)(hq:FrL U E q)(hl:p.length≤W32):FrL (S+U+1) (D*E) (ag p q):=by
 unfold ag;exact FrL.tz (FrL.range fun i _=>F0 hp.tz hq.tz (nXe (af p) hl) i)
theorem C0{S D:Nat}{p q:List Rat}(hp:FrL S D p)(hq:FrL S D q):FrL (S+1) D (aS p q):=by
 unfold aS;exact FrL.tz (FrL.range fun i _=>(hp.at i).add (hq.at i))
theorem D6{S U D:Nat}{l:List Rat}{c:Rat}(h:FrL S D l)(hc:Wz U c):FrL (S+U) D (l.map (·*c)):=fun x hx=>by
 obtain ⟨y,hy,rfl⟩:=nYe.1 hx;exact (h y hy).muli hc
theorem wM{S U D E k:Nat}{b c:List Rat}(hb:FrL S D b)(hc:FrL U E c)(hl:b.length≤W32):Fr (S+U+1) (D*E) (jP b c k):=by
 unfold jP;exact Fr.sm (fun i _=>(hb.at i).mul (hc.at _)) (by omega)
theorem EJ{S U D E k:Nat}{b c:List Rat}(hb:FrL S D b)(hc:FrL U E c)(hl:b.length≤W32)(hl2:c.length≤W32):Fr (S+U+2) (D*E) (crE b c k):=by
 unfold crE;split
 ·exact (wM hb hc hl).mono (by omega)
 ·refine (wM hb hc hl).add ?_;have:=wM (k:=k) hc hb hl2
  rwa [nYd,nYh U S] at this
theorem C5{k i:Nat}(hk:k≤20):Wz 1 (Tf k i):=by
 have h:=(wX k).1;have hb:3 ^ k<W32 ^ 1:=nYj (nXo (by decide) hk) (by decide);unfold Tf;rcases Nat.lt_or_ge i (chP k).1.length with hi|hi
 ·obtain ⟨h1,h2⟩:=h _ (eP hi);exact ⟨h1,nYj h2 hb⟩
 ·rw [aG hi];exact Wz.zero 1
theorem Eh{S D:Nat}{c:List Rat}(h:FrL S D c)(hl:c.length≤21):FrL (S+2) D (fbV c):=by
 unfold fbV;refine FrL.tz (FrL.range fun i _=>?_);unfold fbS;refine (Fr.sm (S:=S+1) (fun k hk=>(h.at k).muli (C5 (by omega))) (nXe hl (by decide))).mono (by omega)
theorem zX{S U D E:Nat}{p q:List Rat}(hp:FrL S D p)(hq:FrL U E q)(hl:p.length≤21)(hl2:q.length≤21):FrL (S+U+4) (D*E) (ah p q):=by
 have h1:=af p;have h2:=af q;have h3:21≤W32:=by decide
 unfold ah;refine Eh (S:=S+U+2) (FrL.range fun i _=>EJ hp.tz hq.tz (by omega) (by omega)) ?_;rw [nXk,nXs];omega
theorem vT{S U D:Nat}{L x:Rat}(hL:Wz U L)(h:Wz S (x*(D:Rat)*L)):Fr S (D*L.num.natAbs) x:=by
 have e0:x*((D*L.num.natAbs:Nat):Rat)=x*(D:Rat)*((L.num.natAbs:Nat):Rat):=by rw [Rat.natCast_mul,nYc]
 unfold Fr;rw [e0];have e1:=hL.1.eq;have e2:((L.num.natAbs:Nat):Rat)=(((L.num.natAbs:Nat):Int):Rat):=rfl;rcases Int.natAbs_eq L.num with h1|h1
 ·rw [e2,←h1,←e1];exact h
 ·have e3:(((L.num.natAbs:Nat):Int):Rat)=-L:=by
   have:((L.num.natAbs:Nat):Int)=-L.num:=by omega
   rw [this,Rat.intCast_neg,←e1]
  rw [e2,e3,Rat.mul_neg];exact h.neg
theorem jk{U E:Nat}{q:List Rat}(hq:FrL U E q):Wz U (aI q*(E:Rat)):=hq.at _
def ldD(q:List Rat)(E:Nat):Nat:=(aI q*(E:Rat)).num.natAbs
theorem mx{U E:Nat}{q:List Rat}(hq:FrL U E q):ldD q E<W32 ^ U:=(jk hq).2
theorem jA{U E:Nat}{q:List Rat}(hq:FrL U E q)(h0:aI q≠0)(hE:0<E):0<ldD q E:=by
 rcases Nat.eq_zero_or_pos (ldD q E) with h|h
 ·exfalso;have h1:(aI q*(E:Rat)).num=0:=by unfold ldD at h;omega
  have h2:=(jk hq).1.eq;rw [h1] at h2;rcases nXq.1 h2 with h3|h3
  ·exact h0 h3
  ·have:((E:Nat):Rat)=(((E:Nat):Int):Rat):=rfl;rw [this] at h3;have h4:=congrArg Rat.num h3;rw [Rat.num_intCast] at h4;have:((0:Rat)).num=0:=rfl;omega
 ·exact h
theorem mR{S U D E:Nat}{p q:List Rat}(hp:FrL S D p)(hq:FrL U E q)(h0:aI q≠0):FrL (S+U+1) (D*ldD q E) (dk p q):=by
 unfold dk;refine FrL.tz (FrL.range fun i _=>?_);refine vT (jk hq) ?_;have h1:Wz (S+U) (p.getD i 0*(D:Rat)*(aI q*(E:Rat))):=Wz.mul (hp.at i) (jk hq);have h2:Wz (S+U) (aI p*(D:Rat)*(q.getD (i-(p.length-q.length)) 0*(E:Rat))):=Wz.mul (hp.at _) (hq.at _);have h3:=cS (a:=aI p) h0;split
 ·have e:(p.getD i 0-aI p / aI q*q.getD (i-(p.length-q.length)) 0)*(D:Rat)*(aI q*(E:Rat))=p.getD i 0*(D:Rat)*(aI q*(E:Rat))-aI p*(D:Rat)*(q.getD (i-(p.length-q.length)) 0*(E:Rat)):=by
   generalize aI p / aI q=c at *
   rw [←h3];grind
  rw [e];exact h1.sub h2
 ·have e:(p.getD i 0-0)*(D:Rat)*(aI q*(E:Rat))=p.getD i 0*(D:Rat)*(aI q*(E:Rat)):=by grind
  rw [e];exact h1.mono (by omega)
theorem u6{S D:Nat}{p:List Rat}(hp:FrL S D p):FrL S (ldD (tz p) D) (bi p):=by
 unfold bi;split
 ·intro x hx;simp at hx
 ·next h =>
  refine FrL.tz fun x hx=>?_
  obtain ⟨y,hy,rfl⟩:=nYe.1 hx;have h1:=vT (S:=S) (D:=1) (x:=y*(((1:Int):Rat) / aI (tz p))) (jk hp.tz) (by
   have h2:=cS (a:=((1:Int):Rat)) (bN h);have e:y*(((1:Int):Rat) / aI (tz p))*((1:Nat):Rat)*(aI (tz p)*(D:Rat))=y*(D:Rat):=by
    have h3:((1:Int):Rat)=1:=rfl;have h4:((1:Nat):Rat)=1:=rfl;rw [h4];rw [h3] at h2 ⊢;generalize 1 / aI (tz p)=c at *
    grind
   rw [e];exact hp.tz y hy)
  rwa [Nat.one_mul] at h1
def Ak(b a:List Rat)(x:Nat→Rat)(y:List Rat):Rat:=sm (y.length+1) (fun k=>b.getD k 0*x (y.length-k))-sm y.length (fun k=>a.getD (k+1) 0*y.getD (y.length-1-k) 0)
def fi(b a:List Rat)(x:Nat→Rat):Nat→List Rat
 | 0=>[]
 | n+1=>fi b a x n++[Ak b a x (fi b a x n)]
theorem fN(b a:List Rat)(x:Nat→Rat)(n:Nat):(fi b a x n).length=n:=by
 induction n with
 | zero=>rfl
 | succ n ih=>unfold fi;rw [nXh,ih];rfl
theorem vK{l:List Rat}{x:Rat}:(l++[x]).getD l.length 0=x:=by simp
theorem oH{l:List Rat}{x:Rat}{k:Nat}(h:k<l.length):(l++[x]).getD k 0=l.getD k 0:=by simp [List.getElem?_append_left h]
theorem mP(b a:List Rat)(x:Nat→Rat){k m:Nat}(h:k<m):(fi b a x m).getD k 0=Ak b a x (fi b a x k):=by
 induction m with
 | zero=>omega
 | succ m ih =>
  show (fi b a x m++[Ak b a x (fi b a x m)]).getD k 0=_;rcases Nat.lt_or_ge k m with h1|h1
  ·rw [oH (by rw [fN];exact h1)];exact ih h1
  ·obtain rfl:k=m:=by omega
   have:=vK (l:=fi b a x k) (x:=Ak b a x (fi b a x k))
   rwa [fN] at this
theorem mO(b a:List Rat)(x:Nat→Rat){k m n:Nat}(h:k<m)(h2:k<n):(fi b a x m).getD k 0=(fi b a x n).getD k 0:=by rw [mP b a x h,mP b a x h2]
theorem FW(p:List Rat)(u:Nat→Rat):ap (tz p) u=ap p u:=by rw [cK,cK,aW]
theorem DA(b a:List Rat)(x:Nat→Rat)(n:Nat):fi (tz b) (tz a) x n=fi b a x n:=by
 induction n with
 | zero=>rfl
 | succ n ih =>
  unfold fi;rw [ih]
  congr 2
  unfold Ak
  congr 1
  ·exact sm_congr (fun i _=>by rw [ax])
  ·exact sm_congr (fun i _=>by rw [ax])
theorem FX(a:List Rat)(u:Nat→Rat)(n:Nat):ap a u n=a.getD 0 0*u n+sm n (fun k=>a.getD (k+1) 0*u (n-1-k)):=by
 rw [cK];unfold cv;rw [ct]
 congr 1
 exact sm_congr (fun i hi=>by show a.getD (i+1) 0*u (n-(i+1))=_;rw [show n-(i+1)=n-1-i by omega])
theorem bu(p q:List Rat):seq (ag p q)=ap p (seq q):=by rw [i5,FW,aW]
def nsm:Nat→(Nat→Nat)→Nat
 | 0,_=>0
 | n+1,f=>nsm n f+f n
theorem Dr{t:Nat→Nat}{f:Nat→Rat}{n:Nat}(h:∀ i,i<n→Sz (t i) (f i)):Sz (1+nsm n (fun i=>t i+1)) (sm n f):=by
 induction n with
 | zero=>exact Sz.zero (by show 1≤1+0;decide)
 | succ n ih =>
  show Sz (1+(nsm n _+(t n+1))) (sm n f+f n);exact ((ih (fun i hi=>h i (by omega))).add (h n (by omega))).mono (by omega)
theorem Cf(K c n:Nat):∀ m,m≤n→nsm m (fun i=>c+K*2 ^ (n-1-i))+K*2 ^ (n-m)=m*c+K*2 ^ n:=by
 intro m;induction m with
 | zero=>intro _;simp [nsm]
 | succ m ih =>
  intro h;have h1:=ih (by omega);show nsm m _+(c+K*2 ^ (n-1-m))+K*2 ^ (n-(m+1))=_;have e:K*2 ^ (n-m)=K*2 ^ (n-1-m)+K*2 ^ (n-(m+1)):=by
   rw [show n-m=(n-(m+1))+1 by omega,show n-1-m=n-(m+1) by omega,nXt,←Nat.mul_assoc];omega
  rw [nXx];omega
def xG(sb sa sx lb la:Nat):Nat:=4+lb*(sb+sx+1)+la*(sa+1)
theorem n6{b:List Rat}{x:Nat→Rat}{sb sx n:Nat}(hb:SzL sb b)(h1:1≤sb)(hx:∀ i,Sz sx (x i))(k:Nat):Sz (1+k*(sb+sx+1)) (sm (min k (n+1)) (fun k=>b.getD k 0*x (n-k))):=by
 refine (tX (t:=sb+sx) (fun i _=>(hb.getD h1 i).mul (hx _))).mono ?_;have:=nXg (sb+sx+1) (show min k (n+1)≤k by omega);omega
theorem uq{a:List Rat}{y:List Rat}{sa K n:Nat}(ha:SzL sa a)(h1:1≤sa)(hy:∀ i,i<n→Sz (K*2 ^ i) (y.getD i 0))(hn:1≤K)(k:Nat):Sz (1+k*(sa+1)+K*2 ^ n-K) (sm (min k n) (fun k=>a.getD (k+1) 0*y.getD (n-1-k) 0)):=by
 have h2:=Dr (t:=fun i=>sa+K*2 ^ (n-1-i)) (f:=fun k=>a.getD (k+1) 0*y.getD (n-1-k) 0) (n:=min k n) (fun i hi=>(ha.getD h1 _).mul (hy _ (by omega)));refine h2.mono ?_;have h3:=Cf K (sa+1) n (min k n) (by omega);have e:nsm (min k n) (fun i=>sa+K*2 ^ (n-1-i)+1)=nsm (min k n) (fun i=>sa+1+K*2 ^ (n-1-i)):=by
  congr 1
  funext i
  omega
 rw [e];have h4:=nXg (sa+1) (show min k n≤k by omega);have h5:1≤2 ^ (n-min k n):=Nat.one_le_two_pow;have h6:=nXf K h5;omega
theorem uo{b a y:List Rat}{x:Nat→Rat}{sb sa sx lb la n:Nat}(hb:SzL sb b)(ha:SzL sa a)(h1:1≤sb)(h2:1≤sa)(hx:∀ i,Sz sx (x i))(hlb:b.length≤lb)(hla:a.length≤la)
 (hy:∀ i,i<n→Sz (xG sb sa sx lb la*2 ^ i) (y.getD i 0))(k j:Nat)(hk:k≤lb)(hj:j≤la) :
  Sz (xG sb sa sx lb la*2 ^ n) (sm (min k (n+1)) (fun k=>b.getD k 0*x (n-k))-sm (min j n) (fun k=>a.getD (k+1) 0*y.getD (n-1-k) 0)):=by
 refine ((n6 hb h1 hx k).sub (uq ha h2 hy (by unfold xG;omega) j)).mono ?_;have h3:=nXg (sb+sx+1) hk;have h4:=nXg (sa+1) hj;have h5:1≤2 ^ n:=Nat.one_le_two_pow;have h6:=nXf (xG sb sa sx lb la) h5;have e:xG sb sa sx lb la=4+lb*(sb+sx+1)+la*(sa+1):=rfl;omega
theorem Aj{f:Nat→Rat}{n l k:Nat}(h:∀ i,l≤i→f i=0)(hk:l≤k):sm (min k n) f=sm n f:=by
 refine bH (by omega) (fun i h1 h2=>h i (by omega))
theorem qV{b a:List Rat}{x:Nat→Rat}{y:List Rat}{n k j:Nat}(hn:y.length=n)(hk:b.length≤k)(hj:a.length≤j+1):sm (min k (n+1)) (fun k=>b.getD k 0*x (n-k))-sm (min j n) (fun k=>a.getD (k+1) 0*y.getD (n-1-k) 0)=Ak b a x y:=by
 unfold Ak;rw [hn,Aj (l:=b.length) (fun i hi=>by rw [aG hi];grind) hk,Aj (l:=j) (fun i hi=>by rw [aG (l:=a) (by omega)];grind) (nXd _)]
theorem DC{b a:List Rat}{x:Nat→Rat}{sb sa sx lb la:Nat}(hb:SzL sb b)(ha:SzL sa a)(h1:1≤sb)(h2:1≤sa)(hx:∀ i,Sz sx (x i))(hlb:b.length≤lb)(hla:a.length≤la)(N:Nat):∀ n,n<N→Sz (xG sb sa sx lb la*2 ^ n) ((fi b a x N).getD n 0):=by
 induction N with
 | zero=>intro n hn;omega
 | succ N ih =>
  intro n hn;rcases Nat.lt_or_ge n N with h|h
  ·rw [mO b a x (m:=N+1) (n:=N) (by omega) h];exact ih n h
  ·obtain rfl:n=N:=by omega
   rw [mP b a x (by omega),←qV (fN b a x n) hlb (by omega:a.length≤la+1)];exact uo hb ha h1 h2 hx hlb hla ih lb la (nXd _) (nXd _)
def TZ(d:Int)(n:Nat):Rat:=Tf d.natAbs n
theorem xy(d:Int):TZ (-d)=TZ d:=by funext n;unfold TZ;rw [Int.natAbs_neg]
theorem qy:TZ 0=fun n=>if n=0 then 1 else 0:=funext fun n=>nI n
theorem lP(d:Int)(n:Nat):2*sh (TZ d) n=TZ (d+1) n+TZ (d-1) n:=by
 rcases Nat.eq_zero_or_pos d.natAbs with h|h
 ·obtain rfl:d=0:=by omega
  rw [qy];show _=Tf 1 n+Tf 1 n;rw [o8];cases n with
  | zero=>simp [sh];exact (Rat.add_zero 0).symm
  | succ n =>
   show 2*(if n=0 then (1:Rat) else 0)=_;by_cases h1:n=0
   ·subst h1;rw [if_pos rfl,if_pos rfl];grind
   ·rw [if_neg h1,if_neg (by omega)];grind
 ·obtain ⟨m,hm⟩:∃ m,d.natAbs=m+1:=⟨d.natAbs-1,by omega⟩;have e:2*sh (TZ d) n=Tf (m+2) n+Tf m n:=by
   rw [lO];unfold TZ;rw [hm];cases n with
   | zero=>simp only [sh,Nat.lt_irrefl,if_false];grind
   | succ n=>simp only [sh,Nat.zero_lt_succ,if_true,Nat.add_sub_cancel];grind
  rw [e];unfold TZ;rcases Int.lt_or_gt_of_ne (show d≠0 by omega) with h1|h1
  ·rw [show (d+1).natAbs=m by omega,show (d-1).natAbs=m+2 by omega];grind
  ·rw [show (d+1).natAbs=m+2 by omega,show (d-1).natAbs=m by omega]
theorem AR(t u:Nat→Rat):cv t (sh u)=sh (cv t u):=by rw [cf,CK,cf]
theorem CL(t s u:Nat→Rat):cv u (fun n=>s n+t n)=fun n=>cv u s n+cv u t n:=by rw [cf,ij,cf s,cf t]
theorem qi(c:Rat)(s u:Nat→Rat):cv u (fun n=>c*s n)=fun n=>c*cv u s n:=by rw [cf,dZ,cf s]
theorem xx(d:Int):∀ e:Nat,(∀ n,2*cv (TZ d) (TZ e) n=TZ (d+e) n+TZ (d-e) n)∧∀ n,2*cv (TZ d) (TZ ((e+1:Nat):Int)) n=TZ (d+(e+1:Nat)) n+TZ (d-(e+1:Nat)) n:=by
 intro e;induction e with
 | zero =>
  have h0:cv (TZ d) (TZ ((0:Nat):Int))=TZ d:=by
   rw [show (((0:Nat):Int))=0 from rfl,qy,cf,wK]
  refine ⟨fun n=>?_,fun n=>?_⟩
  ·rw [h0,show d+((0:Nat):Int)=d by omega,show d-((0:Nat):Int)=d by omega];grind
  ·have e1:TZ ((0+1:Nat):Int)=sh (TZ 0):=by
    funext n
    have h1:=lP 0 n;rw [show (0:Int)+1=1 from rfl,show (0:Int)-1=-1 from rfl,xy] at h1;show TZ 1 n=_;grind
   rw [e1,AR,qy,cf,wK];exact lP d n
 | succ e ih =>
  obtain ⟨i1,i2⟩:=ih;refine ⟨i2,fun n=>?_⟩;have e1:TZ ((e+1+1:Nat):Int)=fun n=>2*sh (TZ ((e+1:Nat):Int)) n+(-1)*TZ (e:Int) n:=by
   funext n
   have h1:=lP ((e+1:Nat):Int) n;rw [show ((e+1:Nat):Int)+1=((e+1+1:Nat):Int) by omega,show ((e+1:Nat):Int)-1=(e:Int) by omega] at h1;grind
  rw [e1,CL (fun n=>(-1)*TZ (e:Int) n) (fun n=>2*sh (TZ ((e+1:Nat):Int)) n),qi,qi,AR];show 2*(2*sh (cv (TZ d) (TZ ((e+1:Nat):Int))) n+(-1)*cv (TZ d) (TZ (e:Int)) n)=_;have h2:2*(2*sh (cv (TZ d) (TZ ((e+1:Nat):Int))) n)=TZ (d+(e+1+1:Nat)) n+TZ (d+e) n+(TZ (d-e) n+TZ (d-(e+1+1:Nat)) n):=by
   have h3:=lP (d+(e+1:Nat)) n;have h4:=lP (d-(e+1:Nat)) n;rw [show d+((e+1:Nat):Int)+1=d+(e+1+1:Nat) by omega,show d+((e+1:Nat):Int)-1=d+e by omega] at h3;rw [show d-((e+1:Nat):Int)+1=d-e by omega,show d-((e+1:Nat):Int)-1=d-(e+1+1:Nat) by omega] at h4;rw [←h3,←h4];have h5:2*sh (cv (TZ d) (TZ ((e+1:Nat):Int))) n=sh (TZ (d+(e+1:Nat))) n+sh (TZ (d-(e+1:Nat))) n:=by
    cases n with
    | zero=>simp only [sh];grind
    | succ n=>simp only [sh];exact i2 n
   rw [h5];grind
  have h6:=i1 n;grind
theorem E7(d e:Int)(n:Nat):2*cv (TZ d) (TZ e) n=TZ (d+e) n+TZ (d-e) n:=by
 rcases Int.lt_or_le e 0 with h|h
 ·obtain ⟨m,hm⟩:∃ m:Nat,e=-(m:Int):=⟨e.natAbs,by omega⟩;subst hm;rw [xy,(xx d m).1 n,show d+-(m:Int)=d-m by omega,show d - -(m:Int)=d+m by omega];grind
 ·obtain ⟨m,hm⟩:∃ m:Nat,e=(m:Int):=⟨e.natAbs,by omega⟩;subst hm;exact (xx d m).1 n
def dS(N:Nat)(u:Nat→Rat)(F:Int→Rat):Rat:=sm N (fun i=>sm N (fun j=>u i*u j*F ((i:Int)-j)))
def rS(N:Nat)(u:Nat→Rat)(k:Nat):Rat:=sm (N-k) (fun i=>u i*u (i+k))
theorem j0{n:Nat}{f:Nat→Rat}(h:∀ i,i<n→f i=0):sm n f=0:=by rw [sm_congr (g:=fun _=>0) h,sm_zero]
theorem FR(u:Nat→Rat)(F:Int→Rat)(hF:∀ d,F (-d)=F d):∀ N,dS N u F=rS N u 0*F 0+2*sm N (fun k=>rS N u (k+1)*F ((k:Int)+1)):=by
 intro N;induction N with
 | zero=>show (0:Rat)=(0:Rat)*F 0+2*(0:Rat);grind
 | succ N ih =>
  have e1:dS (N+1) u F=dS N u F+sm N (fun i=>u i*u N*F ((i:Int)-N))+(sm N (fun j=>u N*u j*F ((N:Int)-j))+u N*u N*F ((N:Int)-N)):=by
   show sm N (fun i=>sm N (fun j=>u i*u j*F ((i:Int)-j))+u i*u N*F ((i:Int)-N))+_=_;rw [sm_add];rfl
  have e2:sm N (fun j=>u N*u j*F ((N:Int)-j))=sm N (fun i=>u i*u N*F ((i:Int)-N)):=sm_congr (fun i hi=>by
   rw [←hF ((i:Int)-N),show -((i:Int)-N)=(N:Int)-i by omega];grind)
  have e3:sm N (fun i=>u i*u N*F ((i:Int)-N))=sm N (fun k=>u (N-1-k)*u N*F ((k:Int)+1)):=by
   rw [mj];exact sm_congr (fun i hi=>by
    rw [←hF,show -(((N-1-i:Nat):Int)-N)=(i:Int)+1 by omega])
  have e4:rS (N+1) u 0=rS N u 0+u N*u N:=rfl;have e5:sm (N+1) (fun k=>rS (N+1) u (k+1)*F ((k:Int)+1))=sm N (fun k=>rS N u (k+1)*F ((k:Int)+1))+sm N (fun k=>u (N-1-k)*u N*F ((k:Int)+1)):=by
   show sm N (fun k=>rS (N+1) u (k+1)*F ((k:Int)+1))+rS (N+1) u (N+1)*_=_;have h0:rS (N+1) u (N+1)=0:=by unfold rS;rw [Nat.sub_self];rfl
   rw [h0,←sm_add,sm_congr (g:=fun k=>rS N u (k+1)*F ((k:Int)+1)+u (N-1-k)*u N*F ((k:Int)+1))]
   ·grind
   ·intro k hk;have:rS (N+1) u (k+1)=rS N u (k+1)+u (N-1-k)*u N:=by
     unfold rS;rw [show N+1-(k+1)=(N-(k+1))+1 by omega];show sm (N-(k+1)) _+u (N-(k+1))*u (N-(k+1)+(k+1))=_;rw [show N-(k+1)+(k+1)=N by omega,show N-(k+1)=N-1-k by omega]
    rw [this];grind
  rw [e1,e2,e4,e5,e3,ih,show (N:Int)-N=0 by omega];grind
theorem EE{N M:Nat}{u:Nat→Rat}(F:Int→Rat)(h:∀ i,N≤i→u i=0)(hM:N≤M):dS N u F=dS M u F:=by
 unfold dS;rw [←bH (n:=N) (m:=M) hM (fun i h1 h2=>j0 (fun j _=>by rw [h i h1];grind))];exact sm_congr (fun i hi=>bH hM (fun j h1 h2=>by rw [h j h1];grind))
theorem rN(p:List Rat)(n:Nat):(ah p p).getD n 0=dS p.length (seq p) (fun d=>TZ d n):=by
 rw [tj,FR _ _ (fun d=>by show TZ (-d) n=TZ d n;rw [xy])];have hr:∀ k,acr p k=rS p.length (seq p) k:=by
  intro k;unfold acr rS;exact (bH (by omega) (fun i h1 h2=>by rw [aG (l:=p) (i:=i+k) (by omega)];grind)).symm
 rcases Nat.eq_zero_or_pos p.length with h|h
 ·rw [h];show (0:Rat)=(0:Rat)*_+2*(0:Rat);grind
 ·obtain ⟨N,hN⟩:∃ N,p.length=N+1:=⟨p.length-1,by omega⟩;rw [hN] at hr ⊢;have e0:sm (N+1) (fun k=>acE p k*Tf k n)=acE p 0*Tf 0 n+sm N (fun k=>acE p (k+1)*Tf (k+1) n):=ct _ _;have e1:sm (N+1) (fun k=>rS (N+1) (seq p) (k+1)*TZ ((k:Int)+1) n)=sm N (fun k=>rS (N+1) (seq p) (k+1)*TZ ((k:Int)+1) n):=by
   show sm N _+rS (N+1) (seq p) (N+1)*_=_;have h0:rS (N+1) (seq p) (N+1)=0:=by unfold rS;rw [Nat.sub_self];rfl
   rw [h0];grind
  have e2:sm N (fun k=>acE p (k+1)*Tf (k+1) n)=2*sm N (fun k=>rS (N+1) (seq p) (k+1)*TZ ((k:Int)+1) n):=by
   rw [←sm_mul];refine sm_congr (fun k hk=>?_);have h1:TZ ((k:Int)+1) n=Tf (k+1) n:=by unfold TZ;rw [show ((k:Int)+1).natAbs=k+1 by omega]
   have h2:acE p (k+1)=acr p (k+1)+acr p (k+1):=by unfold acE;rw [if_neg (Nat.succ_ne_zero k)]
   rw [h1,h2,hr];grind
  have e3:acE p 0=rS (N+1) (seq p) 0:=by unfold acE;rw [if_pos rfl,hr]
  rw [e0,e1,e2,e3];rfl
theorem sj(p q:List Rat)(G:Nat→Rat):sm (p.length+q.length) (fun m=>ap p (seq q) m*G m)=sm p.length (fun i=>sm q.length (fun k=>p.getD i 0*q.getD k 0*G (i+k))):=by
 have e1:sm (p.length+q.length) (fun m=>ap p (seq q) m*G m)=sm (p.length+q.length) (fun m=>sm p.length (fun i=>p.getD i 0*shn i (seq q) m*G m)):=sm_congr (fun m _=>by
  rw [ap_sum,nYb,←sm_mul];exact sm_congr (fun i _=>by grind))
 rw [e1,kB];refine sm_congr (fun i hi=>?_);rw [show p.length+q.length=i+(q.length+(p.length-i)) by omega,sm_split,j0 (fun m hm=>by unfold shn;rw [if_neg (by omega)];grind),sm_split];rw [j0 (n:=p.length-i) (fun m hm=>by
  have:shn i (seq q) (i+(q.length+m))=0:=by unfold shn;rw [if_pos (by omega)];exact aG (by omega)
  rw [this];grind)]
 have e2:sm q.length (fun m=>p.getD i 0*shn i (seq q) (i+m)*G (i+m))=sm q.length (fun k=>p.getD i 0*q.getD k 0*G (i+k)):=sm_congr (fun k _=>by
  have:shn i (seq q) (i+k)=q.getD k 0:=by unfold shn;rw [if_pos (by omega),Nat.add_sub_cancel_left];rfl
  rw [this])
 rw [e2];grind
theorem EF(N:Nat)(f:Nat→Nat→Rat)(u:Nat→Rat):cv (fun n=>sm N (fun i=>f i n)) u=fun n=>sm N (fun i=>cv (f i) u n):=by
 induction N with
 | zero=>funext n;exact lG u n
 | succ N ih =>
  show cv (fun n=>sm N (fun i=>f i n)+f N n) u=_;rw [ij (fun n=>sm N (fun i=>f i n)),ih];rfl
def qS(p q:List Rat)(F:Int→Rat):Rat:=sm p.length (fun i=>sm p.length (fun j=>sm q.length (fun k=>sm q.length (fun l=>p.getD i 0*p.getD j 0*(q.getD k 0*q.getD l 0)*F (((i:Int)-j)+((k:Int)-l))))))
theorem CJ(p q:List Rat)(F:Int→Rat):dS (p.length+q.length) (ap p (seq q)) F=qS p q F:=by
 unfold dS;have e1:∀ m,sm (p.length+q.length) (fun j=>ap p (seq q) m*ap p (seq q) j*F ((m:Int)-j))=ap p (seq q) m*sm p.length (fun j=>sm q.length (fun l=>p.getD j 0*q.getD l 0*F ((m:Int)-((j+l:Nat):Int)))):=by
  intro m;rw [←sj p q (fun j=>F ((m:Int)-(j:Int))),←sm_mul];exact sm_congr (fun j _=>by grind)
 rw [sm_congr (fun m _=>e1 m),sj p q (fun m=>sm p.length (fun j=>sm q.length (fun l=>p.getD j 0*q.getD l 0*F ((m:Int)-((j+l:Nat):Int)))))];unfold qS;refine sm_congr (fun i _=>?_);have e2:∀ k,p.getD i 0*q.getD k 0*sm p.length (fun j=>sm q.length (fun l=>p.getD j 0*q.getD l 0*F (((i+k:Nat):Int)-((j+l:Nat):Int))))=sm p.length (fun j=>sm q.length (fun l=>p.getD i 0*p.getD j 0*(q.getD k 0*q.getD l 0)*F (((i:Int)-j)+((k:Int)-l)))):=by
  intro k;rw [←sm_mul];refine sm_congr (fun j _=>?_);rw [←sm_mul];refine sm_congr (fun l _=>?_);rw [show ((i+k:Nat):Int)-((j+l:Nat):Int)=((i:Int)-j)+((k:Int)-l) by omega];grind
 rw [sm_congr (fun k _=>e2 k),kB]
theorem EG(N:Nat)(u:Nat→Rat)(V:Nat→Rat):cv (fun n=>dS N u (fun d=>TZ d n)) V=fun n=>sm N (fun i=>sm N (fun j=>u i*u j*cv (TZ ((i:Int)-j)) V n)):=by
 unfold dS;rw [EF N (fun i n=>sm N (fun j=>u i*u j*TZ ((i:Int)-j) n))]
 funext n
 refine sm_congr (fun i _=>?_);rw [EF N (fun j n=>u i*u j*TZ ((i:Int)-j) n)];refine sm_congr (fun j _=>?_);rw [dZ]
set_option maxHeartbeats 1000000 in
theorem fQ(p q:List Rat):ah (ag p q) (ag p q)=ag (ah p p) (ah q q):=by
 have hA:seq (ah p p)=fun n=>dS p.length (seq p) (fun d=>TZ d n):=funext (rN p)
 have hB:seq (ah q q)=fun n=>dS q.length (seq q) (fun d=>TZ d n):=funext (rN q)
 have key:∀ n,(ah (ag p q) (ag p q)).getD n 0=(ag (ah p p) (ah q q)).getD n 0:=by
  intro n;have hl:(ag p q).length≤p.length+q.length:=by
   unfold ag;refine nXe (af _) ?_;have:=af p;have:=af q;rw [nXk,nXs];omega
  have e1:(ah (ag p q) (ag p q)).getD n 0=qS p q (fun d=>TZ d n):=by
   have e0:=EE (N:=(ag p q).length) (M:=p.length+q.length) (u:=seq (ag p q)) (fun d=>TZ d n) (fun i hi=>aG hi) hl;rw [rN,e0,bu,CJ]
  have e2:(ag (ah p p) (ah q q)).getD n 0=sm p.length (fun i=>sm p.length (fun j=>p.getD i 0*p.getD j 0*sm q.length (fun k=>sm q.length (fun l=>q.getD k 0*q.getD l 0*cv (TZ ((i:Int)-j)) (TZ ((k:Int)-l)) n)))):=by
   show seq (ag (ah p p) (ah q q)) n=_;rw [bu,cK,hA,EG];refine sm_congr (fun i _=>sm_congr (fun j _=>?_));refine congrArg (fun t=>p.getD i 0*p.getD j 0*t) ?_;rw [cf,hB,EG];refine sm_congr (fun k _=>sm_congr (fun l _=>?_));refine congrArg (fun t=>q.getD k 0*q.getD l 0*t) ?_;rw [cf]
  have e3:(2:Rat)*qS p q (fun d=>TZ d n)=2*sm p.length (fun i=>sm p.length (fun j=>p.getD i 0*p.getD j 0*sm q.length (fun k=>sm q.length (fun l=>q.getD k 0*q.getD l 0*cv (TZ ((i:Int)-j)) (TZ ((k:Int)-l)) n)))):=by
   unfold qS;rw [←sm_mul,←sm_mul];refine sm_congr (fun i _=>?_);rw [←sm_mul,←sm_mul];refine sm_congr (fun j _=>?_);have e4:sm q.length (fun k=>sm q.length (fun l=>p.getD i 0*p.getD j 0*(q.getD k 0*q.getD l 0)*TZ (((i:Int)-j)+((k:Int)-l)) n))=sm q.length (fun k=>sm q.length (fun l=>p.getD i 0*p.getD j 0*(q.getD k 0*q.getD l 0)*TZ (((i:Int)-j)-((k:Int)-l)) n)):=by
    rw [kB];refine sm_congr (fun k _=>sm_congr (fun l _=>?_));rw [show ((i:Int)-j)+((l:Int)-k)=((i:Int)-j)-((k:Int)-l) by omega];grind
   have e5:p.getD i 0*p.getD j 0*sm q.length (fun k=>sm q.length (fun l=>q.getD k 0*q.getD l 0*cv (TZ ((i:Int)-j)) (TZ ((k:Int)-l)) n))=sm q.length (fun k=>sm q.length (fun l=>p.getD i 0*p.getD j 0*(q.getD k 0*q.getD l 0)*cv (TZ ((i:Int)-j)) (TZ ((k:Int)-l)) n)):=by
    rw [←sm_mul];refine sm_congr (fun k _=>?_);rw [←sm_mul];exact sm_congr (fun l _=>by grind)
   rw [e5];have e6:(2:Rat)*sm q.length (fun k=>sm q.length (fun l=>p.getD i 0*p.getD j 0*(q.getD k 0*q.getD l 0)*cv (TZ ((i:Int)-j)) (TZ ((k:Int)-l)) n))=sm q.length (fun k=>sm q.length (fun l=>p.getD i 0*p.getD j 0*(q.getD k 0*q.getD l 0)*TZ (((i:Int)-j)+((k:Int)-l)) n))+sm q.length (fun k=>sm q.length (fun l=>p.getD i 0*p.getD j 0*(q.getD k 0*q.getD l 0)*TZ (((i:Int)-j)-((k:Int)-l)) n)):=by
    rw [←sm_mul,←sm_add];refine sm_congr (fun k _=>?_);rw [←sm_mul,←sm_add];refine sm_congr (fun l _=>?_);have:=E7 ((i:Int)-j) ((k:Int)-l) n;grind
   rw [e6,←e4];grind
  rw [e1,e2];grind
 have h1:tz (ah (ag p q) (ag p q))=ah (ag p q) (ag p q):=av _;have h2:tz (ag (ah p p) (ah q q))=ag (ah p p) (ah q q):=av _;rw [←h1,←h2];exact dY key
def FrB(S:Nat)(l:List Rat):Prop:=1≤S∧∃ D,0<D∧D<W32 ^ S∧FrL S D l
theorem gE{S U:Nat}(h:S≤U):W32 ^ S≤W32 ^ U:=nXo aC h
theorem FrB.mono{S U:Nat}{l:List Rat}(h:FrB S l)(hS:S≤U):FrB U l:=by
 obtain ⟨h0,D,h1,h2,h3⟩:=h;exact ⟨by omega,D,h1,nXm h2 (gE hS),h3.mono hS⟩
theorem FrB.sz{S:Nat}{l:List Rat}(h:FrB S l):SzL S l:=by
 obtain ⟨h0,D,h1,h2,h3⟩:=h;exact h3.sz h0 h1 h2
theorem FrB.tz{S:Nat}{l:List Rat}(h:FrB S l):FrB S (tz l):=by
 obtain ⟨h0,D,h1,h2,h3⟩:=h;exact ⟨h0,D,h1,h2,h3.tz⟩
theorem j6{S U D E:Nat}(hD:D<W32 ^ S)(hE:E<W32 ^ U)(h:0<E):D*E<W32 ^ (S+U):=by
 rw [Nat.pow_add];exact Nat.mul_lt_mul_of_lt_of_lt hD hE
theorem FrB.mul{S U:Nat}{p q:List Rat}(hp:FrB S p)(hq:FrB U q)(hl:p.length≤1000000):FrB (S+U+1) (ag p q):=by
 obtain ⟨h0,D,h1,h2,h3⟩:=hp;obtain ⟨k0,E,k1,k2,k3⟩:=hq;exact ⟨by omega,D*E,Nat.mul_pos h1 k1,nXm (j6 h2 k2 k1) (gE (by omega)),BN h3 k3 (nXe hl (by decide))⟩
theorem FrB.add{S U:Nat}{p q:List Rat}(hp:FrB S p)(hq:FrB U q):FrB (S+U+1) (aS p q):=by
 obtain ⟨h0,D,h1,h2,h3⟩:=hp;obtain ⟨k0,E,k1,k2,k3⟩:=hq;refine ⟨by omega,D*E,Nat.mul_pos h1 k1,nXm (j6 h2 k2 k1) (gE (by omega)),C0 (h3.den k2) ?_⟩;have:=k3.denl h2
 rwa [nYh U S] at this
theorem FrB.neg{S:Nat}{p:List Rat}(hp:FrB S p):FrB S (p.map (fun x=>-x)):=by
 obtain ⟨h0,D,h1,h2,h3⟩:=hp;exact ⟨h0,D,h1,h2,fun x hx=>by
  obtain ⟨y,hy,rfl⟩:=nYe.1 hx;exact (h3 y hy).neg⟩
theorem FrB.cross{S U:Nat}{p q:List Rat}(hp:FrB S p)(hq:FrB U q)(hl:p.length≤21)(hl2:q.length≤21):FrB (S+U+4) (ah p q):=by
 obtain ⟨h0,D,h1,h2,h3⟩:=hp;obtain ⟨k0,E,k1,k2,k3⟩:=hq;exact ⟨by omega,D*E,Nat.mul_pos h1 k1,nXm (j6 h2 k2 k1) (gE (by omega)),zX h3 k3 hl hl2⟩
theorem FrB.of{k n:Nat}{p:List Rat}(h:SzL k p)(hl:p.length≤n):FrB (k*(n+1)+1) p:=by
 obtain ⟨D,h1,h2,h3⟩:=AD p h;have e:=nXf k (show p.length+1≤n+1 by omega);have e2:=nXf k (show p.length≤n+1 by omega);exact ⟨by omega,D,h1,nXm h2 (gE (by omega)),FrL.mono h3 (by omega)⟩
theorem FrB.nil:FrB 1 []:=⟨by decide,1,by decide,by decide,fun x hx=>by simp at hx⟩
theorem FrB.range{S n:Nat}{l:List Rat}(h:FrB S l){f:Nat→Rat}(hf:∀ i,i<n→∃ z,Wz 1 z∧f i=z*l.getD i 0):FrB (S+1) ((List.range n).map f):=by
 obtain ⟨h0,D,h1,h2,h3⟩:=h;refine ⟨by omega,D,h1,nXm h2 (gE (by omega)),FrL.range fun i hi=>?_⟩;obtain ⟨z,hz,e⟩:=hf i hi;rw [e];exact Fr.imul hz (h3.at i)
end Go.Proofs.YtohahgiidooijaaGreat
