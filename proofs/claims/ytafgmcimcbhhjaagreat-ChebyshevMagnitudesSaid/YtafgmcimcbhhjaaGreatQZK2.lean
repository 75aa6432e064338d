/- Tb, Bsz -/
import Derived.Test.YtafgmcimcbhhjaaGreatQZM13
import Derived.Test.YtafgmcimcbhhjaaGreatQZM11
import Derived.Test.YtafgmcimcbhhjaaGreatQZM22
set_option linter.unusedVariables false
namespace Go.Proofs.YtafgmcimcbhhjaaGreat
open Go.RowKit Go.Front Go.Num
attribute [local go_sem] XW.cell XW.frozen
end Go.Proofs.YtafgmcimcbhhjaaGreat
namespace Go.Proofs.YtafgmcimcbhhjaaGreat
open Go.RowKit Go.Front Go.Num
theorem vC(xs:List Int)(d:Nat):(lX xs d).length≤d+1:=by
 unfold lX;refine nXe (ag _) ?_;rw [nXk,nXj];omega
theorem yR(xs:List Int)(d:Nat):SzL 1 (lX xs d):=SzL.tz (nc _)
end Go.Proofs.YtafgmcimcbhhjaaGreat
/- Fr, Run, MgP, FrB -/
namespace Go.Proofs.YtafgmcimcbhhjaaGreat
open Go.RowKit Go.Front Go.Num Stab
theorem Fr.mono{S S' D:Nat}{q:Rat}(h:Fr S D q)(hS:S≤S'):Fr S' D q:=Wz.mono (q:=q*(D:Rat)) h hS
theorem Fr.add{S D:Nat}{a b:Rat}(ha:Fr S D a)(hb:Fr S D b):Fr (S+1) D (a+b):=by
 have:=Wz.add (a:=a*(D:Rat)) (b:=b*(D:Rat)) ha hb;rw [←Rat.add_mul] at this;exact this
theorem Fr.mul{S U D E:Nat}{a b:Rat}(ha:Fr S D a)(hb:Fr U E b):Fr (S+U) (D*E) (a*b):=by
 have:=Wz.mul (a:=a*(D:Rat)) (b:=b*(E:Rat)) ha hb;have e:a*b*((D*E:Nat):Rat)=a*(D:Rat)*(b*(E:Rat)):=by rw [Rat.natCast_mul];grind
 unfold Fr;rw [e];exact this
theorem Fr.one{S:Nat}{q:Rat}(h:Wz S q):Fr S 1 q:=by
 unfold Fr;rw [show q*((1:Nat):Rat)=q from Rat.mul_one q];exact h
theorem Fr.muli{S U D:Nat}{a b:Rat}(ha:Fr S D a)(hb:Wz U b):Fr (S+U) D (a*b):=by
 have:=ha.mul (Fr.one hb)
 rwa [Nat.mul_one] at this
theorem Ae{S:Nat}{f:Nat→Rat}:∀ n,(∀ i,i<n→Wz S (f i))→Wh (sm n f)∧(sm n f).num.natAbs+n≤n*W32 ^ S:=by
 intro n;induction n with
 | zero=>intro _;exact ⟨rfl,Nat.zero_le (0*W32 ^ S)⟩
 | succ n ih =>
  intro h;obtain ⟨h1,h2⟩:=ih (fun i hi=>h i (by omega));obtain ⟨h3,h4⟩:=h n (by omega);show Wh (sm n f+f n)∧(sm n f+f n).num.natAbs+(n+1)≤_;refine ⟨h1.add h3,?_⟩;have e:(sm n f+f n)=(((sm n f).num+(f n).num:Int):Rat):=by rw [Rat.intCast_add,←h1.eq,←h3.eq]
  rw [e,Rat.num_intCast];have:=Int.natAbs_add_le (sm n f).num (f n).num;rw [nXx];omega
theorem Wz.sm{S n:Nat}{f:Nat→Rat}(h:∀ i,i<n→Wz S (f i))(hn:n≤W32):Wz (S+1) (sm n f):=by
 obtain ⟨h1,h2⟩:=Ae n h;refine ⟨h1,?_⟩;have h3:n*W32 ^ S≤W32 ^ (S+1):=by rw [nXt,nYc];exact nXf _ hn
 rcases Nat.eq_zero_or_pos n with h0|h0
 ·subst h0;have h4:(Stab.sm 0 f).num.natAbs=0:=rfl;have:=nYk (n:=S+1) au;omega
 ·omega
theorem Fr.sm{S D n:Nat}{f:Nat→Rat}(h:∀ i,i<n→Fr S D (f i))(hn:n≤W32):Fr (S+1) D (sm n f):=by
 have:=Wz.sm (f:=fun i=>f i*(D:Rat)) (S:=S) (n:=n) h hn;have e:Stab.sm n (fun i=>f i*(D:Rat))=Stab.sm n f*(D:Rat):=by
  rw [sm_congr (g:=fun i=>(D:Rat)*f i) (fun i _=>nYa _ _),sm_mul,nYa]
 rw [e] at this;exact this
def FrL(S D:Nat)(l:List Rat):Prop:=∀ x ∈ l,Fr S D x
theorem FrL.mono{S S' D:Nat}{l:List Rat}(h:FrL S D l)(hS:S≤S'):FrL S' D l:=fun x hx=>(h x hx).mono hS
theorem FrL.at{S D:Nat}{l:List Rat}(h:FrL S D l)(i:Nat):Fr S D (l.getD i 0):=by
 rcases Nat.lt_or_ge i l.length with hi|hi
 ·exact h _ (gL hi)
 ·rw [aT hi];exact Fr.zero _ _
theorem FrL.of{S D:Nat}{l:List Rat}(h:∀ i,Fr S D (l.getD i 0)):FrL S D l:=fun x hx=>by
 obtain ⟨i,-,rfl⟩:=dA hx;exact h i
theorem FrL.tz{S D:Nat}{l:List Rat}(h:FrL S D l):FrL S D (tz l):=FrL.of fun i=>by rw [aG];exact h.at i
theorem FrL.sz{S D:Nat}{l:List Rat}(h:FrL S D l)(hS:1≤S)(hD:0<D)(hl:D<W32 ^ S):SzL S l:=fun x hx=>(h x hx).sz hS hD hl
theorem FrL.range{S D n:Nat}{f:Nat→Rat}(h:∀ i,i<n→Fr S D (f i)):FrL S D ((List.range n).map f):=fun x hx=>by
 obtain ⟨i,hi,rfl⟩:=nYd.1 hx;exact h i (List.mem_range.1 hi)
theorem AD{S U D E:Nat}{p q:List Rat}(hp:FrL S D p)(hq:FrL U E q)(hl:p.length≤W32)(n:Nat):Fr (S+U+1) (D*E) (ap p (seq q) n):=by
 rw [ap_sum];refine Fr.sm (fun i _=>(hp.at i).mul ?_) hl;unfold shn;split
 ·exact hq.at _
 ·exact Fr.zero _ _
theorem wZ{S U D E:Nat}{p q:List Rat}(hp:FrL S D p)(hq:FrL U E q)(hl:p.length≤W32):FrL (S+U+1) (D*E) (aw p q):=by
 unfold aw;exact FrL.tz (FrL.range fun i _=>AD hp.tz hq.tz (nXe (ag p) hl) i)
theorem sQ{S U D E k:Nat}{b c:List Rat}(hb:FrL S D b)(hc:FrL U E c)(hl:b.length≤W32):Fr (S+U+1) (D*E) (iK b c k):=by
 unfold iK;exact Fr.sm (fun i _=>(hb.at i).mul (hc.at _)) (by omega)
theorem zF{S U D E k:Nat}{b c:List Rat}(hb:FrL S D b)(hc:FrL U E c)(hl:b.length≤W32)(hl2:c.length≤W32):Fr (S+U+2) (D*E) (crE b c k):=by
 unfold crE;split
 ·exact (sQ hb hc hl).mono (by omega)
 ·refine (sQ hb hc hl).add ?_;have:=sQ (k:=k) hc hb hl2
  rwa [nYc,nYg U S] at this
theorem AH{k i:Nat}(hk:k≤20):Wz 1 (Tf k i):=by
 have h:=(sZ k).1;have hb:3 ^ k<W32 ^ 1:=nYi (nXo (by decide) hk) (by decide);unfold Tf;rcases Nat.lt_or_ge i (chP k).1.length with hi|hi
 ·obtain ⟨h1,h2⟩:=h _ (gL hi);exact ⟨h1,nYi h2 hb⟩
 ·rw [aT hi];exact Wz.zero 1
theorem zo{S D:Nat}{c:List Rat}(h:FrL S D c)(hl:c.length≤21):FrL (S+2) D (fbV c):=by
 unfold fbV;refine FrL.tz (FrL.range fun i _=>?_);unfold fbS;refine (Fr.sm (S:=S+1) (fun k hk=>(h.at k).muli (AH (by omega))) (nXe hl (by decide))).mono (by omega)
theorem uX{S U D E:Nat}{p q:List Rat}(hp:FrL S D p)(hq:FrL U E q)(hl:p.length≤21)(hl2:q.length≤21):FrL (S+U+4) (D*E) (aC p q):=by
 have h1:=ag p;have h2:=ag q;have h3:21≤W32:=by decide
 unfold aC;refine zo (S:=S+U+2) (FrL.range fun i _=>zF hp.tz hq.tz (by omega) (by omega)) ?_;rw [nXk,nXs];omega
theorem vQ{S U D:Nat}{L x:Rat}(hL:Wz U L)(h:Wz S (x*(D:Rat)*L)):Fr S (D*L.num.natAbs) x:=by
 have e0:x*((D*L.num.natAbs:Nat):Rat)=x*(D:Rat)*((L.num.natAbs:Nat):Rat):=by rw [Rat.natCast_mul,nYb]
 unfold Fr;rw [e0];have e1:=hL.1.eq;have e2:((L.num.natAbs:Nat):Rat)=(((L.num.natAbs:Nat):Int):Rat):=rfl;rcases Int.natAbs_eq L.num with h1|h1
 ·rw [e2,←h1,←e1];exact h
 ·have e3:(((L.num.natAbs:Nat):Int):Rat)=-L:=by
   have:((L.num.natAbs:Nat):Int)=-L.num:=by omega
   rw [this,Rat.intCast_neg,←e1]
  rw [e2,e3,Rat.mul_neg];exact h.neg
theorem iY{U E:Nat}{q:List Rat}(hq:FrL U E q):Wz U (aV q*(E:Rat)):=hq.at _
def ldD(q:List Rat)(E:Nat):Nat:=(aV q*(E:Rat)).num.natAbs
theorem oK{U E:Nat}{q:List Rat}(hq:FrL U E q):ldD q E<W32 ^ U:=(iY hq).2
theorem kY{U E:Nat}{q:List Rat}(hq:FrL U E q)(h0:aV q≠0)(hE:0<E):0<ldD q E:=by
 rcases Nat.eq_zero_or_pos (ldD q E) with h|h
 ·exfalso;have h1:(aV q*(E:Rat)).num=0:=by unfold ldD at h;omega
  have h2:=(iY hq).1.eq;rw [h1] at h2;rcases nXq.1 h2 with h3|h3
  ·exact h0 h3
  ·have:((E:Nat):Rat)=(((E:Nat):Int):Rat):=rfl;rw [this] at h3;have h4:=congrArg Rat.num h3;rw [Rat.num_intCast] at h4;have:((0:Rat)).num=0:=rfl;omega
 ·exact h
theorem nY{S U D E:Nat}{p q:List Rat}(hp:FrL S D p)(hq:FrL U E q)(h0:aV q≠0):FrL (S+U+1) (D*ldD q E) (cX p q):=by
 unfold cX;refine FrL.tz (FrL.range fun i _=>?_);refine vQ (iY hq) ?_;have h1:Wz (S+U) (p.getD i 0*(D:Rat)*(aV q*(E:Rat))):=Wz.mul (hp.at i) (iY hq);have h2:Wz (S+U) (aV p*(D:Rat)*(q.getD (i-(p.length-q.length)) 0*(E:Rat))):=Wz.mul (hp.at _) (hq.at _);have h3:=cY (a:=aV p) h0;split
 ·have e:(p.getD i 0-aV p / aV q*q.getD (i-(p.length-q.length)) 0)*(D:Rat)*(aV q*(E:Rat))=p.getD i 0*(D:Rat)*(aV q*(E:Rat))-aV p*(D:Rat)*(q.getD (i-(p.length-q.length)) 0*(E:Rat)):=by
   generalize aV p / aV q=c at *
   rw [←h3];grind
  rw [e];exact h1.sub h2
 ·have e:(p.getD i 0-0)*(D:Rat)*(aV q*(E:Rat))=p.getD i 0*(D:Rat)*(aV q*(E:Rat)):=by grind
  rw [e];exact h1.mono (by omega)
theorem rJ{S D:Nat}{p:List Rat}(hp:FrL S D p):FrL S (ldD (tz p) D) (bj p):=by
 unfold bj;split
 ·intro x hx;simp at hx
 ·next h =>
  refine FrL.tz fun x hx=>?_
  obtain ⟨y,hy,rfl⟩:=nYd.1 hx;have h1:=vQ (S:=S) (D:=1) (x:=y*(((1:Int):Rat) / aV (tz p))) (iY hp.tz) (by
   have h2:=cY (a:=((1:Int):Rat)) (bR h);have e:y*(((1:Int):Rat) / aV (tz p))*((1:Nat):Rat)*(aV (tz p)*(D:Rat))=y*(D:Rat):=by
    have h3:((1:Int):Rat)=1:=rfl;have h4:((1:Nat):Rat)=1:=rfl;rw [h4];rw [h3] at h2 ⊢;generalize 1 / aV (tz p)=c at *
    grind
   rw [e];exact hp.tz y hy)
  rwa [Nat.one_mul] at h1
theorem AA(p:List Rat)(u:Nat→Rat):ap (tz p) u=ap p u:=by rw [fo,fo,aN]
theorem AC(a:List Rat)(u:Nat→Rat)(n:Nat):ap a u n=a.getD 0 0*u n+sm n (fun k=>a.getD (k+1) 0*u (n-1-k)):=by
 rw [fo];unfold cv;rw [ck]
 congr 1
 exact sm_congr (fun i hi=>by show a.getD (i+1) 0*u (n-(i+1))=_;rw [show n-(i+1)=n-1-i by omega])
theorem cD(p q:List Rat):seq (aw p q)=ap p (seq q):=by rw [uj,AA,aN]
def TZ(d:Int)(n:Nat):Rat:=Tf d.natAbs n
theorem tk(d:Int):TZ (-d)=TZ d:=by funext n;unfold TZ;rw [Int.natAbs_neg]
theorem nL:TZ 0=fun n=>if n=0 then 1 else 0:=funext fun n=>lx n
theorem jO(d:Int)(n:Nat):2*sh (TZ d) n=TZ (d+1) n+TZ (d-1) n:=by
 rcases Nat.eq_zero_or_pos d.natAbs with h|h
 ·obtain rfl:d=0:=by omega
  rw [nL];show _=Tf 1 n+Tf 1 n;rw [mK];cases n with
  | zero=>simp [sh];exact (Rat.add_zero 0).symm
  | succ n =>
   show 2*(if n=0 then (1:Rat) else 0)=_;by_cases h1:n=0
   ·subst h1;rw [if_pos rfl,if_pos rfl];grind
   ·rw [if_neg h1,if_neg (by omega)];grind
 ·obtain ⟨m,hm⟩:∃ m,d.natAbs=m+1:=⟨d.natAbs-1,by omega⟩;have e:2*sh (TZ d) n=Tf (m+2) n+Tf m n:=by
   rw [jN];unfold TZ;rw [hm];cases n with
   | zero=>simp only [sh,Nat.lt_irrefl,if_false];grind
   | succ n=>simp only [sh,Nat.zero_lt_succ,if_true,Nat.add_sub_cancel];grind
  rw [e];unfold TZ;rcases Int.lt_or_gt_of_ne (show d≠0 by omega) with h1|h1
  ·rw [show (d+1).natAbs=m by omega,show (d-1).natAbs=m+2 by omega];grind
  ·rw [show (d+1).natAbs=m+2 by omega,show (d-1).natAbs=m by omega]
theorem vZ(t u:Nat→Rat):cv t (sh u)=sh (cv t u):=by rw [cq,xL,cq]
theorem xM(t s u:Nat→Rat):cv u (fun n=>s n+t n)=fun n=>cv u s n+cv u t n:=by rw [cq,jI,cq s,cq t]
theorem sO(c:Rat)(s u:Nat→Rat):cv u (fun n=>c*s n)=fun n=>c*cv u s n:=by rw [cq,fl,cq s]
theorem tj(d:Int):∀ e:Nat,(∀ n,2*cv (TZ d) (TZ e) n=TZ (d+e) n+TZ (d-e) n)∧∀ n,2*cv (TZ d) (TZ ((e+1:Nat):Int)) n=TZ (d+(e+1:Nat)) n+TZ (d-(e+1:Nat)) n:=by
 intro e;induction e with
 | zero =>
  have h0:cv (TZ d) (TZ ((0:Nat):Int))=TZ d:=by
   rw [show (((0:Nat):Int))=0 from rfl,nL,cq,sN]
  refine ⟨fun n=>?_,fun n=>?_⟩
  ·rw [h0,show d+((0:Nat):Int)=d by omega,show d-((0:Nat):Int)=d by omega];grind
  ·have e1:TZ ((0+1:Nat):Int)=sh (TZ 0):=by
    funext n
    have h1:=jO 0 n;rw [show (0:Int)+1=1 from rfl,show (0:Int)-1=-1 from rfl,tk] at h1;show TZ 1 n=_;grind
   rw [e1,vZ,nL,cq,sN];exact jO d n
 | succ e ih =>
  obtain ⟨i1,i2⟩:=ih;refine ⟨i2,fun n=>?_⟩;have e1:TZ ((e+1+1:Nat):Int)=fun n=>2*sh (TZ ((e+1:Nat):Int)) n+(-1)*TZ (e:Int) n:=by
   funext n
   have h1:=jO ((e+1:Nat):Int) n;rw [show ((e+1:Nat):Int)+1=((e+1+1:Nat):Int) by omega,show ((e+1:Nat):Int)-1=(e:Int) by omega] at h1;grind
  rw [e1,xM (fun n=>(-1)*TZ (e:Int) n) (fun n=>2*sh (TZ ((e+1:Nat):Int)) n),sO,sO,vZ];show 2*(2*sh (cv (TZ d) (TZ ((e+1:Nat):Int))) n+(-1)*cv (TZ d) (TZ (e:Int)) n)=_;have h2:2*(2*sh (cv (TZ d) (TZ ((e+1:Nat):Int))) n)=TZ (d+(e+1+1:Nat)) n+TZ (d+e) n+(TZ (d-e) n+TZ (d-(e+1+1:Nat)) n):=by
   have h3:=jO (d+(e+1:Nat)) n;have h4:=jO (d-(e+1:Nat)) n;rw [show d+((e+1:Nat):Int)+1=d+(e+1+1:Nat) by omega,show d+((e+1:Nat):Int)-1=d+e by omega] at h3;rw [show d-((e+1:Nat):Int)+1=d-e by omega,show d-((e+1:Nat):Int)-1=d-(e+1+1:Nat) by omega] at h4;rw [←h3,←h4];have h5:2*sh (cv (TZ d) (TZ ((e+1:Nat):Int))) n=sh (TZ (d+(e+1:Nat))) n+sh (TZ (d-(e+1:Nat))) n:=by
    cases n with
    | zero=>simp only [sh];grind
    | succ n=>simp only [sh];exact i2 n
   rw [h5];grind
  have h6:=i1 n;grind
theorem zU(d e:Int)(n:Nat):2*cv (TZ d) (TZ e) n=TZ (d+e) n+TZ (d-e) n:=by
 rcases Int.lt_or_le e 0 with h|h
 ·obtain ⟨m,hm⟩:∃ m:Nat,e=-(m:Int):=⟨e.natAbs,by omega⟩;subst hm;rw [tk,(tj d m).1 n,show d+-(m:Int)=d-m by omega,show d - -(m:Int)=d+m by omega];grind
 ·obtain ⟨m,hm⟩:∃ m:Nat,e=(m:Int):=⟨e.natAbs,by omega⟩;subst hm;exact (tj d m).1 n
def dS(N:Nat)(u:Nat→Rat)(F:Int→Rat):Rat:=sm N (fun i=>sm N (fun j=>u i*u j*F ((i:Int)-j)))
def rS(N:Nat)(u:Nat→Rat)(k:Nat):Rat:=sm (N-k) (fun i=>u i*u (i+k))
theorem kH{n:Nat}{f:Nat→Rat}(h:∀ i,i<n→f i=0):sm n f=0:=by rw [sm_congr (g:=fun _=>0) h,sm_zero]
theorem Av(u:Nat→Rat)(F:Int→Rat)(hF:∀ d,F (-d)=F d):∀ N,dS N u F=rS N u 0*F 0+2*sm N (fun k=>rS N u (k+1)*F ((k:Int)+1)):=by
 intro N;induction N with
 | zero=>show (0:Rat)=(0:Rat)*F 0+2*(0:Rat);grind
 | succ N ih =>
  have e1:dS (N+1) u F=dS N u F+sm N (fun i=>u i*u N*F ((i:Int)-N))+(sm N (fun j=>u N*u j*F ((N:Int)-j))+u N*u N*F ((N:Int)-N)):=by
   show sm N (fun i=>sm N (fun j=>u i*u j*F ((i:Int)-j))+u i*u N*F ((i:Int)-N))+_=_;rw [fN];rfl
  have e2:sm N (fun j=>u N*u j*F ((N:Int)-j))=sm N (fun i=>u i*u N*F ((i:Int)-N)):=sm_congr (fun i hi=>by
   rw [←hF ((i:Int)-N),show -((i:Int)-N)=(N:Int)-i by omega];grind)
  have e3:sm N (fun i=>u i*u N*F ((i:Int)-N))=sm N (fun k=>u (N-1-k)*u N*F ((k:Int)+1)):=by
   rw [qD];exact sm_congr (fun i hi=>by
    rw [←hF,show -(((N-1-i:Nat):Int)-N)=(i:Int)+1 by omega])
  have e4:rS (N+1) u 0=rS N u 0+u N*u N:=rfl;have e5:sm (N+1) (fun k=>rS (N+1) u (k+1)*F ((k:Int)+1))=sm N (fun k=>rS N u (k+1)*F ((k:Int)+1))+sm N (fun k=>u (N-1-k)*u N*F ((k:Int)+1)):=by
   show sm N (fun k=>rS (N+1) u (k+1)*F ((k:Int)+1))+rS (N+1) u (N+1)*_=_;have h0:rS (N+1) u (N+1)=0:=by unfold rS;rw [Nat.sub_self];rfl
   rw [h0,←fN,sm_congr (g:=fun k=>rS N u (k+1)*F ((k:Int)+1)+u (N-1-k)*u N*F ((k:Int)+1))]
   ·grind
   ·intro k hk;have:rS (N+1) u (k+1)=rS N u (k+1)+u (N-1-k)*u N:=by
     unfold rS;rw [show N+1-(k+1)=(N-(k+1))+1 by omega];show sm (N-(k+1)) _+u (N-(k+1))*u (N-(k+1)+(k+1))=_;rw [show N-(k+1)+(k+1)=N by omega,show N-(k+1)=N-1-k by omega]
    rw [this];grind
  rw [e1,e2,e4,e5,e3,ih,show (N:Int)-N=0 by omega];grind
theorem zB{N M:Nat}{u:Nat→Rat}(F:Int→Rat)(h:∀ i,N≤i→u i=0)(hM:N≤M):dS N u F=dS M u F:=by
 unfold dS;rw [←bZ (n:=N) (m:=M) hM (fun i h1 h2=>kH (fun j _=>by rw [h i h1];grind))];exact sm_congr (fun i hi=>bZ hM (fun j h1 h2=>by rw [h j h1];grind))
theorem oE(p:List Rat)(n:Nat):(aC p p).getD n 0=dS p.length (seq p) (fun d=>TZ d n):=by
 rw [pN,Av _ _ (fun d=>by show TZ (-d) n=TZ d n;rw [tk])];have hr:∀ k,acr p k=rS p.length (seq p) k:=by
  intro k;unfold acr rS;exact (bZ (by omega) (fun i h1 h2=>by rw [aT (l:=p) (i:=i+k) (by omega)];grind)).symm
 rcases Nat.eq_zero_or_pos p.length with h|h
 ·rw [h];show (0:Rat)=(0:Rat)*_+2*(0:Rat);grind
 ·obtain ⟨N,hN⟩:∃ N,p.length=N+1:=⟨p.length-1,by omega⟩;rw [hN] at hr ⊢;have e0:sm (N+1) (fun k=>acE p k*Tf k n)=acE p 0*Tf 0 n+sm N (fun k=>acE p (k+1)*Tf (k+1) n):=ck _ _;have e1:sm (N+1) (fun k=>rS (N+1) (seq p) (k+1)*TZ ((k:Int)+1) n)=sm N (fun k=>rS (N+1) (seq p) (k+1)*TZ ((k:Int)+1) n):=by
   show sm N _+rS (N+1) (seq p) (N+1)*_=_;have h0:rS (N+1) (seq p) (N+1)=0:=by unfold rS;rw [Nat.sub_self];rfl
   rw [h0];grind
  have e2:sm N (fun k=>acE p (k+1)*Tf (k+1) n)=2*sm N (fun k=>rS (N+1) (seq p) (k+1)*TZ ((k:Int)+1) n):=by
   rw [←sm_mul];refine sm_congr (fun k hk=>?_);have h1:TZ ((k:Int)+1) n=Tf (k+1) n:=by unfold TZ;rw [show ((k:Int)+1).natAbs=k+1 by omega]
   have h2:acE p (k+1)=acr p (k+1)+acr p (k+1):=by unfold acE;rw [if_neg (Nat.succ_ne_zero k)]
   rw [h1,h2,hr];grind
  have e3:acE p 0=rS (N+1) (seq p) 0:=by unfold acE;rw [if_pos rfl,hr]
  rw [e0,e1,e2,e3];rfl
theorem oV(p q:List Rat)(G:Nat→Rat):sm (p.length+q.length) (fun m=>ap p (seq q) m*G m)=sm p.length (fun i=>sm q.length (fun k=>p.getD i 0*q.getD k 0*G (i+k))):=by
 have e1:sm (p.length+q.length) (fun m=>ap p (seq q) m*G m)=sm (p.length+q.length) (fun m=>sm p.length (fun i=>p.getD i 0*shn i (seq q) m*G m)):=sm_congr (fun m _=>by
  rw [ap_sum,nYa,←sm_mul];exact sm_congr (fun i _=>by grind))
 rw [e1,je];refine sm_congr (fun i hi=>?_);rw [show p.length+q.length=i+(q.length+(p.length-i)) by omega,sm_split,kH (fun m hm=>by unfold shn;rw [if_neg (by omega)];grind),sm_split];rw [kH (n:=p.length-i) (fun m hm=>by
  have:shn i (seq q) (i+(q.length+m))=0:=by unfold shn;rw [if_pos (by omega)];exact aT (by omega)
  rw [this];grind)]
 have e2:sm q.length (fun m=>p.getD i 0*shn i (seq q) (i+m)*G (i+m))=sm q.length (fun k=>p.getD i 0*q.getD k 0*G (i+k)):=sm_congr (fun k _=>by
  have:shn i (seq q) (i+k)=q.getD k 0:=by unfold shn;rw [if_pos (by omega),Nat.add_sub_cancel_left];rfl
  rw [this])
 rw [e2];grind
theorem zC(N:Nat)(f:Nat→Nat→Rat)(u:Nat→Rat):cv (fun n=>sm N (fun i=>f i n)) u=fun n=>sm N (fun i=>cv (f i) u n):=by
 induction N with
 | zero=>funext n;exact jH u n
 | succ N ih =>
  show cv (fun n=>sm N (fun i=>f i n)+f N n) u=_;rw [jI (fun n=>sm N (fun i=>f i n)),ih];rfl
def qS(p q:List Rat)(F:Int→Rat):Rat:=sm p.length (fun i=>sm p.length (fun j=>sm q.length (fun k=>sm q.length (fun l=>p.getD i 0*p.getD j 0*(q.getD k 0*q.getD l 0)*F (((i:Int)-j)+((k:Int)-l))))))
theorem xK(p q:List Rat)(F:Int→Rat):dS (p.length+q.length) (ap p (seq q)) F=qS p q F:=by
 unfold dS;have e1:∀ m,sm (p.length+q.length) (fun j=>ap p (seq q) m*ap p (seq q) j*F ((m:Int)-j))=ap p (seq q) m*sm p.length (fun j=>sm q.length (fun l=>p.getD j 0*q.getD l 0*F ((m:Int)-((j+l:Nat):Int)))):=by
  intro m;rw [←oV p q (fun j=>F ((m:Int)-(j:Int))),←sm_mul];exact sm_congr (fun j _=>by grind)
 rw [sm_congr (fun m _=>e1 m),oV p q (fun m=>sm p.length (fun j=>sm q.length (fun l=>p.getD j 0*q.getD l 0*F ((m:Int)-((j+l:Nat):Int)))))];unfold qS;refine sm_congr (fun i _=>?_);have e2:∀ k,p.getD i 0*q.getD k 0*sm p.length (fun j=>sm q.length (fun l=>p.getD j 0*q.getD l 0*F (((i+k:Nat):Int)-((j+l:Nat):Int))))=sm p.length (fun j=>sm q.length (fun l=>p.getD i 0*p.getD j 0*(q.getD k 0*q.getD l 0)*F (((i:Int)-j)+((k:Int)-l)))):=by
  intro k;rw [←sm_mul];refine sm_congr (fun j _=>?_);rw [←sm_mul];refine sm_congr (fun l _=>?_);rw [show ((i+k:Nat):Int)-((j+l:Nat):Int)=((i:Int)-j)+((k:Int)-l) by omega];grind
 rw [sm_congr (fun k _=>e2 k),je]
theorem zD(N:Nat)(u:Nat→Rat)(V:Nat→Rat):cv (fun n=>dS N u (fun d=>TZ d n)) V=fun n=>sm N (fun i=>sm N (fun j=>u i*u j*cv (TZ ((i:Int)-j)) V n)):=by
 unfold dS;rw [zC N (fun i n=>sm N (fun j=>u i*u j*TZ ((i:Int)-j) n))]
 funext n
 refine sm_congr (fun i _=>?_);rw [zC N (fun j n=>u i*u j*TZ ((i:Int)-j) n)];refine sm_congr (fun j _=>?_);rw [fl]
set_option maxHeartbeats 1000000 in
theorem ut(p q:List Rat):aC (aw p q) (aw p q)=aw (aC p p) (aC q q):=by
 have hA:seq (aC p p)=fun n=>dS p.length (seq p) (fun d=>TZ d n):=funext (oE p)
 have hB:seq (aC q q)=fun n=>dS q.length (seq q) (fun d=>TZ d n):=funext (oE q)
 have key:∀ n,(aC (aw p q) (aw p q)).getD n 0=(aw (aC p p) (aC q q)).getD n 0:=by
  intro n;have hl:(aw p q).length≤p.length+q.length:=by
   unfold aw;refine nXe (ag _) ?_;have:=ag p;have:=ag q;rw [nXk,nXs];omega
  have e1:(aC (aw p q) (aw p q)).getD n 0=qS p q (fun d=>TZ d n):=by
   have e0:=zB (N:=(aw p q).length) (M:=p.length+q.length) (u:=seq (aw p q)) (fun d=>TZ d n) (fun i hi=>aT hi) hl;rw [oE,e0,cD,xK]
  have e2:(aw (aC p p) (aC q q)).getD n 0=sm p.length (fun i=>sm p.length (fun j=>p.getD i 0*p.getD j 0*sm q.length (fun k=>sm q.length (fun l=>q.getD k 0*q.getD l 0*cv (TZ ((i:Int)-j)) (TZ ((k:Int)-l)) n)))):=by
   show seq (aw (aC p p) (aC q q)) n=_;rw [cD,fo,hA,zD];refine sm_congr (fun i _=>sm_congr (fun j _=>?_));refine congrArg (fun t=>p.getD i 0*p.getD j 0*t) ?_;rw [cq,hB,zD];refine sm_congr (fun k _=>sm_congr (fun l _=>?_));refine congrArg (fun t=>q.getD k 0*q.getD l 0*t) ?_;rw [cq]
  have e3:(2:Rat)*qS p q (fun d=>TZ d n)=2*sm p.length (fun i=>sm p.length (fun j=>p.getD i 0*p.getD j 0*sm q.length (fun k=>sm q.length (fun l=>q.getD k 0*q.getD l 0*cv (TZ ((i:Int)-j)) (TZ ((k:Int)-l)) n)))):=by
   unfold qS;rw [←sm_mul,←sm_mul];refine sm_congr (fun i _=>?_);rw [←sm_mul,←sm_mul];refine sm_congr (fun j _=>?_);have e4:sm q.length (fun k=>sm q.length (fun l=>p.getD i 0*p.getD j 0*(q.getD k 0*q.getD l 0)*TZ (((i:Int)-j)+((k:Int)-l)) n))=sm q.length (fun k=>sm q.length (fun l=>p.getD i 0*p.getD j 0*(q.getD k 0*q.getD l 0)*TZ (((i:Int)-j)-((k:Int)-l)) n)):=by
    rw [je];refine sm_congr (fun k _=>sm_congr (fun l _=>?_));rw [show ((i:Int)-j)+((l:Int)-k)=((i:Int)-j)-((k:Int)-l) by omega];grind
   have e5:p.getD i 0*p.getD j 0*sm q.length (fun k=>sm q.length (fun l=>q.getD k 0*q.getD l 0*cv (TZ ((i:Int)-j)) (TZ ((k:Int)-l)) n))=sm q.length (fun k=>sm q.length (fun l=>p.getD i 0*p.getD j 0*(q.getD k 0*q.getD l 0)*cv (TZ ((i:Int)-j)) (TZ ((k:Int)-l)) n)):=by
    rw [←sm_mul];refine sm_congr (fun k _=>?_);rw [←sm_mul];exact sm_congr (fun l _=>by grind)
   rw [e5];have e6:(2:Rat)*sm q.length (fun k=>sm q.length (fun l=>p.getD i 0*p.getD j 0*(q.getD k 0*q.getD l 0)*cv (TZ ((i:Int)-j)) (TZ ((k:Int)-l)) n))=sm q.length (fun k=>sm q.length (fun l=>p.getD i 0*p.getD j 0*(q.getD k 0*q.getD l 0)*TZ (((i:Int)-j)+((k:Int)-l)) n))+sm q.length (fun k=>sm q.length (fun l=>p.getD i 0*p.getD j 0*(q.getD k 0*q.getD l 0)*TZ (((i:Int)-j)-((k:Int)-l)) n)):=by
    rw [←sm_mul,←fN];refine sm_congr (fun k _=>?_);rw [←sm_mul,←fN];refine sm_congr (fun l _=>?_);have:=zU ((i:Int)-j) ((k:Int)-l) n;grind
   rw [e6,←e4];grind
  rw [e1,e2];grind
 have h1:tz (aC (aw p q) (aw p q))=aC (aw p q) (aw p q):=aF _;have h2:tz (aw (aC p p) (aC q q))=aw (aC p p) (aC q q):=aF _;rw [←h1,←h2];exact jp key
def FrB(S:Nat)(l:List Rat):Prop:=1≤S∧∃ D,0<D∧D<W32 ^ S∧FrL S D l
theorem kw{S U:Nat}(h:S≤U):W32 ^ S≤W32 ^ U:=nXo au h
theorem FrB.mono{S U:Nat}{l:List Rat}(h:FrB S l)(hS:S≤U):FrB U l:=by
 obtain ⟨h0,D,h1,h2,h3⟩:=h;exact ⟨by omega,D,h1,nXm h2 (kw hS),h3.mono hS⟩
theorem FrB.sz{S:Nat}{l:List Rat}(h:FrB S l):SzL S l:=by
 obtain ⟨h0,D,h1,h2,h3⟩:=h;exact h3.sz h0 h1 h2
theorem FrB.tz{S:Nat}{l:List Rat}(h:FrB S l):FrB S (tz l):=by
 obtain ⟨h0,D,h1,h2,h3⟩:=h;exact ⟨h0,D,h1,h2,h3.tz⟩
theorem oA{S U D E:Nat}(hD:D<W32 ^ S)(hE:E<W32 ^ U)(h:0<E):D*E<W32 ^ (S+U):=by
 rw [Nat.pow_add];exact Nat.mul_lt_mul_of_lt_of_lt hD hE
theorem FrB.mul{S U:Nat}{p q:List Rat}(hp:FrB S p)(hq:FrB U q)(hl:p.length≤1000000):FrB (S+U+1) (aw p q):=by
 obtain ⟨h0,D,h1,h2,h3⟩:=hp;obtain ⟨k0,E,k1,k2,k3⟩:=hq;exact ⟨by omega,D*E,Nat.mul_pos h1 k1,nXm (oA h2 k2 k1) (kw (by omega)),wZ h3 k3 (nXe hl (by decide))⟩
theorem FrB.cross{S U:Nat}{p q:List Rat}(hp:FrB S p)(hq:FrB U q)(hl:p.length≤21)(hl2:q.length≤21):FrB (S+U+4) (aC p q):=by
 obtain ⟨h0,D,h1,h2,h3⟩:=hp;obtain ⟨k0,E,k1,k2,k3⟩:=hq;exact ⟨by omega,D*E,Nat.mul_pos h1 k1,nXm (oA h2 k2 k1) (kw (by omega)),uX h3 k3 hl hl2⟩
theorem FrB.of{k n:Nat}{p:List Rat}(h:SzL k p)(hl:p.length≤n):FrB (k*(n+1)+1) p:=by
 obtain ⟨D,h1,h2,h3⟩:=vP p h;have e:=nXf k (show p.length+1≤n+1 by omega);have e2:=nXf k (show p.length≤n+1 by omega);exact ⟨by omega,D,h1,nXm h2 (kw (by omega)),FrL.mono h3 (by omega)⟩
def evV(p:List Rat)(x:Rat):Rat:=p.foldr (fun c y=>y*x+c) 0
theorem ik(c:Rat)(p:List Rat)(x:Rat):evV (c :: p) x=evV p x*x+c:=rfl
theorem At(p:List Rat)(x:Rat):evV p x=sm p.length (fun i=>p.getD i 0*x ^ i):=by
 induction p with
 | nil=>rfl
 | cons c p ih =>
  rw [ik,ih,List.length_cons,ck,nYa,←sm_mul];rw [sm_congr (f:=fun i=>(c :: p).getD (i+1) 0*x ^ (i+1)) (g:=fun i=>x*(p.getD i 0*x ^ i)) (fun i _=>by rw [List.getD_cons_succ,Rat.pow_succ];grind)];rw [List.getD_cons_zero,Rat.pow_zero];grind
theorem kj{p:List Rat}{N:Nat}(h:p.length≤N)(x:Rat):evV p x=sm N (fun i=>seq p i*x ^ i):=by
 rw [At];exact bZ h (fun i h1 h2=>by rw [aT h1];grind)
theorem fQ{p q:List Rat}{c:Rat}(h:∀ i,seq p i=c*seq q i)(x:Rat):evV p x=c*evV q x:=by
 rw [kj (Nat.le_max_left p.length q.length),kj (Nat.le_max_right p.length q.length),←sm_mul];exact sm_congr (fun i _=>by rw [h];grind)
theorem zr(p:List Rat)(x:Rat):evV (tz p) x=evV p x:=by
 rw [fQ (p:=tz p) (q:=p) (c:=1) (fun i=>by rw [aN];grind) x];grind
theorem Fr.up{S U D E:Nat}{a:Rat}(ha:Fr S D a)(hE:E≤W32 ^ U)(h0:0<E):Fr (S+U) (D*E) a:=by
 have e:a*((D*E:Nat):Rat)=a*(D:Rat)*(((E:Nat):Int):Rat):=by rw [Rat.natCast_mul];show _=a*(D:Rat)*(E:Rat);grind
 have h1:Wz S (a*(D:Rat)):=ha;unfold Fr;rw [e];refine ⟨h1.1.mul (Wh.int _),?_⟩;rw [h1.1.eq,←Rat.intCast_mul,Rat.num_intCast,Int.natAbs_mul,nYf,Nat.pow_add];exact Nat.mul_lt_mul_of_lt_of_le h1.2 hE (nYk au)
end Go.Proofs.YtafgmcimcbhhjaaGreat
/- Sturm's theorem over the rationals: on a fine enough grid the changes of sign in a chain fall by one where the first member changes its sign. Plain facts. -/
namespace Go.Proofs.YtafgmcimcbhhjaaGreat.Sg
def sg(q:Rat):Int:=if q<0 then -1 else if q=0 then 0 else 1
theorem cW{q:Rat}(h:q<0):sg q=-1:=if_pos h
theorem fV:sg 0=0:=by decide
theorem fa{q:Rat}(h:0<q):sg q=1:=by unfold sg;rw [if_neg (by grind),if_neg (by grind)]
theorem tri(a b:Rat):a<b∨a=b∨b<a:=by grind
theorem tot(a b:Rat):a≤b∨b≤a:=by grind
theorem bG(q:Rat):(q<0∧sg q=-1)∨(q=0∧sg q=0)∨(0<q∧sg q=1):=by
 rcases tri q 0 with h|h|h
 ·exact Or.inl ⟨h,cW h⟩
 ·subst h;exact Or.inr (Or.inl ⟨rfl,fV⟩)
 ·exact Or.inr (Or.inr ⟨h,fa h⟩)
theorem lK{q:Rat}:sg q=0↔q=0:=by rcases bG q with ⟨h,e⟩|⟨h,e⟩|⟨h,e⟩ <;> rw [e] <;> constructor <;> intro k <;> first|omega|grind
def vr:Int→List Int→Nat
 | _,[]=>0
 | last,s :: l=>if s=0 then vr last l else (if last≠0∧s≠last then 1 else 0)+vr s l
def IsS(x:Int):Prop:=x=-1∨x=0∨x=1
theorem pk(q:Rat):IsS (sg q):=by rcases bG q with ⟨h,e⟩|⟨h,e⟩|⟨h,e⟩ <;> rw [e] <;> unfold IsS <;> omega
inductive Rl:Int→List Int→List Int→Prop
 | nil (p:Int):Rl p [] []
 | big {p x:Int} {a b:List Int} (hx:x≠0) (h:Rl x a b):Rl p (x :: a) (x :: b)
 | small {p x y z:Int} {a b:List Int} (hp:p≠0) (hz:z=-p) (ip:IsS p) (ix:IsS x) (iy:IsS y) (h:Rl z a b):Rl p (x :: z :: a) (y :: z :: b)
theorem nO{p x z:Int}{a:List Int}(hp:p≠0)(hz:z=-p)(ip:IsS p)(ix:IsS x):vr p (x :: z :: a)=1+vr z a:=by
 have hz0:z≠0:=by omega
 have hzp:z≠p:=by omega
 by_cases h0:x=0
 ·subst h0;simp [vr,hz0,hp,hzp]
 ·by_cases h1:x=p
  ·subst h1;simp [vr,h0,hz0,hzp]
  ·have h2:x=z:=by unfold IsS at ip ix;omega
   subst h2;simp [vr,h0,hp,h1]
theorem Rl.vr{p:Int}{a b:List Int}(h:Rl p a b):vr p a=vr p b:=by
 induction h with
 | nil p=>rfl
 | big hx h ih=>simp [Sg.vr,hx,ih]
 | small hp hz ip ix iy h ih=>rw [nO hp hz ip ix,nO hp hz ip iy,ih]
def Bd(M x:Rat):Prop:=-M≤x∧x≤M
theorem Bd.mono{M N x:Rat}(h:Bd M x)(k:M≤N):Bd N x:=by have h1:=h.1;have h2:=h.2;exact ⟨by grind,by grind⟩
theorem Bd.add{M N x y:Rat}(h:Bd M x)(k:Bd N y):Bd (M+N) (x+y):=by have h1:=h.1;have h2:=h.2;have h3:=k.1;have h4:=k.2;exact ⟨by grind,by grind⟩
theorem Bd.sub{M N x y:Rat}(h:Bd M x)(k:Bd N y):Bd (M+N) (x-y):=by have h1:=h.1;have h2:=h.2;have h3:=k.1;have h4:=k.2;exact ⟨by grind,by grind⟩
theorem Bd.neg{M x:Rat}(h:Bd M x):Bd M (-x):=by have h1:=h.1;have h2:=h.2;exact ⟨by grind,by grind⟩
theorem Bd.mul{M N x y:Rat}(h:Bd M x)(k:Bd N y):Bd (M*N) (x*y):=by
 have h1:=h.1;have h2:=h.2;have h3:=k.1;have h4:=k.2;have e1:=Rat.mul_nonneg (a:=M-x) (b:=N+y) (by grind) (by grind);have e2:=Rat.mul_nonneg (a:=M+x) (b:=N-y) (by grind) (by grind);have e3:=Rat.mul_nonneg (a:=M-x) (b:=N-y) (by grind) (by grind);have e4:=Rat.mul_nonneg (a:=M+x) (b:=N+y) (by grind) (by grind);exact ⟨by grind,by grind⟩
theorem Bd.self{x:Rat}(h:0≤x):Bd x x:=⟨by grind,by grind⟩
theorem Bd.ex(x:Rat):∃ M,0≤M∧Bd M x:=by
 rcases tot 0 x with h|h
 ·exact ⟨x,h,by grind,by grind⟩
 ·exact ⟨-x,by grind,by grind,by grind⟩
theorem eG{A B x:Rat}:∃ R,0≤R∧∀ x,A≤x→x≤B→Bd R x:=by
 obtain ⟨M,h1,h2⟩:=Bd.ex A;obtain ⟨N,h3,h4⟩:=Bd.ex B;refine ⟨M+N,by grind,fun x hA hB=>?_⟩;have h5:=h2.1;have h6:=h2.2;have h7:=h4.1;have h8:=h4.2;exact ⟨by grind,by grind⟩
theorem kR{a b:Rat}(h:0≤a)(k:0≤b):0≤a*b:=Rat.mul_nonneg h k
theorem ui{a b:Rat}(h:0<a)(k:0<b):0<a*b:=Rat.mul_pos h k
theorem tA{a b:Rat}(h:0<a)(k:0<b):0<a / b:=by rw [Rat.div_def];exact Rat.mul_pos h (Rat.inv_pos.2 k)
theorem aQ{a b:Rat}(k:b≠0):a / b*b=a:=by rw [Rat.div_def,nYb,Rat.inv_mul_cancel _ k,Rat.mul_one]
theorem cf{a b c:Rat}(h:a≤b)(k:0≤c):a*c≤b*c:=Rat.mul_le_mul_of_nonneg_right h k
theorem aU{a b c:Rat}(h:a≤b)(k:0≤c):c*a≤c*b:=Rat.mul_le_mul_of_nonneg_left h k
theorem eK{a b c:Rat}(h:a<b)(k:0<c):a*c<b*c:=by
 have:=Rat.mul_pos (show 0<b-a by grind) k;grind
theorem thr{c m x:Rat}(hc:0<c)(hm:0<m)(h:m*3≤c*x*4):m / (2*c)≤x:=by
 apply Classical.byContradiction;intro hn;have h1:=eK (show x<m / (2*c) by grind) hc;have h2:m / (2*c)*(2*c)=m:=aQ (by grind);grind
def Lip(A B K:Rat)(f:Rat→Rat):Prop:=∀ s t,A≤s→s≤t→t≤B→Bd (K*(t-s)) (f t-f s)
theorem Lip.mono{A B K L:Rat}{f:Rat→Rat}(h:Lip A B K f)(k:K≤L):Lip A B L f:=fun s t h1 h2 h3=>(h s t h1 h2 h3).mono (cf k (by grind))
def On(A B M:Rat)(f:Rat→Rat):Prop:=∀ x,A≤x→x≤B→Bd M (f x)
def Big(r x:Rat):Prop:=r≤x∨x≤-r
theorem kO{r x:Rat}(h:¬ Big r x):-r<x∧x<r:=by
 unfold Big at h;exact ⟨by grind,by grind⟩
theorem Big.sign{A B K r s t:Rat}{f:Rat→Rat}(hf:Lip A B K f)(hb:Big r (f s))(h1:A≤s)(h2:s≤t)(h3:t≤B)(h4:K*(t-s)<r):sg (f t)=sg (f s)∧sg (f s)≠0:=by
 obtain ⟨e1,e2⟩:=hf s t h1 h2 h3;have hr:0<r:=by grind
 rcases hb with h|h
 ·rw [fa (show 0<f s by grind),fa (show 0<f t by grind)];exact ⟨rfl,by decide⟩
 ·rw [cW (show f s<0 by grind),cW (show f t<0 by grind)];exact ⟨rfl,by decide⟩
def Row(A B:Rat)(f g h:Rat→Rat):Prop:=∃ c d Q:Rat,0<c∧0<d∧0≤Q∧∃ q:Rat→Rat,On A B Q q∧∀ x,c*f x+d*h x=q x*g x
def Ch(A B:Rat):(Rat→Rat)→List (Rat→Rat)→Prop
 | f,[]=>∃ r,0<r∧∀ x,A≤x→x≤B→Big r (f x)
 | f,[g]=>Ch A B g []
 | f,g :: h :: l=>Row A B f g h∧Ch A B g (h :: l)
def sgs(l:List (Rat→Rat))(x:Rat):List Int:=l.map (fun f=>sg (f x))
def A6(f:Rat→Rat)(l:List (Rat→Rat))(b r s t:Rat):Prop :=
 (Big r (f s)→sg (f s)≠0∧sg (f t)=sg (f s)∧Rl (sg (f s)) (sgs l s) (sgs l t)) ∧
 (¬ Big r (f s)→∃ g l',l=g :: l'∧Big b (g s)∧sg (g s)≠0∧sg (g t)=sg (g s)∧Rl (sg (g s)) (sgs l' s) (sgs l' t))
def St(A B:Rat)(f:Rat→Rat)(l:List (Rat→Rat)):Prop :=
 ∃ b,0<b∧∃ r0,0<r0∧∀ r,0<r→r≤r0→∃ e,0<e∧∀ s t,A≤s→s≤t→t≤B→t-s≤e→A6 f l b r s t
theorem hZ{K r:Rat}(hK:0≤K)(hr:0<r):∃ e,0<e∧∀ d,d≤e→K*d<r:=by
 refine ⟨r / (K+1),tA hr (by grind),fun d hd=>?_⟩;have h1:=aU hd hK;have h2:r / (K+1)*(K+1)=r:=aQ (by grind);have h3:=tA hr (show 0<K+1 by grind);grind
theorem ki{a b:Rat}(ha:0<a)(hb:0<b):∃ c,0<c∧c≤a∧c≤b:=by
 rcases tot a b with h|h
 ·exact ⟨a,ha,Rat.le_refl,h⟩
 ·exact ⟨b,hb,h,Rat.le_refl⟩
theorem qL{A B b r s c d Q:Rat}{f g h q:Rat→Rat}(hc:0<c)(hd:0<d)(hQ:0≤Q)(hq:On A B Q q)(he:∀ x,c*f x+d*h x=q x*g x)(h1:A≤s)(h2:s≤B)(hg:¬ Big r (g s))(hr:Q*r*4≤d*b)(hb0:0<b)(hb:Big b (h s)) :
  (f s<0∧0<h s∧d*b*3≤-(c*f s)*4)∨(0<f s∧h s<0∧d*b*3≤c*f s*4):=by
 obtain ⟨g1,g2⟩:=kO hg;obtain ⟨k1,k2⟩:=(hq s h1 h2).mul (show Bd r (g s) from ⟨by grind,by grind⟩);have e:=he s;have hdb:=ui hd hb0;rcases hb with h3|h3
 ·left
  have h4:=aU h3 (Rat.le_of_lt hd);have h5:c*f s<0:=by grind
  refine ⟨?_,by grind,by grind⟩;rcases tri (f s) 0 with h6|h6|h6
  ·exact h6
  ·rw [h6] at h5;grind
  ·have:=ui hc h6;grind
 ·right
  have h4:=aU (show b≤-h s by grind) (Rat.le_of_lt hd);have h5:0<c*f s:=by grind
  refine ⟨?_,by grind,by grind⟩;rcases tri (f s) 0 with h6|h6|h6
  ·have:=ui hc (show 0 < -f s by grind);grind
  ·rw [h6] at h5;grind
  ·exact h6
theorem Ay{A B:Rat}:∀ (l:List (Rat→Rat)) (f:Rat→Rat),Ch A B f l→(∃ K,0≤K∧Lip A B K f)→(∀ g ∈ l,∃ K,0≤K∧Lip A B K g)→St A B f l:=by
 intro l;induction l with
 | nil =>
  intro f ⟨d,hd,hb⟩ ⟨K,hK,hL⟩ _;refine ⟨1,by decide,d,hd,fun r hr hrd=>?_⟩;obtain ⟨e,he,h⟩:=hZ hK hr;refine ⟨e,he,fun s t h1 h2 h3 h4=>⟨fun h5=>?_,fun h5=>?_⟩⟩
  ·obtain ⟨g1,g2⟩:=h5.sign hL h1 h2 h3 (h _ h4);exact ⟨g2,g1,Rl.nil _⟩
  ·refine absurd ?_ h5;rcases hb s h1 (by grind) with h6|h6
   ·exact Or.inl (by grind)
   ·exact Or.inr (by grind)
 | cons g l ih =>
  intro f hc ⟨K,hK,hL⟩ hl;have hg:Ch A B g l:=by
   cases l with
   | nil=>exact hc
   | cons h l=>exact hc.2
  obtain ⟨b,hb,r0,hr0,hst⟩:=ih g hg (hl g List.mem_cons_self) (fun x hx=>hl x (List.mem_cons_of_mem _ hx))
  -- the threshold of g and that of f
  obtain ⟨rg,hrg,hrg0,rf,hrf,hsm⟩:∃ rg,0<rg∧rg≤r0∧∃ rf,0<rf∧∀ s,A≤s→s≤B→∀ h l',l=h :: l'→¬ Big rg (g s)→Big b (h s)→sg (h s)=-sg (f s)∧sg (f s)≠0∧Big rf (f s):=by
   cases l with
   | nil=>exact ⟨r0,hr0,Rat.le_refl,1,by decide,fun s _ _ h l' e=>by cases e⟩
   | cons h l =>
    obtain ⟨⟨c,d,Q,hc,hd,hQ,q,hq,he⟩,-⟩:=hc;obtain ⟨e,he0,hee⟩:=hZ (K:=Q*4) (r:=d*b) (by grind) (ui hd hb);obtain ⟨rg,h1,h2,h3⟩:=ki hr0 he0;have hp:=tA (ui hd hb) (show 0<2*c by grind);refine ⟨rg,h1,h2,d*b / (2*c),hp,fun s k1 k2 h' l' e k3 k4=>?_⟩;cases e;have hr4:=hee rg h3;rcases qL hc hd hQ hq he k1 k2 k3 (by grind) hb k4 with ⟨m1,m2,m3⟩|⟨m1,m2,m3⟩
    ·rw [fa m2,cW m1];refine ⟨rfl,by decide,Or.inr ?_⟩;have:=thr (x:=-f s) hc (ui hd hb) (by grind);grind
    ·rw [cW m2,fa m1];exact ⟨rfl,by decide,Or.inl (thr hc (ui hd hb) m3)⟩
  obtain ⟨eg,heg,hcell⟩:=hst rg hrg hrg0;refine ⟨rg,hrg,rf,hrf,fun r hr hrf'=>?_⟩;obtain ⟨ef,hef,hstep⟩:=hZ hK hr;obtain ⟨e,he,he1,he2⟩:=ki heg hef;refine ⟨e,he,fun s t h1 h2 h3 h4=>?_⟩;have hg:=hcell s t h1 h2 h3 (by grind);refine ⟨fun h5=>?_,fun h5=>?_⟩
  ·obtain ⟨g1,g2⟩:=h5.sign hL h1 h2 h3 (hstep _ (by grind));refine ⟨g2,g1,?_⟩;by_cases hb':Big rg (g s)
   ·obtain ⟨k1,k2,k3⟩:=hg.1 hb';show Rl _ (sg (g s) :: sgs l s) (sg (g t) :: sgs l t);rw [k2];exact Rl.big k1 k3
   ·obtain ⟨h,l',rfl,k1,k2,k3,k4⟩:=hg.2 hb';obtain ⟨m1,m2,m3⟩:=hsm s h1 (by grind) h l' rfl hb' k1;show Rl _ (sg (g s) :: sg (h s) :: sgs l' s) (sg (g t) :: sg (h t) :: sgs l' t);rw [k3];exact Rl.small g2 m1 (pk _) (pk _) (pk _) k4
  ·refine ⟨g,l,rfl,?_⟩;by_cases hb':Big rg (g s)
   ·obtain ⟨k1,k2,k3⟩:=hg.1 hb';exact ⟨hb',k1,k2,k3⟩
   ·obtain ⟨h,l',rfl,k1,k2,k3,k4⟩:=hg.2 hb';obtain ⟨m1,m2,m3⟩:=hsm s h1 (by grind) h l' rfl hb' k1;refine absurd ?_ h5;rcases m3 with m|m
    ·exact Or.inl (by grind)
    ·exact Or.inr (by grind)
def V(f:Rat→Rat)(l:List (Rat→Rat))(x:Rat):Nat:=vr 0 (sgs (f :: l) x)
theorem fp{x:Int}{a:List Int}(h:x≠0):vr 0 (x :: a)=vr x a:=by simp [vr,h]
theorem nP{a:List Int}:vr 0 (0 :: a)=vr 0 a:=by simp [vr]
def zW(A B:Rat)(f g:Rat→Rat):Prop:=∃ k K,0<k∧0≤K∧∀ s t,A≤s→s≤t→t≤B→Bd (K*(t-s)*(t-s)) (f t-f s-k*g s*(t-s))
def cross(f:Rat→Rat)(s t:Rat):Nat:=if sg (f s)≠0∧sg (f t)≠sg (f s) then 1 else 0
theorem pf{A B:Rat}{f:Rat→Rat}{l:List (Rat→Rat)}(hc:Ch A B f l)(hf:∃ K,0≤K∧Lip A B K f)(hl:∀ g ∈ l,∃ K,0≤K∧Lip A B K g)(hs:∀ g l',l=g :: l'→zW A B f g) :
  ∃ e,0<e∧∀ s t,A≤s→s<t→t≤B→t-s≤e→V f l s=V f l t+cross f s t∧(f s=0→f t≠0):=by
 obtain ⟨b,hb,r0,hr0,hst⟩:=Ay l f hc hf hl;obtain ⟨e1,he1,hcell⟩:=hst r0 hr0 Rat.le_refl;obtain ⟨e2,he2,hsl⟩:∃ e2,0<e2∧∀ g l',l=g :: l'→∀ s t,A≤s→s<t→t≤B→t-s≤e2→(b≤g s→f s<f t)∧(g s≤-b→f t<f s):=by
  cases l with
  | nil=>exact ⟨1,by decide,fun g l' e=>by cases e⟩
  | cons g l =>
   obtain ⟨k,K,hk,hK,h⟩:=hs g l rfl;obtain ⟨e,he,h2⟩:=hZ hK (ui hk hb);refine ⟨e,he,fun g' l' ee s t h3 h4 h5 h6=>?_⟩;cases ee;obtain ⟨m1,m2⟩:=h s t h3 (by grind) h5;have h7:=eK (h2 _ h6) (show 0<t-s by grind);refine ⟨fun h8=>?_,fun h8=>?_⟩
   ·have h9:=cf (aU h8 (Rat.le_of_lt hk)) (show 0≤t-s by grind);grind
   ·have h9:=cf (aU h8 (Rat.le_of_lt hk)) (show 0≤t-s by grind);grind
 obtain ⟨e,he,hm1,hm2⟩:=ki he1 he2;refine ⟨e,he,fun s t h1 h2 h3 h4=>?_⟩;obtain ⟨c1,c2⟩:=hcell s t h1 (by grind) h3 (by grind);by_cases h5:Big r0 (f s)
 ·obtain ⟨k1,k2,k3⟩:=c1 h5;refine ⟨?_,fun h=>absurd (lK.2 h) k1⟩;unfold V cross;show vr 0 (sg (f s) :: sgs l s)=vr 0 (sg (f t) :: sgs l t)+_;rw [k2,fp k1,fp k1,k3.vr,if_neg (by simp)];rfl
 ·obtain ⟨g,l',rfl,k1,k2,k3,k4⟩:=c2 h5;obtain ⟨s1,s2⟩:=hsl g l' rfl s t h1 h2 h3 (by grind);have e0:V f (g :: l') s=(if sg (f s)≠0∧sg (g s)≠sg (f s) then 1 else 0)+vr (sg (g s)) (sgs l' s):=by
   show vr 0 (sg (f s) :: sg (g s) :: sgs l' s)=_;by_cases h0:sg (f s)=0
   ·rw [h0,nP,fp k2];simp
   ·rw [fp h0];simp [vr,k2,h0]
  have e1:V f (g :: l') t=(if sg (f t)≠0∧sg (g s)≠sg (f t) then 1 else 0)+vr (sg (g s)) (sgs l' s):=by
   show vr 0 (sg (f t) :: sg (g t) :: sgs l' t)=_;rw [k3,k4.vr];by_cases h0:sg (f t)=0
   ·rw [h0,nP,fp k2];simp
   ·rw [fp h0];simp [vr,k2,h0]
  rw [e0,e1];unfold cross;rcases k1 with k|k
  ·have hlt:=s1 k;rw [fa (show 0<g s by grind)];clear hc hf hl hs hst hcell hsl c1 c2 k3 k4 s1 s2 e0 e1;rcases bG (f s) with ⟨a1,a2⟩|⟨a1,a2⟩|⟨a1,a2⟩ <;> rcases bG (f t) with ⟨b1,b2⟩|⟨b1,b2⟩|⟨b1,b2⟩ <;> rw [a2,b2] <;> first|(exfalso;grind)|(refine ⟨by simp <;> omega,?_⟩;grind)
  ·have hlt:=s2 k;rw [cW (show g s<0 by grind)];clear hc hf hl hs hst hcell hsl c1 c2 k3 k4 s1 s2 e0 e1;rcases bG (f s) with ⟨a1,a2⟩|⟨a1,a2⟩|⟨a1,a2⟩ <;> rcases bG (f t) with ⟨b1,b2⟩|⟨b1,b2⟩|⟨b1,b2⟩ <;> rw [a2,b2] <;> first|(exfalso;grind)|(refine ⟨by simp <;> omega,?_⟩;grind)
theorem k7{A B e:Rat}{P:Rat→Rat→Prop}(he:0<e)(h1:∀ s t,A≤s→s<t→t≤B→t-s≤e→P s t)(h2:∀ s t u,A≤s→s<t→t<u→u≤B→P s t→P t u→P s u):∀ s t,A≤s→s<t→t≤B→P s t:=by
  have key:∀ n:Nat,∀ s t,A≤s→s<t→t≤B→t-s≤(n:Rat)*e→P s t:=by
    intro n;induction n with
    | zero => intro s t a b c d; exfalso; have : ((0 : Nat) : Rat) * e = 0 := by rw [show ((0 : Nat) : Rat) = 0 from rfl]; grind
              grind
    | succ n ih =>
      intro s t a b c d;rcases tot (t-s) e with h|h
      · exact h1 s t a b c h
      · by_cases hq:t-s=e
        · exact h1 s t a b c (by grind)
        · have e1:((n+1:Nat):Rat)*e=(n:Rat)*e+e:=by rw [Rat.natCast_add,show ((1:Nat):Rat)=1 from rfl];grind
          exact h2 s (s+e) t a (by grind) (by grind) c (h1 s (s+e) a (by grind) (by grind) (by grind)) (ih (s+e) t (by grind) (by grind) c (by grind))
  intro s t a b c;have hx:0<(t-s) / e:=tA (by grind) he;obtain ⟨n,hn⟩:∃ n:Nat,(t-s) / e≤(n:Rat):=by
    have h3:=Rat.lt_floor_add_one ((t-s) / e);refine ⟨((t-s) / e).floor.toNat+1,?_⟩;have h4:(((t-s) / e).floor+1:Int)≤((((t-s) / e).floor.toNat+1:Nat):Int):=by omega
    have h5:=Rat.intCast_le_intCast.2 h4;rw [Rat.intCast_natCast] at h5;grind
  refine key n s t a b c ?_;have h8:=cf hn (Rat.le_of_lt he);rw [aQ (by grind)] at h8;exact h8
theorem xC(p:List Rat)(A B:Rat):∃ M,0≤M∧On A B M (evV p):=by
 obtain ⟨R,hR,hb⟩:=eG (A:=A) (B:=B) (x:=0);induction p with
 | nil=>exact ⟨0,Rat.le_refl,fun x _ _=>⟨by show -0≤(0:Rat);decide,by show (0:Rat)≤0;decide⟩⟩
 | cons c p ih =>
  obtain ⟨M,hM,h⟩:=ih;obtain ⟨N,hN,k⟩:=Bd.ex c;exact ⟨M*R+N,by have:=kR hM hR;grind,fun x h1 h2=>((h x h1 h2).mul (hb x h1 h2)).add k⟩
theorem oP(p:List Rat)(A B:Rat):∃ K,0≤K∧Lip A B K (evV p):=by
 obtain ⟨R,hR,hb⟩:=eG (A:=A) (B:=B) (x:=0);induction p with
 | nil=>exact ⟨0,Rat.le_refl,fun s t _ h _=>⟨by show -(0*(t-s))≤(0:Rat)-0;grind,by show (0:Rat)-0≤0*(t-s);grind⟩⟩
 | cons c p ih =>
  obtain ⟨K,hK,h⟩:=ih;obtain ⟨M,hM,k⟩:=xC p A B;refine ⟨K*R+M,by have:=kR hK hR;grind,fun s t h1 h2 h3=>?_⟩;have a:=(h s t h1 h2 h3).mul (hb t (by grind) h3);have b:=(k s h1 (by grind)).mul (Bd.self (show 0≤t-s by grind));have e:evV (c :: p) t-evV (c :: p) s=(evV p t-evV p s)*t+evV p s*(t-s):=by
   show evV p t*t+c-(evV p s*s+c)=_;grind
  rw [e,show (K*R+M)*(t-s)=K*(t-s)*R+M*(t-s) by grind];exact a.add b
def evD:List Rat→Rat→Rat
 | [],_=>0
 | _ :: p,x=>evD p x*x+evV p x
theorem zv(p:List Rat)(A B:Rat):∃ M,0≤M∧On A B M (evD p):=by
 obtain ⟨R,hR,hb⟩:=eG (A:=A) (B:=B) (x:=0);induction p with
 | nil=>exact ⟨0,Rat.le_refl,fun x _ _=>⟨by show -0≤(0:Rat);decide,by show (0:Rat)≤0;decide⟩⟩
 | cons c p ih =>
  obtain ⟨M,hM,h⟩:=ih;obtain ⟨N,hN,k⟩:=xC p A B;exact ⟨M*R+N,by have:=kR hM hR;grind,fun x h1 h2=>((h x h1 h2).mul (hb x h1 h2)).add (k x h1 h2)⟩
theorem oO(p:List Rat)(A B:Rat):∃ K,0≤K∧∀ s t,A≤s→s≤t→t≤B→Bd (K*(t-s)*(t-s)) (evV p t-evV p s-evD p s*(t-s)):=by
 obtain ⟨R,hR,hb⟩:=eG (A:=A) (B:=B) (x:=0);induction p with
 | nil=>exact ⟨0,Rat.le_refl,fun s t _ h _=>⟨by show -(0*(t-s)*(t-s))≤(0:Rat)-0-0*(t-s);grind,by show (0:Rat)-0-0*(t-s)≤0*(t-s)*(t-s);grind⟩⟩
 | cons c p ih =>
  obtain ⟨K,hK,h⟩:=ih;obtain ⟨M,hM,k⟩:=zv p A B;refine ⟨K*R+M,by have:=kR hK hR;grind,fun s t h1 h2 h3=>?_⟩;have a:=(h s t h1 h2 h3).mul (hb t (by grind) h3);have h0:0≤t-s:=by grind
  have b:=((k s h1 (by grind)).mul (Bd.self h0)).mul (Bd.self h0);have e:evV (c :: p) t-evV (c :: p) s-evD (c :: p) s*(t-s)=(evV p t-evV p s-evD p s*(t-s))*t+evD p s*(t-s)*(t-s):=by
   show evV p t*t+c-(evV p s*s+c)-(evD p s*s+evV p s)*(t-s)=_;grind
  rw [e,show (K*R+M)*(t-s)*(t-s)=K*(t-s)*(t-s)*R+M*(t-s)*(t-s) by grind];exact a.add b
structure Fit (A B:Rat) (f:Rat→Rat) (l:List (Rat→Rat)):Prop where
 ch:Ch A B f l
 lf:∃ K,0≤K∧Lip A B K f
 ll:∀ g ∈ l,∃ K,0≤K∧Lip A B K g
 sl:∀ g l',l=g :: l'→zW A B f g
theorem Fit.cell{A B:Rat}{f:Rat→Rat}{l:List (Rat→Rat)}(h:Fit A B f l):∃ e,0<e∧∀ s t,A≤s→s<t→t≤B→t-s≤e→V f l s=V f l t+cross f s t∧(f s=0→f t≠0):=pf h.ch h.lf h.ll h.sl
theorem Fit.mono{A B:Rat}{f:Rat→Rat}{l:List (Rat→Rat)}(h:Fit A B f l):∀ s t,A≤s→s<t→t≤B→V f l t≤V f l s:=by
 obtain ⟨e,he,hc⟩:=h.cell;refine k7 he (fun s t h1 h2 h3 h4=>?_) (fun s t u _ _ _ _ h1 h2=>by omega);have:=(hc s t h1 h2 h3 h4).1;omega
theorem Fit.calm{A B:Rat}{f:Rat→Rat}{l:List (Rat→Rat)}(h:Fit A B f l){x y:Rat}(hx:A≤x)(hxy:x<y)(hy:y≤B)(hs:∀ s t,x≤s→s<t→t≤y→f s≠0→sg (f t)=sg (f s)):V f l x=V f l y:=by
 obtain ⟨e,he,hc⟩:=h.cell;refine k7 (A:=x) (B:=y) (P:=fun s t=>V f l s=V f l t) he (fun s t h1 h2 h3 h4=>?_) (fun s t u _ _ _ _ h1 h2=>h1.trans h2) x y Rat.le_refl hxy Rat.le_refl;rw [(hc s t (by grind) h2 (by grind) h4).1];unfold cross;rw [if_neg (fun h5=>h5.2 (hs s t h1 h2 h3 (fun h=>h5.1 (lK.2 h))))];rfl
end Go.Proofs.YtafgmcimcbhhjaaGreat.Sg
