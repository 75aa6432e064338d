/- Tb, Bsz -/
import Derived.Test.YtofhkmcllihgmaaGreatQLM13
import Derived.Test.YtofhkmcllihgmaaGreatQLM11
import Derived.Test.YtofhkmcllihgmaaGreatQLM22
import Derived.Test.YtofhkmcllihgmaaGreatQLM7
import Derived.Test.YtofhkmcllihgmaaGreatQLK1
import Derived.Test.YtofhkmcllihgmaaGreatQLM12
set_option linter.unusedVariables false
namespace Go.Proofs.YtofhkmcllihgmaaGreat
open Go.RowKit Go.Front Go.Num
attribute [local go_sem] XW.cell XW.frozen
end Go.Proofs.YtofhkmcllihgmaaGreat
namespace Go.Proofs.YtofhkmcllihgmaaGreat
open Go.RowKit Go.Front Go.Num
end Go.Proofs.YtofhkmcllihgmaaGreat
/- Fr, Run, MgP, FrB -/
set_option linter.unusedVariables false
namespace Go.Proofs.YtofhkmcllihgmaaGreat
open Go.RowKit Go.Front Go.Num Stab
theorem Fr.mono{S S' D:Nat}{q:Rat}(h:Fr S D q)(hS:S≤S'):Fr S' D q:=Wz.mono (q:=q*(D:Rat)) h hS
theorem Fr.add{S D:Nat}{a b:Rat}(ha:Fr S D a)(hb:Fr S D b):Fr (S+1) D (a+b):=by
 have:=Wz.add (a:=a*(D:Rat)) (b:=b*(D:Rat)) ha hb;rw [←Rat.add_mul] at this;exact this
theorem Fr.mul{S U D E:Nat}{a b:Rat}(ha:Fr S D a)(hb:Fr U E b):Fr (S+U) (D*E) (a*b):=by
 have:=Wz.mul (a:=a*(D:Rat)) (b:=b*(E:Rat)) ha hb;have e:a*b*((D*E:Nat):Rat)=a*(D:Rat)*(b*(E:Rat)):=by rw [Rat.natCast_mul];grind
 unfold Fr;rw [e];exact this
theorem Fr.one{S:Nat}{q:Rat}(h:Wz S q):Fr S 1 q:=by
 unfold Fr;rw [show q*((1:Nat):Rat)=q from Rat.mul_one q];exact h
theorem Fr.wz{S:Nat}{q:Rat}(h:Fr S 1 q):Wz S q:=by
 unfold Fr at h;rw [show q*((1:Nat):Rat)=q from Rat.mul_one q] at h;exact h
theorem Fr.muli{S U D:Nat}{a b:Rat}(ha:Fr S D a)(hb:Wz U b):Fr (S+U) D (a*b):=by
 have:=ha.mul (Fr.one hb)
 rwa [Nat.mul_one] at this
theorem Fr.imul{S U D:Nat}{a b:Rat}(hb:Wz U b)(ha:Fr S D a):Fr (S+U) D (b*a):=by rw [Rat.mul_comm];exact ha.muli hb
theorem Wz.nat{S n:Nat}(h:n<W32 ^ S):Wz S ((n:Nat):Rat):=by
 have:=Wz.int (S:=S) (z:=(n:Int)) (by simpa using h);exact this
theorem Fr.den{S U D E:Nat}{a:Rat}(ha:Fr S D a)(hE:E<W32 ^ U):Fr (S+U) (D*E) a:=by
 have:=Wz.mul (a:=a*(D:Rat)) (b:=(E:Rat)) ha (Wz.nat hE);have e:a*((D*E:Nat):Rat)=a*(D:Rat)*(E:Rat):=by rw [Rat.natCast_mul];grind
 unfold Fr;rw [e];exact this
theorem Fr.denl{S U D E:Nat}{a:Rat}(ha:Fr S D a)(hE:E<W32 ^ U):Fr (S+U) (E*D) a:=by rw [Nat.mul_comm];exact ha.den hE
theorem vt{S:Nat}{f:Nat→Rat}:∀ n,(∀ i,i<n→Wz S (f i))→Wh (sm n f)∧(sm n f).num.natAbs+n≤n*W32 ^ S:=by
 intro n;induction n with
 | zero=>intro _;exact ⟨rfl,Nat.zero_le (0*W32 ^ S)⟩
 | succ n ih =>
  intro h;obtain ⟨h1,h2⟩:=ih (fun i hi=>h i (by omega));obtain ⟨h3,h4⟩:=h n (by omega);show Wh (sm n f+f n)∧(sm n f+f n).num.natAbs+(n+1)≤_;refine ⟨h1.add h3,?_⟩;have e:(sm n f+f n)=(((sm n f).num+(f n).num:Int):Rat):=by rw [Rat.intCast_add,←h1.eq,←h3.eq]
  rw [e,Rat.num_intCast];have:=Int.natAbs_add_le (sm n f).num (f n).num;rw [Nat.succ_mul];omega
theorem Wz.sm{S n:Nat}{f:Nat→Rat}(h:∀ i,i<n→Wz S (f i))(hn:n≤W32):Wz (S+1) (sm n f):=by
 obtain ⟨h1,h2⟩:=vt n h;refine ⟨h1,?_⟩;have h3:n*W32 ^ S≤W32 ^ (S+1):=by rw [Nat.pow_succ,Nat.mul_comm];exact Nat.mul_le_mul_left _ hn
 rcases Nat.eq_zero_or_pos n with h0|h0
 ·subst h0;have h4:(Stab.sm 0 f).num.natAbs=0:=rfl;have:=Nat.pow_pos (n:=S+1) ax;omega
 ·omega
theorem Fr.sm{S D n:Nat}{f:Nat→Rat}(h:∀ i,i<n→Fr S D (f i))(hn:n≤W32):Fr (S+1) D (sm n f):=by
 have:=Wz.sm (f:=fun i=>f i*(D:Rat)) (S:=S) (n:=n) h hn;have e:Stab.sm n (fun i=>f i*(D:Rat))=Stab.sm n f*(D:Rat):=by
  rw [sm_congr (g:=fun i=>(D:Rat)*f i) (fun i _=>Rat.mul_comm _ _),sm_mul,Rat.mul_comm]
 rw [e] at this;exact this
def FrL(S D:Nat)(l:List Rat):Prop:=∀ x ∈ l,Fr S D x
theorem FrL.mono{S S' D:Nat}{l:List Rat}(h:FrL S D l)(hS:S≤S'):FrL S' D l:=fun x hx=>(h x hx).mono hS
theorem FrL.at{S D:Nat}{l:List Rat}(h:FrL S D l)(i:Nat):Fr S D (l.getD i 0):=by
 rcases Nat.lt_or_ge i l.length with hi|hi
 ·exact h _ (c9 hi)
 ·rw [bu hi];exact Fr.zero _ _
theorem FrL.of{S D:Nat}{l:List Rat}(h:∀ i,Fr S D (l.getD i 0)):FrL S D l:=fun x hx=>by
 obtain ⟨i,-,rfl⟩:=gI hx;exact h i
theorem FrL.tz{S D:Nat}{l:List Rat}(h:FrL S D l):FrL S D (tz l):=FrL.of fun i=>by rw [aD];exact h.at i
theorem FrL.den{S U D E:Nat}{l:List Rat}(h:FrL S D l)(hE:E<W32 ^ U):FrL (S+U) (D*E) l:=fun x hx=>(h x hx).den hE
theorem FrL.denl{S U D E:Nat}{l:List Rat}(h:FrL S D l)(hE:E<W32 ^ U):FrL (S+U) (E*D) l:=fun x hx=>(h x hx).denl hE
theorem FrL.sz{S D:Nat}{l:List Rat}(h:FrL S D l)(hS:1≤S)(hD:0<D)(hl:D<W32 ^ S):SzL S l:=fun x hx=>(h x hx).sz hS hD hl
theorem FrL.range{S D n:Nat}{f:Nat→Rat}(h:∀ i,i<n→Fr S D (f i)):FrL S D ((List.range n).map f):=fun x hx=>by
 obtain ⟨i,hi,rfl⟩:=List.mem_map.1 hx;exact h i (List.mem_range.1 hi)
theorem vL{S U D E:Nat}{p q:List Rat}(hp:FrL S D p)(hq:FrL U E q)(hl:p.length≤W32)(n:Nat):Fr (S+U+1) (D*E) (ap p (seq q) n):=by
 rw [ap_sum];refine Fr.sm (fun i _=>(hp.at i).mul ?_) hl;unfold shn;split
 ·exact hq.at _
 ·exact Fr.zero _ _
theorem s4{S U D E:Nat}{p q:List Rat}(hp:FrL S D p)(hq:FrL U E q)(hl:p.length≤W32):FrL (S+U+1) (D*E) (ch p q):=by
 unfold ch;exact FrL.tz (FrL.range fun i _=>vL hp.tz hq.tz (Nat.le_trans (ak p) hl) i)
theorem tP{S D:Nat}{p q:List Rat}(hp:FrL S D p)(hq:FrL S D q):FrL (S+1) D (fj p q):=by
 unfold fj;exact FrL.tz (FrL.range fun i _=>(hp.at i).add (hq.at i))
theorem pr{S U D E k:Nat}{b c:List Rat}(hb:FrL S D b)(hc:FrL U E c)(hl:b.length≤W32):Fr (S+U+1) (D*E) (iQ b c k):=by
 unfold iQ;exact Fr.sm (fun i _=>(hb.at i).mul (hc.at _)) (by omega)
theorem uV{S U D E k:Nat}{b c:List Rat}(hb:FrL S D b)(hc:FrL U E c)(hl:b.length≤W32)(hl2:c.length≤W32):Fr (S+U+2) (D*E) (crE b c k):=by
 unfold crE;split
 ·exact (pr hb hc hl).mono (by omega)
 ·refine (pr hb hc hl).add ?_;have:=pr (k:=k) hc hb hl2
  rwa [Nat.mul_comm,Nat.add_comm U S] at this
theorem vP{k i:Nat}(hk:k≤20):Wz 1 (Tf k i):=by
 have h:=(pA k).1;have hb:3 ^ k<W32 ^ 1:=Nat.lt_of_le_of_lt (Nat.pow_le_pow_right (by decide) hk) (by decide);unfold Tf;rcases Nat.lt_or_ge i (chP k).1.length with hi|hi
 ·obtain ⟨h1,h2⟩:=h _ (c9 hi);exact ⟨h1,Nat.lt_of_le_of_lt h2 hb⟩
 ·rw [bu hi];exact Wz.zero 1
theorem uI{S D:Nat}{c:List Rat}(h:FrL S D c)(hl:c.length≤21):FrL (S+2) D (fbV c):=by
 unfold fbV;refine FrL.tz (FrL.range fun i _=>?_);unfold fbS;refine (Fr.sm (S:=S+1) (fun k hk=>(h.at k).muli (vP (by omega))) (Nat.le_trans hl (by decide))).mono (by omega)
theorem rC{S U D E:Nat}{p q:List Rat}(hp:FrL S D p)(hq:FrL U E q)(hl:p.length≤21)(hl2:q.length≤21):FrL (S+U+4) (D*E) (az p q):=by
 have h1:=ak p;have h2:=ak q;have h3:21≤W32:=by decide
 unfold az;refine uI (S:=S+U+2) (FrL.range fun i _=>uV hp.tz hq.tz (by omega) (by omega)) ?_;rw [List.length_map,List.length_range];omega
theorem o4{S U D:Nat}{L x:Rat}(hL:Wz U L)(h:Wz S (x*(D:Rat)*L)):Fr S (D*L.num.natAbs) x:=by
 have e0:x*((D*L.num.natAbs:Nat):Rat)=x*(D:Rat)*((L.num.natAbs:Nat):Rat):=by rw [Rat.natCast_mul,Rat.mul_assoc]
 unfold Fr;rw [e0];have e1:=hL.1.eq;have e2:((L.num.natAbs:Nat):Rat)=(((L.num.natAbs:Nat):Int):Rat):=rfl;rcases Int.natAbs_eq L.num with h1|h1
 ·rw [e2,←h1,←e1];exact h
 ·have e3:(((L.num.natAbs:Nat):Int):Rat)=-L:=by
   have:((L.num.natAbs:Nat):Int)=-L.num:=by omega
   rw [this,Rat.intCast_neg,←e1]
  rw [e2,e3,Rat.mul_neg];exact h.neg
theorem fV{U E:Nat}{q:List Rat}(hq:FrL U E q):Wz U (aQ q*(E:Rat)):=hq.at _
def ldD(q:List Rat)(E:Nat):Nat:=(aQ q*(E:Rat)).num.natAbs
theorem oK{U E:Nat}{q:List Rat}(hq:FrL U E q):ldD q E<W32 ^ U:=(fV hq).2
theorem lh{U E:Nat}{q:List Rat}(hq:FrL U E q)(h0:aQ q≠0)(hE:0<E):0<ldD q E:=by
 rcases Nat.eq_zero_or_pos (ldD q E) with h|h
 ·exfalso;have h1:(aQ q*(E:Rat)).num=0:=by unfold ldD at h;omega
  have h2:=(fV hq).1.eq;rw [h1] at h2;rcases Rat.mul_eq_zero.1 h2 with h3|h3
  ·exact h0 h3
  ·have:((E:Nat):Rat)=(((E:Nat):Int):Rat):=rfl;rw [this] at h3;have h4:=congrArg Rat.num h3;rw [Rat.num_intCast] at h4;have:((0:Rat)).num=0:=rfl;omega
 ·exact h
theorem qw{S U D E:Nat}{p q:List Rat}(hp:FrL S D p)(hq:FrL U E q)(h0:aQ q≠0):FrL (S+U+1) (D*ldD q E) (eK p q):=by
 unfold eK;refine FrL.tz (FrL.range fun i _=>?_);refine o4 (fV hq) ?_;have h1:Wz (S+U) (p.getD i 0*(D:Rat)*(aQ q*(E:Rat))):=Wz.mul (hp.at i) (fV hq);have h2:Wz (S+U) (aQ p*(D:Rat)*(q.getD (i-(p.length-q.length)) 0*(E:Rat))):=Wz.mul (hp.at _) (hq.at _);have h3:=bL (a:=aQ p) h0;split
 ·have e:(p.getD i 0-aQ p / aQ q*q.getD (i-(p.length-q.length)) 0)*(D:Rat)*(aQ q*(E:Rat))=p.getD i 0*(D:Rat)*(aQ q*(E:Rat))-aQ p*(D:Rat)*(q.getD (i-(p.length-q.length)) 0*(E:Rat)):=by
   generalize aQ p / aQ q=c at *
   rw [←h3];grind
  rw [e];exact h1.sub h2
 ·have e:(p.getD i 0-0)*(D:Rat)*(aQ q*(E:Rat))=p.getD i 0*(D:Rat)*(aQ q*(E:Rat)):=by grind
  rw [e];exact h1.mono (by omega)
theorem s5{S D:Nat}{p:List Rat}(hp:FrL S D p):FrL S (ldD (tz p) D) (cO p):=by
 unfold cO;split
 ·intro x hx;simp at hx
 ·next h =>
  refine FrL.tz fun x hx=>?_
  obtain ⟨y,hy,rfl⟩:=List.mem_map.1 hx;have h1:=o4 (S:=S) (D:=1) (x:=y*(((1:Int):Rat) / aQ (tz p))) (fV hp.tz) (by
   have h2:=bL (a:=((1:Int):Rat)) (cJ h);have e:y*(((1:Int):Rat) / aQ (tz p))*((1:Nat):Rat)*(aQ (tz p)*(D:Rat))=y*(D:Rat):=by
    have h3:((1:Int):Rat)=1:=rfl;have h4:((1:Nat):Rat)=1:=rfl;rw [h4];rw [h3] at h2 ⊢;generalize 1 / aQ (tz p)=c at *
    grind
   rw [e];exact hp.tz y hy)
  rwa [Nat.one_mul] at h1
def nR(b a:List Rat)(x:Nat→Rat)(y:List Rat):Rat:=sm (y.length+1) (fun k=>b.getD k 0*x (y.length-k))-sm y.length (fun k=>a.getD (k+1) 0*y.getD (y.length-1-k) 0)
def bg(b a:List Rat)(x:Nat→Rat):Nat→List Rat
 | 0=>[]
 | n+1=>bg b a x n++[nR b a x (bg b a x n)]
theorem aR(b a:List Rat)(x:Nat→Rat)(n:Nat):(bg b a x n).length=n:=by
 induction n with
 | zero=>rfl
 | succ n ih=>unfold bg;rw [List.length_append,ih];rfl
theorem oV{l:List Rat}{x:Rat}:(l++[x]).getD l.length 0=x:=by simp
theorem kq{l:List Rat}{x:Rat}{k:Nat}(h:k<l.length):(l++[x]).getD k 0=l.getD k 0:=by simp [List.getElem?_append_left h]
theorem gE(b a:List Rat)(x:Nat→Rat){k m:Nat}(h:k<m):(bg b a x m).getD k 0=nR b a x (bg b a x k):=by
 induction m with
 | zero=>omega
 | succ m ih =>
  show (bg b a x m++[nR b a x (bg b a x m)]).getD k 0=_;rcases Nat.lt_or_ge k m with h1|h1
  ·rw [kq (by rw [aR];exact h1)];exact ih h1
  ·obtain rfl:k=m:=by omega
   have:=oV (l:=bg b a x k) (x:=nR b a x (bg b a x k))
   rwa [aR] at this
theorem fG(b a:List Rat)(x:Nat→Rat){k m n:Nat}(h:k<m)(h2:k<n):(bg b a x m).getD k 0=(bg b a x n).getD k 0:=by rw [gE b a x h,gE b a x h2]
theorem nS(b a:List Rat)(x:Nat→Rat){m n:Nat}(h:m≤n):(bg b a x n).take m=bg b a x m:=by
 apply getD_ext
 ·rw [List.length_take,aR,aR];omega
 ·intro i hi;rw [List.length_take,aR] at hi;rw [cG (by omega)];exact fG b a x (by omega) (by omega)
theorem nQ(b a:List Rat){x z:Nat→Rat}{n:Nat}(h:∀ i,i<n→x i=z i):bg b a x n=bg b a z n:=by
 induction n with
 | zero=>rfl
 | succ n ih =>
  unfold bg;rw [ih (fun i hi=>h i (by omega))]
  congr 2
  unfold nR;rw [aR]
  congr 1
  exact sm_congr (fun i hi=>by rw [h (n-i) (by omega)])
theorem ur(b a:List Rat)(x:Nat→Rat)(n:Nat):bg (tz b) (tz a) x n=bg b a x n:=by
 induction n with
 | zero=>rfl
 | succ n ih =>
  unfold bg;rw [ih]
  congr 2
  unfold nR
  congr 1
  ·exact sm_congr (fun i _=>by rw [aD])
  ·exact sm_congr (fun i _=>by rw [aD])
theorem lz(a:List Rat)(u:Nat→Rat)(n:Nat):ap a u n=a.getD 0 0*u n+sm n (fun k=>a.getD (k+1) 0*u (n-1-k)):=by
 rw [lA];unfold cv;rw [ew]
 congr 1
 exact sm_congr (fun i hi=>by show a.getD (i+1) 0*u (n-(i+1))=_;rw [show n-(i+1)=n-1-i by omega])
theorem nP{b a:List Rat}(x:Nat→Rat)(ha:a.getD 0 0=1){n N:Nat}(h:n<N):ap a (seq (bg b a x N)) n=ap b x n:=by
 rw [lz,ha];have e:seq (bg b a x N) n=nR b a x (bg b a x n):=gE b a x h;rw [e];unfold nR;rw [aR];have e2:sm n (fun k=>a.getD (k+1) 0*seq (bg b a x N) (n-1-k))=sm n (fun k=>a.getD (k+1) 0*(bg b a x n).getD (n-1-k) 0):=sm_congr (fun i hi=>by
  show _*(bg b a x N).getD _ 0=_;rw [fG b a x (k:=n-1-i) (m:=N) (n:=n) (by omega) (by omega)])
 rw [e2,lA];unfold cv seq;grind
theorem qt{b a:List Rat}(x:Nat→Rat)(ha:a.getD 0 0=1){u:Nat→Rat}{N:Nat}(h:∀ n,n<N→ap a u n=ap b x n):∀ n,n<N→u n=seq (bg b a x N) n:=by
 intro n;induction n using Nat.strongRecOn with
 | ind n ih =>
  intro hn;have h1:=h n hn;have h2:=nP x ha (b:=b) hn;rw [←h1,lz,lz,ha] at h2;rw [sm_congr (g:=fun k=>a.getD (k+1) 0*u (n-1-k)) (fun i hi=>by rw [ih (n-1-i) (by omega) (by omega)])] at h2;grind
theorem sq(p:List Rat)(u v:Nat→Rat):ap p (fun n=>u n+v n)=fun n=>ap p u n+ap p v n:=by
 simp only [lA,et (seq p),jg]
theorem sp(p:List Rat)(c:Rat)(u:Nat→Rat):ap p (fun n=>c*u n)=fun n=>c*ap p u n:=by
 simp only [lA,et (seq p),er]
theorem sI{b a:List Rat}(ha:a.getD 0 0=1){x y z:Nat→Rat}{c:Rat}{N:Nat}(h:∀ n,n<N→z n=x n*c+y n):∀ n,n<N→(bg b a z N).getD n 0=(bg b a x N).getD n 0*c+(bg b a y N).getD n 0:=by
 intro n hn;have h1:=qt (b:=b) z ha (u:=fun n=>c*seq (bg b a x N) n+seq (bg b a y N) n) (N:=N) (fun n hn=>by
  rw [sq a (fun n=>c*seq (bg b a x N) n),sp];show c*ap a (seq (bg b a x N)) n+ap a (seq (bg b a y N)) n=_;rw [nP x ha hn,nP y ha hn];have e:ap b z n=ap b (fun n=>c*x n+y n) n:=rI b (fun i hi=>by rw [h i (by omega)];grind);rw [e,sq b (fun n=>c*x n),sp]) n hn
 show seq (bg b a z N) n=seq (bg b a x N) n*c+seq (bg b a y N) n;rw [←h1];grind
def nsm:Nat→(Nat→Nat)→Nat
 | 0,_=>0
 | n+1,f=>nsm n f+f n
theorem ui{t:Nat→Nat}{f:Nat→Rat}{n:Nat}(h:∀ i,i<n→Sz (t i) (f i)):Sz (1+nsm n (fun i=>t i+1)) (sm n f):=by
 induction n with
 | zero=>exact Sz.zero (by show 1≤1+0;decide)
 | succ n ih =>
  show Sz (1+(nsm n _+(t n+1))) (sm n f+f n);exact ((ih (fun i hi=>h i (by omega))).add (h n (by omega))).mono (by omega)
theorem tf(K c n:Nat):∀ m,m≤n→nsm m (fun i=>c+K*2 ^ (n-1-i))+K*2 ^ (n-m)=m*c+K*2 ^ n:=by
 intro m;induction m with
 | zero=>intro _;simp [nsm]
 | succ m ih =>
  intro h;have h1:=ih (by omega);show nsm m _+(c+K*2 ^ (n-1-m))+K*2 ^ (n-(m+1))=_;have e:K*2 ^ (n-m)=K*2 ^ (n-1-m)+K*2 ^ (n-(m+1)):=by
   rw [show n-m=(n-(m+1))+1 by omega,show n-1-m=n-(m+1) by omega,Nat.pow_succ,←Nat.mul_assoc];omega
  rw [Nat.succ_mul];omega
def jt(sb sa sx lb la:Nat):Nat:=4+lb*(sb+sx+1)+la*(sa+1)
theorem j9{b:List Rat}{x:Nat→Rat}{sb sx n:Nat}(hb:SzL sb b)(h1:1≤sb)(hx:∀ i,Sz sx (x i))(k:Nat):Sz (1+k*(sb+sx+1)) (sm (min k (n+1)) (fun k=>b.getD k 0*x (n-k))):=by
 refine (qj (t:=sb+sx) (fun i _=>(hb.getD h1 i).mul (hx _))).mono ?_;have:=Nat.mul_le_mul_right (sb+sx+1) (show min k (n+1)≤k by omega);omega
theorem nO{a:List Rat}{y:List Rat}{sa K n:Nat}(ha:SzL sa a)(h1:1≤sa)(hy:∀ i,i<n→Sz (K*2 ^ i) (y.getD i 0))(hn:1≤K)(k:Nat):Sz (1+k*(sa+1)+K*2 ^ n-K) (sm (min k n) (fun k=>a.getD (k+1) 0*y.getD (n-1-k) 0)):=by
 have h2:=ui (t:=fun i=>sa+K*2 ^ (n-1-i)) (f:=fun k=>a.getD (k+1) 0*y.getD (n-1-k) 0) (n:=min k n) (fun i hi=>(ha.getD h1 _).mul (hy _ (by omega)));refine h2.mono ?_;have h3:=tf K (sa+1) n (min k n) (by omega);have e:nsm (min k n) (fun i=>sa+K*2 ^ (n-1-i)+1)=nsm (min k n) (fun i=>sa+1+K*2 ^ (n-1-i)):=by
  congr 1
  funext i
  omega
 rw [e];have h4:=Nat.mul_le_mul_right (sa+1) (show min k n≤k by omega);have h5:1≤2 ^ (n-min k n):=Nat.one_le_two_pow;have h6:=Nat.mul_le_mul_left K h5;omega
theorem nN{b a y:List Rat}{x:Nat→Rat}{sb sa sx lb la n:Nat}(hb:SzL sb b)(ha:SzL sa a)(h1:1≤sb)(h2:1≤sa)(hx:∀ i,Sz sx (x i))(hlb:b.length≤lb)(hla:a.length≤la)
 (hy:∀ i,i<n→Sz (jt sb sa sx lb la*2 ^ i) (y.getD i 0))(k j:Nat)(hk:k≤lb)(hj:j≤la) :
  Sz (jt sb sa sx lb la*2 ^ n) (sm (min k (n+1)) (fun k=>b.getD k 0*x (n-k))-sm (min j n) (fun k=>a.getD (k+1) 0*y.getD (n-1-k) 0)):=by
 refine ((j9 hb h1 hx k).sub (nO ha h2 hy (by unfold jt;omega) j)).mono ?_;have h3:=Nat.mul_le_mul_right (sb+sx+1) hk;have h4:=Nat.mul_le_mul_right (sa+1) hj;have h5:1≤2 ^ n:=Nat.one_le_two_pow;have h6:=Nat.mul_le_mul_left (jt sb sa sx lb la) h5;have e:jt sb sa sx lb la=4+lb*(sb+sx+1)+la*(sa+1):=rfl;omega
theorem rP{f:Nat→Rat}{n l k:Nat}(h:∀ i,l≤i→f i=0)(hk:l≤k):sm (min k n) f=sm n f:=by
 refine j5 (by omega) (fun i h1 h2=>h i (by omega))
theorem lS{b a:List Rat}{x:Nat→Rat}{y:List Rat}{n k j:Nat}(hn:y.length=n)(hk:b.length≤k)(hj:a.length≤j+1):sm (min k (n+1)) (fun k=>b.getD k 0*x (n-k))-sm (min j n) (fun k=>a.getD (k+1) 0*y.getD (n-1-k) 0)=nR b a x y:=by
 unfold nR;rw [hn,rP (l:=b.length) (fun i hi=>by rw [bu hi];grind) hk,rP (l:=j) (fun i hi=>by rw [bu (l:=a) (by omega)];grind) (Nat.le_refl _)]
theorem rR{b a:List Rat}{x:Nat→Rat}{sb sa sx lb la:Nat}(hb:SzL sb b)(ha:SzL sa a)(h1:1≤sb)(h2:1≤sa)(hx:∀ i,Sz sx (x i))(hlb:b.length≤lb)(hla:a.length≤la)(N:Nat):∀ n,n<N→Sz (jt sb sa sx lb la*2 ^ n) ((bg b a x N).getD n 0):=by
 induction N with
 | zero=>intro n hn;omega
 | succ N ih =>
  intro n hn;rcases Nat.lt_or_ge n N with h|h
  ·rw [fG b a x (m:=N+1) (n:=N) (by omega) h];exact ih n h
  ·obtain rfl:n=N:=by omega
   rw [gE b a x (by omega),←lS (aR b a x n) hlb (by omega:a.length≤la+1)];exact nN hb ha h1 h2 hx hlb hla ih lb la (Nat.le_refl _) (Nat.le_refl _)
theorem tG(c:Rat)(s u:Nat→Rat):cv u (fun n=>c*s n)=fun n=>c*cv u s n:=by rw [et,er,et s]
theorem qi{n:Nat}{f:Nat→Rat}(h:∀ i,i<n→f i=0):sm n f=0:=by rw [sm_congr (g:=fun _=>0) h,sm_zero]
def FrB(S:Nat)(l:List Rat):Prop:=1≤S∧∃ D,0<D∧D<W32 ^ S∧FrL S D l
theorem iN{S U:Nat}(h:S≤U):W32 ^ S≤W32 ^ U:=Nat.pow_le_pow_right ax h
theorem FrB.mono{S U:Nat}{l:List Rat}(h:FrB S l)(hS:S≤U):FrB U l:=by
 obtain ⟨h0,D,h1,h2,h3⟩:=h;exact ⟨by omega,D,h1,Nat.lt_of_lt_of_le h2 (iN hS),h3.mono hS⟩
theorem FrB.sz{S:Nat}{l:List Rat}(h:FrB S l):SzL S l:=by
 obtain ⟨h0,D,h1,h2,h3⟩:=h;exact h3.sz h0 h1 h2
theorem FrB.tz{S:Nat}{l:List Rat}(h:FrB S l):FrB S (tz l):=by
 obtain ⟨h0,D,h1,h2,h3⟩:=h;exact ⟨h0,D,h1,h2,h3.tz⟩
theorem jw{S U D E:Nat}(hD:D<W32 ^ S)(hE:E<W32 ^ U)(h:0<E):D*E<W32 ^ (S+U):=by
 rw [Nat.pow_add];exact Nat.mul_lt_mul_of_lt_of_lt hD hE
theorem FrB.mul{S U:Nat}{p q:List Rat}(hp:FrB S p)(hq:FrB U q)(hl:p.length≤1000000):FrB (S+U+1) (ch p q):=by
 obtain ⟨h0,D,h1,h2,h3⟩:=hp;obtain ⟨k0,E,k1,k2,k3⟩:=hq;exact ⟨by omega,D*E,Nat.mul_pos h1 k1,Nat.lt_of_lt_of_le (jw h2 k2 k1) (iN (by omega)),s4 h3 k3 (Nat.le_trans hl (by decide))⟩
theorem FrB.add{S U:Nat}{p q:List Rat}(hp:FrB S p)(hq:FrB U q):FrB (S+U+1) (fj p q):=by
 obtain ⟨h0,D,h1,h2,h3⟩:=hp;obtain ⟨k0,E,k1,k2,k3⟩:=hq;refine ⟨by omega,D*E,Nat.mul_pos h1 k1,Nat.lt_of_lt_of_le (jw h2 k2 k1) (iN (by omega)),tP (h3.den k2) ?_⟩;have:=k3.denl h2
 rwa [Nat.add_comm U S] at this
theorem FrB.neg{S:Nat}{p:List Rat}(hp:FrB S p):FrB S (p.map (fun x=>-x)):=by
 obtain ⟨h0,D,h1,h2,h3⟩:=hp;exact ⟨h0,D,h1,h2,fun x hx=>by
  obtain ⟨y,hy,rfl⟩:=List.mem_map.1 hx;exact (h3 y hy).neg⟩
theorem FrB.cross{S U:Nat}{p q:List Rat}(hp:FrB S p)(hq:FrB U q)(hl:p.length≤21)(hl2:q.length≤21):FrB (S+U+4) (az p q):=by
 obtain ⟨h0,D,h1,h2,h3⟩:=hp;obtain ⟨k0,E,k1,k2,k3⟩:=hq;exact ⟨by omega,D*E,Nat.mul_pos h1 k1,Nat.lt_of_lt_of_le (jw h2 k2 k1) (iN (by omega)),rC h3 k3 hl hl2⟩
theorem FrB.of{k n:Nat}{p:List Rat}(h:SzL k p)(hl:p.length≤n):FrB (k*(n+1)+1) p:=by
 obtain ⟨D,h1,h2,h3⟩:=rZ p h;have e:=Nat.mul_le_mul_left k (show p.length+1≤n+1 by omega);have e2:=Nat.mul_le_mul_left k (show p.length≤n+1 by omega);exact ⟨by omega,D,h1,Nat.lt_of_lt_of_le h2 (iN (by omega)),FrL.mono h3 (by omega)⟩
theorem FrB.range{S n:Nat}{l:List Rat}(h:FrB S l){f:Nat→Rat}(hf:∀ i,i<n→∃ z,Wz 1 z∧f i=z*l.getD i 0):FrB (S+1) ((List.range n).map f):=by
 obtain ⟨h0,D,h1,h2,h3⟩:=h;refine ⟨by omega,D,h1,Nat.lt_of_lt_of_le h2 (iN (by omega)),FrL.range fun i hi=>?_⟩;obtain ⟨z,hz,e⟩:=hf i hi;rw [e];exact Fr.imul hz (h3.at i)
end Go.Proofs.YtofhkmcllihgmaaGreat
/- Py1, Py2 -/
set_option linter.unusedVariables false
set_option maxRecDepth 8000
set_option maxHeartbeats 4000000
namespace Go.Proofs.YtofhkmcllihgmaaGreat
open Go.RowKit Go.Front Go.Num
attribute [local go_sem] XW.cell XW.frozen
def bB(w:World)(L:Nat)(os:List Rat):Prop:=∃ rs re,RBk w L rs re∧re.toList.all gH=true∧dV au w rs os
theorem bB.ext{w w':World}{L:Nat}{os:List Rat}(h:bB w L os)(he:Ext w w'):bB w' L os:=let ⟨rs,re,h1,h0,h2⟩:=h;⟨rs,re,h1.ext he,h0,h2.can_ext he⟩
instance {w w':World} {L:Nat} {os:List Rat}:Go.Front.Mv w w' (bB w L os) (bB w' L os):=⟨fun e h=>bB.ext h e⟩

theorem bB.lt{w:World}{L:Nat}{os:List Rat}(h:bB w L os):L<w.heap.size:=let ⟨_,_,h1,_⟩:=h;h1.lt
theorem bB.frozen{w:World}{L:Nat}{os:List Rat}(h:bB w L os)(i:Nat):w.frozen? ⟨L,i,none⟩=false:=let ⟨_,_,h1,_⟩:=h;h1.frozen i
theorem bB.cells{w:World}{L:Nat}{os:List Rat}(h:bB w L os){k:Nat}(hk:k<os.length):∃ r,RAt w L (k*3) r∧au w r (os.getD k 0):=by
 obtain ⟨rs,re,h1,h0,h2⟩:=h;exact ⟨_,h1.at (by rw [h2.1];exact hk),h2.2 k hk⟩
theorem bB.can{w:World}{L M c:Nat}{os:List Rat}(h:bB w L os)(hl:os.length=M)(hc:M≤c)(hM:c≤9223372036854775807):aI w ⟨some ⟨L,0,none⟩,M,c⟩ os:=by
 obtain ⟨rs,re,h1,h0,h2⟩:=h;exact ⟨rs,h1.rs (by rw [h2.1,hl]) hc hM,h2⟩
theorem bB.put{w1 w2:World}{L b:Nat}{os:List Rat}{T:TypeId}{cs:Array Value}(h:bB w1 L os)(T2:gp w1 b T cs w2)(hb:b≠L):bB w2 L os:=by
 obtain ⟨rs,re,h1,h0,h2⟩:=h;exact ⟨rs,re,T2.rest L _ (Ne.symm hb) h1,h0,h2.keep T2.keep⟩
theorem i7{w1:World}{L k:Nat}{os:List Rat}{q:Rat}{F:World→Prop}{x:RH}(h:bB w1 L os)(hk:k<os.length)(hx:au w1 x q)
 (H:∀ w2,(∃ cs,gp w1 L 30 cs w2)→bB w2 L (os.set k q)→F w2) :
  F (((w1.setCell ⟨L,k*3,none⟩ (.bool x.neg)).setCell ⟨L,k*3+1,none⟩ (.slice x.a x.n x.c)).setCell ⟨L,k*3+2,none⟩ (.slice x.b x.m x.d)):=by
 obtain ⟨rs,re,h1,h0,h2⟩:=h;refine bT h1 h0 (by rw [h2.1];exact hk) fun w2 T=>H w2 ⟨_,T⟩ ⟨rs.set k x,re,T.bx,h0,(h2.keep T.keep).set (hx.keep T.keep) k⟩
theorem dJ.row{w:World}{L M:Nat}{rs:List RH}{ts:List Rat}(h:dJ w rs ts)(hb:RBk w L rs #[])(hl:rs.length=M)(ht:ts.length=M):bB w L ts:=⟨rs,#[],hb,rfl,by rw [hl,ht],h⟩
def fQ(B:Nat)(w:World)(x:SH)(os:List Rat):Prop:=∃ L,B≤L∧x=⟨some ⟨L,0,none⟩,os.length,os.length⟩∧bB w L os
theorem fQ.ext{B:Nat}{w w':World}{x:SH}{os:List Rat}(h:fQ B w x os)(he:Ext w w'):fQ B w' x os:=let ⟨L,h1,h2,h3⟩:=h;⟨L,h1,h2,h3.ext he⟩
instance {B:Nat} {w w':World} {x:SH} {os:List Rat}:Go.Front.Mv w w' (fQ B w x os) (fQ B w' x os):=⟨fun e h=>fQ.ext h e⟩

theorem jV(M:Nat)(w:World)(hM:M≤1000000):aq 235 [.int .i64 (M:Nat)] w SH.v (fun x w'=>fQ w.heap.size w' x (List.replicate M 0)):=by
 obtain ⟨i0,hi0,hz0,hz1,hz2⟩:=info_parts eN;have HX:=Hi (Ext.refl w);unfold aq;go_enter Tryz.func235,Tryz.ntmps235
 go_upto_region 2 with (refine ar rfl (.tmp 5) (.tmp 5) 41 rfl 30 i0 (RH.v default) 3 Tryz.underlying41 hi0 hz0 hz1 _ _ M rfl rfl (by omega) (by omega) (by rw [hz2];omega) (by omega) ?_;intro w3 hnew hE)
 have KB:=Hi (RBk.make rfl hnew);clear hnew;replace HX:=hE.tr HX;have hs_w3:=hE.size;clear hE;obtain ⟨L,hL⟩:∃ L,L=w.heap.size:=⟨_,rfl⟩;have hLw:w.heap.size≤L:=by omega
 rw [←hL] at KB ⊢;clear hL;go_wp2
 go_loopg [9] M (fun g v wr=>∃ (i:Nat) (rs:List RH),i+g=M∧v=.int .i64 (i:Nat)∧Ext w wr∧RBk wr L rs #[]∧rs.length=M∧dJ wr rs (List.replicate i 0))
 case atStart=>exact ⟨0,_,by omega,rfl,HX.out,KB.out,by simp,fun j hj=>by simp at hj⟩
 case round =>
  obtain ⟨i,rs,hi,rfl,g1,g4,g5,g6⟩:=hrel;clear HX KB;have HX:=Hi g1;have KB:=Hi g4;have HRl:=Hi g5;have PC:=Hi g6;clear g1 g4 g5 g6
  try clear f_KB l_KB
  have f_KB:=ab KB.out;have l_KB:=(Array.getElem?_eq_some_iff.1 KB.out).1;by_cases h0:gk=0
  case neg =>
   have hin:(i:Int)<M:=by omega
   go_wp2_with fail
   refine cM (aW 0 _ (by decide) (by decide)) fun x2 w2 hE G2=>?_
   refine mV3 hE ?_ HX KB PC;clear HX KB PC;intro HX KB PC;have hs_w2:=hE.size;clear hE
   try clear f_KB l_KB
   have f_KB:=ab KB.out;have l_KB:=(Array.getElem?_eq_some_iff.1 KB.out).1;obtain ⟨f1,f2,f3⟩:=RBk.at (re:=#[]) KB.out (k:=i) (by rw [HRl.out];omega)
   go_upto_region 6 with fail
   refine bT (k:=i) KB.out rfl (by rw [HRl.out];omega) ?_;intro y6 T;clear f1 f2 f3;replace HX:=Hi (T.ext HX.out (by omega));replace KB:=Hi (T.bx);replace PC:=Hi (PC.out.keep T.keep);replace G2:=Hi (G2.out.keep T.keep);have hs_y6:=nle T.size;have hr_y6:=nle T.size.symm;clear T
   try clear f_KB l_KB
   have f_KB:=ab KB.out;have l_KB:=(Array.getElem?_eq_some_iff.1 KB.out).1;replace PC:=Hi (PC.out.snoc (x:=x2) (i:=i) (by simp) (by rw [HRl.out];omega) G2.out);have HRp:Hid (List.replicate i (0:Rat)++[((0:Int):Rat)]=List.replicate (i+1) 0):=Hi (by rw [List.replicate_succ'];rfl);rw [HRp.out] at PC;go_wp2
   go_roundg (gk-1)
   case measure=>omega
   case rel=>exact ⟨i+1,_,by omega,by go_num,HX.out,KB.out,by rw [List.length_set];exact HRl.out,PC.out⟩
  subst h0;obtain rfl:i=M:=by omega
  have hin:¬ (i:Int)<i:=by omega
  have HO:Hid (bB wr L (List.replicate i 0)):=Hi (PC.out.row KB.out HRl.out (by simp));go_wp2
  go_ret
  exact ⟨⟨some ⟨L,0,none⟩,i,i⟩,rfl,HX.out,L,hLw,by simp,HO.out⟩
theorem l6{w:World}{L:Nat}{T:TypeId}(h:w.heap[L]?=some (.cells #[.int .u32 1] T (0,0))):U32 w (some ⟨L,0,none⟩) 1 1 (digs 1):=by
 rw [gM];refine ⟨rfl,Nat.le_refl _,by decide,fun d hd=>?_,Or.inr ⟨L,0,rfl,fun k hk=>?_⟩⟩
 ·obtain rfl:d=1:=by simpa using hd
  decide
 ·obtain rfl:k=0:=by omega
  rw [ae h];rfl
theorem sU{w1:World}{b b':Nat}{T T':TypeId}{c0 c1 c2 v0 v1 v2 c0' c1' c2' v0' v1' v2':Value}{F:World→Prop}(hb:w1.heap[b]?=some (.cells #[c0,c1,c2] T (0,0)))(hn:#[c0,c1,c2].toList.all gH=true)
 (hb':w1.heap[b']?=some (.cells #[c0',c1',c2'] T' (0,0)))(hn':#[c0',c1',c2'].toList.all gH=true)(hne:b'≠b)
 (H:∀ w2 w3 w4,gp w1 b T #[v0,v1,v2] w2→gp w2 b' T' #[v0',v1',v2'] w3→Ext w3 w4→F w4) :
  F ((((((w1.setCell ⟨b,0,none⟩ v0).setCell ⟨b,1,none⟩ v1).setCell ⟨b,2,none⟩ v2).setCell ⟨b',0,none⟩ v0').setCell ⟨b',1,none⟩ v1').setCell ⟨b',2,none⟩ v2').drew :=
 bm (v0:=v0) (v1:=v1) (v2:=v2) (F:=fun W=>F ((((W.setCell ⟨b',0,none⟩ v0').setCell ⟨b',1,none⟩ v1').setCell ⟨b',2,none⟩ v2').drew)) hb hn fun w2 T2 =>
  bm (v0:=v0') (v1:=v1') (v2:=v2') (F:=fun W=>F W.drew) (T2.rest _ _ hne hb') hn' fun w3 T3=>H w2 w3 _ T2 T3 (Ext.drew _)
abbrev PT(x:RH×RH):Value:=.tuple #[x.1.v,x.2.v]
theorem f8(t:RH)(q:Rat)(w:World)(h:au w t q):aq 241 [t.v] w PT (fun x w'=>au w' x.1 (q.num:Rat)∧au w' x.2 ((q.den:Int):Rat)):=by
 obtain ⟨neg,a,n,c,b,m,d⟩:=t;have H:=Hi h;have HX:=Hi (Ext.refl w);clear h;unfold aq;go_enter Tryz.func241,Tryz.ntmps241
 go_upto_region 1 with fail
 refine ux ?_;intro w1 hE B1 B2 B3 hz_w1 hr_w1;replace HX:=hE.tr HX;have hs_w1:=hE.size;clear hE;replace b_B1:=bX3 B1;replace b_B2:=bX3 B2;replace b_B3:=bX3 B3
 go_upto_region 2 with fail
 refine nmA ?_;intro w2 hE BO hz_w2 hr_w2;refine mV4 hE ?_ B1 B2 B3 HX;clear B1 B2 B3 HX;intro B1 B2 B3 HX;have hs_w2:=hE.size;clear hE;replace b_B1:=bX3 B1;replace b_B2:=bX3 B2;replace b_B3:=bX3 B3;replace b_BO:=bX3 BO
 go_region
 refine sU B2.out rfl B3.out rfl (by omega) ?_;intro y3 y4 y5 T3 T4 E5;have HY:Hid (Ext w y5):=Hi ((T4.ext (T3.ext HX.out (by omega)) (by omega)).trans E5);have HO:=Hi (E5.block (T4.rest _ _ (by omega) (T3.rest _ _ (by omega) BO.out)));have HA:=Hi (H.out.ext HY.out);have C2:=Hi (E5.block (T4.rest _ _ (by omega) T3.bx));have C3:=Hi (E5.block T4.bx);have c_C2:=ae C2.out;have c_C3:=ae C3.out;have f_C2:=ab C2.out;have f_C3:=ab C3.out;clear T3 T4 E5 b_B1 b_B2 b_B3 b_BO;go_wp2;exact bodyPost_ret (v:=PT (⟨neg,a,n,c,some ⟨w1.heap.size,0,none⟩,1,1⟩,⟨false,b,m,d,some ⟨w1.heap.size,0,none⟩,1,1⟩)) (by simp [results,Tryz.results241,go_sem,PT,c_C2,c_C3]) rfl
  ⟨(⟨neg,a,n,c,some ⟨w1.heap.size,0,none⟩,1,1⟩,⟨false,b,m,d,some ⟨w1.heap.size,0,none⟩,1,1⟩),rfl,HY.out,
   ⟨by rw [Rat.num_intCast];exact HA.out.1,by rw [Rat.num_intCast];exact HA.out.2.1,by rw [Rat.den_intCast];exact l6 HO.out⟩,
   ⟨by rw [Rat.num_intCast];exact (decide_eq_false (by omega)).symm,by rw [Rat.num_intCast];exact HA.out.2.2,by rw [Rat.den_intCast];exact l6 HO.out⟩⟩
theorem Sz.numz{k:Nat}{q:Rat}(h:Sz k q):Sz k (q.num:Rat):=⟨by rw [Rat.num_intCast];exact h.1,by rw [Rat.den_intCast];exact Nat.one_lt_pow (by have:=h.one_le;omega) (by decide)⟩
theorem k7(s t:RH)(a b:Rat)(K:Nat)(w:World)(h:au w s a)(k:bi w t b)(ha:Sz K a)(hb:Sz K b)(hK:K≤30000000):aq 279 [s.v,t.v] w RH.v (fun x w'=>au w' x (iP a b)):=by
 obtain ⟨sneg,sa,sn,sc,sb,sm,sd⟩:=s;obtain ⟨tneg,ta,tn,tc,tb,tm,td⟩:=t;have H:=Hi h;have K2:=Hi k;have HX:=Hi (Ext.refl w);have ZA:=Hi ha;have ZB:=Hi hb;clear h k ha hb;unfold aq;go_enter Tryz.func279,Tryz.ntmps279
 go_upto_region 1 with fail
 refine ux ?_;intro w1 hE B2 B3 B4 hz_w1 hr_w1;refine mV3 hE ?_ H K2 HX;clear H K2 HX;intro H K2 HX;have hs_w1:=hE.size;clear hE;replace b_B2:=bX3 B2;replace b_B3:=bX3 B3;replace b_B4:=bX3 B4
 go_wp2_with fail
 refine cM (fH ⟨sneg,sa,sn,sc,sb,sm,sd⟩ a _ (H.out.raw ZA.out (by omega))) fun x2 w2 hE _=>?_
 refine mV6 hE ?_ B2 B3 B4 H K2 HX;clear B2 B3 B4 H K2 HX;intro B2 B3 B4 H K2 HX;have hs_w2:=hE.size;clear hE;replace b_B2:=bX3 B2;replace b_B3:=bX3 B3;replace b_B4:=bX3 B4;have HZ:=Hi (eH a);obtain ⟨cc,hcc⟩:∃ cc,cc=fU a 0:=⟨_,rfl⟩;rw [←hcc] at HZ ⊢;clear hcc;by_cases hz:cc=0
 case pos =>
  subst hz;have HV:Hid (iP a b=b.abs):=Hi (by unfold iP;rw [if_pos (HZ.out.1 rfl)]);clear HZ
  go_wp2_with fail
  refine cM (lW ⟨tneg,ta,tn,tc,tb,tm,td⟩ b _ K2.out) fun x3 w3 hE G3=>?_
  refine mV6 hE ?_ B2 B3 B4 H K2 HX;clear B2 B3 B4 H K2 HX;intro B2 B3 B4 H K2 HX;have hs_w3:=hE.size;clear hE;replace b_B2:=bX3 B2;replace b_B3:=bX3 B3;replace b_B4:=bX3 B4;go_wp2;have hF:=((((Fin.start (L:=w.heap.size+2) HX.out (ah B4.out rfl)).set (by omega) (i:=0) (v:=.bool x3.neg) rfl).set (by omega) (i:=1) (v:=.slice x3.a x3.n x3.c) rfl).set (by omega) (i:=2) (v:=.slice x3.b x3.m x3.d) rfl);exact bodyPost_ret (v:=x3.v) (by simp [results,Tryz.results279,go_sem,ae B4.out]) rfl ⟨x3,rfl,hF.ext,(by rw [HV.out];exact G3.out.keep hF.keep)⟩
 have hzb:(cc == 0)=false:=by simpa using hz
 have Ha0:Hid (a≠0):=Hi (fun h=>hz (HZ.out.2 h));clear hz HZ;by_cases hb0:b=0
 case pos =>
  have HV:Hid (iP a b=a):=Hi (by unfold iP;rw [if_neg Ha0.out,if_pos hb0]);have Hb0:=Hi hb0;clear hb0
  go_wp2_with fail
  refine cM (nX ⟨sneg,sa,sn,sc,sb,sm,sd⟩ ⟨tneg,ta,tn,tc,tb,tm,td⟩ a b _ (H.out.raw ZA.out (by omega)) K2.out Hb0.out) fun x3 w3 hE _=>?_
  refine mV6 hE ?_ B2 B3 B4 H K2 HX;clear B2 B3 B4 H K2 HX;intro B2 B3 B4 H K2 HX;have hs_w3:=hE.size;clear hE;replace b_B2:=bX3 B2;replace b_B3:=bX3 B3;replace b_B4:=bX3 B4
  go_upto_region 4 with fail
  refine nmA ?_;intro y4 hE B5 hz_y4 hr_y4;refine mV6 hE ?_ B2 B3 B4 H K2 HX;clear B2 B3 B4 H K2 HX;intro B2 B3 B4 H K2 HX;have hs_y4:=hE.size;clear hE;replace b_B2:=bX3 B2;replace b_B3:=bX3 B3;replace b_B4:=bX3 B4;replace b_B5:=bX3 B5;go_wp2;have hF:=((((Fin.start (L:=w.heap.size+2) HX.out (ah B4.out rfl)).set (by omega) (i:=0) (v:=.bool (⟨sneg,sa,sn,sc,sb,sm,sd⟩:RH).neg) rfl).set (by omega) (i:=1) (v:=.slice (⟨sneg,sa,sn,sc,sb,sm,sd⟩:RH).a (⟨sneg,sa,sn,sc,sb,sm,sd⟩:RH).n (⟨sneg,sa,sn,sc,sb,sm,sd⟩:RH).c) rfl).set (by omega) (i:=2) (v:=.slice (⟨sneg,sa,sn,sc,sb,sm,sd⟩:RH).b (⟨sneg,sa,sn,sc,sb,sm,sd⟩:RH).m (⟨sneg,sa,sn,sc,sb,sm,sd⟩:RH).d) rfl);exact bodyPost_ret (v:=(⟨sneg,sa,sn,sc,sb,sm,sd⟩:RH).v) (by simp [results,Tryz.results279,go_sem,ae B4.out]) rfl ⟨(⟨sneg,sa,sn,sc,sb,sm,sd⟩:RH),rfl,hF.ext,(by rw [HV.out];exact H.out.keep hF.keep)⟩
 have Hb0:=Hi hb0;clear hb0;obtain ⟨q,hq⟩:∃ q,q=a / b:=⟨_,rfl⟩;have Hq0:Hid (q≠0):=Hi (fun h=>by
  have h1:=bL (a:=a) Hb0.out;rw [←hq,h] at h1;exact Ha0.out (by rw [←h1];grind))
 have ZQ:Hid (Sz (K+K) q):=Hi (by rw [hq];exact ZA.out.div ZB.out);have HV:Hid (iP a b=(a / (q.num:Rat)).abs):=Hi (by unfold iP;rw [if_neg Ha0.out,if_neg Hb0.out,←hq])
 go_wp2_with fail
 refine cM (cL ⟨sneg,sa,sn,sc,sb,sm,sd⟩ ⟨tneg,ta,tn,tc,tb,tm,td⟩ a b _ (H.out.raw ZA.out (by omega)) K2.out Hb0.out) fun x3 w3 hE G3=>?_
 refine mV6 hE ?_ B2 B3 B4 H K2 HX;clear B2 B3 B4 H K2 HX;intro B2 B3 B4 H K2 HX;have hs_w3:=hE.size;clear hE;replace b_B2:=bX3 B2;replace b_B3:=bX3 B3;replace b_B4:=bX3 B4;rw [←hq] at G3;clear hq
 go_upto_region 4 with fail
 refine nmA ?_;intro y4 hE B5 hz_y4 hr_y4;refine mV7 hE ?_ G3 B2 B3 B4 H K2 HX;clear G3 B2 B3 B4 H K2 HX;intro G3 B2 B3 B4 H K2 HX;have hs_y4:=hE.size;clear hE;replace b_B2:=bX3 B2;replace b_B3:=bX3 B3;replace b_B4:=bX3 B4;replace b_B5:=bX3 B5
 go_wp2_with fail
 refine cM (f8 x3 q _ G3.out) fun x5 w5 hE G5=>?_
 refine mV8 hE ?_ B5 G3 B2 B3 B4 H K2 HX;clear B5 G3 B2 B3 B4 H K2 HX;intro B5 G3 B2 B3 B4 H K2 HX;have hs_w5:=hE.size;clear hE;replace b_B2:=bX3 B2;replace b_B3:=bX3 B3;replace b_B4:=bX3 B4;replace b_B5:=bX3 B5;obtain ⟨x5,x6⟩:=x5;have G5a:=Hi G5.out.1;have G5b:=Hi G5.out.2;clear G5;simp only [PT]
 go_upto_region 7 with fail
 refine i8 ?_;intro y6 hE B7 B8 hz_y6 hr_y6;refine mV8 hE ?_ B5 G3 B2 B3 B4 H K2 HX;clear B5 G3 B2 B3 B4 H K2 HX;intro B5 G3 B2 B3 B4 H K2 HX;refine mV2 hE ?_ G5a G5b;clear G5a G5b;intro G5a G5b;have hs_y6:=hE.size;clear hE;replace b_B2:=bX3 B2;replace b_B3:=bX3 B3;replace b_B4:=bX3 B4;replace b_B5:=bX3 B5;replace b_B7:=bX3 B7;replace b_B8:=bX3 B8
 go_wp2_with fail
 refine cM (cL ⟨sneg,sa,sn,sc,sb,sm,sd⟩ x5 a (q.num:Rat) _ (H.out.raw ZA.out (by omega)) (G5a.out.raw ZQ.out.numz (by omega)) (mh Hq0.out)) fun x7 w7 hE G7=>?_
 refine mV8 hE ?_ B7 B8 B5 G3 B2 B3 B4 H;clear B7 B8 B5 G3 B2 B3 B4 H;intro B7 B8 B5 G3 B2 B3 B4 H;refine mV4 hE ?_ K2 HX G5a G5b;clear K2 HX G5a G5b;intro K2 HX G5a G5b;have hs_w7:=hE.size;clear hE;replace b_B2:=bX3 B2;replace b_B3:=bX3 B3;replace b_B4:=bX3 B4;replace b_B5:=bX3 B5;replace b_B7:=bX3 B7;replace b_B8:=bX3 B8
 go_upto_region 8 with fail
 refine nmA ?_;intro y8 hE B9 hz_y8 hr_y8;refine mV8 hE ?_ G7 B7 B8 B5 G3 B2 B3 B4;clear G7 B7 B8 B5 G3 B2 B3 B4;intro G7 B7 B8 B5 G3 B2 B3 B4;refine mV5 hE ?_ H K2 HX G5a G5b;clear H K2 HX G5a G5b;intro H K2 HX G5a G5b;have hs_y8:=hE.size;clear hE;replace b_B2:=bX3 B2;replace b_B3:=bX3 B3;replace b_B4:=bX3 B4;replace b_B5:=bX3 B5;replace b_B7:=bX3 B7;replace b_B8:=bX3 B8;replace b_B9:=bX3 B9
 go_wp2_with fail
 refine cM (lW x7 _ _ (G7.out.raw (ZA.out.div ZQ.out.numz) (by omega))) fun x9 w9 hE G9=>?_
 refine mV8 hE ?_ B9 G7 B7 B8 B5 G3 B2 B3;clear B9 G7 B7 B8 B5 G3 B2 B3;intro B9 G7 B7 B8 B5 G3 B2 B3;refine mV6 hE ?_ B4 H K2 HX G5a G5b;clear B4 H K2 HX G5a G5b;intro B4 H K2 HX G5a G5b;have hs_w9:=hE.size;clear hE;replace b_B2:=bX3 B2;replace b_B3:=bX3 B3;replace b_B4:=bX3 B4;replace b_B5:=bX3 B5;replace b_B7:=bX3 B7;replace b_B8:=bX3 B8;replace b_B9:=bX3 B9;go_wp2;have hF:=((((Fin.start (L:=w.heap.size+2) HX.out (ah B4.out rfl)).set (by omega) (i:=0) (v:=.bool x9.neg) rfl).set (by omega) (i:=1) (v:=.slice x9.a x9.n x9.c) rfl).set (by omega) (i:=2) (v:=.slice x9.b x9.m x9.d) rfl);exact bodyPost_ret (v:=x9.v) (by simp [results,Tryz.results279,go_sem,ae B4.out]) rfl ⟨x9,rfl,hF.ext,(by rw [HV.out];exact G9.out.keep hF.keep)⟩
structure Mut (L:Nat) (w w':World):Prop where
 keep:fk w w'
 mods:aU (·=L) w w'
theorem Mut.refl(L:Nat)(w:World):Mut L w w:=⟨fk.refl w,aU.refl _ w⟩
theorem Mut.of_ext{L:Nat}{w w':World}(h:Ext w w'):Mut L w w':=⟨gJ h,aU.of_ext h⟩
theorem Mut.trans{L:Nat}{a b c:World}(h:Mut L a b)(k:Mut L b c):Mut L a c:=⟨h.keep.trans k.keep,h.mods.trans k.mods⟩
theorem Mut.put{L b:Nat}{w w1 w2:World}{T:TypeId}{cs:Array Value}(h:Mut L w w1)(T2:gp w1 b T cs w2)(hb:b=L∨w.heap.size≤b):Mut L w w2:=⟨h.keep.trans T2.keep,aU.put h.mods T2 hb⟩
theorem Mut.rest{L:Nat}{w w':World}(h:Mut L w w')(k:Nat)(o:Obj)(hk:k≠L)(ho:w.heap[k]?=some o):w'.heap[k]?=some o:=h.mods.blk hk ho
theorem Mut.size{L:Nat}{w w':World}(h:Mut L w w'):w.heap.size≤w'.heap.size:=h.mods.size
theorem Mut.ext{L:Nat}{w0 w w':World}(h:Mut L w w')(hE:Ext w0 w)(hL:w0.heap.size≤L):Ext w0 w' :=
 Ext.of_below (N:=w0.heap.size) hE (h.mods.below hE.size fun k hk=>by have hk:k=L:=hk;omega) (Nat.le_refl _)
theorem bB.mut{w w':World}{L M:Nat}{os:List Rat}(h:bB w L os)(T:Mut M w w')(hb:M≠L):bB w' L os:=by
 obtain ⟨rs,re,h1,h0,h2⟩:=h;exact ⟨rs,re,T.rest L _ (Ne.symm hb) h1,h0,h2.keep T.keep⟩
theorem RS.mut{w w':World}{M lo hi:Nat}{s:SH}{rs:List RH}(h:RS w s rs)(hp:s.n=0∨∃ b off,s.a=some ⟨b,off,none⟩∧lo≤b∧b<hi)(T:Mut M w w')(hb:M<lo∨hi≤M):RS w' s rs:=by
 refine ⟨h.len,h.le,h.max,?_⟩;rcases hp with h0|⟨x,o,e,h1,h2⟩
 ·exact Or.inl h0
 ·rcases h.at' with h0|⟨b,off,e2,hc⟩
  ·exact Or.inl h0
  ·rw [e] at e2;obtain ⟨rfl,rfl⟩:x=b∧o=off:=by simpa using e2
   refine Or.inr ⟨x,o,e,fun k hk=>?_⟩;have h3:=hc k hk;have hl:=World.block_lt_of_cell? _ _ h3.1;simp only at hl;have hbk:w'.heap[x]?=w.heap[x]?:=by
    rw [Array.getElem?_eq_getElem hl];exact T.rest x _ (by omega) (Array.getElem?_eq_getElem hl)
   have cc:∀ i,w'.cell? ⟨x,i,none⟩=w.cell? ⟨x,i,none⟩:=fun i=>World.cell?_of_block (w:=w) hbk
   exact ⟨(cc _).trans h3.1,(cc _).trans h3.2.1,(cc _).trans h3.2.2⟩
theorem LIn.mut{w w':World}{M lo hi:Nat}{s:SH}{qs:List Rat}(h:LIn w s qs lo hi)(T:Mut M w w')(hb:M<lo∨hi≤M):LIn w' s qs lo hi:=by
 obtain ⟨rs,h1,h2,h3⟩:=h;exact ⟨rs,h1.mut h3 T hb,h2.keep T.keep,h3⟩
theorem qP{os:List Rat}{q:Rat}{i:Nat}(hi:i<os.length):(dA os i q).set i (os.getD i 0*q)=dA os (i+1) q:=by
 unfold dA;have h1:((os.take i).map (·*q)).length=i:=by rw [List.length_map,List.length_take];omega
 rw [List.set_append_right _ _ (by omega),h1,Nat.sub_self,List.take_add_one,List.map_append,List.append_assoc]
 congr 1
 rw [List.drop_eq_getElem_cons hi,List.set_cons_zero,List.getElem?_eq_getElem hi,List.getD_eq_getElem?_getD,List.getElem?_eq_getElem hi];rfl
theorem l8(L n cp:Nat)(os:List Rat)(t:RH)(q:Rat)(S U:Nat)(w:World)(h:bB w L os)(hn:n≤os.length)(ht:au w t q)(hM:os.length≤1000000)(hz:SzL S (os.take n))(hzq:Sz U q)(hSU:S≤60000000∧U≤60000000) :
  Calls Tryz.prog 281 #[.slice (some ⟨L,0,none⟩) n cp,t.v] w (fun e w'=>e=.returned (.tuple #[])∧Mut L w w'∧bB w' L (dA os n q)):=by
 obtain ⟨tn,ta,tl,tc,tb,tm,td⟩:=t;have HX:=Hi (Mut.refl L w);have HR:=Hi h;have HT:=Hi ht;have HZ:=Hi hz;have ZQ:=Hi hzq;have hLw:=h.lt;clear h ht hz hzq;go_enter Tryz.func281,Tryz.ntmps281
 go_upto_region 1 with fail
 refine nmA ?_;intro w1 hE B3 hz_w1 hr_w1;replace HX:=Hi (Mut.trans HX.out (Mut.of_ext hE));refine mV2 hE ?_ HR HT;clear HR HT;intro HR HT;have hs_w1:=hE.size;clear hE;replace b_B3:=bX3 B3;obtain ⟨b3,hb3⟩:∃ b3,b3=w.heap.size:=⟨_,rfl⟩;have hbw:w.heap.size≤b3:=by omega
 rw [←hb3] at B3 ⊢;clear hb3 b_B3;go_wp2
 go_loopg [7] n (fun g v wr=>∃ (i:Nat),i+g=n∧v=.int .i64 (i:Nat)∧Mut L w wr∧au wr ⟨tn,ta,tl,tc,tb,tm,td⟩ q∧wr.heap[b3]?=some (.cells #[.bool tn,.slice ta tl tc,.slice tb tm td] 30 (0,0))∧bB wr L (dA os i q))
 case atStart=>exact ⟨0,by omega,rfl,HX.out,HT.out,B3.out,by simpa [dA] using HR.out⟩
 case round =>
  obtain ⟨i,hi,rfl,g1,g2,g3,g4⟩:=hrel;clear HX HR HT B3;have HX:=Hi g1;have HT:=Hi g2;have B3:=Hi g3;have HR:=Hi g4;clear g1 g2 g3 g4;replace b_B3:=bX3 B3;by_cases h0:gk=0
  case neg =>
   have hin:(i:Int)<n:=by omega
   have HL:Hid ((dA os i q).length=os.length):=Hi (by unfold dA;rw [List.length_append,List.length_map,List.length_take,List.length_drop];omega);have HV:Hid ((dA os i q).getD i 0=os.getD i 0):=Hi (by
    unfold dA;have h1:((os.take i).map (·*q)).length=i:=by rw [List.length_map,List.length_take];omega
    rw [List.getD_eq_getElem?_getD,List.getElem?_append_right (by omega),h1,Nat.sub_self,List.getElem?_drop,Nat.add_zero,←List.getD_eq_getElem?_getD])
   obtain ⟨r,⟨f1,f2,f3⟩,hrc⟩:=bB.cells HR.out (k:=i) (by rw [HL.out];omega);rw [HV.out] at hrc;have HRC:=Hi hrc;clear hrc;have hfz:=bB.frozen HR.out;have hLl:=bB.lt HR.out;have Zi:Hid (Sz S (os.getD i 0)):=Hi (by have:=HZ.out.at (i:=i) (by rw [List.length_take];omega);rwa [cG (by omega)] at this);obtain ⟨rn,ra,rl,rc,rb,rm,rd⟩:=r;simp only at f1 f2 f3
   go_upto_region 4 with fail
   refine wpG 8 (fun opIx=>match opIx with
    | 7=>.spec RH default RH.v (fun s w'=>au w' s (os.getD i 0*q))
    | _=>.quiet) (fun _=>[]) fun w0 he0 hz0 hc0 hf0=>?_
   refine wps he0.out rfl rfl (fun w1 hW hG=>?_) fun x7=>?_
   ·exact spc [RH.v ⟨rn,ra,rl,rc,rb,rm,rd⟩,RH.v ⟨tn,ta,tl,tc,tb,tm,td⟩] Tryz.func139 (aE _ _ _ _ _ ((HRC.out.ext hW).raw Zi.out (by omega)) ((HT.out.ext hW).raw ZQ.out (by omega)))
   refine qZ ?_;refine wpF_nil ?_;intro w5 hI;have hE:=he0.out.trans hI.ext;have G7:=gT (hI.facts 7);clear hI he0 hz0 hc0 hf0;replace HX:=Hi (Mut.trans HX.out (Mut.of_ext hE));refine mV3 hE ?_ B3 HR HT;clear B3 HR HT;intro B3 HR HT;have hs_w5:=hE.size;clear hE;replace b_B3:=bX3 B3;simp only [pD];clear f1 f2 f3 hfz hLl;obtain ⟨r2,⟨f1,f2,f3⟩,-⟩:=bB.cells HR.out (k:=i) (by rw [HL.out];omega);have hfz:=bB.frozen HR.out
   go_upto_region 5 with fail
   refine i7 (k:=i) HR.out (by rw [HL.out];omega) G7.out ?_;rintro y6 ⟨cs,T⟩ TN;rw [qP (by omega)] at TN;clear f1 f2 f3 hfz HL HV;clear HR;replace HX:=Hi (Mut.put HX.out T (by first|exact Or.inl rfl|exact Or.inr (by omega)));replace HT:=Hi (HT.out.keep T.keep);replace B3:=Hi (T.rest _ _ (by omega) B3.out);replace G7:=Hi (G7.out.keep T.keep);have hs_y6:=nle T.size;have hr_y6:=nle T.size.symm;clear T;replace b_B3:=bX3 B3;have HR:=Hi TN;clear TN;go_wp2
   go_roundg (gk-1)
   case measure=>omega
   case rel=>exact ⟨i+1,by omega,by go_num,HX.out,HT.out,B3.out,HR.out⟩
  subst h0;obtain rfl:i=n:=by omega
  have hin:¬ (i:Int)<i:=by omega
  go_wp2;exact bodyPost_end (results_none rfl _ _ _) rfl ⟨rfl,HX.out,HR.out⟩
end Go.Proofs.YtofhkmcllihgmaaGreat
