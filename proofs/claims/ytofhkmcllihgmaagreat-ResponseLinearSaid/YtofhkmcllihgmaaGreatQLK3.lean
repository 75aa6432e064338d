/- Ev, Pd7 -/
import Derived.Test.YtofhkmcllihgmaaGreatQLK2
import Derived.Test.YtofhkmcllihgmaaGreatQLM22
import Derived.Test.YtofhkmcllihgmaaGreatQLM25
set_option linter.unusedVariables false
namespace Go.Proofs.YtofhkmcllihgmaaGreat
open Go.RowKit Go.Front Go.Num Stab
def evV(p:List Rat)(x:Rat):Rat:=p.foldr (fun c y=>y*x+c) 0
theorem o8(c:Rat)(p:List Rat)(x:Rat):evV (c :: p) x=evV p x*x+c:=rfl
theorem vJ(p:List Rat)(x:Rat):evV p x=sm p.length (fun i=>p.getD i 0*x ^ i):=by
 induction p with
 | nil=>rfl
 | cons c p ih =>
  rw [o8,ih,List.length_cons,ew,Rat.mul_comm,←sm_mul];rw [sm_congr (f:=fun i=>(c :: p).getD (i+1) 0*x ^ (i+1)) (g:=fun i=>x*(p.getD i 0*x ^ i)) (fun i _=>by rw [List.getD_cons_succ,Rat.pow_succ];grind)];rw [List.getD_cons_zero,Rat.pow_zero];grind
theorem r6{p:List Rat}{N:Nat}(h:p.length≤N)(x:Rat):evV p x=sm N (fun i=>seq p i*x ^ i):=by
 rw [vJ];exact j5 h (fun i h1 h2=>by rw [bu h1];grind)
theorem uK{p q:List Rat}{c:Rat}(h:∀ i,seq p i=c*seq q i)(x:Rat):evV p x=c*evV q x:=by
 rw [r6 (Nat.le_max_left p.length q.length),r6 (Nat.le_max_right p.length q.length),←sm_mul];exact sm_congr (fun i _=>by rw [h];grind)
theorem r5(p:List Rat)(x:Rat):aO p*evV (aM p) x=evV p x:=(uK (eW p) x).symm
theorem pe{p:List Rat}{i:Nat}(h:i<p.length):p.drop i=p.getD i 0 :: p.drop (i+1):=by
 rw [List.drop_eq_getElem_cons h,List.getD_eq_getElem?_getD,List.getElem?_eq_getElem h];rfl
theorem tA{p:List Rat}{i:Nat}(h:i<p.length)(x:Rat):evV (p.drop i) x=evV (p.drop (i+1)) x*x+p.getD i 0:=by rw [pe h,o8]
def ehS(a:List Rat)(x:Rat)(i:Nat):Rat:=if i=0 then 0 else ((x.den:Int):Rat) ^ (i-1)*evV (a.drop (a.length-i)) x
def ehP(x:Rat)(i:Nat):Rat:=((x.den:Int):Rat) ^ (i-1)
theorem sj(x:Rat):((x.den:Int):Rat)≠0:=fun h=>by
 have h1:=congrArg Rat.num h;rw [Rat.num_intCast] at h1;have:=x.den_nz;have h2:((0:Rat)).num=0:=rfl;omega
theorem o9{a:List Rat}{i:Nat}(x:Rat)(h:i<a.length):ehS a x i*(x.num:Rat)+a.getD (a.length-1-i) 0*ehP x (i+1)=ehS a x (i+1):=by
 have hx:x*((x.den:Int):Rat)=(x.num:Rat):=low x;have e1:=tA (p:=a) (i:=a.length-1-i) (by omega) x;rw [show a.length-1-i+1=a.length-i by omega] at e1;unfold ehS ehP;rw [if_neg (Nat.succ_ne_zero i),Nat.add_sub_cancel,show a.length-(i+1)=a.length-1-i by omega,e1];rcases Nat.eq_zero_or_pos i with h0|h0
 ·subst h0;rw [if_pos rfl];simp only [Nat.sub_zero,Rat.pow_zero];rw [List.drop_of_length_le (Nat.le_refl _)];show (0:Rat)*_+_=1*(0*x+_);grind
 ·rw [if_neg (by omega)];obtain ⟨j,rfl⟩:∃ j,i=j+1:=⟨i-1,by omega⟩;rw [Nat.add_sub_cancel,Rat.pow_succ,←hx];grind
theorem rx(x:Rat){i:Nat}(h:0<i):ehP x i*((x.den:Int):Rat)=ehP x (i+1):=by
 unfold ehP;obtain ⟨j,rfl⟩:∃ j,i=j+1:=⟨i-1,by omega⟩;rw [Nat.add_sub_cancel,Nat.add_sub_cancel,Rat.pow_succ]
theorem rS{x:Rat}(h:x≠0)(n:Nat):x ^ n≠0:=by
 induction n with
 | zero=>rw [Rat.pow_zero];decide
 | succ n ih =>
  rw [Rat.pow_succ];intro h1;rcases Rat.mul_eq_zero.1 h1 with h2|h2
  ·exact ih h2
  ·exact h h2
theorem r7(a:List Rat)(x:Rat):ehS a x a.length / ehP x a.length=evV a x:=by
 unfold ehS ehP;split
 ·next h =>
  rw [List.length_eq_zero_iff.1 h,Rat.div_def,Rat.zero_mul];rfl
 ·rw [Nat.sub_self,List.drop_zero,Rat.mul_comm,Rat.div_def,Rat.mul_assoc,Rat.mul_inv_cancel _ (rS (sj x) _),Rat.mul_one]
theorem mg{t:Nat}{x:Rat}(h:Sz t x)(ht:1≤t):Sz t (x.num:Rat):=⟨by rw [Rat.num_intCast];exact h.1,by rw [Rat.den_intCast];exact Nat.one_lt_pow (by omega) (by decide)⟩
theorem uR{t:Nat}{x:Rat}(h:Sz t x)(ht:1≤t):Sz t ((x.den:Int):Rat):=⟨by rw [Rat.num_intCast];exact h.2,by rw [Rat.den_intCast];exact Nat.one_lt_pow (by omega) (by decide)⟩
theorem Fr.up{S U D E:Nat}{a:Rat}(ha:Fr S D a)(hE:E≤W32 ^ U)(h0:0<E):Fr (S+U) (D*E) a:=by
 have e:a*((D*E:Nat):Rat)=a*(D:Rat)*(((E:Nat):Int):Rat):=by rw [Rat.natCast_mul];show _=a*(D:Rat)*(E:Rat);grind
 have h1:Wz S (a*(D:Rat)):=ha;unfold Fr;rw [e];refine ⟨h1.1.mul (Wh.int _),?_⟩;rw [h1.1.eq,←Rat.intCast_mul,Rat.num_intCast,Int.natAbs_mul,Int.natAbs_natCast,Nat.pow_add];exact Nat.mul_lt_mul_of_lt_of_le h1.2 hE (Nat.pow_pos ax)
theorem uu{A U D E:Nat}{y:Rat}{q:List Rat}(hy:Fr A D y)(hq:FrL U E q)(h0:aQ q≠0)(hE2:E<W32 ^ U):Fr (A+U) (D*ldD q E) (y / aQ q):=by
 refine o4 (fV hq) ?_;have h1:Wz (A+U) (y*(D:Rat)*(E:Rat)):=Wz.mul hy (Wz.nat hE2);have h3:=bL (a:=y) h0;have e:y / aQ q*(D:Rat)*(aQ q*(E:Rat))=y*(D:Rat)*(E:Rat):=by
  generalize y / aQ q=c at *
  rw [←h3];grind
 rw [e];exact h1
theorem tE{S U D E n:Nat}{q:List Rat}(hq:FrL U E q)(h0:aQ q≠0)(hE:0<E)(hE2:E<W32 ^ U)(hq1:0<q.length):∀ (f:Nat) (u p:List Rat) (j:Nat),j+(p.length+1-q.length)≤n→FrL (S+j*(U+1)) (D*ldD q E ^ j) p→FrL (S+n*(U+1)) (D*ldD q E ^ n) u→FrL (S+n*(U+1)) (D*ldD q E ^ n) (je q f u p).1:=by
 have hl:=oK hq;have hp0:=lh hq h0 hE;intro f;induction f with
 | zero=>intro u p j _ _ hu;exact hu
 | succ f ih =>
  intro u p j hj hp hu;rw [show je q (f+1) u p=if q.length≤p.length then je q f (u.set (p.length-q.length) (aQ p / aQ q)) (eK p q) else (u,p) from rfl];by_cases h:q.length≤p.length
  ·rw [if_pos h];have hr:=hH p q;refine ih _ _ (j+1) (by omega) ?_ ?_
   ·have h1:=qw hp hq h0;have e:D*ldD q E ^ j*ldD q E=D*ldD q E ^ (j+1):=by rw [Nat.pow_succ,Nat.mul_assoc]
    rw [e] at h1;exact h1.mono (by rw [Nat.succ_mul];omega)
   ·intro x hx;rcases List.mem_or_eq_of_mem_set hx with h2|h2
    ·exact hu x h2
    ·subst h2;have h3:Fr (S+j*(U+1)) (D*ldD q E ^ j) (aQ p):=hp.at _;have h4:=uu h3 hq h0 hE2;obtain ⟨d,rfl⟩:∃ d,n=j+1+d:=⟨n-(j+1),by omega⟩;have h5:=h4.up (U:=U*d) (E:=ldD q E ^ d) (by rw [Nat.pow_mul];exact Nat.pow_le_pow_left (Nat.le_of_lt hl) d) (Nat.pow_pos hp0);have e:D*ldD q E ^ j*ldD q E*ldD q E ^ d=D*ldD q E ^ (j+1+d):=by rw [Nat.pow_add,Nat.pow_succ];simp only [Nat.mul_assoc]
     rw [e] at h5;refine h5.mono ?_;rw [Nat.add_mul (j+1) d,Nat.succ_mul,Nat.mul_add d,Nat.mul_comm U d];omega
  ·rw [if_neg h];exact hu
theorem lZ{S U:Nat}{p q:List Rat}{D E n:Nat}(hp:FrL S D p)(hq:FrL U E q)(h0:tz q≠[])(hS:1≤S)(hD:0<D)(hD2:D<W32 ^ S)(hE:0<E)(hE2:E<W32 ^ U)(hn:p.length≤n):FrB (S+n*(U+1)) (dU p q):=by
 have hl:=List.length_pos_iff.2 h0;have h1:=ak p;have h2:=tE (S:=S) (D:=D) (n:=n) hq.tz (cJ h0) hE hE2 hl (tz p).length (List.replicate ((tz p).length+1-(tz q).length) 0) (tz p) 0 (by omega) (by rw [Nat.zero_mul,Nat.pow_zero,Nat.mul_one];exact hp.tz) (fun x hx=>by rw [List.eq_of_mem_replicate hx];exact Fr.zero _ _);refine ⟨by omega,_,Nat.mul_pos hD (Nat.pow_pos (lh hq.tz (cJ h0) hE)),?_,FrL.tz h2⟩;have h3:ldD (tz q) E ^ n≤W32 ^ (U*n):=by rw [Nat.pow_mul];exact Nat.pow_le_pow_left (Nat.le_of_lt (oK hq.tz)) n
 have h4:D*ldD (tz q) E ^ n<W32 ^ (S+U*n):=by
  rw [Nat.pow_add];exact Nat.mul_lt_mul_of_lt_of_le hD2 h3 (Nat.pow_pos ax)
 exact Nat.lt_of_lt_of_le h4 (iN (by rw [Nat.mul_add,Nat.mul_comm U n];omega))
theorem mA{t i:Nat}{x:Rat}(h:Sz t x):Wz (t*i+1) (ehP x i):=by
 unfold ehP;have h1:∀ j,Wz (t*j+1) (((x.den:Int):Rat) ^ j):=by
  intro j;induction j with
  | zero=>rw [Rat.pow_zero];exact Wz.one.mono (by omega)
  | succ j ih =>
   rw [Rat.pow_succ];refine (ih.mul (Wz.int (S:=t) (z:=(x.den:Int)) (by simpa using h.2))).mono (by rw [Nat.mul_succ];omega)
 exact (h1 (i-1)).mono (by have:=Nat.mul_le_mul_left t (show i-1≤i by omega);omega)
theorem r9{S t:Nat}{a:List Rat}{x:Rat}(ha:∀ y ∈ a,Wz S y)(h:Sz t x):∀ i,i≤a.length→Wz (S+t+(t+1)*i+1) (ehS a x i):=by
 intro i;induction i with
 | zero=>intro _;unfold ehS;rw [if_pos rfl];exact Wz.zero _
 | succ i ih =>
  intro hi;rw [←o9 x (by omega)];have h1:=(ih (by omega)).mul (Wz.int (S:=t) (z:=x.num) h.1);have h2:Wz (S+(t*(i+1)+1)) (a.getD (a.length-1-i) 0*ehP x (i+1)):=(ha _ (c9 (by omega))).mul (mA h);have e:(t+1)*(i+1)=(t+1)*i+t+1:=by rw [Nat.mul_succ];omega
  have e2:t*(i+1)=t*i+t:=by rw [Nat.mul_succ]
  have e3:(t+1)*i=t*i+i:=Nat.succ_mul t i;exact ((h1.mono (S':=S+t+(t+1)*i+1+t) (by omega)).add (h2.mono (by omega))).mono (by omega)
end Go.Proofs.YtofhkmcllihgmaaGreat
/- Sturm's theorem over the rationals: on a fine enough grid the changes of sign in a chain fall by one where the first member changes its sign. Plain facts. -/
set_option linter.unusedVariables false
namespace Go.Proofs.YtofhkmcllihgmaaGreat.Sg
def sg(q:Rat):Int:=if q<0 then -1 else if q=0 then 0 else 1
theorem fF{q:Rat}(h:q<0):sg q=-1:=if_pos h
def vr:Int→List Int→Nat
 | _,[]=>0
 | last,s :: l=>if s=0 then vr last l else (if last≠0∧s≠last then 1 else 0)+vr s l
def Bd(M x:Rat):Prop:=-M≤x∧x≤M
theorem i9{a b c:Rat}(h:a<b)(k:0<c):a*c<b*c:=by
 have:=Rat.mul_pos (show 0<b-a by grind) k;grind
def Big(r x:Rat):Prop:=r≤x∨x≤-r
def sgs(l:List (Rat→Rat))(x:Rat):List Int:=l.map (fun f=>sg (f x))
def V(f:Rat→Rat)(l:List (Rat→Rat))(x:Rat):Nat:=vr 0 (sgs (f :: l) x)
def cross(f:Rat→Rat)(s t:Rat):Nat:=if sg (f s)≠0∧sg (f t)≠sg (f s) then 1 else 0
end Go.Proofs.YtofhkmcllihgmaaGreat.Sg
/- Polynomial functions over the rationals: divisors, coprime ones, the greatest common divisor, the polynomial with the same roots, each once. Plain facts. -/
set_option linter.unusedVariables false
namespace Go.Proofs.YtofhkmcllihgmaaGreat.Sg
open Go.RowKit Go.Front Go.Num Go.Stab Go.Proofs.YtofhkmcllihgmaaGreat
end Go.Proofs.YtofhkmcllihgmaaGreat.Sg
/- Siegel's lemma: whole numbers, not all 0, that solve one equation less than there are unknowns. Plain facts. -/
set_option linter.unusedVariables false
namespace Go.Proofs.YtofhkmcllihgmaaGreat.Sie
end Go.Proofs.YtofhkmcllihgmaaGreat.Sie
/- The chains of the program fit Sturm's theorem. Plain facts. -/
set_option linter.unusedVariables false
namespace Go.Proofs.YtofhkmcllihgmaaGreat.Sg
open Go.RowKit Go.Front Go.Num Go.Stab Go.Proofs.YtofhkmcllihgmaaGreat
theorem uh{p:List Rat}:aM p=[]↔tz p=[]:=by rw [←List.length_eq_zero_iff,←List.length_eq_zero_iff,aP]
end Go.Proofs.YtofhkmcllihgmaaGreat.Sg
/- The chain of remainders: plain facts for the walk of remainders. -/
set_option linter.unusedVariables false
namespace Go.Proofs.YtofhkmcllihgmaaGreat
open Go.RowKit Go.Front Go.Num Stab
theorem nA{c:Rat}(hc:c≠0)(l:List Rat):tz (l.map (·*c))=(tz l).map (·*c):=by
 induction l using Stab.snoc_ind with
 | h0=>rfl
 | h1 l r ih =>
  by_cases hr:r=0
  ·subst hr;rw [List.map_append,List.map_cons,List.map_nil,Rat.zero_mul,dk,dk,ih]
  ·have h2:r*c≠0:=fun h=>by
    rcases Rat.mul_eq_zero.1 h with h3|h3
    ·exact hr h3
    ·exact hc h3
   rw [List.map_append,List.map_cons,List.map_nil,dY _ h2,dY _ hr,List.map_append,List.map_cons,List.map_nil]
theorem mK{c:Rat}(hc:0<c)(a:Rat):(a*c).abs=a.abs*c:=by
 have hc2:=Rat.le_of_lt hc;unfold Rat.abs;by_cases h:0≤a
 ·rw [if_pos h,if_pos (Rat.mul_nonneg h hc2)]
 ·rw [if_neg h];have h1:0 < -a:=by grind
  have h2:=Rat.mul_pos h1 hc;rw [if_neg (by grind)];grind
theorem mC{c:Rat}(hc:c≠0)(a:Rat){b:Rat}(hb:b≠0):a*c / (b*c)=a / b:=by
 have hbc:b*c≠0:=fun h=>by rcases Rat.mul_eq_zero.1 h with h|h <;> contradiction
 have h1:=bL (a:=a*c) hbc;have h2:=bL (a:=a) hb;have h3:(a*c / (b*c)-a / b)*(b*c)=0:=by grind
 rcases Rat.mul_eq_zero.1 h3 with h|h
 ·grind
 ·contradiction
theorem n9{c:Rat}(hc:0<c)(a b:Rat):iP (a*c) (b*c)=iP a b*c:=by
 have hc0:c≠0:=fun h=>by rw [h] at hc;exact absurd hc Rat.lt_irrefl
 have hz:∀ x:Rat,x*c=0↔x=0:=fun x=>⟨fun h=>(Rat.mul_eq_zero.1 h).resolve_right hc0,fun h=>by rw [h,Rat.zero_mul]⟩
 unfold iP;by_cases ha:a=0
 ·rw [if_pos ((hz a).2 ha),if_pos ha,mK hc]
 ·rw [if_neg (fun h=>ha ((hz a).1 h)),if_neg ha];by_cases hb:b=0
  ·rw [if_pos ((hz b).2 hb),if_pos hb]
  ·rw [if_neg (fun h=>hb ((hz b).1 h)),if_neg hb,mC hc0 a hb,←mK hc]
   congr 1
   rw [Rat.div_def,Rat.div_def];grind
theorem m9{c:Rat}(hc:0<c)(l:List Rat):bN (l.map (·*c))=bN l*c:=by
 induction l using snoc_ind with
 | h0=>show (0:Rat)=0*c;rw [Rat.zero_mul]
 | h1 l r ih =>
  rw [List.map_append,List.map_cons,List.map_nil,em,em,ih,n9 hc]
theorem nI{p q:List Rat}{c:Rat}(hc:0<c)(h:∀ n,seq p n=seq q n*c):aM p=aM q:=by
 have hc0:c≠0:=fun h=>by rw [h] at hc;exact absurd hc Rat.lt_irrefl
 have h1:tz p=(tz q).map (·*c):=by
  rw [←nA hc0];exact me fun n=>by rw [dM];exact h n
 by_cases h0:tz q=[]
 ·unfold aM;rw [h1,h0];rfl
 ·have hm:bN (tz q)≠0:=kR h0;unfold aM aO;rw [h1,m9 hc,List.map_map];refine List.map_congr_left fun x hx=>?_
  exact mC hc0 x hm
end Go.Proofs.YtofhkmcllihgmaaGreat
/- Roots of a polynomial and of that with each root once; what a count says of two halves. Plain facts. -/
set_option linter.unusedVariables false
namespace Go.Proofs.YtofhkmcllihgmaaGreat.Sg
open Go.RowKit Go.Front Go.Num Go.Stab Go.Proofs.YtofhkmcllihgmaaGreat
end Go.Proofs.YtofhkmcllihgmaaGreat.Sg
/- The members of Euclid's sequence of two polynomials with whole coefficients are small. Plain facts. -/
set_option linter.unusedVariables false
namespace Go.Proofs.YtofhkmcllihgmaaGreat.Sg
open Go.RowKit Go.Front Go.Num Go.Stab Go.Proofs.YtofhkmcllihgmaaGreat Sie
def tX(p q:List Rat):List Rat:=fj p (q.map (·*-1))
inductive Es (a b:List Rat):List Rat→List Rat→Prop
 | start {c e:List Rat} (hc:Pr c a) (he:Pr e b):Es a b c e
 | next {c e r:List Rat} (h:Es a b c e) (h0:tz e≠[]) (hr:Pr r (eL c e)):Es a b e r
theorem Es.shift{a b r c e:List Rat}(hb:tz b≠[])(hr:Pr r (eL a b))(h:Es b r c e):Es a b c e:=by
 induction h with
 | start hc he =>
  refine Es.next (Es.start (Pr.refl a) hc) (fun h=>hb (hc.nil.1 h)) ?_;exact (he.trans hr).trans (nW (Pr.refl a) hc.symm (fun h=>hb (hc.nil.1 h)))
 | next h h0 hr ih=>exact Es.next ih h0 hr
end Go.Proofs.YtofhkmcllihgmaaGreat.Sg
/- The members of Euclid's sequence of two polynomials with whole coefficients are small: the bound. Plain facts. -/
set_option linter.unusedVariables false
namespace Go.Proofs.YtofhkmcllihgmaaGreat.Sg
open Go.RowKit Go.Front Go.Num Go.Stab Go.Proofs.YtofhkmcllihgmaaGreat Sie
def Eg(L:Nat)(a b:List Rat):Prop:=∀ c e,Es a b c e→∀ x ∈ aM e,Wz L x
theorem Eg.next{L:Nat}{a b r:List Rat}(h:Eg L a b)(hb:tz b≠[])(hr:Pr r (eL a b)):Eg L b r:=fun c e hs=>h c e (hs.shift hb hr)
theorem Eg.snd{L:Nat}{a b:List Rat}(h:Eg L a b):∀ x ∈ aM b,Wz L x:=h a b (Es.start (Pr.refl a) (Pr.refl b))
end Go.Proofs.YtofhkmcllihgmaaGreat.Sg
/- Sizes in Euclid's algorithm: with a factor of 3 a round, or by the bound of all members. Plain facts. -/
set_option linter.unusedVariables false
namespace Go.Proofs.YtofhkmcllihgmaaGreat
open Go.RowKit Go.Front Go.Num Stab Sg
theorem jd{p:List Rat}{x:Rat}(h:x ∈ tz p):x ∈ p:=by
 rw [dZ p] at h;exact List.mem_of_mem_take h
theorem nE(d:Nat)(hd:1≤d):2+d≤3 ^ d:=by
 induction d with
 | zero=>omega
 | succ d ih =>
  rcases Nat.eq_zero_or_pos d with h|h
  ·subst h;decide
  ·have:=ih h;rw [Nat.pow_succ];omega
theorem tg(la lb:Nat):(1+(la+1-lb))*3 ^ lb≤3 ^ max la (lb+1):=by
 rcases Nat.lt_or_ge lb la with h|h
 ·obtain ⟨d,rfl⟩:∃ d,la=lb+d:=⟨la-lb,by omega⟩;rw [show max (lb+d) (lb+1)=lb+d by omega,Nat.pow_add,Nat.mul_comm];exact Nat.mul_le_mul_left _ (by have:=nE d (by omega);omega)
 ·rw [show max la (lb+1)=lb+1 by omega,Nat.pow_succ,Nat.mul_comm];exact Nat.mul_le_mul_left _ (by omega)
theorem qY{X la lb lr L:Nat}(h:(X+1)*3 ^ max la (lb+1)≤L)(hr:lr+1≤lb):(X+(la+1-lb)*(X+1)+1)*3 ^ max lb (lr+1)≤L:=by
 have h1:X+(la+1-lb)*(X+1)+1=(X+1)*(1+(la+1-lb)):=by rw [Nat.mul_add (X+1) 1,Nat.mul_comm (X+1) (la+1-lb)];omega
 rw [h1,Nat.mul_assoc,show max lb (lr+1)=lb by omega];exact Nat.le_trans (Nat.mul_le_mul_left _ (tg la lb)) h
theorem sD(p:List Rat):aM (aM p)=aM p:=by
 by_cases h:tz p=[]
 ·rw [uh.2 h];rfl
 ·exact (nI (p:=p) (q:=aM p) (d9 h) (fun n=>by rw [eW p n];grind)).symm
def Zk(K X:Nat)(a b:List Rat):Prop:=(X+1)*3 ^ max a.length (b.length+1)≤K∨(Eg X a b∧3*((X+1)*(max a.length b.length+3))≤K)
theorem Zk.small{K X:Nat}{a b:List Rat}(h:Zk K X a b):X+1≤K:=by
 rcases h with h|⟨-,h⟩
 ·have:X+1≤(X+1)*3 ^ max a.length (b.length+1):=Nat.le_mul_of_pos_right _ (Nat.pow_pos (by decide));omega
 ·have:(X+1)*1≤(X+1)*(max a.length b.length+3):=Nat.mul_le_mul_left _ (by omega);omega
theorem Zk.dsz{K X:Nat}{a b:List Rat}(h:Zk K X a b):X+(a.length+1)*(X+1)≤K:=by
 have h4:(X+1)*(a.length+2)≤K:=by
  rcases h with h|⟨-,h⟩
  ·have h2:a.length+2≤3 ^ max a.length (b.length+1):=by
    have h3:=nE (max a.length (b.length+1)) (by omega);omega
   exact Nat.le_trans (Nat.mul_le_mul_left _ h2) h
  ·have:(X+1)*(a.length+2)≤(X+1)*(max a.length b.length+3):=Nat.mul_le_mul_left _ (by omega);omega
 rw [show (a.length+1)*(X+1)=(X+1)*(a.length+1) from Nat.mul_comm _ _];rw [show a.length+2=(a.length+1)+1 from rfl,Nat.mul_succ] at h4;omega
theorem Zk.size{K X:Nat}{a b:List Rat}(h:Zk K X a b)(hb:b≠[]):X+(a.length+1-b.length)*(X+1)≤K:=by
 have h1:=h.dsz;have h2:(a.length+1-b.length)*(X+1)≤(a.length+1)*(X+1):=Nat.mul_le_mul_right _ (by omega);omega
theorem Zk.next{K X:Nat}{a b r:List Rat}(h:Zk K X a b)(hbt:tz b=b)(hb:b≠[])(hr:Pr r (eL a b))(hs:aM r=r)(hl:r.length<b.length)(hw:∀ x ∈ r,Wz (X+(a.length+1-b.length)*(X+1)) x):∃ X',X≤X'∧Zk K X' b r∧∀ x ∈ r,Wz X' x:=by
 rcases h with h|⟨hE,h⟩
 ·exact ⟨_,Nat.le_add_right _ _,Or.inl (qY h (by omega)),hw⟩
 ·have hE2:=hE.next (by rw [hbt];exact hb) hr;refine ⟨X,Nat.le_refl _,Or.inr ⟨hE2,?_⟩,by have:=hE2.snd;rwa [hs] at this⟩;have:(X+1)*(max b.length r.length+3)≤(X+1)*(max a.length b.length+3):=Nat.mul_le_mul_left _ (by omega);omega
def GZ(K S:Nat)(p q:List Rat):Prop:=∃ X,S≤X∧Zk K X (aM p) (aM q)
theorem uD{K S P Q:Nat}{p q:List Rat}(hp:p.length≤P)(hq:q.length≤Q)(h:(S+1)*3 ^ max P (Q+1)≤K):GZ K S p q:=by
 have h1:=ak p;have h2:=ak q;exact ⟨S,Nat.le_refl _,Or.inl (Nat.le_trans (Nat.mul_le_mul_left _ (Nat.pow_le_pow_right (by decide) (by rw [aP,aP];omega))) h)⟩
def GcI(K:Nat)(p q a b:List Rat)(X:Nat):Prop:=tz a=a∧tz b=b∧(∀ x ∈ a,Wz X x)∧(∀ x ∈ b,Wz X x)∧1≤X∧Zk K X a b∧kr b.length (cO a) (cO b)=eO p q∧a.length≤100000∧b.length≤100000
theorem GcI.small{K:Nat}{p q a b:List Rat}{X:Nat}(h:GcI K p q a b X):X+1≤K:=h.2.2.2.2.2.1.small
theorem GcI.size{K:Nat}{p q a b:List Rat}{X:Nat}(h:GcI K p q a b X)(hb:b≠[]):X+(a.length+1-b.length)*(X+1)≤K:=h.2.2.2.2.2.1.size hb
theorem GcI.next{K:Nat}{p q a b s r:List Rat}{f:Rat}{X:Nat}(h:GcI K p q a b X)(hb:b≠[])(hd:DvP a b X X s r f):∃ X',GcI K p q b (aM r) X':=by
 obtain ⟨h1,h2,h3,h4,h5,h6,h7,h8,h9⟩:=h;obtain ⟨d0,d1,d2,d3,d4,d5,d6,d7⟩:=hd;have hl:(aM r).length=r.length:=by rw [aP,d4]
 have hbt:tz b≠[]:=by rw [h2];exact hb
 have hpr:Pr (aM r) (eL a b):=(lR r).trans (nV hbt d0 (Bd.seq s) (by rw [h2];exact d5) d7);obtain ⟨X',g1,g2,g3⟩:=h6.next h2 hb hpr (sD r) (by omega) (fD (D:=1) (fun x hx=>by
  have hw:=d3 x (by rw [d4] at hx;exact hx);exact Fr.one hw) (by decide))
 exact ⟨X',h2,iZ r,fun x hx=>(h4 x hx).mono g1,g3,by omega,g2,by rw [←oX h2 hb d0 d5 d7,h7],h9,by omega⟩
theorem GcI.start{K S D E:Nat}{p q:List Rat}(hS:1≤S)(hD:0<D)(hE:0<E)(hp:FrL S D p)(hq:FrL S E q)(hg:GZ K S p q)(hpl:p.length≤100000)(hql:q.length≤100000):∃ X,GcI K p q (aM p) (aM q) X:=by
 obtain ⟨X,h1,h2⟩:=hg;have e1:=ak p;have e2:=ak q;exact ⟨X,iZ p,iZ q,fun x hx=>(fD (fun x hx=>hp x (jd hx)) hD x hx).mono h1,fun x hx=>(fD (fun x hx=>hq x (jd hx)) hE x hx).mono h1,by omega,h2,oY p q,by rw [aP];omega,by rw [aP];omega⟩
def GcR(K:Nat)(g:List Rat):Prop:=∃ X D,FrL X D g∧1≤X∧0<D∧D<W32 ^ X∧((X+1)*3 ^ max g.length 1≤K∨3*((X+1)*(g.length+3))≤K)
theorem GcR.small{K:Nat}{g:List Rat}{X:Nat}(h:(X+1)*3 ^ max g.length 1≤K∨3*((X+1)*(g.length+3))≤K):X+1≤K / 3:=by
 rcases h with h|h
 ·have h1:(X+1)*3≤(X+1)*3 ^ max g.length 1:=Nat.mul_le_mul_left _ (by
   have:=Nat.pow_le_pow_right (n:=3) (by decide) (show 1≤max g.length 1 by omega);omega)
  omega
 ·have h1:(X+1)*1≤(X+1)*(g.length+3):=Nat.mul_le_mul_left _ (by omega);omega
theorem GcI.done{K:Nat}{p q a b:List Rat}{X:Nat}(h:GcI K p q a b X)(hb:b=[]):GcR K (eO p q):=by
 obtain ⟨h1,h2,h3,h4,h5,h6,h7,h8,h9⟩:=h;subst hb;have e:eO p q=cO a:=h7.symm;have hf:FrL X 1 a:=fun x hx=>Fr.one (h3 x hx)
 rw [e];have hsz:∀ n,n≤a.length→(X+1)*3 ^ max n 1≤K∨3*((X+1)*(n+3))≤K:=fun n hn=>by
  rcases h6 with h6|⟨-,h6⟩
  ·exact Or.inl (Nat.le_trans (Nat.mul_le_mul_left _ (Nat.pow_le_pow_right (by decide) (by simp only [List.length_nil];omega))) h6)
  ·right
   have:(X+1)*(n+3)≤(X+1)*(max a.length ([]:List Rat).length+3):=Nat.mul_le_mul_left _ (by omega);omega
 by_cases ha:tz a=[]
 ·have:cO a=[]:=by unfold cO;rw [if_pos ha]
  rw [this];exact ⟨X,1,fun x hx=>by simp at hx,h5,by decide,Nat.one_lt_pow (by omega) (by decide),hsz _ (by simp)⟩
 ·exact ⟨X,ldD (tz a) 1,s5 hf,h5,lh hf.tz (cJ ha) (by decide),oK hf.tz,hsz _ (by rw [cz,h1];exact Nat.le_refl _)⟩
def KZ(K S n:Nat):Prop:=(S+2)*3 ^ n≤K∨3*(((S+2)*(2*n)+S+2)*(2*n+3))≤K
end Go.Proofs.YtofhkmcllihgmaaGreat
/- Py6, Py7, Py8 -/
set_option linter.unusedVariables false
set_option maxRecDepth 8000
set_option maxHeartbeats 8000000
namespace Go.Proofs.YtofhkmcllihgmaaGreat
open Go.RowKit Go.Front Go.Num Stab
attribute [local go_sem] XW.cell XW.frozen
theorem m6(ao:Option Addr)(n cap:Nat)(l:List Rat)(S:Nat)(w:World)(h:aI w ⟨ao,n,cap⟩ l)(hn:n≤1000000)(hS:S≤16777216)(hz:SzL S l) :
  aq 239 [.slice ao n cap] w SH.v (fun x w'=>aI w' x (cO l)):=by
 have HX:=Hi (Ext.refl w);have LP:=Hi h.lin;have hle:=h.le;have hmx:=h.max;have Hlen:=Hi h.len;simp only at hle hmx Hlen;have HSz:=Hi hz;clear h hz;unfold aq;go_enter Tryz.func239,Tryz.ntmps239
 go_wp2_with fail
 refine cM (cN ao n cap l _ (LP.out.can.raw HSz.out (by omega))) fun x2 w2 hE G2=>?_
 refine mV2 hE ?_ HX LP;clear HX LP;intro HX LP;have hs_w2:=hE.size;clear hE;obtain ⟨q1,q2⟩:=G2.out;obtain ⟨P,hP⟩:∃ P,P=(tz l).length:=⟨_,rfl⟩;obtain ⟨p,hp⟩:∃ p,p=tz l:=⟨_,rfl⟩;have LQ:Hid (LIn w2 ⟨ao,P,cap⟩ p 0 w.heap.size):=Hi (by rw [hp,q1,hP];exact LP.out.take q2);have HPl:Hid (p.length=P):=Hi (by rw [hp,hP]);have HTZ:Hid (p=tz l):=Hi hp;have HSp:Hid (SzL S p):=Hi (fun x hx=>HSz.out x (by rw [hp,q1] at hx;exact List.mem_of_mem_take hx));have hPn:P≤n:=by omega
 rw [←hP];clear hP hp q1 q2 G2 HSz Hlen;clear LP;by_cases h0:P=0
 case pos =>
  subst h0;have HV:Hid (cO l=[]):=Hi (by unfold cO;rw [if_pos (by rw [←HTZ.out];exact List.length_eq_zero_iff.1 HPl.out)]);go_wp2
  go_ret
  exact ⟨⟨none,0,0⟩,rfl,HX.out,by rw [HV.out];exact (bv.nil 0 _).can⟩
 obtain ⟨m,rfl⟩:∃ m,P=m+1:=⟨P-1,by omega⟩;have hz0:((m:Int)+1 == 0)=false:=by rw [beq_eq_false_iff_ne];omega
 have Hne:Hid (tz l≠[]):=Hi (by rw [←HTZ.out];intro h;have:=HPl.out;rw [h] at this;simp at this);have HL:Hid (aQ (tz l)=p.getD m 0):=Hi (by unfold aQ;rw [←HTZ.out,HPl.out];rfl);have HL0:Hid (p.getD m 0≠0):=Hi (by rw [←HL.out];exact cJ Hne.out);obtain ⟨b,off,r,hao,hbl,⟨hc1,hc2,hc3⟩,hPc⟩:=LQ.out.celx (k:=m) (by omega);obtain ⟨rneg,ra,rn,rc,rb,rm,rd⟩:=r;simp only at hc1 hc2 hc3;have HC:=Hi hPc;clear hPc h0;subst hao;have Zc:Hid (Sz S (p.getD m 0)):=Hi (HSp.out.at (by rw [HPl.out];omega))
 go_upto_region 4 with fail
 refine bX [(12,10)] _ (by simp only [iU,kF,List.push_toArray,List.cons_append,List.nil_append];exact rfl) (by intro c a d v w h;cases d <;> exact h) 12 (fun opIx=>match opIx with
  | 0=>.spec RH default RH.v (fun s w'=>au w' s (((1:Int):Rat)))
  | 7=>.spec (RH) (default) (fun s=>.tuple #[s.v,.int .i64 0]) (fun x w'=>au w' x (((1:Int):Rat) / p.getD m 0))
  | 11=>.alloc 30 #[.bool false,.slice none 0 0,.slice none 0 0]
  | _=>.quiet) (fun|7=>[0]|_=>[]) (by kernel_rfl) (by kernel_rfl) (by kernel_rfl) (fun w0 he0 hz0 hc0 hf0=>?_);replace he0:=Hi he0;simp only [pT];refine qQ ?_
 refine wps he0.out rfl rfl (fun w1 hW hG=>?_) fun x20=>?_
 ·exact spc [.int .i64 1] Tryz.func137 (aW 1 _ (by decide) (by decide))
 refine qZ ?_;refine wps he0.out rfl rfl (fun w1 hW hG=>?_) fun x21=>?_
 ·have g20:=(hG 0 (by decide):ay _ _).get fun _ e g=>g.ext e
  exact spc [x20.v,RH.v ⟨rneg,ra,rn,rc,rb,rm,rd⟩] Tryz.func206 (cL x20 _ _ _ _ (g20.raw (Sz.int (by decide)) (by decide)) ((HC.out.ext hW).raw Zc.out (by omega)) HL0.out)
 refine qZ ?_;refine aG rfl rfl (fun w=>by simp [execOp,go_sem,ptr]) (fun b4 hb4 hl4=>?_);refine qZ ?_;refine wpF_nil ?_;intro w4 hI;have hE:=he0.out.trans hI.ext;have G20:=gT (hI.facts 0);have G21:=gT (hI.facts 7);have A4:Hid (w4.heap[b4]?=some (.cells #[.bool false,.slice none 0 0,.slice none 0 0] 30 (0,0))):=hI.facts 11;rw [hz0] at hl4;clear hI he0 hz0 hc0 hf0;refine mV2 hE ?_ HX LQ;clear HX LQ;intro HX LQ;have hs_w4:=hE.size;clear hE;replace b_A4:=bX3 A4;simp only [pD,ptr];clear hc1 hc2 hc3 hbl;have ZI:Hid (Sz (1+S) (((1:Int):Rat) / p.getD m 0)):=Hi ((Sz.int (by decide)).div Zc.out);have HZ8:Hid (SzL 33554432 p):=Hi (fun x hx=>(HSp.out x hx).mono (by omega))
 go_upto_region 5 with fail
 refine bm A4.out rfl ?_;intro w5 T;replace HX:=Hi (T.ext HX.out (by omega));replace LQ:=Hi (LQ.out.put T (by omega));replace G20:=Hi (G20.out.keep T.keep);replace A4:=Hi (T.bx);replace G21:=Hi (G21.out.keep T.keep);have hs_w5:=nle T.size;have hr_w5:=nle T.size.symm;clear T;replace b_A4:=bX3 A4
 go_wp2_with fail
 refine cM (bS (some ⟨b,off,none⟩) (m+1) cap p x21 (((1:Int):Rat) / p.getD m 0) _ (LQ.out.can.raw HSp.out (by omega)) (G21.out.raw ZI.out (by omega)) (by omega) HZ8.out (ZI.out.mono (by omega))) fun x6 w6 hE G6=>?_
 refine mV5 hE ?_ HX LQ G20 A4 G21;clear HX LQ G20 A4 G21;intro HX LQ G20 A4 G21;have hs_w6:=hE.size;clear hE;replace b_A4:=bX3 A4;go_wp2
 go_ret
 exact ⟨x6,rfl,HX.out,by show aI w6 x6 (cO l);unfold cO;rw [if_neg Hne.out,HL.out,←HTZ.out];exact G6.out.can⟩
abbrev QT(x:SH×SH):Value:=.tuple #[x.1.v,x.2.v,.int .i64 0]
theorem ip(pa qa:Option Addr)(P pc Q qc:Nat)(p q:List Rat)(S U D E:Nat)(w:World)(hp:aI w ⟨pa,P,pc⟩ p)(hq:aI w ⟨qa,Q,qc⟩ q)(hP:P≤100000)(hQ:Q≤100000)
 (hS:1≤S)(hU:1≤U)(hD:0<D)(hD2:D<W32 ^ S)(hE:0<E)(hE2:E<W32 ^ U)(hpf:∀ x ∈ p,Fr S D x)(hqf:∀ x ∈ q,Fr U E x)(hq0:tz q≠[])(hsz:S+P*(U+1)≤25000000)(hSU:S+U≤8000000) :
  aq 151 [.slice pa P pc,.slice qa Q qc] w QT (fun x w'=>aI w' x.1 (dU p q)∧aI w' x.2 (eL p q)):=by
 have HX:=Hi (Ext.refl w);have LP:=Hi hp.lin;have LQ:=Hi hq.lin;have HPF:=Hi hpf;have HQF:=Hi hqf;have HQ0:=Hi hq0;have HPl:Hid (p.length=P):=Hi hp.len;have HQl:Hid (q.length=Q):=Hi hq.len;clear hp hq hpf hqf hq0;unfold aq;go_enter Tryz.func151,Tryz.ntmps151
 go_wp2_with fail
 refine cM (dF pa P pc p S D _ LP.out.can (by omega) hS (by omega) hD hD2 HPF.out) fun x1 w1 hE G1=>?_
 refine mV3 hE ?_ HX LP LQ;clear HX LP LQ;intro HX LP LQ;have hs_w1:=hE.size;clear hE;obtain ⟨xs,xa⟩:=x1;have HXS:=Hi G1.out.1;have HXA:=Hi G1.out.2;clear G1;simp only [MT] at *
 go_upto_region 2 with fail
 refine nmA ?_;intro w2 hE B7 hz_w2 hr_w2;refine mV5 hE ?_ HX LP LQ HXS HXA;clear HX LP LQ HXS HXA;intro HX LP LQ HXS HXA;have hs_w2:=hE.size;clear hE;replace b_B7:=bX3 B7
 go_wp2_with fail
 refine cM (dF qa Q qc q U E _ LQ.out.can (by omega) hU (by omega) hE hE2 HQF.out) fun x3 w3 hE G3=>?_
 refine mV6 hE ?_ B7 HX LP LQ HXS HXA;clear B7 HX LP LQ HXS HXA;intro B7 HX LP LQ HXS HXA;have hs_w3:=hE.size;clear hE;replace b_B7:=bX3 B7;obtain ⟨ys,ya⟩:=x3;have HYS:=Hi G3.out.1;have HYA:=Hi G3.out.2;clear G3;simp only [MT] at *
 clear LP;clear LQ
 go_upto_region 3 with fail
 refine nmA ?_;intro w4 hE B9 hz_w4 hr_w4;refine mV6 hE ?_ B7 HX HXS HXA HYS HYA;clear B7 HX HXS HXA HYS HYA;intro B7 HX HXS HXA HYS HYA;have hs_w4:=hE.size;clear hE;replace b_B7:=bX3 B7;replace b_B9:=bX3 B9;obtain ⟨La,hLa,rfl,hra⟩:=HXA.out;obtain ⟨Lb,hLb,rfl,hrb⟩:=HYA.out;have HA:=Hi hra;have HB:=Hi hrb;obtain ⟨N,hN⟩:∃ N,N=(aM p).length:=⟨_,rfl⟩;obtain ⟨m,hm⟩:∃ m,(aM q).length=m+1:=⟨(tz q).length-1,by rw [aP];have:=List.length_pos_iff.2 HQ0.out;omega⟩;have hNP:N≤P:=by rw [hN,aP,←HPl.out];exact ak p
 have hmQ:m+1≤Q:=by rw [←hm,aP,←HQl.out];exact ak q
 have HN:=Hi hN;have HM:=Hi hm;rw [←hN,hm];clear hra hrb hN hm hLa hLb;clear HXA;clear HYA;have hz0:((m:Int)+1 == 0)=false:=by rw [beq_eq_false_iff_ne];omega
 have hmul:(N-m)*(U+1)≤P*(U+1):=Nat.mul_le_mul_right _ (by omega)
 go_wp2_with fail
 refine cM (ir (some ⟨La,0,none⟩) (some ⟨Lb,0,none⟩) N N m (m+1) (aM p) (aM q) S U _ (HA.out.can HN.out.symm (Nat.le_refl _) (by omega)) (HB.out.can HM.out (Nat.le_refl _) (by omega)) (fD (fun x hx=>HPF.out x (jd hx)) hD) (fD (fun x hx=>HQF.out x (jd hx)) hE) hS hU (iZ p) (iZ q) (by omega) (by omega) (by omega) (by omega)) fun x5 w5 hE G5=>?_
 refine mV7 hE ?_ B9 B7 HX HXS HYS HA HB;clear B9 B7 HX HXS HYS HA HB;intro B9 B7 HX HXS HYS HA HB;have hs_w5:=hE.size;clear hE;replace b_B7:=bX3 B7;replace b_B9:=bX3 B9;obtain ⟨ss,rr,ff⟩:=x5;obtain ⟨s,r,f,hdv,h1,h2,h3⟩:=G5.out;have HDv:=Hi hdv;have HS1:=Hi h1.lin;have HR1:=Hi h2.lin;have HF1:=Hi h3;have hw5:w5.heap.size=w5.heap.size:=rfl;clear h1 h2 h3 G5 hdv hw5;simp only [DT] at *
 clear HA;clear HB
 go_upto_region 6 with fail
 refine nmA ?_;intro w6 hE B13 hz_w6 hr_w6;refine mV8 hE ?_ B9 B7 HX HXS HYS HS1 HR1 HF1;clear B9 B7 HX HXS HYS HS1 HR1 HF1;intro B9 B7 HX HXS HYS HS1 HR1 HF1;have hs_w6:=hE.size;clear hE;replace b_B7:=bX3 B7;replace b_B9:=bX3 B9;replace b_B13:=bX3 B13;have ZS:Hid (Sz S (aO p)):=Hi ((dQ (fun x hx=>HPF.out x (jd hx))).sz hS hD hD2);have ZU:Hid (Sz U (aO q)):=Hi ((dQ (fun x hx=>HQF.out x (jd hx))).sz hU hE hE2);obtain ⟨d0,d1,d2,d3,d4,d5,d6,d7⟩:=HDv.out;have hbb:(N-m)*(U+1)=((aM p).length+1-(aM q).length)*(U+1):=by rw [←HN.out,HM.out,show N+1-(m+1)=N-m by omega]
 have hbb2:((aM p).length+1-(aM q).length)*U≤((aM p).length+1-(aM q).length)*(U+1):=Nat.mul_le_mul_left _ (by omega);have ZF:Hid (Sz 25000001 f):=Hi ((d1.mono (by omega)).sz (by omega));have ZSS:Hid (SzL 25000000 s):=Hi (fun x hx=>((d2 x hx).mono (by omega)).sz (by omega));have ZRR:Hid (SzL 25000000 r):=Hi (fun x hx=>((d3 x hx).mono (by omega)).sz (by omega));have HF0:=Hi d0;have HPL:Hid (tz (s.map (·*(aO p / f / aO q)))=dU p q∧tz (r.map (·*(aO p / f)))=eL p q):=Hi (ry HQ0.out d0 d5 d7);have hsn:ss.n≤1000000:=by have:=HS1.out.len;have h8:=HN.out;omega
 have hrn:rr.n≤1000000:=by have:=HR1.out.len;rw [HM.out] at d5;omega
 clear d0 d1 d2 d3 d4 d5 d6 d7 hbb hbb2 HDv
 go_wp2_with fail
 refine cM (cL xs ff (aO p) f _ (HXS.out.raw ZS.out (by omega)) (HF1.out.raw ZF.out (by omega)) HF0.out) fun x7 w7 hE G7=>?_
 refine mV8 hE ?_ B13 B9 B7 HX HXS HYS HS1 HR1;clear B13 B9 B7 HX HXS HYS HS1 HR1;intro B13 B9 B7 HX HXS HYS HS1 HR1;replace HF1:=mV hE HF1;have hs_w7:=hE.size;clear hE;replace b_B7:=bX3 B7;replace b_B9:=bX3 B9;replace b_B13:=bX3 B13
 go_upto_region 7 with fail
 refine nmA ?_;intro w8 hE B14 hz_w8 hr_w8;refine mV8 hE ?_ G7 B13 B9 B7 HX HXS HYS HS1;clear G7 B13 B9 B7 HX HXS HYS HS1;intro G7 B13 B9 B7 HX HXS HYS HS1;refine mV2 hE ?_ HR1 HF1;clear HR1 HF1;intro HR1 HF1;have hs_w8:=hE.size;clear hE;replace b_B7:=bX3 B7;replace b_B9:=bX3 B9;replace b_B13:=bX3 B13;replace b_B14:=bX3 B14;have Z7:Hid (Sz (S+25000001) (aO p / f)):=Hi (ZS.out.div ZF.out)
 go_wp2_with fail
 refine cM (cL x7 ys (aO p / f) (aO q) _ (G7.out.raw Z7.out (by omega)) (HYS.out.raw ZU.out (by omega)) (kR HQ0.out)) fun x9 w9 hE G9=>?_
 refine mV8 hE ?_ B14 G7 B13 B9 B7 HX HXS HYS;clear B14 G7 B13 B9 B7 HX HXS HYS;intro B14 G7 B13 B9 B7 HX HXS HYS;refine mV3 hE ?_ HS1 HR1 HF1;clear HS1 HR1 HF1;intro HS1 HR1 HF1;have hs_w9:=hE.size;clear hE;replace b_B7:=bX3 B7;replace b_B9:=bX3 B9;replace b_B13:=bX3 B13;replace b_B14:=bX3 B14
 go_upto_region 8 with fail
 refine nmA ?_;intro w10 hE B16 hz_w10 hr_w10;refine mV8 hE ?_ G9 B14 G7 B13 B9 B7 HX HXS;clear G9 B14 G7 B13 B9 B7 HX HXS;intro G9 B14 G7 B13 B9 B7 HX HXS;refine mV4 hE ?_ HYS HS1 HR1 HF1;clear HYS HS1 HR1 HF1;intro HYS HS1 HR1 HF1;have hs_w10:=hE.size;clear hE;replace b_B7:=bX3 B7;replace b_B9:=bX3 B9;replace b_B13:=bX3 B13;replace b_B14:=bX3 B14;replace b_B16:=bX3 B16;have Z9:Hid (Sz (S+25000001+U) (aO p / f / aO q)):=Hi (Z7.out.div ZU.out);obtain ⟨sa,sn,sc⟩:=ss;obtain ⟨ra,rn,rc⟩:=rr;simp only at hsn hrn;simp only [SH.v];refine wpG 6 (fun opIx=>match opIx with
  | 2=>.spec (SH) (default) (SH.v) (fun x w'=>aI w' x (tz (s.map (·*(aO p / f / aO q)))))
  | 5=>.spec (SH) (default) (SH.v) (fun x w'=>aI w' x (tz (r.map (·*(aO p / f)))))
  | _=>.quiet) (fun _=>[]) fun w0 he0 hz0 hc0 hf0=>?_
 refine wps he0.out rfl rfl (fun w1 hW hG=>?_) fun x20=>?_
 ·exact spc [.slice sa sn sc,x9.v] Tryz.func154 ((bS sa sn sc s x9 _ _ ((HS1.out.ext hW).can.raw ZSS.out (by decide)) ((G9.out.ext hW).raw Z9.out (by omega)) (by omega) (ZSS.out.mono (by decide)) (Z9.out.mono (by omega))).weak (fun _ _ _ h=>h.can))
 refine qZ ?_;refine wps he0.out rfl rfl (fun w1 hW hG=>?_) fun x21=>?_
 ·exact spc [.slice ra rn rc,x7.v] Tryz.func154 ((bS ra rn rc r x7 _ _ ((HR1.out.ext hW).can.raw ZRR.out (by decide)) ((G7.out.ext hW).raw Z7.out (by omega)) (by omega) (ZRR.out.mono (by decide)) (Z7.out.mono (by omega))).weak (fun _ _ _ h=>h.can))
 refine qZ ?_;refine wpF_nil ?_;intro w11 hI;have hE:=he0.out.trans hI.ext;have G20:=gT (hI.facts 2);have G21:=gT (hI.facts 5);clear hI he0 hz0 hc0 hf0;refine mV8 hE ?_ B16 B14 B13 B9 B7 HX HXS HYS;clear B16 B14 B13 B9 B7 HX HXS HYS;intro B16 B14 B13 B9 B7 HX HXS HYS;refine mV5 hE ?_ HF1 HS1 G9 HR1 G7;clear HF1 HS1 G9 HR1 G7;intro HF1 HS1 G9 HR1 G7;have hs_w11:=hE.size;clear hE;replace b_B7:=bX3 B7;replace b_B9:=bX3 B9;replace b_B13:=bX3 B13;replace b_B14:=bX3 B14;replace b_B16:=bX3 B16;simp only [pD];go_wp2;exact bodyPost_ret (v:=QT (x20,x21)) (by simp [results,Tryz.results151,go_sem,QT]) rfl ⟨(x20,x21),rfl,HX.out,by rw [←HPL.out.1];exact G20.out,by rw [←HPL.out.2];exact G21.out⟩
theorem qH(pa qa:Option Addr)(P pc Q qc:Nat)(p q:List Rat)(S D E:Nat)(w:World)(hp:aI w ⟨pa,P,pc⟩ p)(hq:aI w ⟨qa,Q,qc⟩ q)(hP:P≤100000)(hQ:Q≤100000)
 (hS:1≤S)(hD:0<D)(hD2:D<W32 ^ S)(hE:0<E)(hE2:E<W32 ^ S)(hpf:∀ x ∈ p,Fr S D x)(hqf:∀ x ∈ q,Fr S E x)(K:Nat)(hsz:GZ K S p q)(hK:K≤16777216) :
  aq 150 [.slice pa P pc,.slice qa Q qc] w SH.v (fun x w'=>aI w' x (eO p q)∧GcR K (eO p q)):=by
 have HX:=Hi (Ext.refl w);have LP:=Hi hp.lin;have LQ:=Hi hq.lin;have HPF:=Hi hpf;have HQF:=Hi hqf;obtain ⟨X0,hX0⟩:=GcI.start hS hD hE hpf hqf hsz (by have:=hp.len;simp only at this;omega) (by have:=hq.len;simp only at this;omega);have hSs:S+1≤16777216:=by
  have h1:=hX0.small;obtain ⟨X1,h2,h3⟩:=hsz;have:=h3.small;omega
 have hlp:(aM p).length≤P:=by have:=hp.len;have h2:=ak p;rw [aP];simp only at this;omega
 have hlq:(aM q).length≤Q:=by have:=hq.len;have h2:=ak q;rw [aP];simp only at this;omega
 have HG:=Hi hX0;clear hp hq hpf hqf hsz hX0;unfold aq;go_enter Tryz.func150,Tryz.ntmps150
 go_wp2_with fail
 refine cM (dF pa P pc p S D _ LP.out.can (by omega) hS (by omega) hD hD2 HPF.out) fun x1 w1 hE G1=>?_
 refine mV3 hE ?_ HX LP LQ;clear HX LP LQ;intro HX LP LQ;have hs_w1:=hE.size;clear hE;obtain ⟨xs,xa⟩:=x1;have HXA:=Hi G1.out.2;clear G1;simp only [MT] at *
 go_upto_region 2 with fail
 refine nmA ?_;intro w2 hE B7 hz_w2 hr_w2;refine mV4 hE ?_ HX LP LQ HXA;clear HX LP LQ HXA;intro HX LP LQ HXA;have hs_w2:=hE.size;clear hE;replace b_B7:=bX3 B7
 go_wp2_with fail
 refine cM (dF qa Q qc q S E _ LQ.out.can (by omega) hS (by omega) hE hE2 HQF.out) fun x3 w3 hE G3=>?_
 refine mV5 hE ?_ B7 HX LP LQ HXA;clear B7 HX LP LQ HXA;intro B7 HX LP LQ HXA;have hs_w3:=hE.size;clear hE;replace b_B7:=bX3 B7;obtain ⟨ys,ya⟩:=x3;have HYA:=Hi G3.out.2;clear G3;simp only [MT] at *
 clear LP;clear LQ
 (try clear b_B7);clear B7
 go_wp2;refine nmA ?_;intro w4 hE B9 hz_w4 hr_w4;refine mV3 hE ?_ HX HXA HYA;clear HX HXA HYA;intro HX HXA HYA;have hs_w4:=hE.size;clear hE;replace b_B9:=bX3 B9;obtain ⟨La,hLa,rfl,hra⟩:=HXA.out;obtain ⟨Lb,hLb,rfl,hrb⟩:=HYA.out;have HA:=Hi (hra.can rfl (Nat.le_refl _) (by omega));have HB:=Hi (hrb.can rfl (Nat.le_refl _) (by omega));clear hra hrb hLa hLb HXA HYA B9 b_B9
 go_loopg [6,8] (aM q).length (fun g u v wr=>∃ (x y:SH) (a b:List Rat) (X:Nat),u=x.v∧v=y.v∧b.length≤g∧Ext w wr∧aI wr x a∧aI wr y b∧GcI K p q a b X)
 case atStart=>exact ⟨_,_,_,_,X0,rfl,rfl,Nat.le_refl _,HX.out,HA.out,HB.out,HG.out⟩
 case round =>
  obtain ⟨⟨xa,xn,xc⟩,⟨ya,yn,yc⟩,a,b,X,rfl,rfl,hg,g1,g2,g3,g4⟩:=hrel;clear HX HA HB HG;have HX:=Hi g1;have LA:=Hi g2.lin;have LB:=Hi g3.lin;have HG:=Hi g4;have hxl:=g2.len;have hyl:=g3.len;simp only at hxl hyl;clear g1 g2 g3 g4;simp only [SH.v];by_cases h0:yn=0
  case pos =>
   subst h0;have hb:b=[]:=List.length_eq_zero_iff.1 hyl;have HV:Hid (eO p q=cO a):=Hi (by have:=HG.out.2.2.2.2.2.2.1;rw [hb] at this;exact this.symm);have HZ:Hid (SzL X a):=Hi (fun x hx=>(HG.out.2.2.1 x hx).sz HG.out.2.2.2.2.1);have hXs:=HG.out.small;have han:=HG.out.2.2.2.2.2.2.2.1
   go_wp2_with fail
   refine cM (m6 xa xn xc a X _ LA.out.can (by omega) (by omega) HZ.out) fun x2 w2 hE G2=>?_
   refine mV3 hE ?_ HX LA LB;clear HX LA LB;intro HX LA LB;have hs_w2:=hE.size;clear hE;go_wp2
   go_ret
   exact ⟨x2,rfl,HX.out,by rw [HV.out];exact G2.out,HG.out.done hb⟩
  obtain ⟨m,rfl⟩:∃ m,yn=m+1:=⟨yn-1,by omega⟩;have hpos:(0:Int)<(m:Int)+1:=by omega
  have Hb0:Hid (b≠[]):=Hi (by intro h;rw [h] at hyl;simp at hyl);obtain ⟨e1,e2,e3,e4,e5,e6,e7,e8,e9⟩:=HG.out;have hsz2:=HG.out.size Hb0.out;have hsz3:X+(xn-m)*(X+1)≤K:=by rw [hxl,hyl,show xn+1-(m+1)=xn-m by omega] at hsz2;exact hsz2
  have hXs:=HG.out.small
  go_wp2_with fail
  refine cM (ir xa ya xn xc m yc a b X X _ LA.out.can LB.out.can e3 e4 e5 e5 e1 e2 (by omega) (by omega) (by omega) (by omega)) fun x4 w4 hE G4=>?_
  refine mV3 hE ?_ HX LA LB;clear HX LA LB;intro HX LA LB;have hs_w4:=hE.size;clear hE;obtain ⟨ss,⟨ra,rn,rc⟩,ff⟩:=x4;obtain ⟨s,r,f,hdv,h1,h2,h3⟩:=G4.out;obtain ⟨X2,hnx⟩:=HG.out.next Hb0.out hdv;have HNX:=Hi hnx;clear hnx;obtain ⟨d0,d1,d2,d3,d4,d5,d6,d7⟩:=hdv;have hrl:=h2.len;simp only at hrl;have HR1:=Hi h2.lin;have HRF:Hid (∀ x ∈ r,Fr (X+(a.length+1-b.length)*(X+1)) 1 x):=Hi (fun x hx=>by
   have hw:=d3 x hx;have e1:x*((1:Nat):Rat)=x:=Rat.mul_one x;unfold Fr;rw [e1];exact hw)
  have hsr:(aM r).length<b.length:=by rw [aP,d4];exact d5
  have hX1:1≤X+(a.length+1-b.length)*(X+1):=by omega
  have hW1:1<W32 ^ (X+(a.length+1-b.length)*(X+1)):=Nat.one_lt_pow (by omega) (by decide);have HLM:Hid (b.length=m+1):=Hi hyl;clear h1 h2 h3 G4 d0 d1 d2 d3 d4 d6 d7 e1 e2 e3 e4 e6 e7 hsz3;simp only [DT] at *
  go_upto_region 5 with fail
  refine nmA ?_;intro w5 hE B11 hz_w5 hr_w5;refine mV4 hE ?_ HX LA LB HR1;clear HX LA LB HR1;intro HX LA LB HR1;have hs_w5:=hE.size;clear hE;replace b_B11:=bX3 B11
  go_wp2_with fail
  refine cM (dF ra rn rc r (X+(a.length+1-b.length)*(X+1)) 1 _ HR1.out.can (by omega) hX1 (by omega) (by decide) hW1 HRF.out) fun x6 w6 hE G6=>?_
  refine mV5 hE ?_ B11 HX LA LB HR1;clear B11 HX LA LB HR1;intro B11 HX LA LB HR1;have hs_w6:=hE.size;clear hE;replace b_B11:=bX3 B11;obtain ⟨zs,za⟩:=x6;obtain ⟨Lz,hLz,hz,hrz⟩:=G6.out.2;have HZ:=Hi (hrz.can rfl (Nat.le_refl _) (by omega));clear G6 hrz hLz;simp only [MT] at *
  subst hz;go_wp2
  go_roundg (gk-1)
  case measure=>omega
  case rel=>exact ⟨⟨ya,m+1,yc⟩,_,b,aM r,_,rfl,rfl,by omega,HX.out,LB.out.can,HZ.out,HNX.out⟩
end Go.Proofs.YtofhkmcllihgmaaGreat
