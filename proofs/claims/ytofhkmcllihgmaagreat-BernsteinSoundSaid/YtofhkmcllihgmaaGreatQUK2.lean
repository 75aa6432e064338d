/- Chb1, Chb2, Chb3, Chb4, ChbP -/
import Derived.Test.YtofhkmcllihgmaaGreatQUM11
import Derived.Test.YtofhkmcllihgmaaGreatQUK1
import Derived.Test.YtofhkmcllihgmaaGreatQUM22
set_option linter.unusedVariables false
namespace Go.Proofs.YtofhkmcllihgmaaGreat
open Go.RowKit Go.Front Go.Num
attribute [local go_sem] XW.cell XW.frozen
theorem au.weak{f:FuncId}{args:List Value}{w:World}{α:Type}{mk:α→Value}{φ ψ:α→World→Prop}(h:au f args w mk φ)(hi:∀ x w',Ext w w'→φ x w'→ψ x w'):au f args w mk ψ:=by
 refine Calls.mono h ?_;rintro e w' ⟨x,rfl,h1,h2⟩;exact ⟨x,rfl,h1,hi x w' h1 h2⟩
def oX(w:World)(rs:List RH)(ts:List Rat):Prop:=∀ j,j<ts.length→aw w (rs.getD j default) (ts.getD j 0)
theorem oX.ext{w w':World}{rs:List RH}{ts:List Rat}(h:oX w rs ts)(he:Ext w w'):oX w' rs ts:=fun j hj=>(h j hj).ext he
instance {w w':World} {rs:List RH} {ts:List Rat}:Go.Front.Mv w w' (oX w rs ts) (oX w' rs ts):=⟨fun e h=>oX.ext h e⟩

theorem oX.keep{w w':World}{rs:List RH}{ts:List Rat}(h:oX w rs ts)(he:dB w w'):oX w' rs ts:=fun j hj=>(h j hj).keep he
theorem lY{rs:List RH}{i:Nat}{x:RH}(h:i<rs.length):(rs.set i x).getD i default=x:=by simp [h]
theorem kG{rs:List RH}{i j:Nat}{x:RH}(h:i≠j):(rs.set i x).getD j default=rs.getD j default:=by
 rw [List.getD_eq_getElem?_getD,List.getD_eq_getElem?_getD,List.getElem?_set_ne h]
theorem oX.snoc{w:World}{rs:List RH}{ts:List Rat}(h:oX w rs ts){x:RH}{q:Rat}{i:Nat}(hl:ts.length=i)(hi:i<rs.length)(hx:aw w x q):oX w (rs.set i x) (ts++[q]):=by
 intro j hj;by_cases hji:j<ts.length
 ·rw [kG (by omega),show (ts++[q]).getD j 0=ts.getD j 0 by rw [List.getD_eq_getElem?_getD,List.getElem?_append_left hji,←List.getD_eq_getElem?_getD]];exact h j hji
 ·obtain rfl:j=ts.length:=by simp at hj;omega
  subst hl;rw [lY hi,show (ts++[q]).getD ts.length 0=q by simp];exact hx
def A3(m x:Rat):Rat:=m*(((m*x).den:Int):Rat)
def fu(l:List Rat):Rat:=l.foldl A3 1
theorem iz(l:List Rat)(x:Rat):fu (l++[x])=A3 (fu l) x:=by simp [fu]
def cg(s j:Nat):Nat:=1+j*s
theorem AR{s i j:Nat}(h:i≤j):cg s i≤cg s j:=by
 have:=Nat.mul_le_mul_right s h;unfold cg;omega
theorem AH{s:Nat}{l:List Rat}(h:SzL s l):∀ j,j≤l.length→∃ m:Nat,0<m∧fu (l.take j)=((m:Int):Rat)∧m<W32 ^ (cg s j):=by
 intro j;induction j with
 | zero=>intro _;exact ⟨1,by decide,rfl,by rw [show cg s 0=1 by simp [cg]];decide⟩
 | succ j ih =>
  intro hj;obtain ⟨m,hm,e,hl⟩:=ih (by omega);have hx:=h.at (i:=j) (by omega);rw [←cT (by omega),iz];unfold A3;rw [e];have hd:(((m:Int):Rat)*l.getD j 0).den≤(l.getD j 0).den:=by
   rw [Rat.den_mul,Rat.den_intCast,Nat.one_mul];exact Nat.div_le_self _ _
  have hp:=(((m:Int):Rat)*l.getD j 0).den_pos;refine ⟨m*(((m:Int):Rat)*l.getD j 0).den,Nat.mul_pos hm hp,by rw [Int.natCast_mul,Rat.intCast_mul],?_⟩;have h1:=Nat.lt_of_le_of_lt hd hx.2;have h2:=Nat.mul_lt_mul_of_lt_of_lt hl h1;rw [←Nat.pow_add] at h2;rw [show cg s (j+1)=cg s j+s by unfold cg;rw [Nat.succ_mul];omega];exact h2
theorem uK{s:Nat}{l:List Rat}(h:SzL s l):∀ j,j≤l.length→Sz (cg s j) (fu (l.take j)):=by
 intro j hj;obtain ⟨m,hm,e,hl⟩:=AH h j hj;rw [e];exact ⟨by rw [Rat.num_intCast,Int.natAbs_natCast];exact hl,by rw [Rat.den_intCast];have:=gt (k:=cg s j) (by unfold cg;omega);omega⟩
end Go.Proofs.YtofhkmcllihgmaaGreat
namespace Go.Proofs.YtofhkmcllihgmaaGreat
open Go.RowKit Go.Front Go.Num
theorem yf{a b:List Rat}(h:∀ i,a.getD i 0=b.getD i 0):tz a=tz b:=by
 have hl:∀ a b:List Rat,(∀ i,a.getD i 0=b.getD i 0)→(tz a).length≤(tz b).length:=by
  intro a b h;rcases Nat.lt_or_ge (tz b).length (tz a).length with h1|h1
  ·exfalso;obtain ⟨n,hn⟩:∃ n,(tz a).length=n+1:=⟨(tz a).length-1,by omega⟩;have h2:(tz a).getD n 0=0:=by
    rw [nN (by omega),h n,se (by omega)]
   have h3:=bi a;have h4:tz ((tz a).take (n+1))=tz ((tz a).take n):=jz (by omega) h2;rw [←hn,List.take_length,h3] at h4;have h5:=aj ((tz a).take n);rw [←h4,List.length_take] at h5;omega
  ·exact h1
 apply Stab.getD_ext
 ·exact Nat.le_antisymm (hl a b h) (hl b a (fun i=>(h i).symm))
 ·intro i _;rw [aW,aW,h]
end Go.Proofs.YtofhkmcllihgmaaGreat
/- Fb, Crs, Acr, Amp, Awk8 -/
set_option linter.unusedVariables false
namespace Go.Proofs.YtofhkmcllihgmaaGreat
open Go.RowKit Go.Front Go.Num
attribute [local go_sem] XW.cell XW.frozen
end Go.Proofs.YtofhkmcllihgmaaGreat
namespace Go.Proofs.YtofhkmcllihgmaaGreat
open Go.RowKit Go.Front Go.Num
theorem sB{n m:Nat}{f:Nat→Rat}(h:n≤m)(h0:∀ i,n≤i→i<m→f i=0):Stab.sm n f=Stab.sm m f:=by
 obtain ⟨d,rfl⟩:∃ d,m=n+d:=⟨m-n,by omega⟩;rw [Stab.sm_split,Stab.sm_congr (n:=d) (g:=fun _=>0) (fun i hi=>h0 (n+i) (by omega) (by omega)),Stab.sm_zero];grind
end Go.Proofs.YtofhkmcllihgmaaGreat
namespace Go.Proofs.YtofhkmcllihgmaaGreat
open Go.RowKit Go.Front Go.Num
attribute [local go_sem] XW.cell XW.frozen
end Go.Proofs.YtofhkmcllihgmaaGreat
/- Tb, Bsz -/
set_option linter.unusedVariables false
namespace Go.Proofs.YtofhkmcllihgmaaGreat
open Go.RowKit Go.Front Go.Num
attribute [local go_sem] XW.cell XW.frozen
end Go.Proofs.YtofhkmcllihgmaaGreat
namespace Go.Proofs.YtofhkmcllihgmaaGreat
open Go.RowKit Go.Front Go.Num
end Go.Proofs.YtofhkmcllihgmaaGreat
/- Fr, Run, MgP, FrB -/
set_option linter.unusedVariables false
namespace Go.Proofs.YtofhkmcllihgmaaGreat
open Go.RowKit Go.Front Go.Num Stab
theorem Fr.mono{S S' D:Nat}{q:Rat}(h:Fr S D q)(hS:S≤S'):Fr S' D q:=Wz.mono (q:=q*(D:Rat)) h hS
theorem Fr.add{S D:Nat}{a b:Rat}(ha:Fr S D a)(hb:Fr S D b):Fr (S+1) D (a+b):=by
 have:=Wz.add (a:=a*(D:Rat)) (b:=b*(D:Rat)) ha hb;rw [←Rat.add_mul] at this;exact this
theorem Fr.mul{S U D E:Nat}{a b:Rat}(ha:Fr S D a)(hb:Fr U E b):Fr (S+U) (D*E) (a*b):=by
 have:=Wz.mul (a:=a*(D:Rat)) (b:=b*(E:Rat)) ha hb;have e:a*b*((D*E:Nat):Rat)=a*(D:Rat)*(b*(E:Rat)):=by rw [Rat.natCast_mul];grind
 unfold Fr;rw [e];exact this
theorem Fr.one{S:Nat}{q:Rat}(h:Wz S q):Fr S 1 q:=by
 unfold Fr;rw [show q*((1:Nat):Rat)=q from Rat.mul_one q];exact h
theorem Wz.nat{S n:Nat}(h:n<W32 ^ S):Wz S ((n:Nat):Rat):=by
 have:=Wz.int (S:=S) (z:=(n:Int)) (by simpa using h);exact this
theorem Fr.den{S U D E:Nat}{a:Rat}(ha:Fr S D a)(hE:E<W32 ^ U):Fr (S+U) (D*E) a:=by
 have:=Wz.mul (a:=a*(D:Rat)) (b:=(E:Rat)) ha (Wz.nat hE);have e:a*((D*E:Nat):Rat)=a*(D:Rat)*(E:Rat):=by rw [Rat.natCast_mul];grind
 unfold Fr;rw [e];exact this
theorem Fr.denl{S U D E:Nat}{a:Rat}(ha:Fr S D a)(hE:E<W32 ^ U):Fr (S+U) (E*D) a:=by rw [Nat.mul_comm];exact ha.den hE
theorem CM{S:Nat}{f:Nat→Rat}:∀ n,(∀ i,i<n→Wz S (f i))→Wh (sm n f)∧(sm n f).num.natAbs+n≤n*W32 ^ S:=by
 intro n;induction n with
 | zero=>intro _;exact ⟨rfl,Nat.zero_le (0*W32 ^ S)⟩
 | succ n ih =>
  intro h;obtain ⟨h1,h2⟩:=ih (fun i hi=>h i (by omega));obtain ⟨h3,h4⟩:=h n (by omega);show Wh (sm n f+f n)∧(sm n f+f n).num.natAbs+(n+1)≤_;refine ⟨h1.add h3,?_⟩;have e:(sm n f+f n)=(((sm n f).num+(f n).num:Int):Rat):=by rw [Rat.intCast_add,←h1.eq,←h3.eq]
  rw [e,Rat.num_intCast];have:=Int.natAbs_add_le (sm n f).num (f n).num;rw [Nat.succ_mul];omega
theorem Wz.sm{S n:Nat}{f:Nat→Rat}(h:∀ i,i<n→Wz S (f i))(hn:n≤W32):Wz (S+1) (sm n f):=by
 obtain ⟨h1,h2⟩:=CM n h;refine ⟨h1,?_⟩;have h3:n*W32 ^ S≤W32 ^ (S+1):=by rw [Nat.pow_succ,Nat.mul_comm];exact Nat.mul_le_mul_left _ hn
 rcases Nat.eq_zero_or_pos n with h0|h0
 ·subst h0;have h4:(Stab.sm 0 f).num.natAbs=0:=rfl;have:=Nat.pow_pos (n:=S+1) aA;omega
 ·omega
theorem Fr.sm{S D n:Nat}{f:Nat→Rat}(h:∀ i,i<n→Fr S D (f i))(hn:n≤W32):Fr (S+1) D (sm n f):=by
 have:=Wz.sm (f:=fun i=>f i*(D:Rat)) (S:=S) (n:=n) h hn;have e:Stab.sm n (fun i=>f i*(D:Rat))=Stab.sm n f*(D:Rat):=by
  rw [sm_congr (g:=fun i=>(D:Rat)*f i) (fun i _=>Rat.mul_comm _ _),gx,Rat.mul_comm]
 rw [e] at this;exact this
def FrL(S D:Nat)(l:List Rat):Prop:=∀ x ∈ l,Fr S D x
theorem FrL.mono{S S' D:Nat}{l:List Rat}(h:FrL S D l)(hS:S≤S'):FrL S' D l:=fun x hx=>(h x hx).mono hS
theorem FrL.at{S D:Nat}{l:List Rat}(h:FrL S D l)(i:Nat):Fr S D (l.getD i 0):=by
 rcases Nat.lt_or_ge i l.length with hi|hi
 ·exact h _ (na hi)
 ·rw [bs hi];exact Fr.zero _ _
theorem FrL.of{S D:Nat}{l:List Rat}(h:∀ i,Fr S D (l.getD i 0)):FrL S D l:=fun x hx=>by
 obtain ⟨i,-,rfl⟩:=dR hx;exact h i
theorem FrL.tz{S D:Nat}{l:List Rat}(h:FrL S D l):FrL S D (tz l):=FrL.of fun i=>by rw [aW];exact h.at i
theorem FrL.den{S U D E:Nat}{l:List Rat}(h:FrL S D l)(hE:E<W32 ^ U):FrL (S+U) (D*E) l:=fun x hx=>(h x hx).den hE
theorem FrL.denl{S U D E:Nat}{l:List Rat}(h:FrL S D l)(hE:E<W32 ^ U):FrL (S+U) (E*D) l:=fun x hx=>(h x hx).denl hE
theorem FrL.sz{S D:Nat}{l:List Rat}(h:FrL S D l)(hS:1≤S)(hD:0<D)(hl:D<W32 ^ S):SzL S l:=fun x hx=>(h x hx).sz hS hD hl
theorem FrL.range{S D n:Nat}{f:Nat→Rat}(h:∀ i,i<n→Fr S D (f i)):FrL S D ((List.range n).map f):=fun x hx=>by
 obtain ⟨i,hi,rfl⟩:=List.mem_map.1 hx;exact h i (List.mem_range.1 hi)
theorem Dt{S U D E:Nat}{p q:List Rat}(hp:FrL S D p)(hq:FrL U E q)(hl:p.length≤W32)(n:Nat):Fr (S+U+1) (D*E) (ap p (seq q) n):=by
 rw [ap_sum];refine Fr.sm (fun i _=>(hp.at i).mul ?_) hl;unfold shn;split
 ·exact hq.at _
 ·exact Fr.zero _ _
theorem z8{S U D E:Nat}{p q:List Rat}(hp:FrL S D p)(hq:FrL U E q)(hl:p.length≤W32):FrL (S+U+1) (D*E) (aD p q):=by
 unfold aD;exact FrL.tz (FrL.range fun i _=>Dt hp.tz hq.tz (Nat.le_trans (aj p) hl) i)
theorem AW{S D:Nat}{p q:List Rat}(hp:FrL S D p)(hq:FrL S D q):FrL (S+1) D (cG p q):=by
 unfold cG;exact FrL.tz (FrL.range fun i _=>(hp.at i).add (hq.at i))
theorem yM{S U D:Nat}{L x:Rat}(hL:Wz U L)(h:Wz S (x*(D:Rat)*L)):Fr S (D*L.num.natAbs) x:=by
 have e0:x*((D*L.num.natAbs:Nat):Rat)=x*(D:Rat)*((L.num.natAbs:Nat):Rat):=by rw [Rat.natCast_mul,Rat.mul_assoc]
 unfold Fr;rw [e0];have e1:=hL.1.eq;have e2:((L.num.natAbs:Nat):Rat)=(((L.num.natAbs:Nat):Int):Rat):=rfl;rcases Int.natAbs_eq L.num with h1|h1
 ·rw [e2,←h1,←e1];exact h
 ·have e3:(((L.num.natAbs:Nat):Int):Rat)=-L:=by
   have:((L.num.natAbs:Nat):Int)=-L.num:=by omega
   rw [this,Rat.intCast_neg,←e1]
  rw [e2,e3,Rat.mul_neg];exact h.neg
theorem jt{U E:Nat}{q:List Rat}(hq:FrL U E q):Wz U (aS q*(E:Rat)):=hq.at _
def ldD(q:List Rat)(E:Nat):Nat:=(aS q*(E:Rat)).num.natAbs
theorem qe{U E:Nat}{q:List Rat}(hq:FrL U E q):ldD q E<W32 ^ U:=(jt hq).2
theorem lU{U E:Nat}{q:List Rat}(hq:FrL U E q)(h0:aS q≠0)(hE:0<E):0<ldD q E:=by
 rcases Nat.eq_zero_or_pos (ldD q E) with h|h
 ·exfalso;have h1:(aS q*(E:Rat)).num=0:=by unfold ldD at h;omega
  have h2:=(jt hq).1.eq;rw [h1] at h2;rcases Rat.mul_eq_zero.1 h2 with h3|h3
  ·exact h0 h3
  ·have:((E:Nat):Rat)=(((E:Nat):Int):Rat):=rfl;rw [this] at h3;have h4:=congrArg Rat.num h3;rw [Rat.num_intCast] at h4;have:((0:Rat)).num=0:=rfl;omega
 ·exact h
theorem pA{S U D E:Nat}{p q:List Rat}(hp:FrL S D p)(hq:FrL U E q)(h0:aS q≠0):FrL (S+U+1) (D*ldD q E) (dE p q):=by
 unfold dE;refine FrL.tz (FrL.range fun i _=>?_);refine yM (jt hq) ?_;have h1:Wz (S+U) (p.getD i 0*(D:Rat)*(aS q*(E:Rat))):=Wz.mul (hp.at i) (jt hq);have h2:Wz (S+U) (aS p*(D:Rat)*(q.getD (i-(p.length-q.length)) 0*(E:Rat))):=Wz.mul (hp.at _) (hq.at _);have h3:=dF (a:=aS p) h0;split
 ·have e:(p.getD i 0-aS p / aS q*q.getD (i-(p.length-q.length)) 0)*(D:Rat)*(aS q*(E:Rat))=p.getD i 0*(D:Rat)*(aS q*(E:Rat))-aS p*(D:Rat)*(q.getD (i-(p.length-q.length)) 0*(E:Rat)):=by
   generalize aS p / aS q=c at *
   rw [←h3];grind
  rw [e];exact h1.sub h2
 ·have e:(p.getD i 0-0)*(D:Rat)*(aS q*(E:Rat))=p.getD i 0*(D:Rat)*(aS q*(E:Rat)):=by grind
  rw [e];exact h1.mono (by omega)
theorem tj{S D:Nat}{p:List Rat}(hp:FrL S D p):FrL S (ldD (tz p) D) (bu p):=by
 unfold bu;split
 ·intro x hx;simp at hx
 ·next h =>
  refine FrL.tz fun x hx=>?_
  obtain ⟨y,hy,rfl⟩:=List.mem_map.1 hx;have h1:=yM (S:=S) (D:=1) (x:=y*(((1:Int):Rat) / aS (tz p))) (jt hp.tz) (by
   have h2:=dF (a:=((1:Int):Rat)) (bY h);have e:y*(((1:Int):Rat) / aS (tz p))*((1:Nat):Rat)*(aS (tz p)*(D:Rat))=y*(D:Rat):=by
    have h3:((1:Int):Rat)=1:=rfl;have h4:((1:Nat):Rat)=1:=rfl;rw [h4];rw [h3] at h2 ⊢;generalize 1 / aS (tz p)=c at *
    grind
   rw [e];exact hp.tz y hy)
  rwa [Nat.one_mul] at h1
theorem Ds(p:List Rat)(u:Nat→Rat):ap (tz p) u=ap p u:=by rw [fT,fT,bq]
theorem dh(p q:List Rat):seq (aD p q)=ap p (seq q):=by rw [wH,Ds,bq]
def FrB(S:Nat)(l:List Rat):Prop:=1≤S∧∃ D,0<D∧D<W32 ^ S∧FrL S D l
theorem lk{S U:Nat}(h:S≤U):W32 ^ S≤W32 ^ U:=Nat.pow_le_pow_right aA h
theorem FrB.mono{S U:Nat}{l:List Rat}(h:FrB S l)(hS:S≤U):FrB U l:=by
 obtain ⟨h0,D,h1,h2,h3⟩:=h;exact ⟨by omega,D,h1,Nat.lt_of_lt_of_le h2 (lk hS),h3.mono hS⟩
theorem FrB.sz{S:Nat}{l:List Rat}(h:FrB S l):SzL S l:=by
 obtain ⟨h0,D,h1,h2,h3⟩:=h;exact h3.sz h0 h1 h2
theorem pP{S U D E:Nat}(hD:D<W32 ^ S)(hE:E<W32 ^ U)(h:0<E):D*E<W32 ^ (S+U):=by
 rw [Nat.pow_add];exact Nat.mul_lt_mul_of_lt_of_lt hD hE
theorem FrB.mul{S U:Nat}{p q:List Rat}(hp:FrB S p)(hq:FrB U q)(hl:p.length≤1000000):FrB (S+U+1) (aD p q):=by
 obtain ⟨h0,D,h1,h2,h3⟩:=hp;obtain ⟨k0,E,k1,k2,k3⟩:=hq;exact ⟨by omega,D*E,Nat.mul_pos h1 k1,Nat.lt_of_lt_of_le (pP h2 k2 k1) (lk (by omega)),z8 h3 k3 (Nat.le_trans hl (by decide))⟩
theorem FrB.add{S U:Nat}{p q:List Rat}(hp:FrB S p)(hq:FrB U q):FrB (S+U+1) (cG p q):=by
 obtain ⟨h0,D,h1,h2,h3⟩:=hp;obtain ⟨k0,E,k1,k2,k3⟩:=hq;refine ⟨by omega,D*E,Nat.mul_pos h1 k1,Nat.lt_of_lt_of_le (pP h2 k2 k1) (lk (by omega)),AW (h3.den k2) ?_⟩;have:=k3.denl h2
 rwa [Nat.add_comm U S] at this
theorem FrB.of{k n:Nat}{p:List Rat}(h:SzL k p)(hl:p.length≤n):FrB (k*(n+1)+1) p:=by
 obtain ⟨D,h1,h2,h3⟩:=yL p h;have e:=Nat.mul_le_mul_left k (show p.length+1≤n+1 by omega);have e2:=Nat.mul_le_mul_left k (show p.length≤n+1 by omega);exact ⟨by omega,D,h1,Nat.lt_of_lt_of_le h2 (lk (by omega)),FrL.mono h3 (by omega)⟩
theorem FrB.nil:FrB 1 []:=⟨by decide,1,by decide,by decide,fun x hx=>by simp at hx⟩
end Go.Proofs.YtofhkmcllihgmaaGreat
/- Ev, Pd7 -/
set_option linter.unusedVariables false
namespace Go.Proofs.YtofhkmcllihgmaaGreat
open Go.RowKit Go.Front Go.Num Stab
def evV(p:List Rat)(x:Rat):Rat:=p.foldr (fun c y=>y*x+c) 0
theorem gO(c:Rat)(p:List Rat)(x:Rat):evV (c :: p) x=evV p x*x+c:=rfl
theorem xx(p:List Rat)(x:Rat):evV p x=sm p.length (fun i=>p.getD i 0*x ^ i):=by
 induction p with
 | nil=>rfl
 | cons c p ih =>
  rw [gO,ih,List.length_cons,dO,Rat.mul_comm,←gx];rw [sm_congr (f:=fun i=>(c :: p).getD (i+1) 0*x ^ (i+1)) (g:=fun i=>x*(p.getD i 0*x ^ i)) (fun i _=>by rw [List.getD_cons_succ,Rat.pow_succ];grind)];rw [List.getD_cons_zero,Rat.pow_zero];grind
theorem ni{p:List Rat}{N:Nat}(h:p.length≤N)(x:Rat):evV p x=sm N (fun i=>seq p i*x ^ i):=by
 rw [xx];exact sB h (fun i h1 h2=>by rw [bs h1];grind)
theorem kj{p q:List Rat}{c:Rat}(h:∀ i,seq p i=c*seq q i)(x:Rat):evV p x=c*evV q x:=by
 rw [ni (Nat.le_max_left p.length q.length),ni (Nat.le_max_right p.length q.length),←gx];exact sm_congr (fun i _=>by rw [h];grind)
theorem BW(p:List Rat)(x:Rat):evV (tz p) x=evV p x:=by
 rw [kj (p:=tz p) (q:=p) (c:=1) (fun i=>by rw [bq];grind) x];grind
theorem uq{p:List Rat}{i:Nat}(h:i<p.length):p.drop i=p.getD i 0 :: p.drop (i+1):=by
 rw [List.drop_eq_getElem_cons h,List.getD_eq_getElem?_getD,List.getElem?_eq_getElem h];rfl
theorem Aw{p:List Rat}{i:Nat}(h:i<p.length)(x:Rat):evV (p.drop i) x=evV (p.drop (i+1)) x*x+p.getD i 0:=by rw [uq h,gO]
theorem Fr.up{S U D E:Nat}{a:Rat}(ha:Fr S D a)(hE:E≤W32 ^ U)(h0:0<E):Fr (S+U) (D*E) a:=by
 have e:a*((D*E:Nat):Rat)=a*(D:Rat)*(((E:Nat):Int):Rat):=by rw [Rat.natCast_mul];show _=a*(D:Rat)*(E:Rat);grind
 have h1:Wz S (a*(D:Rat)):=ha;unfold Fr;rw [e];refine ⟨h1.1.mul (Wh.int _),?_⟩;rw [h1.1.eq,←Rat.intCast_mul,Rat.num_intCast,Int.natAbs_mul,Int.natAbs_natCast,Nat.pow_add];exact Nat.mul_lt_mul_of_lt_of_le h1.2 hE (Nat.pow_pos aA)
end Go.Proofs.YtofhkmcllihgmaaGreat
/- Sturm's theorem over the rationals: on a fine enough grid the changes of sign in a chain fall by one where the first member changes its sign. Plain facts. -/
set_option linter.unusedVariables false
namespace Go.Proofs.YtofhkmcllihgmaaGreat.Sg
def sg(q:Rat):Int:=if q<0 then -1 else if q=0 then 0 else 1
theorem dD{q:Rat}(h:q<0):sg q=-1:=if_pos h
theorem iH:sg 0=0:=by decide
theorem sg_pos{q:Rat}(h:0<q):sg q=1:=by unfold sg;rw [if_neg (by grind),if_neg (by grind)]
theorem tri(a b:Rat):a<b∨a=b∨b<a:=by grind
theorem tot(a b:Rat):a≤b∨b≤a:=by grind
theorem eC(q:Rat):(q<0∧sg q=-1)∨(q=0∧sg q=0)∨(0<q∧sg q=1):=by
 rcases tri q 0 with h|h|h
 ·exact Or.inl ⟨h,dD h⟩
 ·subst h;exact Or.inr (Or.inl ⟨rfl,iH⟩)
 ·exact Or.inr (Or.inr ⟨h,sg_pos h⟩)
theorem pz{q:Rat}:sg q=0↔q=0:=by rcases eC q with ⟨h,e⟩|⟨h,e⟩|⟨h,e⟩ <;> rw [e] <;> constructor <;> intro k <;> first|omega|grind
def vr:Int→List Int→Nat
 | _,[]=>0
 | last,s :: l=>if s=0 then vr last l else (if last≠0∧s≠last then 1 else 0)+vr s l
def IsS(x:Int):Prop:=x=-1∨x=0∨x=1
theorem ri(q:Rat):IsS (sg q):=by rcases eC q with ⟨h,e⟩|⟨h,e⟩|⟨h,e⟩ <;> rw [e] <;> unfold IsS <;> omega
inductive Rl:Int→List Int→List Int→Prop
 | nil (p:Int):Rl p [] []
 | big {p x:Int} {a b:List Int} (hx:x≠0) (h:Rl x a b):Rl p (x :: a) (x :: b)
 | small {p x y z:Int} {a b:List Int} (hp:p≠0) (hz:z=-p) (ip:IsS p) (ix:IsS x) (iy:IsS y) (h:Rl z a b):Rl p (x :: z :: a) (y :: z :: b)
theorem o0{p x z:Int}{a:List Int}(hp:p≠0)(hz:z=-p)(ip:IsS p)(ix:IsS x):vr p (x :: z :: a)=1+vr z a:=by
 have hz0:z≠0:=by omega
 have hzp:z≠p:=by omega
 by_cases h0:x=0
 ·subst h0;simp [vr,hz0,hp,hzp]
 ·by_cases h1:x=p
  ·subst h1;simp [vr,h0,hz0,hzp]
  ·have h2:x=z:=by unfold IsS at ip ix;omega
   subst h2;simp [vr,h0,hp,h1]
theorem Rl.vr{p:Int}{a b:List Int}(h:Rl p a b):vr p a=vr p b:=by
 induction h with
 | nil p=>rfl
 | big hx h ih=>simp [Sg.vr,hx,ih]
 | small hp hz ip ix iy h ih=>rw [o0 hp hz ip ix,o0 hp hz ip iy,ih]
def Bd(M x:Rat):Prop:=-M≤x∧x≤M
theorem Bd.mono{M N x:Rat}(h:Bd M x)(k:M≤N):Bd N x:=by have h1:=h.1;have h2:=h.2;exact ⟨by grind,by grind⟩
theorem Bd.add{M N x y:Rat}(h:Bd M x)(k:Bd N y):Bd (M+N) (x+y):=by have h1:=h.1;have h2:=h.2;have h3:=k.1;have h4:=k.2;exact ⟨by grind,by grind⟩
theorem Bd.sub{M N x y:Rat}(h:Bd M x)(k:Bd N y):Bd (M+N) (x-y):=by have h1:=h.1;have h2:=h.2;have h3:=k.1;have h4:=k.2;exact ⟨by grind,by grind⟩
theorem Bd.neg{M x:Rat}(h:Bd M x):Bd M (-x):=by have h1:=h.1;have h2:=h.2;exact ⟨by grind,by grind⟩
theorem Bd.mul{M N x y:Rat}(h:Bd M x)(k:Bd N y):Bd (M*N) (x*y):=by
 have h1:=h.1;have h2:=h.2;have h3:=k.1;have h4:=k.2;have e1:=Rat.mul_nonneg (a:=M-x) (b:=N+y) (by grind) (by grind);have e2:=Rat.mul_nonneg (a:=M+x) (b:=N-y) (by grind) (by grind);have e3:=Rat.mul_nonneg (a:=M-x) (b:=N-y) (by grind) (by grind);have e4:=Rat.mul_nonneg (a:=M+x) (b:=N+y) (by grind) (by grind);exact ⟨by grind,by grind⟩
theorem Bd.self{x:Rat}(h:0≤x):Bd x x:=⟨by grind,by grind⟩
theorem Bd.ex(x:Rat):∃ M,0≤M∧Bd M x:=by
 rcases tot 0 x with h|h
 ·exact ⟨x,h,by grind,by grind⟩
 ·exact ⟨-x,by grind,by grind,by grind⟩
theorem fr{A B x:Rat}:∃ R,0≤R∧∀ x,A≤x→x≤B→Bd R x:=by
 obtain ⟨M,h1,h2⟩:=Bd.ex A;obtain ⟨N,h3,h4⟩:=Bd.ex B;refine ⟨M+N,by grind,fun x hA hB=>?_⟩;have h5:=h2.1;have h6:=h2.2;have h7:=h4.1;have h8:=h4.2;exact ⟨by grind,by grind⟩
theorem wG{a b:Rat}(h:0≤a)(k:0≤b):0≤a*b:=Rat.mul_nonneg h k
theorem yy{a b:Rat}(h:0<a)(k:0<b):0<a*b:=Rat.mul_pos h k
theorem vA{a b:Rat}(h:0<a)(k:0<b):0<a / b:=by rw [Rat.div_def];exact Rat.mul_pos h (Rat.inv_pos.2 k)
theorem div_cancel{a b:Rat}(k:b≠0):a / b*b=a:=by rw [Rat.div_def,Rat.mul_assoc,Rat.inv_mul_cancel _ k,Rat.mul_one]
theorem mul_le{a b c:Rat}(h:a≤b)(k:0≤c):a*c≤b*c:=Rat.mul_le_mul_of_nonneg_right h k
theorem eo{a b c:Rat}(h:a≤b)(k:0≤c):c*a≤c*b:=Rat.mul_le_mul_of_nonneg_left h k
theorem io{a b c:Rat}(h:a<b)(k:0<c):a*c<b*c:=by
 have:=Rat.mul_pos (show 0<b-a by grind) k;grind
theorem thr{c m x:Rat}(hc:0<c)(hm:0<m)(h:m*3≤c*x*4):m / (2*c)≤x:=by
 apply Classical.byContradiction;intro hn;have h1:=io (show x<m / (2*c) by grind) hc;have h2:m / (2*c)*(2*c)=m:=div_cancel (by grind);grind
def Lip(A B K:Rat)(f:Rat→Rat):Prop:=∀ s t,A≤s→s≤t→t≤B→Bd (K*(t-s)) (f t-f s)
theorem Lip.mono{A B K L:Rat}{f:Rat→Rat}(h:Lip A B K f)(k:K≤L):Lip A B L f:=fun s t h1 h2 h3=>(h s t h1 h2 h3).mono (mul_le k (by grind))
def On(A B M:Rat)(f:Rat→Rat):Prop:=∀ x,A≤x→x≤B→Bd M (f x)
def Big(r x:Rat):Prop:=r≤x∨x≤-r
theorem lL{r x:Rat}(h:¬ Big r x):-r<x∧x<r:=by
 unfold Big at h;exact ⟨by grind,by grind⟩
theorem Big.sign{A B K r s t:Rat}{f:Rat→Rat}(hf:Lip A B K f)(hb:Big r (f s))(h1:A≤s)(h2:s≤t)(h3:t≤B)(h4:K*(t-s)<r):sg (f t)=sg (f s)∧sg (f s)≠0:=by
 obtain ⟨e1,e2⟩:=hf s t h1 h2 h3;have hr:0<r:=by grind
 rcases hb with h|h
 ·rw [sg_pos (show 0<f s by grind),sg_pos (show 0<f t by grind)];exact ⟨rfl,by decide⟩
 ·rw [dD (show f s<0 by grind),dD (show f t<0 by grind)];exact ⟨rfl,by decide⟩
def Row(A B:Rat)(f g h:Rat→Rat):Prop:=∃ c d Q:Rat,0<c∧0<d∧0≤Q∧∃ q:Rat→Rat,On A B Q q∧∀ x,c*f x+d*h x=q x*g x
def Ch(A B:Rat):(Rat→Rat)→List (Rat→Rat)→Prop
 | f,[]=>∃ r,0<r∧∀ x,A≤x→x≤B→Big r (f x)
 | f,[g]=>Ch A B g []
 | f,g :: h :: l=>Row A B f g h∧Ch A B g (h :: l)
def sgs(l:List (Rat→Rat))(x:Rat):List Int:=l.map (fun f=>sg (f x))
def Ea(f:Rat→Rat)(l:List (Rat→Rat))(b r s t:Rat):Prop :=
 (Big r (f s)→sg (f s)≠0∧sg (f t)=sg (f s)∧Rl (sg (f s)) (sgs l s) (sgs l t)) ∧
 (¬ Big r (f s)→∃ g l',l=g :: l'∧Big b (g s)∧sg (g s)≠0∧sg (g t)=sg (g s)∧Rl (sg (g s)) (sgs l' s) (sgs l' t))
def St(A B:Rat)(f:Rat→Rat)(l:List (Rat→Rat)):Prop :=
 ∃ b,0<b∧∃ r0,0<r0∧∀ r,0<r→r≤r0→∃ e,0<e∧∀ s t,A≤s→s≤t→t≤B→t-s≤e→Ea f l b r s t
theorem iG{K r:Rat}(hK:0≤K)(hr:0<r):∃ e,0<e∧∀ d,d≤e→K*d<r:=by
 refine ⟨r / (K+1),vA hr (by grind),fun d hd=>?_⟩;have h1:=eo hd hK;have h2:r / (K+1)*(K+1)=r:=div_cancel (by grind);have h3:=vA hr (show 0<K+1 by grind);grind
theorem pU{a b:Rat}(ha:0<a)(hb:0<b):∃ c,0<c∧c≤a∧c≤b:=by
 rcases tot a b with h|h
 ·exact ⟨a,ha,Rat.le_refl,h⟩
 ·exact ⟨b,hb,h,Rat.le_refl⟩
theorem sI{A B b r s c d Q:Rat}{f g h q:Rat→Rat}(hc:0<c)(hd:0<d)(hQ:0≤Q)(hq:On A B Q q)(he:∀ x,c*f x+d*h x=q x*g x)(h1:A≤s)(h2:s≤B)(hg:¬ Big r (g s))(hr:Q*r*4≤d*b)(hb0:0<b)(hb:Big b (h s)) :
  (f s<0∧0<h s∧d*b*3≤-(c*f s)*4)∨(0<f s∧h s<0∧d*b*3≤c*f s*4):=by
 obtain ⟨g1,g2⟩:=lL hg;obtain ⟨k1,k2⟩:=(hq s h1 h2).mul (show Bd r (g s) from ⟨by grind,by grind⟩);have e:=he s;have hdb:=yy hd hb0;rcases hb with h3|h3
 ·left
  have h4:=eo h3 (Rat.le_of_lt hd);have h5:c*f s<0:=by grind
  refine ⟨?_,by grind,by grind⟩;rcases tri (f s) 0 with h6|h6|h6
  ·exact h6
  ·rw [h6] at h5;grind
  ·have:=yy hc h6;grind
 ·right
  have h4:=eo (show b≤-h s by grind) (Rat.le_of_lt hd);have h5:0<c*f s:=by grind
  refine ⟨?_,by grind,by grind⟩;rcases tri (f s) 0 with h6|h6|h6
  ·have:=yy hc (show 0 < -f s by grind);grind
  ·rw [h6] at h5;grind
  ·exact h6
theorem Dm{A B:Rat}:∀ (l:List (Rat→Rat)) (f:Rat→Rat),Ch A B f l→(∃ K,0≤K∧Lip A B K f)→(∀ g ∈ l,∃ K,0≤K∧Lip A B K g)→St A B f l:=by
 intro l;induction l with
 | nil =>
  intro f ⟨d,hd,hb⟩ ⟨K,hK,hL⟩ _;refine ⟨1,by decide,d,hd,fun r hr hrd=>?_⟩;obtain ⟨e,he,h⟩:=iG hK hr;refine ⟨e,he,fun s t h1 h2 h3 h4=>⟨fun h5=>?_,fun h5=>?_⟩⟩
  ·obtain ⟨g1,g2⟩:=h5.sign hL h1 h2 h3 (h _ h4);exact ⟨g2,g1,Rl.nil _⟩
  ·refine absurd ?_ h5;rcases hb s h1 (by grind) with h6|h6
   ·exact Or.inl (by grind)
   ·exact Or.inr (by grind)
 | cons g l ih =>
  intro f hc ⟨K,hK,hL⟩ hl;have hg:Ch A B g l:=by
   cases l with
   | nil=>exact hc
   | cons h l=>exact hc.2
  obtain ⟨b,hb,r0,hr0,hst⟩:=ih g hg (hl g List.mem_cons_self) (fun x hx=>hl x (List.mem_cons_of_mem _ hx))
  -- the threshold of g and that of f
  obtain ⟨rg,hrg,hrg0,rf,hrf,hsm⟩:∃ rg,0<rg∧rg≤r0∧∃ rf,0<rf∧∀ s,A≤s→s≤B→∀ h l',l=h :: l'→¬ Big rg (g s)→Big b (h s)→sg (h s)=-sg (f s)∧sg (f s)≠0∧Big rf (f s):=by
   cases l with
   | nil=>exact ⟨r0,hr0,Rat.le_refl,1,by decide,fun s _ _ h l' e=>by cases e⟩
   | cons h l =>
    obtain ⟨⟨c,d,Q,hc,hd,hQ,q,hq,he⟩,-⟩:=hc;obtain ⟨e,he0,hee⟩:=iG (K:=Q*4) (r:=d*b) (by grind) (yy hd hb);obtain ⟨rg,h1,h2,h3⟩:=pU hr0 he0;have hp:=vA (yy hd hb) (show 0<2*c by grind);refine ⟨rg,h1,h2,d*b / (2*c),hp,fun s k1 k2 h' l' e k3 k4=>?_⟩;cases e;have hr4:=hee rg h3;rcases sI hc hd hQ hq he k1 k2 k3 (by grind) hb k4 with ⟨m1,m2,m3⟩|⟨m1,m2,m3⟩
    ·rw [sg_pos m2,dD m1];refine ⟨rfl,by decide,Or.inr ?_⟩;have:=thr (x:=-f s) hc (yy hd hb) (by grind);grind
    ·rw [dD m2,sg_pos m1];exact ⟨rfl,by decide,Or.inl (thr hc (yy hd hb) m3)⟩
  obtain ⟨eg,heg,hcell⟩:=hst rg hrg hrg0;refine ⟨rg,hrg,rf,hrf,fun r hr hrf'=>?_⟩;obtain ⟨ef,hef,hstep⟩:=iG hK hr;obtain ⟨e,he,he1,he2⟩:=pU heg hef;refine ⟨e,he,fun s t h1 h2 h3 h4=>?_⟩;have hg:=hcell s t h1 h2 h3 (by grind);refine ⟨fun h5=>?_,fun h5=>?_⟩
  ·obtain ⟨g1,g2⟩:=h5.sign hL h1 h2 h3 (hstep _ (by grind));refine ⟨g2,g1,?_⟩;by_cases hb':Big rg (g s)
   ·obtain ⟨k1,k2,k3⟩:=hg.1 hb';show Rl _ (sg (g s) :: sgs l s) (sg (g t) :: sgs l t);rw [k2];exact Rl.big k1 k3
   ·obtain ⟨h,l',rfl,k1,k2,k3,k4⟩:=hg.2 hb';obtain ⟨m1,m2,m3⟩:=hsm s h1 (by grind) h l' rfl hb' k1;show Rl _ (sg (g s) :: sg (h s) :: sgs l' s) (sg (g t) :: sg (h t) :: sgs l' t);rw [k3];exact Rl.small g2 m1 (ri _) (ri _) (ri _) k4
  ·refine ⟨g,l,rfl,?_⟩;by_cases hb':Big rg (g s)
   ·obtain ⟨k1,k2,k3⟩:=hg.1 hb';exact ⟨hb',k1,k2,k3⟩
   ·obtain ⟨h,l',rfl,k1,k2,k3,k4⟩:=hg.2 hb';obtain ⟨m1,m2,m3⟩:=hsm s h1 (by grind) h l' rfl hb' k1;refine absurd ?_ h5;rcases m3 with m|m
    ·exact Or.inl (by grind)
    ·exact Or.inr (by grind)
def V(f:Rat→Rat)(l:List (Rat→Rat))(x:Rat):Nat:=vr 0 (sgs (f :: l) x)
theorem fU{x:Int}{a:List Int}(h:x≠0):vr 0 (x :: a)=vr x a:=by simp [vr,h]
theorem o6{a:List Int}:vr 0 (0 :: a)=vr 0 a:=by simp [vr]
def CC(A B:Rat)(f g:Rat→Rat):Prop:=∃ k K,0<k∧0≤K∧∀ s t,A≤s→s≤t→t≤B→Bd (K*(t-s)*(t-s)) (f t-f s-k*g s*(t-s))
def uG(f:Rat→Rat)(s t:Rat):Nat:=if sg (f s)≠0∧sg (f t)≠sg (f s) then 1 else 0
theorem qT{A B:Rat}{f:Rat→Rat}{l:List (Rat→Rat)}(hc:Ch A B f l)(hf:∃ K,0≤K∧Lip A B K f)(hl:∀ g ∈ l,∃ K,0≤K∧Lip A B K g)(hs:∀ g l',l=g :: l'→CC A B f g) :
  ∃ e,0<e∧∀ s t,A≤s→s<t→t≤B→t-s≤e→V f l s=V f l t+uG f s t∧(f s=0→f t≠0):=by
 obtain ⟨b,hb,r0,hr0,hst⟩:=Dm l f hc hf hl;obtain ⟨e1,he1,hcell⟩:=hst r0 hr0 Rat.le_refl;obtain ⟨e2,he2,hsl⟩:∃ e2,0<e2∧∀ g l',l=g :: l'→∀ s t,A≤s→s<t→t≤B→t-s≤e2→(b≤g s→f s<f t)∧(g s≤-b→f t<f s):=by
  cases l with
  | nil=>exact ⟨1,by decide,fun g l' e=>by cases e⟩
  | cons g l =>
   obtain ⟨k,K,hk,hK,h⟩:=hs g l rfl;obtain ⟨e,he,h2⟩:=iG hK (yy hk hb);refine ⟨e,he,fun g' l' ee s t h3 h4 h5 h6=>?_⟩;cases ee;obtain ⟨m1,m2⟩:=h s t h3 (by grind) h5;have h7:=io (h2 _ h6) (show 0<t-s by grind);refine ⟨fun h8=>?_,fun h8=>?_⟩
   ·have h9:=mul_le (eo h8 (Rat.le_of_lt hk)) (show 0≤t-s by grind);grind
   ·have h9:=mul_le (eo h8 (Rat.le_of_lt hk)) (show 0≤t-s by grind);grind
 obtain ⟨e,he,hm1,hm2⟩:=pU he1 he2;refine ⟨e,he,fun s t h1 h2 h3 h4=>?_⟩;obtain ⟨c1,c2⟩:=hcell s t h1 (by grind) h3 (by grind);by_cases h5:Big r0 (f s)
 ·obtain ⟨k1,k2,k3⟩:=c1 h5;refine ⟨?_,fun h=>absurd (pz.2 h) k1⟩;unfold V uG;show vr 0 (sg (f s) :: sgs l s)=vr 0 (sg (f t) :: sgs l t)+_;rw [k2,fU k1,fU k1,k3.vr,if_neg (by simp)];rfl
 ·obtain ⟨g,l',rfl,k1,k2,k3,k4⟩:=c2 h5;obtain ⟨s1,s2⟩:=hsl g l' rfl s t h1 h2 h3 (by grind);have e0:V f (g :: l') s=(if sg (f s)≠0∧sg (g s)≠sg (f s) then 1 else 0)+vr (sg (g s)) (sgs l' s):=by
   show vr 0 (sg (f s) :: sg (g s) :: sgs l' s)=_;by_cases h0:sg (f s)=0
   ·rw [h0,o6,fU k2];simp
   ·rw [fU h0];simp [vr,k2,h0]
  have e1:V f (g :: l') t=(if sg (f t)≠0∧sg (g s)≠sg (f t) then 1 else 0)+vr (sg (g s)) (sgs l' s):=by
   show vr 0 (sg (f t) :: sg (g t) :: sgs l' t)=_;rw [k3,k4.vr];by_cases h0:sg (f t)=0
   ·rw [h0,o6,fU k2];simp
   ·rw [fU h0];simp [vr,k2,h0]
  rw [e0,e1];unfold uG;rcases k1 with k|k
  ·have hlt:=s1 k;rw [sg_pos (show 0<g s by grind)];clear hc hf hl hs hst hcell hsl c1 c2 k3 k4 s1 s2 e0 e1;rcases eC (f s) with ⟨a1,a2⟩|⟨a1,a2⟩|⟨a1,a2⟩ <;> rcases eC (f t) with ⟨b1,b2⟩|⟨b1,b2⟩|⟨b1,b2⟩ <;> rw [a2,b2] <;> first|(exfalso;grind)|(refine ⟨by simp <;> omega,?_⟩;grind)
  ·have hlt:=s2 k;rw [dD (show g s<0 by grind)];clear hc hf hl hs hst hcell hsl c1 c2 k3 k4 s1 s2 e0 e1;rcases eC (f s) with ⟨a1,a2⟩|⟨a1,a2⟩|⟨a1,a2⟩ <;> rcases eC (f t) with ⟨b1,b2⟩|⟨b1,b2⟩|⟨b1,b2⟩ <;> rw [a2,b2] <;> first|(exfalso;grind)|(refine ⟨by simp <;> omega,?_⟩;grind)
theorem qi{A B e:Rat}{P:Rat→Rat→Prop}(he:0<e)(h1:∀ s t,A≤s→s<t→t≤B→t-s≤e→P s t)(h2:∀ s t u,A≤s→s<t→t<u→u≤B→P s t→P t u→P s u):∀ s t,A≤s→s<t→t≤B→P s t:=by
  have key:∀ n:Nat,∀ s t,A≤s→s<t→t≤B→t-s≤(n:Rat)*e→P s t:=by
    intro n;induction n with
    | zero => intro s t a b c d; exfalso; have : ((0 : Nat) : Rat) * e = 0 := by rw [show ((0 : Nat) : Rat) = 0 from rfl]; grind
              grind
    | succ n ih =>
      intro s t a b c d;rcases tot (t-s) e with h|h
      · exact h1 s t a b c h
      · by_cases hq:t-s=e
        · exact h1 s t a b c (by grind)
        · have e1:((n+1:Nat):Rat)*e=(n:Rat)*e+e:=by rw [Rat.natCast_add,show ((1:Nat):Rat)=1 from rfl];grind
          exact h2 s (s+e) t a (by grind) (by grind) c (h1 s (s+e) a (by grind) (by grind) (by grind)) (ih (s+e) t (by grind) (by grind) c (by grind))
  intro s t a b c;have hx:0<(t-s) / e:=vA (by grind) he;obtain ⟨n,hn⟩:∃ n:Nat,(t-s) / e≤(n:Rat):=by
    have h3:=Rat.lt_floor_add_one ((t-s) / e);refine ⟨((t-s) / e).floor.toNat+1,?_⟩;have h4:(((t-s) / e).floor+1:Int)≤((((t-s) / e).floor.toNat+1:Nat):Int):=by omega
    have h5:=Rat.intCast_le_intCast.2 h4;rw [Rat.intCast_natCast] at h5;grind
  refine key n s t a b c ?_;have h8:=mul_le hn (Rat.le_of_lt he);rw [div_cancel (by grind)] at h8;exact h8
theorem Av(p:List Rat)(A B:Rat):∃ M,0≤M∧On A B M (evV p):=by
 obtain ⟨R,hR,hb⟩:=fr (A:=A) (B:=B) (x:=0);induction p with
 | nil=>exact ⟨0,Rat.le_refl,fun x _ _=>⟨by show -0≤(0:Rat);decide,by show (0:Rat)≤0;decide⟩⟩
 | cons c p ih =>
  obtain ⟨M,hM,h⟩:=ih;obtain ⟨N,hN,k⟩:=Bd.ex c;exact ⟨M*R+N,by have:=wG hM hR;grind,fun x h1 h2=>((h x h1 h2).mul (hb x h1 h2)).add k⟩
theorem qo(p:List Rat)(A B:Rat):∃ K,0≤K∧Lip A B K (evV p):=by
 obtain ⟨R,hR,hb⟩:=fr (A:=A) (B:=B) (x:=0);induction p with
 | nil=>exact ⟨0,Rat.le_refl,fun s t _ h _=>⟨by show -(0*(t-s))≤(0:Rat)-0;grind,by show (0:Rat)-0≤0*(t-s);grind⟩⟩
 | cons c p ih =>
  obtain ⟨K,hK,h⟩:=ih;obtain ⟨M,hM,k⟩:=Av p A B;refine ⟨K*R+M,by have:=wG hK hR;grind,fun s t h1 h2 h3=>?_⟩;have a:=(h s t h1 h2 h3).mul (hb t (by grind) h3);have b:=(k s h1 (by grind)).mul (Bd.self (show 0≤t-s by grind));have e:evV (c :: p) t-evV (c :: p) s=(evV p t-evV p s)*t+evV p s*(t-s):=by
   show evV p t*t+c-(evV p s*s+c)=_;grind
  rw [e,show (K*R+M)*(t-s)=K*(t-s)*R+M*(t-s) by grind];exact a.add b
def evD:List Rat→Rat→Rat
 | [],_=>0
 | _ :: p,x=>evD p x*x+evV p x
theorem BY(p:List Rat)(A B:Rat):∃ M,0≤M∧On A B M (evD p):=by
 obtain ⟨R,hR,hb⟩:=fr (A:=A) (B:=B) (x:=0);induction p with
 | nil=>exact ⟨0,Rat.le_refl,fun x _ _=>⟨by show -0≤(0:Rat);decide,by show (0:Rat)≤0;decide⟩⟩
 | cons c p ih =>
  obtain ⟨M,hM,h⟩:=ih;obtain ⟨N,hN,k⟩:=Av p A B;exact ⟨M*R+N,by have:=wG hM hR;grind,fun x h1 h2=>((h x h1 h2).mul (hb x h1 h2)).add (k x h1 h2)⟩
theorem qk(p:List Rat)(A B:Rat):∃ K,0≤K∧∀ s t,A≤s→s≤t→t≤B→Bd (K*(t-s)*(t-s)) (evV p t-evV p s-evD p s*(t-s)):=by
 obtain ⟨R,hR,hb⟩:=fr (A:=A) (B:=B) (x:=0);induction p with
 | nil=>exact ⟨0,Rat.le_refl,fun s t _ h _=>⟨by show -(0*(t-s)*(t-s))≤(0:Rat)-0-0*(t-s);grind,by show (0:Rat)-0-0*(t-s)≤0*(t-s)*(t-s);grind⟩⟩
 | cons c p ih =>
  obtain ⟨K,hK,h⟩:=ih;obtain ⟨M,hM,k⟩:=BY p A B;refine ⟨K*R+M,by have:=wG hK hR;grind,fun s t h1 h2 h3=>?_⟩;have a:=(h s t h1 h2 h3).mul (hb t (by grind) h3);have h0:0≤t-s:=by grind
  have b:=((k s h1 (by grind)).mul (Bd.self h0)).mul (Bd.self h0);have e:evV (c :: p) t-evV (c :: p) s-evD (c :: p) s*(t-s)=(evV p t-evV p s-evD p s*(t-s))*t+evD p s*(t-s)*(t-s):=by
   show evV p t*t+c-(evV p s*s+c)-(evD p s*s+evV p s)*(t-s)=_;grind
  rw [e,show (K*R+M)*(t-s)*(t-s)=K*(t-s)*(t-s)*R+M*(t-s)*(t-s) by grind];exact a.add b
structure Fit (A B:Rat) (f:Rat→Rat) (l:List (Rat→Rat)):Prop where
 ch:Ch A B f l
 lf:∃ K,0≤K∧Lip A B K f
 ll:∀ g ∈ l,∃ K,0≤K∧Lip A B K g
 sl:∀ g l',l=g :: l'→CC A B f g
theorem Fit.cell{A B:Rat}{f:Rat→Rat}{l:List (Rat→Rat)}(h:Fit A B f l):∃ e,0<e∧∀ s t,A≤s→s<t→t≤B→t-s≤e→V f l s=V f l t+uG f s t∧(f s=0→f t≠0):=qT h.ch h.lf h.ll h.sl
theorem Fit.calm{A B:Rat}{f:Rat→Rat}{l:List (Rat→Rat)}(h:Fit A B f l){x y:Rat}(hx:A≤x)(hxy:x<y)(hy:y≤B)(hs:∀ s t,x≤s→s<t→t≤y→f s≠0→sg (f t)=sg (f s)):V f l x=V f l y:=by
 obtain ⟨e,he,hc⟩:=h.cell;refine qi (A:=x) (B:=y) (P:=fun s t=>V f l s=V f l t) he (fun s t h1 h2 h3 h4=>?_) (fun s t u _ _ _ _ h1 h2=>h1.trans h2) x y Rat.le_refl hxy Rat.le_refl;rw [(hc s t (by grind) h2 (by grind) h4).1];unfold uG;rw [if_neg (fun h5=>h5.2 (hs s t h1 h2 h3 (fun h=>h5.1 (pz.2 h))))];rfl
end Go.Proofs.YtofhkmcllihgmaaGreat.Sg
