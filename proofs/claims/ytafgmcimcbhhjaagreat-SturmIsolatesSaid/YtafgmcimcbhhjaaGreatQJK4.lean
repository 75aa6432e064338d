import Derived.Test.YtafgmcimcbhhjaaGreatQJK3
set_option linter.unusedVariables false
namespace Go.Proofs.YtafgmcimcbhhjaaGreat.Sg
open Go.RowKit Go.Front Go.Num Go.Stab Go.Proofs.YtafgmcimcbhhjaaGreat
def Pd:List Rat→Rat→Rat
 | [],_=>1
 | a :: l,x=>(x-a)*Pd l x
def Qd:Option Rat→Rat→Rat
 | none,_=>1
 | some b,x=>x*x+b
def dg:Option Rat→Nat
 | none=>0
 | some _=>2
theorem Pf.pd(l:List Rat):Pf (Pd l):=by
 induction l with
 | nil=>exact Pf.const 1
 | cons a l ih=>exact (Pf.lin a).mul ih
theorem Pf.id:Pf (fun x=>x):=⟨[0,1],funext fun x=>by show x=(0*x+1)*x+0;grind⟩
theorem Pf.qd(b:Option Rat):Pf (Qd b):=by
 cases b with
 | none=>exact Pf.const 1
 | some b=>exact (Pf.id.mul Pf.id).add (Pf.const b)
theorem Bs(x:Rat):0≤x*x:=by
 rcases tot 0 x with h|h
 ·exact Rat.mul_nonneg h h
 ·have:=Rat.mul_nonneg (a:=-x) (b:=-x) (by grind) (by grind);grind
theorem yA{b:Option Rat}(hb:∀ c,b=some c→0<c)(x:Rat):0<Qd b x:=by
 cases b with
 | none=>show (0:Rat)<1;decide
 | some b =>
  have h1:=hb b rfl;have h2:=Bs x;show 0<x*x+b;grind
def Fac(p rl:List Rat)(b:Option Rat):Prop:=∃ c:Rat,c≠0∧∀ x,evV p x=c*(Pd rl x*Qd b x)
theorem Cn{p:List Rat}(h:(tz p).length≤2)(x:Rat):evV p x=seq p 1*x+seq p 0:=by
 rw [eC (p:=p) (q:=[seq p 0,seq p 1]) (c:=1) (fun i=>by
  rw [Rat.one_mul]
  match i with
  | 0=>rfl
  | 1=>rfl
  | i+2 =>
   rw [←aT];exact (bh zo).trans (bh (by simp)).symm) x]
 show 1*((0*x+seq p 1)*x+seq p 0)=_;grind
theorem xK{p:List Rat}(h:(tz p).length≤3)(x:Rat):evV p x=seq p 2*(x*x)+seq p 1*x+seq p 0:=by
 rw [eC (p:=p) (q:=[seq p 0,seq p 1,seq p 2]) (c:=1) (fun i=>by
  rw [Rat.one_mul]
  match i with
  | 0=>rfl
  | 1=>rfl
  | 2=>rfl
  | i+3 =>
   rw [←aT];exact (bh zo).trans (bh (by simp)).symm) x]
 show 1*(((0*x+seq p 2)*x+seq p 1)*x+seq p 0)=_;grind
theorem DW{b:Option Rat}(hb:∀ c,b=some c→0<c):∀ (rl d:List Rat) (k:Rat→Rat) (c:Rat),c≠0→Pf k→(∀ x,evV d x*k x=c*(Pd rl x*Qd b x))→∃ (rl':List Rat) (b':Option Rat),rl'.Sublist rl∧(b'=none∨b'=b)∧Fac d rl' b':=by
 intro rl;induction rl with
 | nil =>
  intro d k c hc hk he;have hone:(tz d).length≤1→Fac d [] none:=fun h=>by
   have h1:=fo h;refine ⟨seq d 0,fun h0=>?_,fun x=>by rw [h1 x];show _=_*(1*1);grind⟩;have h2:=he 0;rw [h1 0,h0,nYa] at h2;have h3:=yA hb 0;rcases nXr.1 h2.symm with h4|h4
   ·exact hc h4
   ·have h5:(1:Rat)*Qd b 0=0:=h4;grind
  cases b with
  | none =>
   have hd:Dv (evV d) (evV [c]):=⟨k,hk,fun x=>by rw [he x];show 0*x+c=c*(1*1);grind⟩;have hl:=gg hd (fun h=>hc (by have:=ax.1 h 0;rw [show evV [c] 0=c by show 0*0+c=c;grind] at this;exact this));have:=ah [c];simp only [List.length_cons,List.length_nil] at this;exact ⟨[],none,List.Sublist.refl _,Or.inl rfl,hone zo⟩
  | some e =>
   have hev:∀ x,evV [e*c,0,c] x=c*(x*x+e):=fun x=>by
    show ((0*x+c)*x+0)*x+e*c=_;grind
   have hb0:=hb e rfl;have hq:∀ x,Pd [] x*Qd (some e) x=x*x+e:=fun x=>by show 1*(x*x+e)=_;grind
   have hd:Dv (evV d) (evV [e*c,0,c]):=⟨k,hk,fun x=>by rw [he x,hev x,hq]⟩;have hl:=gg hd (fun h=>by
    have h1:=ax.1 h 0;rw [hev] at h1;rcases nXr.1 h1 with h2|h2
    ·exact hc h2
    ·grind)
   have hl2:=ah [e*c,0,c];simp only [List.length_cons,List.length_nil] at hl2;rcases Nat.lt_or_ge 1 (tz d).length with h1|h1
   ·have hdn:tz d≠[]:=fun h=>by rw [h] at h1;simp at h1
    obtain ⟨m,hm,h0⟩:=dN hdn;have hm2:m=1∨m=2:=by omega
    rcases hm2 with rfl|rfl
    ·exfalso;have h2:=Cn (p:=d) zo;have h3:=he (-(seq d 0) / seq d 1);have h4:evV d (-(seq d 0) / seq d 1)=0:=by
      rw [h2,nYc,aw h0];grind
     rw [h4,nYa,hq] at h3;rcases nXr.1 h3.symm with h5|h5
     ·exact hc h5
     ·have:=Bs (-(seq d 0) / seq d 1);grind
    ·have h2:=xK (p:=d) zo;have hr:∀ x,evV [e*c-c / seq d 2*seq d 0,-(c / seq d 2*seq d 1)] x=c*(x*x+e)-c / seq d 2*evV d x:=fun x=>by
      rw [h2 x];have h5:=aw (a:=c) h0;show (0*x+-(c / seq d 2*seq d 1))*x+(e*c-c / seq d 2*seq d 0)=_;have h6:c / seq d 2*(seq d 2*(x*x))=c*(x*x):=by rw [←nYd,h5]
      grind
     have hz:tz [e*c-c / seq d 2*seq d 0,-(c / seq d 2*seq d 1)]=[]:=Classical.byContradiction fun hn=>by
      have hd2:Dv (evV d) (evV [e*c-c / seq d 2*seq d 0,-(c / seq d 2*seq d 1)]):=⟨_,hk.sub (Pf.const (c / seq d 2)),fun x=>by
       rw [hr x];have h7:=he x;rw [hq] at h7;rw [←h7];grind⟩
      have h8:=gg hd2 hn;have h9:=ah [e*c-c / seq d 2*seq d 0,-(c / seq d 2*seq d 1)];simp only [List.length_cons,List.length_nil] at h9;omega
     refine ⟨[],some e,List.Sublist.refl _,Or.inr rfl,seq d 2,h0,fun x=>?_⟩;have h5:=ax.1 hz x;rw [hr x] at h5;have h6:=aw (a:=c) h0;rw [hq];have h7:c*(seq d 2*(x*x+e)-evV d x)=0:=by
      have h8:c*evV d x=seq d 2*(c / seq d 2*evV d x):=by
       rw [←nYd,nYc (seq d 2),h6]
      grind
     rcases nXr.1 h7 with h8|h8
     ·exact absurd h8 hc
     ·grind
   ·exact ⟨[],none,List.Sublist.refl _,Or.inl rfl,hone h1⟩
 | cons a rl ih =>
  intro d k c hc hk he;have hne:∃ x,(fun x=>x-a) x≠0:=⟨a+1,by show a+1-a≠0;grind⟩;by_cases hda:evV d a=0
  ·obtain ⟨g,⟨q,rfl⟩,h2⟩:=qS (Pf.ev d) hda;have h3:=ek (f:=fun x=>x-a) (g:=fun x=>evV q x*k x) (h:=fun x=>c*(Pd rl x*Qd b x)) (Pf.lin a) ((Pf.ev q).mul hk) (((Pf.pd rl).mul (Pf.qd b)).smul c) (fun x=>by
    have h4:=he x;rw [h2 x] at h4;have h5:(x-a)*evV q x*k x=c*((x-a)*Pd rl x*Qd b x):=h4;grind) hne
   obtain ⟨rl',b',h4,h5,c',hc',h6⟩:=ih q k c hc hk h3;exact ⟨a :: rl',b',h4.cons_cons a,h5,c',hc',fun x=>by rw [h2 x,h6 x];show _=c'*((x-a)*Pd rl' x*Qd b' x);grind⟩
  ·have hka:k a=0:=by
    have h4:=he a;have h5:evV d a*k a=c*((a-a)*Pd rl a*Qd b a):=h4;have h6:evV d a*k a=0:=by grind
    rcases nXr.1 h6 with h7|h7
    ·exact absurd h7 hda
    ·exact h7
   obtain ⟨k1,hk1,h2⟩:=qS hk hka;have h3:=ek (f:=fun x=>x-a) (g:=fun x=>evV d x*k1 x) (h:=fun x=>c*(Pd rl x*Qd b x)) (Pf.lin a) ((Pf.ev d).mul hk1) (((Pf.pd rl).mul (Pf.qd b)).smul c) (fun x=>by
    have h4:=he x;rw [h2 x] at h4;have h5:evV d x*((x-a)*k1 x)=c*((x-a)*Pd rl x*Qd b x):=h4;grind) hne
   obtain ⟨rl',b',h4,h5,h6⟩:=ih d k1 c hc hk1 h3;exact ⟨rl',b',h4.cons a,h5,h6⟩
theorem Fac.dv{p d rl:List Rat}{b:Option Rat}(h:Fac p rl b)(hb:∀ c,b=some c→0<c)(hd:Dv (evV d) (evV p)):∃ (rl':List Rat) (b':Option Rat),rl'.Sublist rl∧(b'=none∨b'=b)∧Fac d rl' b':=by
 obtain ⟨c,hc,h1⟩:=h;obtain ⟨k,hk,h2⟩:=hd;exact DW hb rl d k c hc hk (fun x=>by rw [←h2 x,h1 x])
theorem Fac.ne{p rl:List Rat}{b:Option Rat}(h:Fac p rl b)(hb:∀ c,b=some c→0<c):tz p≠[]:=fun h0=>by
 obtain ⟨c,hc,h1⟩:=h;have h2:=qz (f:=fun x=>c*Pd rl x) (g:=Qd b) ((Pf.pd rl).smul c) (Pf.qd b) (fun x=>by
  have h3:=h1 x;rw [ax.1 h0 x] at h3;grind)
 have h4:¬ ∃ x,c*Pd rl x≠0:=fun h5=>by
  have h6:=h2 h5 0;have:=yA hb 0;grind
 have h7:∀ l:List Rat,¬ ∀ x,Pd l x=0:=fun l=>by
  induction l with
  | nil=>intro h8;exact absurd (h8 0) (by show (1:Rat)≠0;decide)
  | cons a l ih =>
   intro h8;exact ih (qz (f:=fun x=>x-a) (Pf.lin a) (Pf.pd l) h8 ⟨a+1,by show a+1-a≠0;grind⟩)
 refine h7 rl fun x=>Classical.byContradiction fun h8=>h4 ⟨x,fun h9=>?_⟩
 rcases nXr.1 h9 with h10|h10
 ·exact hc h10
 ·exact h8 h10
def Tw(a:Rat):Prop:=∃ z:Int,a*12=(z:Rat)∧z.natAbs≤12
def Sx(b:Option Rat):Prop:=∀ c,b=some c→0<c∧∃ z:Int,c*16=(z:Rat)∧z.natAbs≤4
theorem Sx.pos{b:Option Rat}(h:Sx b):∀ c,b=some c→0<c:=fun c e=>(h c e).1
theorem yR{b:Option Rat}(hb:Sx b):∀ (rl d:List Rat) (c:Rat),(∀ a ∈ rl,Tw a)→(∀ x,evV d x=c*(Pd rl x*Qd b x)) →
  ∃ s:Nat→Rat,(∀ i,seq d i=c*s i)∧(∀ i,∃ z:Int,s i*((16*12 ^ rl.length:Nat):Rat)=(z:Rat)∧z.natAbs≤16*24 ^ rl.length)∧s (rl.length+dg b)=1∧∀ i,rl.length+dg b<i→s i=0:=by
 intro rl;induction rl with
 | nil =>
  intro d c _ he;cases b with
  | none =>
   have h1:=f9 (p:=d) (q:=[c]) (fun x=>by rw [he x];show c*(1*1)=0*x+c;grind);refine ⟨fun i=>if i=0 then 1 else 0,fun i=>?_,fun i=>?_,rfl,fun i hi=>if_neg (by simp [dg] at hi;omega)⟩
   ·rw [h1 i]
    match i with
    | 0=>show c=c*1;grind
    | i+1 =>
     show ([c].getD (i+1) 0:Rat)=c*0;rw [bh (by simp)];grind
   ·by_cases h:i=0
    ·exact ⟨16,by dsimp only;rw [if_pos h,Rat.one_mul];rfl,by simp⟩
    ·exact ⟨0,by dsimp only;rw [if_neg h,nYa];rfl,by simp⟩
  | some e =>
   obtain ⟨h0,z,hz,hz2⟩:=hb e rfl;have h1:=f9 (p:=d) (q:=[c*e,0,c]) (fun x=>by rw [he x];show c*(1*(x*x+e))=((0*x+c)*x+0)*x+c*e;grind);refine ⟨fun i=>if i=0 then e else if i=2 then 1 else 0,fun i=>?_,fun i=>?_,rfl,fun i hi=>by simp only [dg,List.length_nil] at hi;dsimp only;rw [if_neg zo,if_neg zo]⟩
   ·rw [h1 i]
    match i with
    | 0=>rfl
    | 1=>show (0:Rat)=c*0;grind
    | 2=>show c=c*1;grind
    | i+3 =>
     dsimp only
     rw [if_neg zo,if_neg zo];exact (bh (by simp)).trans (by grind)
   ·by_cases h:i=0
    ·exact ⟨z,by dsimp only;rw [if_pos h];exact hz,by simp only [List.length_nil,Nat.pow_zero];omega⟩
    ·by_cases h2:i=2
     ·exact ⟨16,by dsimp only;rw [if_neg h,if_pos h2,Rat.one_mul];rfl,by simp⟩
     ·exact ⟨0,by dsimp only;rw [if_neg h,if_neg h2,nYa];rfl,by simp⟩
 | cons a rl ih =>
  intro d c ha he;obtain ⟨q,hq⟩:=((Pf.pd rl).mul (Pf.qd b)).smul c;have hq2:∀ x,evV q x=c*(Pd rl x*Qd b x):=fun x=>by rw [←hq]
  obtain ⟨s,h1,h2,h3,h4⟩:=ih q c (fun y hy=>ha y (List.mem_cons_of_mem _ hy)) hq2;obtain ⟨y,hy,hy2⟩:=ha a (List.mem_cons_self ..);have h5:=pk (p:=d) (q:=q) (a:=a) (fun x=>by rw [he x,hq2 x];show c*((x-a)*Pd rl x*Qd b x)=_;grind);refine ⟨fun i=>sh s i-a*s i,fun i=>?_,fun i=>?_,?_,fun i hi=>?_⟩
  ·rw [h5 i,h1 i];cases i with
   | zero=>show (0:Rat)-_=c*(0-_);grind
   | succ i=>show seq q i-_=c*(s i-_);rw [h1 i];grind
  ·obtain ⟨z,hz,hz2⟩:=h2 i;obtain ⟨z1,hz1,hz3⟩:∃ z1:Int,sh s i*((16*12 ^ rl.length:Nat):Rat)=(z1:Rat)∧z1.natAbs≤16*24 ^ rl.length:=by
    cases i with
    | zero=>exact ⟨0,by show (0:Rat)*_=_;rw [nYa];rfl,by simp⟩
    | succ i=>exact h2 i
   refine ⟨12*z1-y*z,?_,?_⟩
   ·rw [Rat.intCast_sub,Rat.intCast_mul,Rat.intCast_mul,←hz,←hz1,←hy,List.length_cons,nXt,←Nat.mul_assoc,Rat.natCast_mul];have e1:((12:Int):Rat)=12:=rfl;have e2:((12:Nat):Rat)=12:=rfl;rw [e1,e2];generalize ((16*12 ^ rl.length:Nat):Rat)=D;grind
   ·have e1:(12*z1-y*z).natAbs≤12*z1.natAbs+y.natAbs*z.natAbs:=by
     have e2:=Int.natAbs_mul y z;have e3:=Int.natAbs_sub_le (12*z1) (y*z);have e4:(12*z1).natAbs=12*z1.natAbs:=by rw [Int.natAbs_mul];rfl
     omega
    have e2:y.natAbs*z.natAbs≤12*z.natAbs:=nXh _ hy2;rw [List.length_cons,nXt];omega
  ·show sh s ((rl.length+1)+dg b)-a*s ((rl.length+1)+dg b)=1;rw [show rl.length+1+dg b=(rl.length+dg b)+1 by omega,h4 _ (Nat.lt_succ_self _)];show s (rl.length+dg b)-a*0=1;rw [h3];grind
  ·simp only [List.length_cons] at hi;obtain ⟨j,rfl⟩:∃ j,i=j+1:=⟨i-1,zo⟩;show s j-a*s (j+1)=0;rw [h4 j zo,h4 (j+1) zo];grind
theorem Dh{n:Nat}(h:n≤9):3*(16*24 ^ n)<W32 ^ 2:=by
 have:=nXp (n:=24) dZ h;have e:3*(16*24 ^ 9)<W32 ^ 2:=by decide
 omega
theorem zQ{n:Nat}(h:n≤9):16*12 ^ n<W32 ^ 2:=by
 have:=nXp (n:=12) dZ h;have e:16*12 ^ 9<W32 ^ 2:=by decide
 omega
theorem yQ{rl d:List Rat}{b:Option Rat}(hb:Sx b)(ha:∀ a ∈ rl,Tw a)(hl:rl.length≤9){c:Int}(hc:c.natAbs≤3)(he:∀ x,evV d x=(c:Rat)*(Pd rl x*Qd b x)):∀ x ∈ d,Fr 2 (16*12 ^ rl.length) x:=by
 obtain ⟨s,h1,h2,-⟩:=yR hb rl d c ha he;intro x hx;obtain ⟨i,hi,rfl⟩:=cT hx;obtain ⟨z,hz,hz2⟩:=h2 i;have h3:=h1 i;unfold seq at h3;rw [h3];refine Fr.int (z:=c*z) ?_ (by rw [nYd,hz,Rat.intCast_mul]);have h4:=Dh hl;rw [Int.natAbs_mul];exact nYk (nXx hc hz2) h4
theorem pA{rl d:List Rat}{b:Option Rat}(hb:Sx b)(ha:∀ a ∈ rl,Tw a)(h:Fac d rl b):(tz d).length=rl.length+dg b+1∧∀ x,evV d x=aJ (tz d)*(Pd rl x*Qd b x):=by
 obtain ⟨c,hc,he⟩:=h;obtain ⟨s,h1,h2,h3,h4⟩:=yR hb rl d c ha he;have h5:=l7 (p:=d) (i:=rl.length+dg b) (by rw [h1,h3];grind);have hn:tz d≠[]:=fun h0=>by rw [h0] at h5;simp at h5
 obtain ⟨m,hm,h6⟩:=dN hn;have h7:¬ rl.length+dg b<m:=fun h8=>h6 (by rw [h1,h4 m h8];grind)
 have h8:m=rl.length+dg b:=by omega
 refine ⟨zo,fun x=>?_⟩;have h9:aJ (tz d)=c:=by
  unfold aJ;rw [hm,bp];have:=h1 m;unfold seq at this;rw [show m+1-1=m by omega,this,h8,h3];grind
 rw [h9,he x]
theorem qG{p:List Rat}(h:tz p≠[]):aJ (tz (bq p))=1:=by
 rw [dI,jH h];have h1:=bT h;unfold aJ at *
 rw [nXl];rw [nXd,nXv];have h2:=nYg.2 h;rw [List.getElem?_eq_getElem zo];rw [nXd,List.getElem?_eq_getElem zo] at h1 ⊢;show (tz p)[(tz p).length-1]*(((1:Int):Rat) / (tz p)[(tz p).length-1])=1;rw [nYc];exact aw h1
theorem BX{p q rl:List Rat}{b:Option Rat}(h:Fac p rl b)(hb:Sx b)(ha:∀ a ∈ rl,Tw a)(hl:rl.length≤9)(hd:Dv (evV (bq q)) (evV p)):(∃ n,n≤rl.length∧∀ x ∈ bq q,Fr 2 (16*12 ^ n) x)∧∃ rl' b',rl'.Sublist rl∧Sx b'∧Fac (bq q) rl' b':=by
 obtain ⟨rl',b',h1,h2,h3⟩:=h.dv hb.pos hd;have hb':Sx b':=by
  rcases h2 with rfl|rfl
  ·intro c e;cases e
  ·exact hb
 have ha':∀ a ∈ rl',Tw a:=fun a h=>ha a (h1.subset h)
 have hl':=h1.length_le;have h4:=h3.ne hb'.pos;have hq:tz q≠[]:=fun h0=>h4 (by unfold bq;rw [if_pos h0];rfl)
 have h5:=(pA hb' ha' h3).2;rw [qG hq] at h5;exact ⟨⟨_,hl',yQ hb' ha' zo (c:=1) dZ h5⟩,rl',b',h1,hb',h3⟩
theorem fE(a b:Rat):sg (a*b)=sg a*sg b:=by
 rcases bY a with ⟨h,e⟩|⟨h,e⟩|⟨h,e⟩ <;> rcases bY b with ⟨k,f⟩|⟨k,f⟩|⟨k,f⟩ <;> rw [e,f]
 ·have:=Rat.mul_pos (a:=-a) (b:=-b) (by grind) (by grind);rw [fD (by grind)];rfl
 ·rw [k,nYb,il];rfl
 ·have:=Rat.mul_pos (a:=-a) (b:=b) (by grind) k;rw [cZ (by grind)];rfl
 ·rw [h,nYa,il];rfl
 ·rw [h,nYa,il];rfl
 ·rw [h,nYa,il];rfl
 ·have:=Rat.mul_pos (a:=a) (b:=-b) h (by grind);rw [cZ (by grind)];rfl
 ·rw [k,nYb,il];rfl
 ·rw [fD (Rat.mul_pos h k)];rfl
def cn:List Rat→Rat→Rat→Nat
 | [],_,_=>0
 | d :: ds,lo,hi=>(if lo<d∧d≤hi then 1 else 0)+cn ds lo hi
def cc:List Rat→Rat→Rat→Nat
 | [],_,_=>0
 | d :: ds,lo,hi=>(if lo≤d∧d≤hi then 1 else 0)+cc ds lo hi
theorem nw{r:List Rat}{l:List (List Rat)}(e:remsV r=ar r :: l)(x:Rat):cw (remsV r) x=V (evV (ar r)) (l.map evV) x:=by
 unfold cw V sgs;rw [e];simp only [List.map_cons,List.map_map];rfl
theorem Fac.spl{p rl:List Rat}{b:Option Rat}(h:Fac p rl b)(h0:tz p≠[]):Fac (ar p) rl b:=by
 obtain ⟨c,hc,h1⟩:=h;have h2:=aZ h0;have h3:aK p≠0:=fun e=>by rw [e] at h2;exact absurd h2 Rat.lt_irrefl
 have h4:=nYj _ h3;refine ⟨(aK p)⁻¹*c,fun e=>?_,fun x=>?_⟩
 ·rcases nXr.1 e with h5|h5
  ·rw [h5,nYb] at h4;exact absurd h4 dZ
  ·exact hc h5
 ·have h5:=cj p x;rw [h1 x] at h5;rw [nYd,h5,←nYd,nYc _ (aK p),h4,Rat.one_mul]
theorem Rt.dvp{p r:List Rat}(h:Rt p r):Dv (evV r) (evV p):=by
 obtain ⟨g,q1,hg,-,-,h1,-⟩:=h.dv;exact ⟨g,hg,fun x=>by rw [h1 x];grind⟩
def eP:Nat→List Rat→Rat→Int
 | 0,_,_=>0
 | n+1,p,x=>if p=[] then 0 else if sg (evV p x)≠0 then sg (evV p x) else eP n (tz (derL p)) x
def zi(p:List Rat)(lo hi:Rat):Int:=(cw (remsV (rootV p)) lo:Int)-cw (remsV (rootV p)) hi-(if rtV (remsV (rootV p)) hi=true∧lo<hi then 1 else 0)
def st:Nat→List Rat→Rat→Rat→Bool
 | 0,_,_,_=>false
 | n+1,p,lo,hi=>if zi p lo hi=0 then false else if zi (bN p (derL p)) lo hi≠zi p lo hi then true else st n (bN (bN p (derL p)) (derL (bN p (derL p)))) lo hi
def nU(p:List Rat)(lo hi:Rat):Bool:=if tz p=[] then true else if sg (evV (ar p) lo)<0∨sg (evV (ar p) hi)<0 then false else if lo=hi then true else decide (0<eP ((tz p).length+1) (ar p) lo) && ! st ((tz p).length+1) (ar p) lo hi
def sA(p:List Rat)(lo hi:Rat):Bool:=if tz p=[] then false else if sg (evV (ar p) lo)≤0 then false else decide (cntV p lo hi=0)
theorem xW:Fac [0,-1,0,1] [0,1,-1] none:=⟨1,dZ,fun x=>by
 show ((((0*x+1)*x+0)*x+-1)*x+0:Rat)=1*((x-0)*((x-1)*((x - -1)*1))*1);grind⟩
def jm(I:Rat→Prop)(f:Rat→Rat):Prop:=∀ s t,I s→I t→s<t→f s≠0∧f t≠0∧sg (f s)=sg (f t)
def Eb(I:Rat→Prop):Prop:=∀ s t u,I s→I u→s≤t→t≤u→I t
theorem Cp.bound{v w:Rat→Rat}(h:Cp v w)(A B:Rat):∃ d,0<d∧∀ x,A≤x→x≤B→Big d (v x)∨Big d (w x):=by
 obtain ⟨a,b,ha,hb,h1⟩:=h;obtain ⟨K,hK,k1⟩:=ha.on A B;obtain ⟨L,hL,k2⟩:=hb.on A B;have hM:0<K+L+1:=by grind
 have hd:0<1 / (K+L+1):=uV dZ hM;have he:=aw (a:=1) (b:=K+L+1) (by grind);refine ⟨1 / (K+L+1),hd,fun x hx1 hx2=>Classical.byContradiction fun hn=>?_⟩;generalize 1 / (K+L+1)=d at *
 obtain ⟨n1,n2⟩:¬ Big d (v x)∧¬ Big d (w x):=⟨fun h=>hn (Or.inl h),fun h=>hn (Or.inr h)⟩;obtain ⟨p1,p2⟩:=jG n1;obtain ⟨p3,p4⟩:=jG n2;have b1:Bd (K*d) (a x*v x):=(k1 x hx1 hx2).mul (N:=d) ⟨by grind,by grind⟩;have b2:Bd (L*d) (b x*w x):=(k2 x hx1 hx2).mul (N:=d) ⟨by grind,by grind⟩;have b3:=(b1.add b2).2;rw [h1 x] at b3;grind
theorem o3{q:Rat}(h:q≠0):sg q≠0:=fun h0=>h (cL.1 h0)
theorem Bn{I:Rat→Prop}(hI:Eb I){f v w:Rat→Rat}(hv:Pf v)(hw:Pf w)(he:∀ x,f x=v x*w x)(hc:Cp v w)(hf:jm I f):jm I v:=by
 intro s t hs ht hst;obtain ⟨f1,f2,-⟩:=hf s t hs ht hst;have v1:v s≠0:=fun h0=>f1 (by rw [he,h0];grind)
 have v2:v t≠0:=fun h0=>f2 (by rw [he,h0];grind)
 refine ⟨v1,v2,?_⟩;obtain ⟨d,hd,hb⟩:=hc.bound s t;obtain ⟨K,hK,k1⟩:=hv.lip s t;obtain ⟨L,hL,k2⟩:=hw.lip s t;obtain ⟨e1,he1,k3⟩:=fP hK hd;obtain ⟨e2,he2,k4⟩:=fP hL hd;obtain ⟨e,he0,k5,k6⟩:=ib he1 he2;refine jf (A:=s) (B:=t) (P:=fun a b=>sg (v a)=sg (v b)) he0 (fun a b h1 h2 h3 h4=>?_) (fun a b c _ _ _ _ h1 h2=>h1.trans h2) s t Rat.le_refl hst Rat.le_refl;rcases hb a h1 (by grind) with h5|h5
 ·exact (h5.sign k1 h1 (by grind) h3 (k3 _ (by grind))).1.symm
 ·obtain ⟨h6,h7⟩:=h5.sign k2 h1 (by grind) h3 (k4 _ (by grind));have h8:=(hf a b (hI s a t hs ht h1 (by grind)) (hI s b t hs ht (by grind) h3) h2).2.2;rw [he a,he b,fE,fE,h6] at h8;exact Int.eq_of_mul_eq_mul_right h7 h8
theorem jm.mul{I:Rat→Prop}{f g h:Rat→Rat}(hf:jm I f)(hg:jm I g)(he:∀ x,h x=f x*g x):jm I h:=by
 intro s t hs ht hst;obtain ⟨f1,f2,f3⟩:=hf s t hs ht hst;obtain ⟨g1,g2,g3⟩:=hg s t hs ht hst;refine ⟨?_,?_,by rw [he,he,fE,fE,f3,g3]⟩
 ·rw [he];intro h0;rcases nXr.1 h0 with h1|h1
  ·exact f1 h1
  ·exact g1 h1
 ·rw [he];intro h0;rcases nXr.1 h0 with h1|h1
  ·exact f2 h1
  ·exact g2 h1
theorem jm.smul{I:Rat→Prop}{f g:Rat→Rat}{c:Rat}(hf:jm I f)(hc:c≠0)(he:∀ x,g x=c*f x):jm I g:=by
 refine jm.mul (f:=fun _=>c) (fun s t _ _ _=>⟨hc,hc,rfl⟩) hf he
theorem rQ{A B:Rat}{f:Rat→Rat}{l:List (Rat→Rat)}(h:Fit A B f l)(hV:V f l A=V f l B){s t:Rat}(h1:A<s)(h2:s<t)(h3:t≤B):f s≠0∧f t≠0∧sg (f s)=sg (f t):=by
 have hs:=h.same hV;have hmid:A<(A+s) / 2∧(A+s) / 2<s:=by
  have:=aw (a:=A+s) (b:=2) dZ;exact ⟨by grind,by grind⟩
 generalize (A+s) / 2=m at hmid;obtain ⟨k1,k2⟩:=hs m s (by grind) hmid.2 (by grind);have hfs:f s≠0:=fun h0=>by
  by_cases hm:f m=0
  ·exact k2 hm h0
  ·have:=k1 hm;rw [cL.2 h0] at this;exact o3 hm this.symm
 have h4:=(hs s t (by grind) h2 h3).1 hfs;exact ⟨hfs,fun h0=>by rw [cL.2 h0] at h4;exact o3 hfs h4.symm,h4.symm⟩
theorem C1{r:List Rat}(h:tz r≠[])(hc:Cp (evV r) (evD r)):∃ l,remsV r=ar r :: l∧∀ A B,Fit A B (evV (ar r)) (l.map evV):=by
 obtain ⟨l,e,-⟩:=qj h hc 0 0;refine ⟨l,e,fun A B=>?_⟩;obtain ⟨l',e',h'⟩:=qj h hc A B;have:l=l':=by rw [e] at e';exact (List.cons.inj e').2
 rw [this];exact h'
end Go.Proofs.YtafgmcimcbhhjaaGreat.Sg
/- The chain of remainders: plain facts for the walk of remainders. -/
namespace Go.Proofs.YtafgmcimcbhhjaaGreat
open Go.RowKit Go.Front Go.Num Stab
theorem eN{c:Rat}(hc:c≠0)(l:List Rat):tz (l.map (·*c))=(tz l).map (·*c):=by
 induction l using Stab.snoc_ind with
 | h0=>rfl
 | h1 l r ih =>
  by_cases hr:r=0
  ·subst hr;rw [List.map_append,List.map_cons,List.map_nil,nYa,ez,ez,ih]
  ·have h2:r*c≠0:=fun h=>by
    rcases nXr.1 h with h3|h3
    ·exact hr h3
    ·exact hc h3
   rw [List.map_append,List.map_cons,List.map_nil,fM _ h2,fM _ hr,List.map_append,List.map_cons,List.map_nil]
theorem nq{c:Rat}(hc:0<c)(a:Rat):(a*c).abs=a.abs*c:=by
 have hc2:=Rat.le_of_lt hc;unfold Rat.abs;by_cases h:0≤a
 ·rw [if_pos h,if_pos (Rat.mul_nonneg h hc2)]
 ·rw [if_neg h];have h1:0 < -a:=by grind
  have h2:=Rat.mul_pos h1 hc;rw [if_neg (by grind)];grind
theorem ke{c:Rat}(hc:c≠0)(a:Rat){b:Rat}(hb:b≠0):a*c / (b*c)=a / b:=by
 have hbc:b*c≠0:=fun h=>by rcases nXr.1 h with h|h <;> contradiction
 have h1:=cm (a:=a*c) hbc;have h2:=cm (a:=a) hb;have h3:(a*c / (b*c)-a / b)*(b*c)=0:=by grind
 rcases nXr.1 h3 with h|h
 ·grind
 ·contradiction
theorem tI{c:Rat}(hc:0<c)(a b:Rat):fH (a*c) (b*c)=fH a b*c:=by
 have hc0:c≠0:=fun h=>by rw [h] at hc;exact absurd hc Rat.lt_irrefl
 have hz:∀ x:Rat,x*c=0↔x=0:=fun x=>⟨fun h=>(nXr.1 h).resolve_right hc0,fun h=>by rw [h,nYa]⟩
 unfold fH;by_cases ha:a=0
 ·rw [if_pos ((hz a).2 ha),if_pos ha,nq hc]
 ·rw [if_neg (fun h=>ha ((hz a).1 h)),if_neg ha];by_cases hb:b=0
  ·rw [if_pos ((hz b).2 hb),if_pos hb]
  ·rw [if_neg (fun h=>hb ((hz b).1 h)),if_neg hb,ke hc0 a hb,←nq hc]
   congr 1
   rw [Rat.div_def,Rat.div_def];grind
theorem rY{c:Rat}(hc:0<c)(l:List Rat):bj (l.map (·*c))=bj l*c:=by
 induction l using snoc_ind with
 | h0=>show (0:Rat)=0*c;rw [nYa]
 | h1 l r ih =>
  rw [List.map_append,List.map_cons,List.map_nil,ep,ep,ih,tI hc]
theorem cg{p q:List Rat}{c:Rat}(hc:0<c)(h:∀ n,seq p n=seq q n*c):ar p=ar q:=by
 have hc0:c≠0:=fun h=>by rw [h] at hc;exact absurd hc Rat.lt_irrefl
 have h1:tz p=(tz q).map (·*c):=by
  rw [←eN hc0];exact jR fun n=>by rw [aQ];exact h n
 by_cases h0:tz q=[]
 ·unfold ar;rw [h1,h0];rfl
 ·have hm:bj (tz q)≠0:=oX h0;unfold ar aK;rw [h1,rY hc,List.map_map];refine List.map_congr_left fun x hx=>?_
  exact ke hc0 x hm
theorem tA{a b s r:List Rat}{f:Rat}(hb:tz b≠[])(hr:r.length<(tz b).length)(he:∀ n,f*seq a n=cv (seq s) (seq b) n+seq r n)(n:Nat):seq r n=f*seq (bB a b) n :=
 (gK (p:=a) (q:=b) hb (s:=seq s) (r:=seq r) (F:=f) (N:=s.length) (Bd.seq s) (fun i hi=>by rw [Bd.seq r i zo]) he).2 n
theorem lY{a b s r:List Rat}{f:Rat}(hb:tz b≠[])(hf:0<f)(hr:r.length<(tz b).length)(he:∀ n,f*seq a n=cv (seq s) (seq b) n+seq r n):ar (r.map (·*-1))=ar ((bB a b).map (·*-1)):=by
 refine cg hf fun n=>?_
 rw [aQ,aQ,tA hb hr he n];grind
end Go.Proofs.YtafgmcimcbhhjaaGreat
/- Package dspcompilerref06: its chain has the program's signs. Plain facts. -/
namespace Go.Proofs.YtafgmcimcbhhjaaGreat.Sg
open Go.RowKit Go.Front Go.Num Go.Stab Go.Proofs.YtafgmcimcbhhjaaGreat
theorem mR{A B:List Rat}(hA:tz A≠[])(hB:tz B≠[]):ar ((bB (ar A) (ar B)).map (·*-1))=ar ((bB A B).map (·*-1)):=by
 obtain ⟨h1,-,-,h4⟩:=cd A hB;have hb:tz (ar B)≠[]:=by rw [aX];exact fun h=>hB (bH.1 h)
 refine (lY (a:=ar A) (b:=ar B) (s:=(bD A B).map (·*aK B)) (r:=bB A B) (f:=aK A) hb (aZ hA) (by rw [aX,aC];exact h1) (fun n=>?_)).symm;rw [←cS A n,h4 n];have h5:seq ((bD A B).map (·*aK B))=fun i=>aK B*seq (bD A B) i:=by funext i;rw [aQ];grind
 have h6:seq B=fun i=>aK B*seq (ar B) i:=by funext i;exact cS B i
 rw [h5,fF,h6,gi _ (fun i=>aK B*_),fF,gi]
def bC(p:List Rat):List Rat:=(tz p).map (·*(1 / ((tz p).getLast?.getD 0).abs))
theorem vT{p:List Rat}(h:tz p≠[]):0<1 / ((tz p).getLast?.getD 0).abs:=by
 have h1:((tz p).getLast?.getD 0)≠0:=by
  obtain ⟨n,hn⟩:∃ n,(tz p).length=n+1:=⟨(tz p).length-1,by have:=nYg.2 h;omega⟩;have h2:=iM (l:=tz p) (n:=n) (by rw [aM];exact hn);rw [nXd] at h2;rw [List.getLast?_eq_getElem?,hn];exact h2
 refine uV dZ ?_;unfold Rat.abs;split <;> grind
theorem ik(p:List Rat):ar (bC p)=ar p:=by
 by_cases h:tz p=[]
 ·have:bC p=[]:=by unfold bC;rw [h];rfl
  rw [this,bH.2 h];rfl
 ·refine cg (vT h) (fun n=>?_);unfold bC;rw [aQ,aT]
theorem fL{p:List Rat}:bC p=[]↔tz p=[]:=by unfold bC;exact List.map_eq_nil_iff
theorem gX(p:List Rat):tz (bC p)=bC p:=by
 by_cases h:tz p=[]
 ·rw [fL.2 h];rfl
 ·unfold bC;rw [eN (fun h0=>by have:=vT h;rw [h0] at this;exact absurd this Rat.lt_irrefl),aM]
def rch:Nat→List Rat→List Rat→List (List Rat)
 | 0,_,_=>[]
 | n+1,a,b=>if a=[] then [] else if b=[] then [a] else a :: rch n b (bC ((bB a b).map (·*-1)))
theorem o6:∀ (n:Nat) (a b:List Rat),tz a=a→tz b=b→(rch n a b).map ar=chn n (ar a) (ar b)
 | 0,_,_,_,_=>rfl
 | n+1,a,b,ha,hb=>by
  have ka:ar a=[]↔a=[]:=by rw [bH,ha]
  have kb:ar b=[]↔b=[]:=by rw [bH,hb]
  unfold rch chn;by_cases h1:a=[]
  ·rw [if_pos h1,if_pos (ka.2 h1)];rfl
  ·rw [if_neg h1,if_neg (fun h=>h1 (ka.1 h))];by_cases h2:b=[]
   ·rw [if_pos h2,if_pos (kb.2 h2)];rfl
   ·rw [if_neg h2,if_neg (fun h=>h2 (kb.1 h)),List.map_cons,o6 n b _ hb (gX _),ik,mR (by rw [ha];exact h1) (by rw [hb];exact h2)]
theorem mB(p:List Rat)(x:Rat):sg (evV (ar p) x)=sg (evV p x):=by
 by_cases h:tz p=[]
 ·rw [bH.2 h,ax.1 h x];rfl
 ·rw [cj p x,fE,fD (aZ h)];omega
theorem zx(l:List (List Rat))(x:Rat):cw (l.map ar) x=cw l x:=by
 unfold cw;rw [List.map_map]
 congr 1
 exact List.map_congr_left fun m _=>mB m x
def lz(q:List Rat):List (List Rat):=rch (q.length+1) (bC q) (bC (derL q))
theorem eD(q:List Rat)(x:Rat):cw (lz q) x=cw (remsV q) x:=by
 rw [←zx (lz q)];unfold lz remsV;rw [o6 _ _ _ (gX _) (gX _),ik,ik]
def vN(p:List Rat)(lo hi:Rat):Int:=(cw (lz (sqfV p)) lo:Int)-cw (lz (sqfV p)) hi+(if sg (evV (sqfV p) lo)=0 then 1 else 0)
end Go.Proofs.YtafgmcimcbhhjaaGreat.Sg
/- Degree, Scale, Sub of the reference 05. -/
set_option maxRecDepth 4000
set_option maxHeartbeats 1000000
namespace Go.Proofs.YtafgmcimcbhhjaaGreat
open Go.RowKit Go.Front Go.Num
attribute [local go_sem] XW.cell XW.frozen
theorem lx(ao:Option Addr)(n cap:Nat)(qs:List Rat)(w:World)(h:cD w ⟨ao,n,cap⟩ qs)(hn:n≤1073741824) :
  au 60 [.slice ao n cap] w (fun _:Unit=>.int .i64 (((tz qs).length:Int)-1)) (fun _ _=>True):=by
 have H:=Hi h;have HX:=Hi (Ext.refl w);clear h;unfold au;go_enter Tryz.func60,Tryz.ntmps60
 go_wp2_with fail
 refine cM (bJ ao n cap qs _ H.out hn) fun x1 w1 hE G1=>?_
 replace HX:=hE.tr HX;have hs_w1:=hE.size;obtain ⟨pa,P,pc⟩:=x1;simp only [SH.v];have hP:=G1.out.len;simp only at hP;have h1:=G1.out.can.le;have h2:=G1.out.can.max;simp only at h1 h2;have HV:Hid (((tz qs).length:Int)-1=(P:Int)-1):=Hi (by rw [hP]);clear hP;go_wp2
 go_ret
 exact ⟨(),by rw [HV.out];rfl,HX.out,trivial⟩
def bS(ps:List Rat)(c:Rat):List Rat:=tz (ps.map (·*c))
theorem aV.blk'{D:Nat→Prop}{w w':World}(h:aV D w w'){b:Nat}{o:Obj}(hb:¬ D b)(hv:w.heap[b]?=some o):w'.heap[b]?=some o:=by
 have hl:b<w.heap.size:=(nXb.1 hv).1;rw [h.block b hl hb];exact hv
theorem gy(ao:Option Addr)(n cap:Nat)(ps:List Rat)(t:RH)(c:Rat)(w:World)(h:cD w ⟨ao,n,cap⟩ ps)(ht:aS w t c)(hn:n≤1073741823)(hz:SzL 8388608 ps)(hzc:Sz 8388608 c) :
  au 51 [.slice ao n cap,t.v] w SH.v (fun s w'=>eL w.heap.size w' s (bS ps c)):=by
 obtain ⟨tn,ta,tl,tc,tb,tm,td⟩:=t;have H:=Hi h;have HR:=Hi ht;have HX:=Hi (Ext.refl w);have hle:=h.le;have hmx:=h.max;have Hlen:=Hi h.len;simp only at hle hmx Hlen;have HZ:=Hi hz;have HZc:=Hi hzc;clear h ht hz hzc;unfold au;go_enter Tryz.func51,Tryz.ntmps51
 go_upto_region 1 with fail
 refine nmA ?_;intro w1 hE B3 hz_w1 hr_w1;refine mV2 hE ?_ HR HX;clear HR HX;intro HR HX;have hs_w1:=hE.size;replace b_B3:=bX3 B3;obtain ⟨b3,hb3⟩:∃ b3,b3=w.heap.size:=⟨_,rfl⟩;have hb3w:w.heap.size≤b3:=zo;have hb31:b3<w1.heap.size:=zo;rw [←hb3] at B3 ⊢;clear hb3 b_B3;go_wp2
 go_loopg [5,10] n (fun g v i wr=>∃ (j:Nat) (s:SH),v=s.v∧j+g=n∧i=.int .i64 (j:Nat)∧Ext w wr∧w1.heap.size≤wr.heap.size∧aS wr ⟨tn,ta,tl,tc,tb,tm,td⟩ c∧wr.heap[b3]?=some (.cells #[.bool tn,.slice ta tl tc,.slice tb tm td] 34 (0,0))∧dw wr (w1.heap.size≤·) s.v ((ps.take j).map (·*c)))
 case atStart=>exact ⟨0,⟨none,0,0⟩,rfl,zo,rfl,HX.out,nXe _,HR.out,B3.out,dw.nil _ _⟩
 case round =>
  obtain ⟨j,⟨sa,sn,sc⟩,rfl,hj,rfl,g1,hsz1,g2,g3,g4⟩:=hrel;clear HX HR B3;have HX:=Hi g1;have HR:=Hi g2;have B3:=Hi g3;have HO:=Hi g4;have hsz:=g1.size;clear g1 g2 g3 g4;simp only [SH.v];replace b_B3:=bX3 B3;have hb3r:=b_B3.2.2;by_cases h0:gk=0
  case pos =>
   subst h0;obtain rfl:j=n:=by omega
   have HE:Hid (ps.take j=ps):=Hi (nXm (by rw [Hlen.out];exact nXe _));rw [HE.out] at HO;have hsn:=dw.len (s:=⟨sa,sn,sc⟩) HO.out;rw [nXl,Hlen.out] at hsn;simp only at hsn;subst hsn;have HSz:Hid (SzL 16777216 (ps.map (·*c))):=Hi (by
    intro q hq;obtain ⟨y,hy,rfl⟩:=nYf.1 hq;exact ((HZ.out y hy).mul HZc.out).mono dZ)
   go_wp2_with fail
   refine cM (bJ sa j sc _ _ ((dw.can (s:=⟨sa,j,sc⟩) HO.out).raw HSz.out dZ) zo) fun x20 w20 hE G20=>?_
   refine mV4 hE ?_ HX HR B3 HO;clear HX HR B3 HO;intro HX HR B3 HO;have hs_w20:=hE.size;replace b_B3:=bX3 B3;go_wp2
   go_ret
   exact ⟨x20,rfl,HX.out,G20.out.mono hsz⟩
  have hjn:(j:Int)<n:=zo;obtain ⟨b,off,r,hao,hbl,⟨hc1,hc2,hc3⟩,hP⟩:=(H.out.ext HX.out).cells' (k:=j) zo;obtain ⟨rneg,ra,rn,rc,rb,rm,rd⟩:=r;simp only at hc1 hc2 hc3;subst hao;have RP:=Hi hP;clear hP;have HNx:Hid ((ps.take (j+1)).map (·*c)=(ps.take j).map (·*c)++[ps.getD j 0*c]):=Hi (by rw [←iQ (by rw [Hlen.out];omega),List.map_append];rfl);have HLn:Hid (((ps.take j).map (·*c)).length≤1073741824):=Hi (by rw [nXl,nXk];omega)
  go_upto_region 5 with fail
  refine nmA ?_;intro y1 hE B7 hz_y1 hr_y1;refine mV5 hE ?_ HX HR B3 HO RP;clear HX HR B3 HO RP;intro HX HR B3 HO RP;have hs_y1:=hE.size;replace b_B3:=bX3 B3;replace b_B7:=bX3 B7
  go_wp2_with fail
  refine cM (fV ⟨rneg,ra,rn,rc,rb,rm,rd⟩ ⟨tn,ta,tl,tc,tb,tm,td⟩ _ c _ RP.out HR.out) fun x2 w2 hE G2=>?_
  refine mV6 hE ?_ B7 HX HR B3 HO RP;clear B7 HX HR B3 HO RP;intro B7 HX HR B3 HO RP;have hs_w2:=hE.size;replace b_B3:=bX3 B3;replace b_B7:=bX3 B7
  go_wp2_with (at_builtin;refine dY rfl (.tmp 14) (.tmp 18) 24 Tryz.underlying24 rfl (w1.heap.size≤·) _ _ x2 _ rfl HO.out rfl G2.out HLn.out (fun k hk=>by omega) ?_;intro s' y3 q1 q2 q3)
  have HX3:=Hi (Ext.mods HX.out q2 (fun k h=>by omega));have HO3:Hid (dw y3 (w1.heap.size≤·) s'.v ((ps.take (j+1)).map (·*c))):=Hi (by rw [HNx.out];exact q1);have HR3:=Hi (HR.out.keep q3);have B33:=Hi (aV.blk' q2 zo B3.out);have hsz3:=q2.size;clear q1 q2 q3;go_wp2
  go_roundg (gk-1)
  case measure=>omega
  case rel=>exact ⟨j+1,s',rfl,zo,by go_num,HX3.out,zo,HR3.out,B33.out,HO3.out⟩
theorem tj{s t:Nat}{l:List Rat}{c:Rat}(h:SzL s l)(hc:Sz t c):SzL (s+t) (bS l c):=by
 unfold bS;refine SzL.tz ?_;intro q hq;obtain ⟨y,hy,rfl⟩:=nYf.1 hq;exact (h y hy).mul hc
theorem rP(l:List Rat)(c:Rat):(bS l c).length≤l.length:=by
 unfold bS;refine nXf (ah _) ?_;simp
theorem ph:Sz 1 ((-1:Int):Rat):=Sz.int dZ
end Go.Proofs.YtafgmcimcbhhjaaGreat
