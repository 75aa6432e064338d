import Derived.Test.YtafgmcimcbhhjaaGreatQCK17
set_option linter.unusedVariables false
namespace Go.Proofs.YtafgmcimcbhhjaaGreat.Sg
open Go.RowKit Go.Front Go.Num Go.Stab Go.Proofs.YtafgmcimcbhhjaaGreat Sie
theorem DF:∀ (m:Nat) (g:List Rat) (a B R:Rat),ln g≤m+1→0≤B→0≤R→(∀ t:Nat,t≤m→Sg.Bd B (evV g (a+(t:Rat))))→(∀ t:Nat,t≤m→Sg.Bd R (a+(t:Rat)))→∀ i,Sg.Bd (B*(2*R+3) ^ m) (seq g i):=by
 intro m;induction m with
 | zero =>
  intro g a B R hl hB hR hv hp i;rw [Rat.pow_zero,Rat.mul_one];cases i with
  | zero=>rw [←jt hl (a+((0:Nat):Rat))];exact hv 0 (nXe 0)
  | succ i=>rw [Ef zo];exact ⟨by grind,hB⟩
 | succ m ih =>
  intro g a B R hl hB hR hv hp i;obtain ⟨c,hc⟩:∃ c,c=a+((m+1:Nat):Rat):=⟨_,rfl⟩;have hcv:=hv (m+1) (nXe _);have hcR:=hp (m+1) (nXe _);rw [←hc] at hcv hcR;have one:∀ t:Rat,∀ x,evV [t] x=t:=fun t x=>by show 0*x+t=t;grind
  obtain ⟨f,hf⟩:∃ f,f=subV g [evV g c]:=⟨_,rfl⟩;have hfx:∀ x,evV f x=evV g x-evV g c:=fun x=>by rw [hf,fo,one]
  obtain ⟨g1',⟨g1,rfl⟩,h1⟩:=BE (Pf.ev f) (a:=c) (by rw [hfx];grind);have hlf:ln f≤m+2:=by
   have h2:=j6 g [evV g c];have h3:ln [evV g c]≤1:=ae [evV g c];rw [hf];omega
  have hl1:ln g1≤m+1:=by
   by_cases h2:tz g1=[]
   ·show (tz g1).length≤_;rw [h2];exact Nat.zero_le _
   ·have h3:=rL h1 h2;have h4:ln g1<ln f:=h3;omega
  have hmul:∀ d y:Rat,1≤d→Sg.Bd (2*B) (d*y)→Sg.Bd (2*B) y:=fun d y hd hb=>by
   rcases tot 0 y with h|h
   ·have h2:=cP hd h;exact ⟨by grind,by have:=hb.2;grind⟩
   ·have h2:=cP hd (show 0≤-y by grind);exact ⟨by have:=hb.1;grind,by grind⟩
  have hv1:∀ t:Nat,t≤m→Sg.Bd (2*B) (evV g1 (a+(t:Rat))):=fun t ht=>by
   have h2:=h1 (a+(t:Rat));rw [hfx] at h2;have h3:((m+1:Nat):Rat)-(t:Rat)=((m+1-t:Nat):Rat):=by
    have:((m+1:Nat):Rat)=((m+1-t:Nat):Rat)+(t:Rat):=by rw [←Rat.natCast_add];congr 1;omega
    grind
   have h4:(1:Rat)≤((m+1-t:Nat):Rat):=by exact_mod_cast (show 1≤m+1-t by omega)
   refine hmul _ _ h4 ?_;have h5:((m+1-t:Nat):Rat)*evV g1 (a+(t:Rat))=-(evV g (a+(t:Rat))-evV g c):=by rw [h2,←h3,hc];grind
   rw [h5,show (2:Rat)*B=B+B by grind];exact ((hv t zo).sub hcv).neg
  have hI:=ih g1 a (2*B) R hl1 (by grind) hR hv1 (fun t ht=>hp t zo);have hs:=wM h1 i;have hsg:seq g i=seq f i+seq [evV g c] i:=by rw [hf,vE];grind
  have hcon:Sg.Bd B (seq [evV g c] i):=by
   cases i with
   | zero=>exact hcv
   | succ i=>exact ⟨by show -B≤(0:Rat);grind,by show (0:Rat)≤B;exact hB⟩
  have hP:0≤(2*R+3) ^ m:=Rat.pow_nonneg (by grind);have hsh:Sg.Bd (2*B*(2*R+3) ^ m) (sh (seq g1) i):=by
   cases i with
   | zero =>
    have:=gw (show 0≤2*B by grind) hP;exact ⟨by show -_≤(0:Rat);grind,by show (0:Rat)≤_;exact this⟩
   | succ i=>exact hI i
  have hP1:1≤(2*R+3) ^ m:=by
   have:∀ k:Nat,(1:Rat)≤(2*R+3) ^ k:=fun k=>by
    induction k with
    | zero=>rw [Rat.pow_zero];exact Rat.le_refl
    | succ k ihk =>
     rw [Rat.pow_succ];have h6:=cP ihk (show 0≤2*R+3 by grind);grind
   exact this m
  rw [hsg,hs,Rat.pow_succ];refine ((hsh.sub (hcR.mul (hI i))).add hcon).mono ?_;have h7:=aZ hP1 hB;generalize (2*R+3) ^ m=P at *
  grind
theorem Dj{A x:Rat}(hA:1≤A)(hx:A≤x):∀ p:List Rat,(∀ y ∈ p,Wh y∧Sg.Bd (A-1) y)→tz p≠[]→Big 1 (evV p x):=by
 intro p;induction p with
 | nil=>intro _ h;exact absurd rfl h
 | cons c p ih =>
  intro h h0;obtain ⟨hc1,hc2⟩:=h c (List.mem_cons_self ..);have e:evV (c :: p) x=evV p x*x+c:=rfl;rw [e];by_cases h1:tz p=[]
  ·rw [ev_tznil.1 h1 x];have hc0:c≠0:=fun hc=>h0 (ev_tznil.2 fun y=>by show evV p y*y+c=0;rw [ev_tznil.1 h1 y,hc];grind)
   obtain ⟨z,hz⟩:=Wh.iff.1 hc1;rw [hz] at hc0 ⊢;have hz0:z≠0:=fun h=>hc0 (by rw [h];rfl)
   rcases (show 1≤z∨z≤-1 by omega) with h2|h2
   ·left
    have:((1:Int):Rat)≤(z:Rat):=Rat.intCast_le_intCast.2 h2;grind
   ·right
    have:(z:Rat)≤((-1:Int):Rat):=Rat.intCast_le_intCast.2 h2;grind
  ·have h2:=ih (fun y hy=>h y (List.mem_cons_of_mem _ hy)) h1;obtain ⟨b1,b2⟩:=hc2;rcases h2 with h3|h3
   ·left
    have h4:=cP h3 (show 0≤x by grind);grind
   ·right
    have h4:=cP h3 (show 0≤x by grind);grind
theorem Fm{A X x:Rat}(hA:0≤A)(hx:0≤x)(hX:x≤X):∀ p:List Rat,(∀ y ∈ p,Sg.Bd A y)→Sg.Bd (A*(X+1) ^ p.length) (evV p x):=by
 intro p;induction p with
 | nil =>
  intro _;rw [List.length_nil,Rat.pow_zero,Rat.mul_one];exact ⟨by show -A≤(0:Rat);grind,hA⟩
 | cons c p ih =>
  intro h;have h1:=ih (fun y hy=>h y (List.mem_cons_of_mem _ hy));have h2:=h c (List.mem_cons_self ..);have hP:∀ k:Nat,(1:Rat)≤(X+1) ^ k:=fun k=>by
   induction k with
   | zero=>rw [Rat.pow_zero];exact Rat.le_refl
   | succ k ihk =>
    rw [Rat.pow_succ];have h6:=cP ihk (show 0≤X+1 by grind);grind
  have e:evV (c :: p) x=evV p x*x+c:=rfl;rw [e,List.length_cons,Rat.pow_succ];refine ((h1.mul (show Sg.Bd X x from ⟨by grind,hX⟩)).add h2).mono ?_;have h3:=aZ (hP p.length) hA;generalize (X+1) ^ p.length=P at *
  grind
theorem Gf{p:List Rat}(h:∀ i,Wh (seq p i)){x:Rat}(hx:Wh x):Wh (evV p x):=by
 have key:∀ p:List Rat,(∀ i,Wh (seq p i))→Wh (evV p x):=by
  intro p;induction p with
  | nil=>intro _;exact Wh.zero
  | cons c p ih=>intro h;exact ((ih fun i=>h (i+1)).mul hx).add (h 0)
 exact key p h
theorem tH{q d:List Rat}{S:Nat}(hq:∀ x ∈ q,Wz S x)(hq0:tz q≠[])(hd:Dv (evV d) (evV q))(hn:q.length≤1000):∀ x ∈ av d,Wz ((S+1)*(2*q.length+1)) x:=by
 have hd0:tz d≠[]:=fun h0=>by
  obtain ⟨y,hy⟩:=rI hq0;obtain ⟨c,-,h1⟩:=hd;exact hy (by rw [h1,ev_tznil.1 h0 y];grind)
 have hdl:=mQ hd hq0;have hql:=ae q;obtain ⟨g,hg⟩:∃ g,g=av d:=⟨_,rfl⟩;have hgg:av g=g:=by
  rw [hg];exact (cG (p:=d) (q:=av d) (bP hd0) (fun n=>by rw [cS d n];grind)).symm
 obtain ⟨h,hh⟩:∃ h:List Rat,∀ x,evV q x=evV g x*evV h x:=by
  obtain ⟨c,hc,h1⟩:=hd;obtain ⟨h,hh⟩:=hc.smul (aN d);exact ⟨h,fun x=>by rw [h1,←hh,dW d x,hg];grind⟩
 have hqw:∀ i,Wh (seq q i):=fun i=>by rw [(jB hq i).1];exact Wh.int _
 have hhw:=AI hqw hq0 hgg hh;have hgw:∀ i,Wh (seq g i):=fun i=>by
  have:=qW d i;rw [←hg] at this;rw [this];exact Wh.int _
 obtain ⟨A,hA⟩:∃ A:Nat,A=W32 ^ S:=⟨_,rfl⟩;have hA1:1≤A:=by rw [hA];exact nYn aw
 have hA1':(1:Rat)≤(A:Rat):=by exact_mod_cast hA1
 obtain ⟨m,hm⟩:∃ m,ln g=m+1:=⟨ln g-1,by
  have:1≤ln g:=gR (by rw [hg,bs];exact fun k=>hd0 (ct.1 k));omega⟩
 have hmq:m+1≤q.length:=by
  have:ln g=(tz d).length:=by show (tz g).length=_;rw [hg,bs,ay]
  omega
 obtain ⟨X,hX⟩:∃ X:Nat,X=A+m:=⟨_,rfl⟩;have hcoef:∀ y ∈ q,Wh y∧Sg.Bd ((A:Rat)-1) y:=fun y hy=>by
  obtain ⟨w1,w2⟩:=hq y hy;refine ⟨w1,?_⟩;rw [w1.eq];have h1:-((A:Int)-1)≤y.num∧y.num≤(A:Int)-1:=by rw [hA];omega
  have h2:=Rat.intCast_le_intCast.2 h1.1;have h3:=Rat.intCast_le_intCast.2 h1.2;rw [Rat.intCast_neg,Rat.intCast_sub,Rat.intCast_natCast] at h2;rw [Rat.intCast_sub,Rat.intCast_natCast] at h3;exact ⟨h2,h3⟩
 have hB:=fun (t:Nat) (ht:t≤m)=>Fm (A:=(A:Rat)) (X:=(X:Rat)) (x:=(A:Rat)+(t:Rat)) (by grind) (by
  have:(0:Rat)≤(t:Rat):=by exact_mod_cast Nat.zero_le t
  grind) (by rw [hX,←Rat.natCast_add];exact_mod_cast (show A+t≤A+m by omega)) q (fun y hy=>(hcoef y hy).2.mono (by grind))
 have hval:∀ t:Nat,t≤m→Sg.Bd ((A:Rat)*((X:Rat)+1) ^ q.length) (evV g ((A:Rat)+(t:Rat))):=fun t ht=>by
  have h1:=Dj (A:=(A:Rat)) (x:=(A:Rat)+(t:Rat)) hA1' (by
   have:(0:Rat)≤(t:Rat):=by exact_mod_cast Nat.zero_le t
   grind) q hcoef hq0
  have h2:=hB t ht;have hxw:Wh ((A:Rat)+(t:Rat)):=by
   have h3:∀ k:Nat,Wh (k:Rat):=fun k=>Rat.den_natCast k
   exact (h3 A).add (h3 t)
  have hv2:=Gf hhw hxw;rw [hh] at h1 h2;generalize evV g ((A:Rat)+(t:Rat))=u at *
  generalize evV h ((A:Rat)+(t:Rat))=v at *
  generalize (A:Rat)*((X:Rat)+1) ^ q.length=C at *
  have hvz:v≠0:=fun h0=>by
   rw [h0,nYc] at h1;rcases h1 with h1|h1 <;> grind
  obtain ⟨z,hz⟩:=Wh.iff.1 hv2;have hz0:z≠0:=fun h=>hvz (by rw [hz,h];rfl)
  obtain ⟨c1,c2⟩:=h2;rcases (show 1≤z∨z≤-1 by omega) with h3|h3
  ·have h4:(1:Rat)≤v:=by
    have:((1:Int):Rat)≤(z:Rat):=Rat.intCast_le_intCast.2 h3;rw [hz];exact this
   rcases tot 0 u with h5|h5
   ·have h6:=aZ h4 h5;exact ⟨by grind,by grind⟩
   ·have h6:=aZ h4 (show 0≤-u by grind);exact ⟨by grind,by grind⟩
  ·have h4:v≤-1:=by
    have:(z:Rat)≤((-1:Int):Rat):=Rat.intCast_le_intCast.2 h3;rw [hz];exact this
   rcases tot 0 u with h5|h5
   ·have h6:=aZ (show 1≤-v by grind) h5;exact ⟨by grind,by grind⟩
   ·have h6:=aZ (show 1≤-v by grind) (show 0≤-u by grind);exact ⟨by grind,by grind⟩
 have hXr:∀ t:Nat,t≤m→Sg.Bd (X:Rat) ((A:Rat)+(t:Rat)):=fun t ht=>by
  have h1:(A:Rat)+(t:Rat)≤(X:Rat):=by rw [hX,←Rat.natCast_add];exact_mod_cast (show A+t≤A+m by omega)
  exact ⟨by grind,h1⟩
 have hX0:(0:Rat)≤(X:Rat):=by exact_mod_cast Nat.zero_le X
 have hC0:(0:Rat)≤(A:Rat)*((X:Rat)+1) ^ q.length:=gw (by grind) (Rat.pow_nonneg (by grind));have hfin:=DF m g (A:Rat) _ (X:Rat) zo hC0 hX0 hval hXr;have hW:2*X+3≤W32 ^ (S+1):=by
  have e1:W32 ^ (S+1)=A*4294967296:=by rw [nXu,←hA];rfl
  omega
 have hbound:A*(X+1) ^ q.length*(2*X+3) ^ m<W32 ^ ((S+1)*(2*q.length+1)):=by
  have b1:(X+1) ^ q.length≤W32 ^ ((S+1)*q.length):=by rw [Nat.pow_mul];exact Nat.pow_le_pow_left zo _
  have b2:(2*X+3) ^ m≤W32 ^ ((S+1)*m):=by rw [Nat.pow_mul];exact Nat.pow_le_pow_left hW _
  have b3:A*(X+1) ^ q.length*(2*X+3) ^ m≤W32 ^ S*W32 ^ ((S+1)*q.length)*W32 ^ ((S+1)*m):=by
   rw [hA] at *
   exact nXy (nXg _ b1) b2
  refine nYl b3 ?_;rw [←Nat.pow_add,←Nat.pow_add];refine Nat.pow_lt_pow_right dZ ?_;have e2:(S+1)*(2*q.length+1)=(S+1)*q.length+(S+1)*q.length+(S+1):=by rw [Nat.mul_add,Nat.mul_one,show 2*q.length=q.length+q.length by omega,Nat.mul_add]
  have e3:(S+1)*m≤(S+1)*q.length:=nXg _ zo;omega
 intro x hx;rw [←hg] at hx;obtain ⟨i,hi,rfl⟩:=dK hx;have h1:=hfin i;have hw:=hgw i;refine ⟨hw,?_⟩;have h2:Sg.Bd (((A*(X+1) ^ q.length*(2*X+3) ^ m:Nat):Int):Rat) (((seq g i).num:Int):Rat):=by
  rw [←hw.eq,Rat.intCast_natCast,Rat.natCast_mul,Rat.natCast_mul,Rat.natCast_pow,Rat.natCast_pow,Rat.natCast_add,Rat.natCast_add,Rat.natCast_mul];exact h1
 obtain ⟨c1,c2⟩:=h2;rw [←Rat.intCast_neg] at c1;have c3:=Rat.intCast_le_intCast.1 c1;have c4:=Rat.intCast_le_intCast.1 c2;show (seq g i).num.natAbs<_;omega
end Go.Proofs.YtafgmcimcbhhjaaGreat.Sg
/- Sizes for chains of a polynomial and of its divisors. Plain facts. -/
namespace Go.Proofs.YtafgmcimcbhhjaaGreat
open Go.RowKit Go.Front Go.Num Stab Sg
theorem C5{q:List Rat}{L:Nat}(hq:bI q=q)(hw:∀ x ∈ av q,Wz L x)(hL:1≤L):∃ D,0<D∧D<W32 ^ L∧FrL L D q:=by
 obtain ⟨D,h1,h2,h3⟩:=oJ hw (bs q) hL;rw [(jP q).mon,hq] at h3;exact ⟨D,h1,h2,h3⟩
def KN(K S n:Nat):Prop:=3*((((S+1)*(2*n+1)+2)*(2*n)+(S+1)*(2*n+1)+2)*(2*n+3))≤K
theorem Fd{K S S' n n':Nat}(h:3*(((S+2)*(2*n)+S+2)*(2*n+3))≤K)(hS:S'≤S)(hn:n'≤n):KZ K S' n':=by
 right
 refine nXf (nXg 3 (nXy ?_ zo)) h;have:(S'+2)*(2*n')≤(S+2)*(2*n):=nXy zo zo;omega
theorem KN.kz{K S S' n n':Nat}(h:KN K S n)(hS:S'≤(S+1)*(2*n+1))(hn:n'≤n):KZ K S' n':=Fd (S:=(S+1)*(2*n+1)) h hS hn
theorem KN.self{K S n n':Nat}(h:KN K S n)(hn:n'≤n):KZ K S n':=h.kz (by
 have:(S+1)*1≤(S+1)*(2*n+1):=nXg _ zo;omega) hn
theorem Fw{K S n:Nat}{p q:List Rat}(hp:∀ x ∈ p,Wz S x)(hp0:tz p≠[])(hl:p.length≤n)(hn:n≤1000)(hK:KN K S n)(hd:Dv (evV q) (evV p))(hm:bI q=q):FrK K q:=by
 have h1:=tH hp hp0 hd zo;have h2:=mQ hd hp0;have h3:=ae p;have h4:tz q=q:=by rw [←hm,fM]
 rw [h4] at h2;have hL:1≤(S+1)*(2*p.length+1):=Nat.mul_pos zo zo;have hL2:(S+1)*(2*p.length+1)≤(S+1)*(2*n+1):=nXg _ zo;obtain ⟨D,d1,d2,d3⟩:=C5 hm h1 hL;exact ⟨_,D,hL,d1,d2,d3,hK.kz hL2 zo⟩
theorem BP{p q:List Rat}(h0:tz p≠[])(h:Dv (evV q) (evV p)):Dv (evV q) (evV (av p)):=by
 obtain ⟨c,hc,h1⟩:=h;have hm:=bP h0;refine ⟨_,hc.smul (aN p)⁻¹,fun x=>?_⟩;have h2:=dW p x;have h3:=nYk (aN p) (fun k=>by rw [k] at hm;exact absurd hm Rat.lt_irrefl);rw [h1 x] at h2;have h4:(aN p)⁻¹*(evV q x*c x)=evV (av p) x:=by rw [h2,←nYe,nYd _ (aN p),h3,Rat.one_mul]
 rw [←h4];grind
theorem AZ{p:List Rat}(h0:tz p≠[]):Dv (evV (sqfV p)) (evV p):=by
 obtain ⟨g,q1,hg,-,-,h1,-⟩:=(kM h0).dv;exact ⟨g,hg,fun x=>by rw [h1 x];grind⟩
theorem Cn(p:List Rat):bI (sqfV p)=sqfV p:=ls _
theorem tA{K S D n:Nat}{p:List Rat}(hS:1≤S)(hD:0<D)(hD2:D<W32 ^ S)(hf:FrL S D p)(hl:p.length≤n)(hK:KN K S n):FrK K p:=⟨S,D,hS,hD,hD2,hf,hK.self hl⟩
theorem xA{K S D n:Nat}{p:List Rat}(hD:0<D)(hf:FrL S D p)(h0:tz p≠[])(hl:p.length≤n)(hn:n≤1000)(hK:KN K S n):FrK K (sqfV p):=by
 refine Fw (p:=av p) (eo (fun x hx=>hf x (gQ hx)) hD) (by rw [bs];exact fun k=>h0 (ct.1 k)) ?_ hn hK (BP h0 (AZ h0)) (Cn p);rw [ay];exact nXf (ae p) hl
end Go.Proofs.YtafgmcimcbhhjaaGreat
/- Package prototype: Valid, Ratio. -/
set_option maxRecDepth 8000
set_option maxHeartbeats 8000000
namespace Go.Proofs.YtafgmcimcbhhjaaGreat
open Go.RowKit Go.Front Go.Num Stab
attribute [local go_sem] XW.cell XW.frozen
def IvE(w:World)(x:RH×RH)(a b:Rat):Prop:=aB w x.1 a∧aB w x.2 b
theorem IvE.ext{w w':World}{x:RH×RH}{a b:Rat}(h:IvE w x a b)(he:Ext w w'):IvE w' x a b:=⟨h.1.ext he,h.2.ext he⟩
instance {w w':World} {x:RH×RH} {a b:Rat}:Go.Front.Mv w w' (IvE w x a b) (IvE w' x a b):=⟨fun e h=>IvE.ext h e⟩

def m9(w:World)(x:PH)(g:Rat)(e d:List Rat):Prop:=aQ w x.g g∧cx w x.e e∧cx w x.d d
theorem m9.ext{w w':World}{x:PH}{g:Rat}{e d:List Rat}(h:m9 w x g e d)(he:Ext w w'):m9 w' x g e d:=⟨h.1.ext he,h.2.1.ext he,h.2.2.ext he⟩
instance {w w':World} {x:PH} {g:Rat} {e d:List Rat}:Go.Front.Mv w w' (m9 w x g e d) (m9 w' x g e d):=⟨fun e h=>m9.ext h e⟩

def dF(g:Rat)(e:List Rat)(p:Int)(d:List Rat):Bool:=decide (0<g∧0≤p∧p≤48∧tz e≠[]∧(tz e).length≤25∧(tz d).length≤49) && yT d (-1) 1
theorem jI{g:Rat}{e:List Rat}{p:Int}{d:List Rat}(h:¬ (0<g∧0≤p∧p≤48∧tz e≠[]∧(tz e).length≤25∧(tz d).length≤49)):dF g e p d=false:=by
 unfold dF;rw [decide_eq_false h];rfl
theorem sB{g:Rat}{e:List Rat}{p:Int}{d:List Rat}(h:0<g∧0≤p∧p≤48∧tz e≠[]∧(tz e).length≤25∧(tz d).length≤49):dF g e p d=yT d (-1) 1:=by
 unfold dF;rw [decide_eq_true h];rfl
theorem yq{g:Rat}:dq g 0≤0↔¬ 0<g:=by rw [iX];exact ⟨fun h=>Rat.not_lt.2 h,fun h=>Rat.not_lt.1 h⟩
structure DnK (K P:Nat) (d:List Rat):Prop where
 fr:FrK K d
 sq:FrK K (Sg.sqfV d)
 k1:K≤3900000
 k2:(P+1)*(K / 3)≤25000000
theorem nz(x:PH)(g:Rat)(e d:List Rat)(K:Nat)(w:World)(h:m9 w x g e d)(hP:x.d.n≤49)(hk:DnK K x.d.n d) :
  ak 42 [x.v] w (fun _:Unit=>.bool (dF g e x.p d)) (fun _ _=>True):=by
 obtain ⟨⟨gn,ga,gl,gc,gb,gm,gd⟩,⟨ea,en,ec⟩,p,⟨da,dn,dc⟩⟩:=x;have HX:=Hi (Ext.refl w);have RG:=Hi h.1;have LE:=Hi h.2.1;have LD:=Hi h.2.2;have HK:=Hi hk;have HEn:=Hi h.2.1.len;have HDn:=Hi h.2.2.len;simp only at hP RG LE LD HK HEn HDn;clear h hk;have hdl:(tz d).length≤49:=by have:=ae d;have:=HDn.out;omega
 have HDl:=Hi hdl;clear hdl;obtain ⟨c1,hc1⟩:∃ c,c=dq g 0:=⟨_,rfl⟩;have HC1:=Hi hc1;have HC:Hid (c1≤0↔¬ 0<g):=Hi (by rw [hc1];exact yq);clear hc1;unfold ak;go_enter Tryz.func42,Tryz.ntmps42
 go_upto_region 1 with fail
 refine nmA ?_;intro w1 hE B1 hz_w1 hr_w1;refine mV4 hE ?_ HX RG LE LD;clear HX RG LE LD;intro HX RG LE LD;replace b_B1:=bX3 B1
 go_wp2_with fail
 refine cM (cW ⟨gn,ga,gl,gc,gb,gm,gd⟩ g _ RG.out) fun x2 w2 hE _=>?_
 refine mV4 hE ?_ B1 HX LE LD;clear B1 HX LE LD;intro B1 HX LE LD;replace b_B1:=bX3 B1;rw [←HC1.out];by_cases h1:c1≤0
 ·have HV:Hid (dF g e p d=false):=Hi (jI (fun k=>HC.out.1 h1 k.1));go_wp2
  go_ret
  exact ⟨(),by rw [HV.out];rfl,HX.out,trivial⟩
 have HG:Hid (0<g):=Hi (Classical.byContradiction fun k=>h1 (HC.out.2 k));clear HC;by_cases h2:p<0
 ·have HV:Hid (dF g e p d=false):=Hi (jI (fun k=>by have:=k.2.1;omega));go_wp2
  go_ret
  exact ⟨(),by rw [HV.out];rfl,HX.out,trivial⟩
 by_cases h3:48<p
 ·have HV:Hid (dF g e p d=false):=Hi (jI (fun k=>by have:=k.2.2.1;omega));go_wp2
  go_ret
  exact ⟨(),by rw [HV.out];rfl,HX.out,trivial⟩
 go_wp2_with fail
 refine cM (dr ea en ec e _ LE.out) fun x3 w3 hE _=>?_
 refine mV3 hE ?_ B1 HX LD;clear B1 HX LD;intro B1 HX LD;replace b_B1:=bX3 B1;obtain ⟨le,hle⟩:∃ n,n=(tz e).length:=⟨_,rfl⟩;have HLe:=Hi hle;rw [←hle];clear hle;by_cases h4:le=0
 ·have HV:Hid (dF g e p d=false):=Hi (jI (fun k=>k.2.2.2.1 (nXj.1 (by rw [←HLe.out];exact h4))));subst h4;go_wp2
  go_ret
  exact ⟨(),by rw [HV.out];rfl,HX.out,trivial⟩
 have h4i:¬ (le:Int)-1<0:=zo;by_cases h5:25<le
 ·have HV:Hid (dF g e p d=false):=Hi (jI (fun k=>by have:=k.2.2.2.2.1;rw [←HLe.out] at this;omega));have h5i:(24:Int)<(le:Int)-1:=zo;go_wp2
  go_ret
  exact ⟨(),by rw [HV.out];rfl,HX.out,trivial⟩
 have h5i:¬ (24:Int)<(le:Int)-1:=zo;have HV:Hid (dF g e p d=yT d (-1) 1):=Hi (sB ⟨HG.out,zo,zo,fun k=>by have:=HLe.out;rw [k] at this;exact h4 this,by rw [←HLe.out];omega,HDl.out⟩)
 go_wp2_with fail
 refine cM (dr da dn dc d _ LD.out) fun x5 w5 hE _=>?_
 refine mV3 hE ?_ B1 HX LD;clear B1 HX LD;intro B1 HX LD;replace b_B1:=bX3 B1;obtain ⟨ld,hld⟩:∃ n,n=(tz d).length:=⟨_,rfl⟩;have h6i:¬ (48:Int)<(ld:Int)-1:=by have:=HDl.out;omega
 rw [←hld];clear hld;have Zm:Hid (Sz 1 ((-1:Int):Rat)):=Hi (Sz.int dZ);have Z1:Hid (Sz 1 ((1:Int):Rat)):=Hi (Sz.int dZ);have Em:Hid (loV ((-1:Int):Rat) ((1:Int):Rat)=((-1:Int):Rat)):=Hi (k7 dZ);have E1:Hid (hiV ((-1:Int):Rat) ((1:Int):Rat)=((1:Int):Rat)):=Hi (k8 dZ);have HPV:Hid (Sg.posV d ((-1:Int):Rat) ((1:Int):Rat)=yT d (-1) 1):=Hi (CC dZ);obtain ⟨v,hv⟩:∃ v,v=yT d (-1) 1:=⟨_,rfl⟩;rw [←hv] at HV HPV;clear hv h1 h2 h3
 go_upto_region 6 with fail
 refine aR [(9,8)] _ (by simp only [iI,lH,List.push_toArray,List.cons_append,List.nil_append];exact rfl) (by intro c a d v w h;cases d <;> exact h) 9 (fun opIx=>match opIx with
  | 2=>sR (((-1:Int):Rat))
  | 3=>sR (((1:Int):Rat))
  | 4=>.spec (RH×RH) (default) (IvV) (fun x w'=>IvE w' x ((-1:Int):Rat) ((1:Int):Rat))
  | 5=>sU (.tuple #[.bool v,.int .i64 0])
  | _=>.quiet) (fun|4=>[2,3]|5=>[4]|_=>[]) kZ kZ kZ (fun w0 he0 hz0 hc0 hf0=>?_)
 replace he0:=Hi he0;simp only [pT];refine qQ ?_;refine wps he0 (fun w1 hW hG=>?_) fun x40=>?_
 ·exact spc [.int .i64 (-1)] Tryz.func84 (aL (-1) _ dZ dZ)
 refine qZ ?_;refine wps he0 (fun w1 hW hG=>?_) fun x41=>?_
 ·exact spc [.int .i64 1] Tryz.func84 (aL 1 _ dZ dZ)
 refine qZ ?_;refine wps he0 (fun w1 hW hG=>?_) fun x42=>?_
 ·have g40:=gS (hG 2 dZ);have g41:=gS (hG 3 dZ);exact spc [x40.v,x41.v] Tryz.func106 ((by have h:=nL x40 x41 _ _ _ (g40.raw Zm.out dZ) (g41.raw Z1.out dZ);rw [Em.out,E1.out] at h;exact h))
 refine qZ ?_;refine wps he0 (fun w1 hW hG=>?_) fun x43=>?_
 ·have g42:=gS (hG 4 dZ);exact spc [.slice da dn dc,IvV x42] Tryz.func27 ((by have h:=zk da dn dc d K x42.1 x42.2 ((-1:Int):Rat) ((1:Int):Rat) 1 _ (LD.out.ext hW) hP HK.out.fr HK.out.sq (nXf HK.out.k1 dZ) HK.out.k2 (g42.1.raw Zm.out dZ) (g42.2.raw Z1.out dZ) Zm.out Z1.out dZ dZ;rw [Em.out,E1.out,HPV.out] at h;exact h))
 refine qZ ?_;refine aj ?_;intro w6 hI;have hE:=he0.out.trans hI.ext;clear hI he0 hz0 hc0 hf0;replace HX:=hE.tr HX;simp only [pD];cases v
 ·go_wp2
  go_ret
  exact ⟨(),by rw [HV.out];rfl,HX.out,trivial⟩
 ·go_wp2
  go_ret
  exact ⟨(),by rw [HV.out];rfl,HX.out,trivial⟩
def Cx(g:Rat)(e:List Rat)(p:Int)(d:List Rat):Int×List Rat×List Rat:=if dF g e p d=true then (0,tz ((aq (aq e e) (bF plQ p.toNat)).map (·*g)),tz d) else (2,[],[])
theorem yV{g:Rat}{e:List Rat}{p:Int}{d:List Rat}(h:dF g e p d=true):0≤p∧p≤48:=by
 unfold dF at h;have h1:=of_decide_eq_true (Bool.and_eq_true_iff.1 h).1;exact ⟨h1.2.1,h1.2.2.1⟩
theorem uv(x:PH)(g:Rat)(e d:List Rat)(K S T:Nat)(w:World)(h:m9 w x g e d)(hP:x.d.n≤49)(hk:DnK K x.d.n d)(hEn:x.e.n≤25)(fe:FrB S e)(hS:S≤10000)(zg:Sz T g)(hT:T≤10000) :
  ak 41 [x.v] w FE (FEP (Cx g e x.p d)):=by
 obtain ⟨⟨gn,ga,gl,gc,gb,gm,gd⟩,⟨ea,en,ec⟩,p,⟨da,dn,dc⟩⟩:=x;have HX:=Hi (Ext.refl w);have HR:=Hi h;have RG:=Hi h.1;have LE:=Hi h.2.1;have LD:=Hi h.2.2;have HEn:=Hi h.2.1.len;have HDn:=Hi h.2.2.len;have HK:=Hi hk;have FE':=Hi fe;have ZG:=Hi zg;simp only at hP hEn RG LE LD HEn HDn HK;clear h hk fe zg;unfold ak;go_enter Tryz.func41,Tryz.ntmps41
 go_upto_region 1 with fail
 refine kQ ?_;intro w1 hE B1 B2 hz_w1 hr_w1;refine mV5 hE ?_ HX HR RG LE LD;clear HX HR RG LE LD;intro HX HR RG LE LD;replace b_B1:=bX3 B1
 go_wp2_with fail
 refine cM (nz ⟨⟨gn,ga,gl,gc,gb,gm,gd⟩,⟨ea,en,ec⟩,p,⟨da,dn,dc⟩⟩ g e d K _ HR.out hP HK.out) fun x2 w2 hE _=>?_
 refine mV6 hE ?_ B1 B2 HX RG LE LD;clear B1 B2 HX RG LE LD;intro B1 B2 HX RG LE LD;replace b_B1:=bX3 B1;replace b_B2:=bX3 B2;obtain ⟨v,hv⟩:∃ v,v=dF g e p d:=⟨_,rfl⟩;have HV:=Hi hv;rw [show dF g e (PH.p ⟨⟨gn,ga,gl,gc,gb,gm,gd⟩,⟨ea,en,ec⟩,p,⟨da,dn,dc⟩⟩) d=v from hv.symm];clear hv;clear HR;cases v
 ·have HQ:Hid (Cx g e p d=(2,[],[])):=Hi (by unfold Cx;rw [←HV.out];rfl);go_wp2;clear RG;clear LE;clear LD;refine wB (F:=fun W=>bodyPost _ _ _ _ _ W) B2.out rfl ?_;intro w3 T;replace HX:=Hi (T.ext HX.out zo);replace B2:=Hi (T.bx);clear T;replace b_B2:=bX3 B2;exact nXa (v:=FE (⟨⟨none,0,0⟩,⟨none,0,0⟩⟩,2)) (by simp [results,Tryz.results41,go_sem,b_B2.1,FE]) rfl ⟨(⟨⟨none,0,0⟩,⟨none,0,0⟩⟩,2),rfl,HX.out,by rw [HQ.out];exact ⟨rfl,AO _⟩⟩
 obtain ⟨hp0,hp1⟩:=yV HV.out.symm;obtain ⟨k,rfl⟩:∃ k:Nat,p=(k:Nat):=⟨p.toNat,zo⟩;have hk48:k≤48:=zo;have HQ:Hid (Cx g e (k:Nat) d=(0,tz ((aq (aq e e) (bF plQ k)).map (·*g)),tz d)):=Hi (by unfold Cx;rw [←HV.out,if_pos rfl,Int.toNat_natCast]);have F1:Hid (FrB (2*S+1) (aq e e)):=Hi ((FE'.out.mul FE'.out (by have:=HEn.out;omega)).mono zo);have N1:Hid ((aq e e).length≤50):=Hi (nXf (bg (n:=25) (m:=25) (by rw [HEn.out];exact hEn) (by rw [HEn.out];exact hEn)) dZ);have F2:Hid (FrB 99 (bF plQ k)):=Hi (we hk48);have N2:Hid ((bF plQ k).length≤49):=Hi (nXf (gg k) zo);have F3:Hid (FrB (2*S+101) (aq (aq e e) (bF plQ k))):=Hi ((F1.out.mul F2.out (by have:=N1.out;omega)).mono zo);have N3:Hid ((aq (aq e e) (bF plQ k)).length≤98):=Hi (nXf (bg N1.out N2.out) dZ);clear HV hp0 hp1
 go_upto_region 3 with fail
 refine wpG 9 (fun opIx=>match opIx with
  | 4=>.spec (SH) (default) (SH.v) (fun x w'=>aD w' x (aq e e))
  | 7=>.spec (SH) (default) (SH.v) (fun x w'=>aD w' x (bF plQ k))
  | 8=>.spec (SH) (default) (SH.v) (fun x w'=>aD w' x (aq (aq e e) (bF plQ k)))
  | _=>.quiet) (fun|8=>[4,7]|_=>[]) fun w0 he0 hz0 hc0 hf0=>?_
 refine wps he0 (fun w1 hW hG=>?_) fun x30=>?_
 ·exact spc [.slice ea en ec,.slice ea en ec] Tryz.func100 ((eW ea ea en ec en ec e e S S _ (LE.out.ext hW) (LE.out.ext hW) zo zo FE'.out FE'.out zo).weak (fun _ _ _ h=>h.can))
 refine qZ ?_;refine wps he0 (fun w1 hW hG=>?_) fun x31=>?_
 ·exact spc [.int .i64 (k:Nat)] Tryz.func101 (dH k _ hk48)
 refine qZ ?_;refine wps he0 (fun w1 hW hG=>?_) fun x32=>?_
 ·have g30:=gS (hG 4 dZ);have g31:=gS (hG 7 dZ);exact spc [x30.v,x31.v] Tryz.func100 ((eW x30.a x31.a x30.n x30.c x31.n x31.c _ _ (2*S+1) 99 _ (g30.raw F1.out.sz zo) (g31.raw F2.out.sz dZ) (by have h:=g30.len;have h2:=N1.out;omega) (by have h:=g31.len;have h2:=N2.out;omega) F1.out F2.out zo).weak (fun _ _ _ h=>h.can))
 refine qZ ?_;refine aj ?_;intro w3 hI;have hE:=he0.out.trans hI.ext;have G32:=gT (hI.facts 8);clear hI he0 hz0 hc0 hf0;refine mV5 hE ?_ B1 RG LD HX B2;clear B1 RG LD HX B2;intro B1 RG LD HX B2;replace b_B1:=bX3 B1;simp only [pD];obtain ⟨ma,mn,mc⟩:=x32;have LM:=Hi G32.out;clear G32;have hmn:mn≤98:=by have h:=LM.out.len;have h2:=N3.out;simp only at h;omega
 simp only [SH.v]
 go_upto_region 4 with fail
 refine wpG 8 (fun opIx=>match opIx with
  | 3=>.spec (SH) (default) (SH.v) (fun x w'=>aD w' x (tz ((aq (aq e e) (bF plQ k)).map (·*g))))
  | 6=>.spec (SH) (default) (SH.v) (fun x w'=>aD w' x (tz d))
  | _=>.quiet) (fun _=>[]) fun w0 he0 hz0 hc0 hf0=>?_
 refine wps he0 (fun w1 hW hG=>?_) fun x40=>?_
 ·exact spc [.slice ma mn mc,RH.v ⟨gn,ga,gl,gc,gb,gm,gd⟩] Tryz.func102 ((bO ma mn mc (aq (aq e e) (bF plQ k)) ⟨gn,ga,gl,gc,gb,gm,gd⟩ g _ ((LM.out.ext hW).raw F3.out.sz zo) (RG.out.ext hW) zo (F3.out.sz.mono zo) (ZG.out.mono zo)).weak (fun _ _ _ h=>h.can))
 refine qZ ?_;refine wps he0 (fun w1 hW hG=>?_) fun x41=>?_
 ·exact spc [.slice da dn dc] Tryz.func103 ((pN da dn dc d _ (LD.out.ext hW) zo).weak (fun _ _ _ h=>h.can))
 refine qZ ?_;refine aj ?_;intro w4 hI;have hE:=he0.out.trans hI.ext;have G40:=gT (hI.facts 3);have G41:=gT (hI.facts 6);clear hI he0 hz0 hc0 hf0;refine mV2 hE ?_ HX B2;clear HX B2;intro HX B2;replace b_B2:=bX3 B2;simp only [pD];obtain ⟨ua,un,uc⟩:=x40;obtain ⟨va,vn,vc⟩:=x41;simp only [SH.v];go_wp2;refine wB (F:=fun W=>bodyPost _ _ _ _ _ W) B2.out rfl ?_;intro w5 T;have L1:=Hi (G40.out.put2 B2.out T);have L2:=Hi (G41.out.put2 B2.out T);clear G40 G41;clear RG;clear LE;clear LD;clear LM;replace HX:=Hi (T.ext HX.out zo);replace B2:=Hi (T.bx);clear T;replace b_B2:=bX3 B2;exact nXa (v:=FE (⟨⟨ua,un,uc⟩,⟨va,vn,vc⟩⟩,0)) (by simp [results,Tryz.results41,go_sem,b_B2.1,FE]) rfl ⟨(⟨⟨ua,un,uc⟩,⟨va,vn,vc⟩⟩,0),rfl,HX.out,by rw [HQ.out];exact ⟨rfl,L1.out,L2.out⟩⟩
def cc(N:Nat)(u v:Nat→Rat)(k:Nat):Rat:=sm N (fun i=>u i*v (i+k))
def ttM(x:Rat):Nat→Rat×Rat
 | 0=>(1,0)
 | n+1=>(x*(ttM x n).1-(1-x*x)*(ttM x n).2,x*(ttM x n).2+(ttM x n).1)
def iv(p:List Rat)(x:Rat)(N:Nat):Rat:=sm N (fun i=>seq p i*(ttM x i).2)
theorem Dk(p q:List Rat)(x:Rat):evV (subV p q) x=evV p x-evV q x:=by
 unfold subV;rw [Sg.ev_add5];have h:evV (q.map (fun y=>-y)) x=-1*evV q x:=gU (fun n=>by
  show (q.map (fun y=>-y)).getD n 0=-1*q.getD n 0;rw [nXd,nXd,nXw];cases q[n]? with
  | none=>show (0:Rat)=-1*0;grind
  | some v=>show -v=-1*v;grind) x
 rw [h];grind
theorem CD{p:List Rat}{k:Rat}(hk:0<k)(h:∀ x,-1≤x→x≤1→k≤evV p x):yT p (-1) 1=true:=by
 have h0:=h (-1) dZ dZ;have hz:tz p≠[]:=fun e=>by have:=Sg.ev_tznil.1 e (-1);grind
 unfold yT;rw [if_neg hz,k7 dZ,k8 dZ,decide_eq_true_eq];refine ⟨Sg.cnt6_on hk (-1) 1 dZ (fun x hx hy=>by rw [xE];exact h x hx hy),?_⟩;rw [Sg.sg_pos (show 0<evV p (-1) by grind)];decide
end Go.Proofs.YtafgmcimcbhhjaaGreat
/- What Nonnegative and Positive say of the values. Plain facts. -/
namespace Go.Proofs.YtafgmcimcbhhjaaGreat.Sg
open Go.RowKit Go.Front Go.Num Go.Stab Go.Proofs.YtafgmcimcbhhjaaGreat
theorem Ij{c x:Rat}(h:0<c):sg (c*x)=sg x:=by rw [jS,sg_pos h];omega
theorem CA{a:Rat}:∀ (k:Nat) (p:List Rat) (g:Rat→Rat),Pf g→tz p≠[]→(∀ x,evV p x=(x-a) ^ k*g x)→k<(tz p).length:=by
 intro k;induction k with
 | zero=>intro p g _ h _;exact nYh.2 h
 | succ k ih =>
  intro p g hg h he;obtain ⟨q,hq⟩:=((Pf.lin a).pow k).mul hg;have hq2:∀ x,evV q x=(x-a) ^ k*g x:=fun x=>by rw [←hq]
  have h1:∀ x,evV p x=(x-a)*evV q x:=fun x=>by rw [he x,hq2 x,Rat.pow_succ];grind
  have hq0:tz q≠[]:=fun h2=>by
   obtain ⟨y,hy⟩:=rI h;exact hy (by rw [h1,ev_tznil.1 h2 y];grind)
  have:=ih q g hg hq0 hq2;have:=rL h1 hq0;omega
theorem cQ(l:List Rat)(x:Rat):evV (tz l) x=evV l x:=(gU (c:=1) (fun i=>by rw [bf,Rat.one_mul]) x).trans (Rat.one_mul _)
theorem Ct{a:Rat}:∀ (k n:Nat) (q:List Rat) (g:Rat→Rat),k<n→Pf g→g a≠0→(∀ x,evV q x=(x-a) ^ k*g x)→kv n q a=sg (g a):=by
 intro k;induction k with
 | zero =>
  intro n q g hk hg hga he;obtain ⟨m,rfl⟩:∃ m,n=m+1:=⟨n-1,zo⟩;have h1:evV q a=g a:=by rw [he a,Rat.pow_zero];grind
  have hq:q≠[]:=fun h=>hga (by rw [←h1,h];rfl)
  show (if q=[] then 0 else if sg (evV q a)≠0 then sg (evV q a) else kv m (tz (derL q)) a)=_;rw [if_neg hq,h1,if_pos (Gj hga)]
 | succ k ih =>
  intro n q g hk hg hga he;obtain ⟨m,rfl⟩:∃ m,n=m+1:=⟨n-1,zo⟩;have h1:evV q a=0:=by rw [he a,Rat.pow_succ];grind
  have hq:q≠[]:=fun h=>by
   have h2:∀ x,(x-a) ^ (k+1)*g x=0:=fun x=>by rw [←he x,h];rfl
   have h3:=Bm ((Pf.lin a).pow (k+1)) hg h2 ⟨a+1,by
    show (a+1-a) ^ (k+1)≠0;have e:a+1-a=1:=by grind
    rw [e];have:∀ k:Nat,(1:Rat) ^ k=1:=fun k=>by
     induction k with
     | zero=>exact Rat.pow_zero _
     | succ k ih=>rw [Rat.pow_succ,ih,Rat.mul_one]
    rw [this];decide⟩
   exact hga (h3 a)
  show (if q=[] then 0 else if sg (evV q a)≠0 then sg (evV q a) else kv m (tz (derL q)) a)=_;rw [if_neg hq,h1,if_neg (fun h=>h jk)];obtain ⟨g',hg',hd⟩:=wg hg;have h4:=(IsD.mul (IsD.pow a k) hd ((Pf.lin a).pow (k+1)) hg (((Pf.lin a).pow k).smul _)).uniq (by
   have e:=IsD.ev q;rw [show evV q=fun x=>(x-a) ^ (k+1)*g x from funext he] at e;exact e)
  have hpos:(0:Rat)<((k+1:Nat):Rat):=Rat.natCast_pos.2 (Nat.succ_pos k);have h5:=ih m (tz (derL q)) (fun x=>((k+1:Nat):Rat)*g x+(x-a)*g' x) zo ((hg.smul _).add ((Pf.lin a).mul hg')) (fun h=>by
   have h7:((k+1:Nat):Rat)*g a=0:=by grind
   rcases nXr.1 h7 with h8|h8
   ·rw [h8] at hpos;exact absurd hpos Rat.lt_irrefl
   ·exact hga h8) (fun x=>by
   rw [cQ,dt,←h4 x,Rat.pow_succ];grind)
  rw [h5];show sg (((k+1:Nat):Rat)*g a+(a-a)*g' a)=sg (g a);rw [show ((k+1:Nat):Rat)*g a+(a-a)*g' a=((k+1:Nat):Rat)*g a by grind,Ij hpos]
theorem Ir{g:Rat→Rat}(hg:Pf g){a:Rat}(h:0<g a):∃ e,0<e∧∀ s,a≤s→s<a+e→0<g s:=by
 obtain ⟨K,hK,k1⟩:=hg.lip a (a+1);obtain ⟨e,he,k2⟩:=jj hK h;obtain ⟨c,hc,c1,c2⟩:=nJ he (show (0:Rat)<1 by decide);refine ⟨c,hc,fun s h1 h2=>?_⟩;have h3:=(Big.sign (r:=g a) k1 (Or.inl Rat.le_refl) Rat.le_refl h1 (by grind) (k2 _ (by grind))).1;rw [sg_pos h] at h3;rcases ck (g s) with ⟨h4,h5⟩|⟨h4,h5⟩|⟨h4,h5⟩
 ·rw [h5] at h3;exact absurd h3 dZ
 ·rw [h5] at h3;exact absurd h3 dZ
 ·exact h4
theorem Cp.mulr{a b c:Rat→Rat}(h:Cp a b)(k:Cp a c)(ha:Pf a)(hb:Pf b)(hc:Pf c):Cp a (fun x=>b x*c x):=by
 obtain ⟨u,v,hu,hv,e⟩:=h;obtain ⟨u',v',hu',hv',e'⟩:=k;refine ⟨fun x=>u x*(u' x*a x+v' x*c x)+v x*b x*u' x,fun x=>v x*v' x,(hu.mul ((hu'.mul ha).add (hv'.mul hc))).add ((hv.mul hb).mul hu'),hv.mul hv',fun x=>?_⟩;have e1:=e x;have e2:=e' x;show (u x*(u' x*a x+v' x*c x)+v x*b x*u' x)*a x+v x*v' x*(b x*c x)=1;have:(u x*(u' x*a x+v' x*c x)+v x*b x*u' x)*a x+v x*v' x*(b x*c x)=(u x*a x+v x*b x)*(u' x*a x+v' x*c x):=by grind
 rw [this,e1,e2,Rat.mul_one]
theorem EN{q:List Rat}(h0:tz q≠[]){a:Rat}{n:Nat}(hn:(tz q).length≤n)(h:kv n q a<0){b:Rat}(hb:a<b):∃ s,a<s∧s<b∧evV q s<0:=by
 obtain ⟨k,g,hg,hga,he⟩:=Is a _ q (nXe _) h0;have hk:=CA k q g hg h0 he;rw [Ct k n q g zo hg hga he] at h;have hgp:0 < -1*g a:=by
  rcases ck (g a) with ⟨h4,h5⟩|⟨h4,h5⟩|⟨h4,h5⟩
  ·grind
  ·rw [h5] at h;exact absurd h dZ
  ·rw [h5] at h;exact absurd h dZ
 obtain ⟨e,he0,h1⟩:=Ir (hg.smul (-1)) hgp;obtain ⟨c,hc,c1,c2⟩:=nJ he0 (show 0<b-a by grind);have hmid:0<c / 2∧c / 2<c:=by
  have:=aK (a:=c) (b:=2) dZ;exact ⟨by grind,by grind⟩
 refine ⟨a+c / 2,by grind,by grind,?_⟩;rw [he];have h2:=h1 (a+c / 2) (by grind) (by grind);have h3:∀ k:Nat,0<(a+c / 2-a) ^ k:=fun k=>Rat.pow_pos (by grind)
 have h4:=Rat.mul_pos (h3 k) h2;have h5:(a+c / 2-a) ^ k*(-1*g (a+c / 2))=-((a+c / 2-a) ^ k*g (a+c / 2)):=by grind
 rw [h5] at h4;grind
theorem bY(p:List Rat)(k:Nat)(x:Rat):evV (bF p k) x=evV p x ^ k:=by
 induction k with
 | zero=>show 0*x+((1:Int):Rat)=_;rw [Rat.pow_zero];have:((1:Int):Rat)=1:=rfl;grind
 | succ k ih=>show evV (aq (bF p k) p) x=_;rw [aH,ih,Rat.pow_succ]
theorem dN(l:List Rat)(c x:Rat):evV (scP l c) x=c*evV l x:=by unfold scP;rw [cQ,bN]
theorem eG(x:Rat):evV plQ x=1+x:=by show (0*x+((1:Int):Rat))*x+((1:Int):Rat)=_;have:((1:Int):Rat)=1:=rfl;grind
theorem ez(x:Rat):evV miQ x=1-x:=by show (0*x+((-1:Int):Rat))*x+((1:Int):Rat)=_;have h1:((1:Int):Rat)=1:=rfl;have h2:((-1:Int):Rat)=-1:=rfl;grind
def hm(g:List Rat)(n:Nat)(a z:Rat):Nat→Rat
 | 0=>0
 | j+1=>hm g n a z j+g.getD j 0*a ^ j*z ^ (n-j)
theorem Bp(a b:Rat)(k:Nat):(a*b) ^ k=a ^ k*b ^ k:=by
 induction k with
 | zero=>rw [Rat.pow_zero,Rat.pow_zero,Rat.pow_zero,Rat.mul_one]
 | succ k ih=>rw [Rat.pow_succ,Rat.pow_succ,Rat.pow_succ,ih];grind
theorem jv(A B g:List Rat)(n:Nat)(c x:Rat)(j:Nat):evV (j7 A B g n c j) x=hm g n (c*evV A x) (evV B x) j:=by
 induction j with
 | zero=>rfl
 | succ j ih =>
  show evV (bA (j7 A B g n c j) (tz ((rO A B n j).map (·*(g.getD j 0*c ^ j))))) x=hm g n (c*evV A x) (evV B x) j+g.getD j 0*(c*evV A x) ^ j*evV B x ^ (n-j);rw [ev_add5,ih,cQ,bN];unfold rO;rw [aH,bY,bY,Bp];grind
theorem Ic:sqP 1=[0,1]:=by decide +kernel
theorem Ib:sqP 2=[1,-4,4]:=by decide +kernel
theorem Ia:sqP 3=[0,9,-24,16]:=by decide +kernel
theorem H8:sqP 4=[1,-16,80,-128,64]:=by decide +kernel
theorem Hw:sqP 5=[0,25,-200,560,-640,256]:=by decide +kernel
theorem Io:rtP 1=[1]:=by decide +kernel
theorem In:rtP 2=[-1,2]:=by decide +kernel
theorem Im:rtP 3=[-3,4]:=by decide +kernel
theorem Il:rtP 4=[1,-8,8]:=by decide +kernel
theorem Ik:rtP 5=[5,-20,16]:=by decide +kernel
def rV(n:Nat)(a z:Rat):Rat:=if n=1 then 1 else if n=2 then 2*a-z else if n=3 then 4*a-3*z else if n=4 then 8*a*a-8*a*z+z*z else 16*a*a-20*a*z+5*z*z
def wV(n:Nat)(a z:Rat):Rat:=(if n % 2=1 then a else 1)*(rV n a z*rV n a z)
def lV(n:Nat)(a z:Rat):Rat:=if n=1 then 1 else if n=2 then 4*a else if n=3 then (z-4*a)*(z-4*a) else if n=4 then 16*a*((2*a-z)*(2*a-z)) else (16*a*a-12*a*z+z*z)*(16*a*a-12*a*z+z*z)
theorem Eh{n:Nat}(h1:1≤n)(h5:n≤5):n=1∨n=2∨n=3∨n=4∨n=5:=by omega
theorem k6(a:Rat):a ^ 0=1:=Rat.pow_zero ..
theorem kk(a:Rat):a ^ 1=a:=by rw [show (1:Nat)=0+1 from rfl,Rat.pow_succ,Rat.pow_zero];grind
theorem qL(a:Rat):a ^ 2=a*a:=by rw [show (2:Nat)=1+1 from rfl,Rat.pow_succ,kk]
theorem Bi(a:Rat):a ^ 3=a*a*a:=by rw [show (3:Nat)=2+1 from rfl,Rat.pow_succ,qL]
theorem Ee(a:Rat):a ^ 4=a*a*a*a:=by rw [show (4:Nat)=3+1 from rfl,Rat.pow_succ,Bi]
theorem Gp(a:Rat):a ^ 5=a*a*a*a*a:=by rw [show (5:Nat)=4+1 from rfl,Rat.pow_succ,Ee]
theorem xh{n:Nat}(h1:1≤n)(h5:n≤5)(a z:Rat):hm (sqP n) n a z (sqP n).length=wV n a z:=by
 rcases Eh h1 h5 with rfl|rfl|rfl|rfl|rfl
 ·rw [Ic];show 0+(0:Rat)*a ^ 0*z ^ 1+(1:Rat)*a ^ 1*z ^ 0=a*(1*1);rw [k6,kk,kk,k6];grind
 ·rw [Ib];show 0+(1:Rat)*a ^ 0*z ^ 2+(-4:Rat)*a ^ 1*z ^ 1+(4:Rat)*a ^ 2*z ^ 0=1*((2*a-z)*(2*a-z));rw [k6,kk,kk,k6,qL,qL];grind
 ·rw [Ia];show 0+(0:Rat)*a ^ 0*z ^ 3+(9:Rat)*a ^ 1*z ^ 2+(-24:Rat)*a ^ 2*z ^ 1+(16:Rat)*a ^ 3*z ^ 0=a*((4*a-3*z)*(4*a-3*z));rw [k6,kk,kk,k6,qL,qL,Bi,Bi];grind
 ·rw [H8];show 0+(1:Rat)*a ^ 0*z ^ 4+(-16:Rat)*a ^ 1*z ^ 3+(80:Rat)*a ^ 2*z ^ 2+(-128:Rat)*a ^ 3*z ^ 1+(64:Rat)*a ^ 4*z ^ 0=1*((8*a*a-8*a*z+z*z)*(8*a*a-8*a*z+z*z));rw [k6,kk,kk,k6,qL,qL,Bi,Bi,Ee,Ee];grind
 ·rw [Hw];show 0+(0:Rat)*a ^ 0*z ^ 5+(25:Rat)*a ^ 1*z ^ 4+(-200:Rat)*a ^ 2*z ^ 3+(560:Rat)*a ^ 3*z ^ 2+(-640:Rat)*a ^ 4*z ^ 1+(256:Rat)*a ^ 5*z ^ 0=a*((16*a*a-20*a*z+5*z*z)*(16*a*a-20*a*z+5*z*z));rw [k6,kk,kk,k6,qL,qL,Bi,Bi,Ee,Ee,Gp,Gp];grind
theorem Fi{n:Nat}(h1:1≤n)(h5:n≤5)(a z:Rat):hm (rtP n) (n / 2) a z (rtP n).length=rV n a z:=by
 rcases Eh h1 h5 with rfl|rfl|rfl|rfl|rfl
 ·rw [Io];show 0+(1:Rat)*a ^ 0*z ^ 0=1;rw [k6,k6];grind
 ·rw [In];show 0+(-1:Rat)*a ^ 0*z ^ 1+(2:Rat)*a ^ 1*z ^ 0=2*a-z;rw [k6,kk,kk,k6];grind
 ·rw [Im];show 0+(-3:Rat)*a ^ 0*z ^ 1+(4:Rat)*a ^ 1*z ^ 0=4*a-3*z;rw [k6,kk,kk,k6];grind
 ·rw [Il];show 0+(1:Rat)*a ^ 0*z ^ 2+(-8:Rat)*a ^ 1*z ^ 1+(8:Rat)*a ^ 2*z ^ 0=8*a*a-8*a*z+z*z;rw [k6,kk,kk,k6,qL,qL];grind
 ·rw [Ik];show 0+(5:Rat)*a ^ 0*z ^ 2+(-20:Rat)*a ^ 1*z ^ 1+(16:Rat)*a ^ 2*z ^ 0=16*a*a-20*a*z+5*z*z;rw [k6,kk,kk,k6,qL,qL];grind
theorem uQ{n:Nat}(h1:1≤n)(h5:n≤5)(a z:Rat):z ^ n-wV n a z=(z-a)*lV n a z:=by
 rcases Eh h1 h5 with rfl|rfl|rfl|rfl|rfl
 ·show z ^ 1-a*(1*1)=(z-a)*1;rw [kk];grind
 ·show z ^ 2-1*((2*a-z)*(2*a-z))=(z-a)*(4*a);rw [qL];grind
 ·show z ^ 3-a*((4*a-3*z)*(4*a-3*z))=(z-a)*((z-4*a)*(z-4*a));rw [Bi];grind
 ·show z ^ 4-1*((8*a*a-8*a*z+z*z)*(8*a*a-8*a*z+z*z))=(z-a)*(16*a*((2*a-z)*(2*a-z)));rw [Ee];grind
 ·show z ^ 5-a*((16*a*a-20*a*z+5*z*z)*(16*a*a-20*a*z+5*z*z))=(z-a)*((16*a*a-12*a*z+z*z)*(16*a*a-12*a*z+z*z));rw [Gp];grind
theorem Id{n:Nat}{a:Rat}(z:Rat)(ha:0≤a):0≤lV n a z:=by
 unfold lV;split
 ·decide
 ·split
  ·grind
  ·split
   ·exact oe _
   ·split
    ·exact gw (by grind) (oe _)
    ·exact oe _
theorem Hl{n:Nat}{a:Rat}(z:Rat)(ha:0≤a):0≤wV n a z:=by
 unfold wV;refine gw ?_ (oe _);split
 ·exact ha
 ·decide
theorem nC{a:Rat}(h:0≤a)(n:Nat):0≤a ^ n:=Rat.pow_nonneg h
theorem AW{n:Nat}(h1:1≤n)(h5:n≤5)(z:Rat):wV n z z=z ^ n:=by
 have:=uQ h1 h5 z z;grind
theorem ES{n:Nat}(h1:1≤n)(h5:n≤5)(z:Rat):rV n z z=z ^ (n / 2):=by
 rcases Eh h1 h5 with rfl|rfl|rfl|rfl|rfl
 ·show (1:Rat)=z ^ 0;rw [k6]
 ·show 2*z-z=z ^ 1;rw [kk];grind
 ·show 4*z-3*z=z ^ 1;rw [kk];grind
 ·show 8*z*z-8*z*z+z*z=z ^ 2;rw [qL];grind
 ·show 16*z*z-20*z*z+5*z*z=z ^ 2;rw [qL];grind
theorem Cp.powr{a b:Rat→Rat}(h:Cp a b)(pa:Pf a)(pb:Pf b)(n:Nat):Cp a (fun x=>b x ^ n):=by
 induction n with
 | zero=>exact ⟨fun _=>0,fun _=>1,Pf.const 0,Pf.const 1,fun x=>by show 0*a x+1*(b x ^ 0)=1;rw [Rat.pow_zero];grind⟩
 | succ n ih =>
  have:=ih.mulr h pa (pb.pow n) pb;rw [show (fun x=>b x ^ (n+1))=fun x=>b x ^ n*b x from funext fun x=>Rat.pow_succ _ _];exact this
theorem Cp.change{a b e o:Rat→Rat}{p q r s:Rat}(h:Cp a b)(ha:∀ x,a x=p*e x+q*o x)(hb:∀ x,b x=r*e x+s*o x):Cp e o:=by
 obtain ⟨u,v,hu,hv,h1⟩:=h;refine ⟨_,_,(hu.smul p).add (hv.smul r),(hu.smul q).add (hv.smul s),fun x=>?_⟩;have:=h1 x;rw [ha,hb] at this;show (p*u x+r*v x)*e x+(q*u x+s*v x)*o x=1;grind
theorem Cp.smulr{a b:Rat→Rat}{k:Rat}(h:Cp a b)(hk:k≠0):Cp a (fun x=>k*b x) :=
 h.change (p:=1) (q:=0) (r:=0) (s:=1 / k) (fun x=>by grind) (fun x=>by have:=aK (a:=1) (b:=k) hk;grind)
theorem qU{a b:Rat→Rat}(h:Cp a b)(ha:∀ x,-1≤x→x≤1→0≤a x)(hb:∀ x,-1≤x→x≤1→0≤b x):∃ k,0<k∧∀ x,-1≤x→x≤1→k≤a x+b x:=by
 obtain ⟨d,hd,h1⟩:=h.bound (-1) 1;refine ⟨d,hd,fun x h2 h3=>?_⟩;have a1:=ha x h2 h3;have b1:=hb x h2 h3;rcases h1 x h2 h3 with (k|k)|(k|k) <;> grind
theorem FF:Cp (fun x=>1+x) (fun x=>1-x):=⟨fun _=>1 / 2,fun _=>1 / 2,Pf.const _,Pf.const _,fun x=>by have:=aK (a:=1) (b:=2) dZ;grind⟩
theorem Gb:Pf (fun x=>1+x):=⟨plQ,funext fun x=>(eG x).symm⟩
theorem EW:Pf (fun x=>1-x):=⟨miQ,funext fun x=>(ez x).symm⟩
theorem Cp.addq{a b c q:Rat→Rat}(h:Cp a b)(pq:Pf q)(hc:∀ x,c x=b x+a x*q x):Cp a c:=by
 obtain ⟨u,v,hu,hv,h1⟩:=h;refine ⟨_,v,hu.sub (hv.mul pq),hv,fun x=>?_⟩;have:=h1 x;rw [hc];show (u x-v x*q x)*a x+v x*(b x+a x*q x)=1;grind
theorem Ig{n:Nat}(h1:1≤n)(h5:n≤5){z a:Rat→Rat}(pz:Pf z)(pa:Pf a)(h:Cp z a):Cp z (fun x=>wV n (a x) (z x)):=by
 have hr:Cp z (fun x=>rV n (a x) (z x))∧Pf (fun x=>rV n (a x) (z x)):=by
  rcases Eh h1 h5 with rfl|rfl|rfl|rfl|rfl
  ·exact ⟨⟨fun _=>0,fun _=>1,Pf.const 0,Pf.const 1,fun x=>by show 0*_+1*(1:Rat)=1;grind⟩,Pf.const 1⟩
  ·exact ⟨(h.smulr (k:=2) dZ).addq (q:=fun _=>-1) (Pf.const _) (fun x=>by show 2*a x-z x=_;grind),((pa.smul 2).sub pz)⟩
  ·exact ⟨(h.smulr (k:=4) dZ).addq (q:=fun _=>-3) (Pf.const _) (fun x=>by show 4*a x-3*z x=_;grind),((pa.smul 4).sub (pz.smul 3))⟩
  ·exact ⟨((h.mulr h pz pa pa).smulr (k:=8) dZ).addq (q:=fun x=>z x-8*a x) (pz.sub (pa.smul 8)) (fun x=>by show 8*a x*a x-8*a x*z x+z x*z x=_;grind),(((pa.smul 8).mul pa).sub ((pa.smul 8).mul pz)).add (pz.mul pz)⟩
  ·exact ⟨((h.mulr h pz pa pa).smulr (k:=16) dZ).addq (q:=fun x=>5*z x-20*a x) ((pz.smul 5).sub (pa.smul 20)) (fun x=>by show 16*a x*a x-20*a x*z x+5*z x*z x=_;grind),(((pa.smul 16).mul pa).sub ((pa.smul 20).mul pz)).add ((pz.smul 5).mul pz)⟩
 have hrr:=hr.1.mulr hr.1 pz hr.2 hr.2;by_cases hn:n % 2=1
 ·have:=h.mulr hrr pz pa (hr.2.mul hr.2);rw [show (fun x=>wV n (a x) (z x))=fun x=>a x*(rV n (a x) (z x)*rV n (a x) (z x)) from funext fun x=>by unfold wV;rw [if_pos hn]];exact this
 ·rw [show (fun x=>wV n (a x) (z x))=fun x=>rV n (a x) (z x)*rV n (a x) (z x) from funext fun x=>by unfold wV;rw [if_neg hn,Rat.one_mul]];exact hrr
end Go.Proofs.YtafgmcimcbhhjaaGreat.Sg
