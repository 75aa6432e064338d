/- The divisors of a polynomial with whole coefficients are small: the bound. Plain facts. -/
import Derived.Test.YtafgmcimcbhhjaaGreatQIK15
import Derived.Test.YtafgmcimcbhhjaaGreatQIK14
import Derived.Test.YtafgmcimcbhhjaaGreatQIK13
import Derived.Test.YtafgmcimcbhhjaaGreatQIK11
import Derived.Test.YtafgmcimcbhhjaaGreatQIK4
import Derived.Test.YtafgmcimcbhhjaaGreatQIK8
import Derived.Test.YtafgmcimcbhhjaaGreatQIK5
import Derived.Test.YtafgmcimcbhhjaaGreatQIK6
set_option linter.unusedVariables false
namespace Go.Proofs.YtafgmcimcbhhjaaGreat.Sg
open Go.RowKit Go.Front Go.Num Go.Stab Go.Proofs.YtafgmcimcbhhjaaGreat Sie
theorem zv:∀ (m:Nat) (g:List Rat) (a B R:Rat),ln g≤m+1→0≤B→0≤R→(∀ t:Nat,t≤m→Sg.Bd B (evV g (a+(t:Rat))))→(∀ t:Nat,t≤m→Sg.Bd R (a+(t:Rat)))→∀ i,Sg.Bd (B*(2*R+3) ^ m) (seq g i):=by
 intro m;induction m with
 | zero =>
  intro g a B R hl hB hR hv hp i;rw [Rat.pow_zero,Rat.mul_one];cases i with
  | zero=>rw [←j5 hl (a+((0:Nat):Rat))];exact hv 0 (nXd 0)
  | succ i=>rw [zW (by omega)];exact ⟨by grind,hB⟩
 | succ m ih =>
  intro g a B R hl hB hR hv hp i;obtain ⟨c,hc⟩:∃ c,c=a+((m+1:Nat):Rat):=⟨_,rfl⟩;have hcv:=hv (m+1) (nXd _);have hcR:=hp (m+1) (nXd _);rw [←hc] at hcv hcR;have one:∀ t:Rat,∀ x,evV [t] x=t:=fun t x=>by show 0*x+t=t;grind
  obtain ⟨f,hf⟩:∃ f,f=subV g [evV g c]:=⟨_,rfl⟩;have hfx:∀ x,evV f x=evV g x-evV g c:=fun x=>by rw [hf,em,one]
  obtain ⟨g1',⟨g1,rfl⟩,h1⟩:=AL (Pf.ev f) (a:=c) (by rw [hfx];grind);have hlf:ln f≤m+2:=by
   have h2:=iw g [evV g c];have h3:ln [evV g c]≤1:=ai [evV g c];rw [hf];omega
  have hl1:ln g1≤m+1:=by
   by_cases h2:tz g1=[]
   ·show (tz g1).length≤_;rw [h2];exact Nat.zero_le _
   ·have h3:=yM h1 h2;have h4:ln g1<ln f:=h3;omega
  have hmul:∀ d y:Rat,1≤d→Sg.Bd (2*B) (d*y)→Sg.Bd (2*B) y:=fun d y hd hb=>by
   rcases tot 0 y with h|h
   ·have h2:=fi hd h;exact ⟨by grind,by have:=hb.2;grind⟩
   ·have h2:=fi hd (show 0≤-y by grind);exact ⟨by have:=hb.1;grind,by grind⟩
  have hv1:∀ t:Nat,t≤m→Sg.Bd (2*B) (evV g1 (a+(t:Rat))):=fun t ht=>by
   have h2:=h1 (a+(t:Rat));rw [hfx] at h2;have h3:((m+1:Nat):Rat)-(t:Rat)=((m+1-t:Nat):Rat):=by
    have:((m+1:Nat):Rat)=((m+1-t:Nat):Rat)+(t:Rat):=by rw [←Rat.natCast_add];congr 1;omega
    grind
   have h4:(1:Rat)≤((m+1-t:Nat):Rat):=by exact_mod_cast (show 1≤m+1-t by omega)
   refine hmul _ _ h4 ?_;have h5:((m+1-t:Nat):Rat)*evV g1 (a+(t:Rat))=-(evV g (a+(t:Rat))-evV g c):=by rw [h2,←h3,hc];grind
   rw [h5,show (2:Rat)*B=B+B by grind];exact ((hv t (by omega)).sub hcv).neg
  have hI:=ih g1 a (2*B) R hl1 (by grind) hR hv1 (fun t ht=>hp t (by omega));have hs:=sQ h1 i;have hsg:seq g i=seq f i+seq [evV g c] i:=by rw [hf,rQ];grind
  have hcon:Sg.Bd B (seq [evV g c] i):=by
   cases i with
   | zero=>exact hcv
   | succ i=>exact ⟨by show -B≤(0:Rat);grind,by show (0:Rat)≤B;exact hB⟩
  have hP:0≤(2*R+3) ^ m:=Rat.pow_nonneg (by grind);have hsh:Sg.Bd (2*B*(2*R+3) ^ m) (sh (seq g1) i):=by
   cases i with
   | zero =>
    have:=mi (show 0≤2*B by grind) hP;exact ⟨by show -_≤(0:Rat);grind,by show (0:Rat)≤_;exact this⟩
   | succ i=>exact hI i
  have hP1:1≤(2*R+3) ^ m:=by
   have:∀ k:Nat,(1:Rat)≤(2*R+3) ^ k:=fun k=>by
    induction k with
    | zero=>rw [Rat.pow_zero];exact Rat.le_refl
    | succ k ihk =>
     rw [Rat.pow_succ];have h6:=fi ihk (show 0≤2*R+3 by grind);grind
   exact this m
  rw [hsg,hs,Rat.pow_succ];refine ((hsh.sub (hcR.mul (hI i))).add hcon).mono ?_;have h7:=dK hP1 hB;generalize (2*R+3) ^ m=P at *
  grind
theorem yU{A x:Rat}(hA:1≤A)(hx:A≤x):∀ p:List Rat,(∀ y ∈ p,Wh y∧Sg.Bd (A-1) y)→tz p≠[]→Big 1 (evV p x):=by
 intro p;induction p with
 | nil=>intro _ h;exact absurd rfl h
 | cons c p ih =>
  intro h h0;obtain ⟨hc1,hc2⟩:=h c (List.mem_cons_self ..);have e:evV (c :: p) x=evV p x*x+c:=rfl;rw [e];by_cases h1:tz p=[]
  ·rw [ev_tznil.1 h1 x];have hc0:c≠0:=fun hc=>h0 (ev_tznil.2 fun y=>by show evV p y*y+c=0;rw [ev_tznil.1 h1 y,hc];grind)
   obtain ⟨z,hz⟩:=Wh.iff.1 hc1;rw [hz] at hc0 ⊢;have hz0:z≠0:=fun h=>hc0 (by rw [h];rfl)
   rcases (show 1≤z∨z≤-1 by omega) with h2|h2
   ·left
    have:((1:Int):Rat)≤(z:Rat):=Rat.intCast_le_intCast.2 h2;have e1:((1:Int):Rat)=1:=rfl;grind
   ·right
    have:(z:Rat)≤((-1:Int):Rat):=Rat.intCast_le_intCast.2 h2;have e1:((-1:Int):Rat)=-1:=rfl;grind
  ·have h2:=ih (fun y hy=>h y (List.mem_cons_of_mem _ hy)) h1;obtain ⟨b1,b2⟩:=hc2;rcases h2 with h3|h3
   ·left
    have h4:=fi h3 (show 0≤x by grind);grind
   ·right
    have h4:=fi h3 (show 0≤x by grind);grind
theorem AK{A X x:Rat}(hA:0≤A)(hx:0≤x)(hX:x≤X):∀ p:List Rat,(∀ y ∈ p,Sg.Bd A y)→Sg.Bd (A*(X+1) ^ p.length) (evV p x):=by
 intro p;induction p with
 | nil =>
  intro _;rw [List.length_nil,Rat.pow_zero,Rat.mul_one];exact ⟨by show -A≤(0:Rat);grind,hA⟩
 | cons c p ih =>
  intro h;have h1:=ih (fun y hy=>h y (List.mem_cons_of_mem _ hy));have h2:=h c (List.mem_cons_self ..);have hP:∀ k:Nat,(1:Rat)≤(X+1) ^ k:=fun k=>by
   induction k with
   | zero=>rw [Rat.pow_zero];exact Rat.le_refl
   | succ k ihk =>
    rw [Rat.pow_succ];have h6:=fi ihk (show 0≤X+1 by grind);grind
  have e:evV (c :: p) x=evV p x*x+c:=rfl;rw [e,List.length_cons,Rat.pow_succ];refine ((h1.mul (show Sg.Bd X x from ⟨by grind,hX⟩)).add h2).mono ?_;have h3:=dK (hP p.length) hA;generalize (X+1) ^ p.length=P at *
  grind
theorem z6{p:List Rat}(h:∀ i,Wh (seq p i)){x:Rat}(hx:Wh x):Wh (evV p x):=by
 have key:∀ p:List Rat,(∀ i,Wh (seq p i))→Wh (evV p x):=by
  intro p;induction p with
  | nil=>intro _;exact Wh.zero
  | cons c p ih=>intro h;exact ((ih fun i=>h (i+1)).mul hx).add (h 0)
 exact key p h
theorem ws{q d:List Rat}{S:Nat}(hq:∀ x ∈ q,Wz S x)(hq0:tz q≠[])(hd:Dv (evV d) (evV q))(hn:q.length≤1000):∀ x ∈ ax d,Wz ((S+1)*(2*q.length+1)) x:=by
 have hd0:tz d≠[]:=fun h0=>by
  obtain ⟨y,hy⟩:=vF hq0;obtain ⟨c,-,h1⟩:=hd;exact hy (by rw [h1,ev_tznil.1 h0 y];grind)
 have hdl:=kS hd hq0;have hql:=ai q;obtain ⟨g,hg⟩:∃ g,g=ax d:=⟨_,rfl⟩;have hgg:ax g=g:=by
  rw [hg];exact (bW (p:=d) (q:=ax d) (bF hd0) (fun n=>by rw [cX d n];grind)).symm
 obtain ⟨h,hh⟩:∃ h:List Rat,∀ x,evV q x=evV g x*evV h x:=by
  obtain ⟨c,hc,h1⟩:=hd;obtain ⟨h,hh⟩:=hc.smul (aK d);exact ⟨h,fun x=>by rw [h1,←hh,eo d x,hg];grind⟩
 have hqw:∀ i,Wh (seq q i):=fun i=>by rw [(gP hq i).1];exact Wh.int _
 have hhw:=wA hqw hq0 hgg hh;have hgw:∀ i,Wh (seq g i):=fun i=>by
  have:=nI d i;rw [←hg] at this;rw [this];exact Wh.int _
 obtain ⟨A,hA⟩:∃ A:Nat,A=W32 ^ S:=⟨_,rfl⟩;have hA1:1≤A:=by rw [hA];exact nYk aA
 have hA1':(1:Rat)≤(A:Rat):=by exact_mod_cast hA1
 obtain ⟨m,hm⟩:∃ m,ln g=m+1:=⟨ln g-1,by
  have:1≤ln g:=ez (by rw [hg,bt];exact fun k=>hd0 (cD.1 k));omega⟩
 have hmq:m+1≤q.length:=by
  have:ln g=(tz d).length:=by show (tz g).length=_;rw [hg,bt,aD]
  omega
 obtain ⟨X,hX⟩:∃ X:Nat,X=A+m:=⟨_,rfl⟩;have hcoef:∀ y ∈ q,Wh y∧Sg.Bd ((A:Rat)-1) y:=fun y hy=>by
  obtain ⟨w1,w2⟩:=hq y hy;refine ⟨w1,?_⟩;rw [w1.eq];have h1:-((A:Int)-1)≤y.num∧y.num≤(A:Int)-1:=by rw [hA];omega
  have h2:=Rat.intCast_le_intCast.2 h1.1;have h3:=Rat.intCast_le_intCast.2 h1.2;rw [Rat.intCast_neg,Rat.intCast_sub,Rat.intCast_natCast] at h2;rw [Rat.intCast_sub,Rat.intCast_natCast] at h3;exact ⟨h2,h3⟩
 have hB:=fun (t:Nat) (ht:t≤m)=>AK (A:=(A:Rat)) (X:=(X:Rat)) (x:=(A:Rat)+(t:Rat)) (by grind) (by
  have:(0:Rat)≤(t:Rat):=by exact_mod_cast Nat.zero_le t
  grind) (by rw [hX,←Rat.natCast_add];exact_mod_cast (show A+t≤A+m by omega)) q (fun y hy=>(hcoef y hy).2.mono (by grind))
 have hval:∀ t:Nat,t≤m→Sg.Bd ((A:Rat)*((X:Rat)+1) ^ q.length) (evV g ((A:Rat)+(t:Rat))):=fun t ht=>by
  have h1:=yU (A:=(A:Rat)) (x:=(A:Rat)+(t:Rat)) hA1' (by
   have:(0:Rat)≤(t:Rat):=by exact_mod_cast Nat.zero_le t
   grind) q hcoef hq0
  have h2:=hB t ht;have hxw:Wh ((A:Rat)+(t:Rat)):=by
   have h3:∀ k:Nat,Wh (k:Rat):=fun k=>Rat.den_natCast k
   exact (h3 A).add (h3 t)
  have hv1:=z6 hgw hxw;have hv2:=z6 hhw hxw;rw [hh] at h1 h2;generalize evV g ((A:Rat)+(t:Rat))=u at *
  generalize evV h ((A:Rat)+(t:Rat))=v at *
  generalize (A:Rat)*((X:Rat)+1) ^ q.length=C at *
  have hvz:v≠0:=fun h0=>by
   rw [h0,nXz] at h1;rcases h1 with h1|h1 <;> grind
  obtain ⟨z,hz⟩:=Wh.iff.1 hv2;have hz0:z≠0:=fun h=>hvz (by rw [hz,h];rfl)
  obtain ⟨c1,c2⟩:=h2;rcases (show 1≤z∨z≤-1 by omega) with h3|h3
  ·have h4:(1:Rat)≤v:=by
    have:((1:Int):Rat)≤(z:Rat):=Rat.intCast_le_intCast.2 h3;rw [hz];exact this
   rcases tot 0 u with h5|h5
   ·have h6:=dK h4 h5;exact ⟨by grind,by grind⟩
   ·have h6:=dK h4 (show 0≤-u by grind);exact ⟨by grind,by grind⟩
  ·have h4:v≤-1:=by
    have:(z:Rat)≤((-1:Int):Rat):=Rat.intCast_le_intCast.2 h3;rw [hz];exact this
   rcases tot 0 u with h5|h5
   ·have h6:=dK (show 1≤-v by grind) h5;exact ⟨by grind,by grind⟩
   ·have h6:=dK (show 1≤-v by grind) (show 0≤-u by grind);exact ⟨by grind,by grind⟩
 have hXr:∀ t:Nat,t≤m→Sg.Bd (X:Rat) ((A:Rat)+(t:Rat)):=fun t ht=>by
  have h1:(A:Rat)+(t:Rat)≤(X:Rat):=by rw [hX,←Rat.natCast_add];exact_mod_cast (show A+t≤A+m by omega)
  have h2:(0:Rat)≤(A:Rat)+(t:Rat):=by rw [←Rat.natCast_add];exact_mod_cast Nat.zero_le (A+t)
  exact ⟨by grind,h1⟩
 have hX0:(0:Rat)≤(X:Rat):=by exact_mod_cast Nat.zero_le X
 have hC0:(0:Rat)≤(A:Rat)*((X:Rat)+1) ^ q.length:=mi (by grind) (Rat.pow_nonneg (by grind));have hfin:=zv m g (A:Rat) _ (X:Rat) (by omega) hC0 hX0 hval hXr;have hW:2*X+3≤W32 ^ (S+1):=by
  have e1:W32 ^ (S+1)=A*4294967296:=by rw [nXs,←hA];rfl
  omega
 have hbound:A*(X+1) ^ q.length*(2*X+3) ^ m<W32 ^ ((S+1)*(2*q.length+1)):=by
  have b1:(X+1) ^ q.length≤W32 ^ ((S+1)*q.length):=by rw [Nat.pow_mul];exact Nat.pow_le_pow_left (by omega) _
  have b2:(2*X+3) ^ m≤W32 ^ ((S+1)*m):=by rw [Nat.pow_mul];exact Nat.pow_le_pow_left hW _
  have b3:A*(X+1) ^ q.length*(2*X+3) ^ m≤W32 ^ S*W32 ^ ((S+1)*q.length)*W32 ^ ((S+1)*m):=by
   rw [hA] at *
   exact nXw (nXf _ b1) b2
  refine nYi b3 ?_;rw [←Nat.pow_add,←Nat.pow_add];refine Nat.pow_lt_pow_right (by decide) ?_;have e2:(S+1)*(2*q.length+1)=(S+1)*q.length+(S+1)*q.length+(S+1):=by rw [Nat.mul_add,Nat.mul_one,show 2*q.length=q.length+q.length by omega,Nat.mul_add]
  have e3:(S+1)*m≤(S+1)*q.length:=nXf _ (by omega);omega
 intro x hx;rw [←hg] at hx;obtain ⟨i,hi,rfl⟩:=dD hx;have h1:=hfin i;have hw:=hgw i;refine ⟨hw,?_⟩;have h2:Sg.Bd (((A*(X+1) ^ q.length*(2*X+3) ^ m:Nat):Int):Rat) (((seq g i).num:Int):Rat):=by
  rw [←hw.eq,Rat.intCast_natCast,Rat.natCast_mul,Rat.natCast_mul,Rat.natCast_pow,Rat.natCast_pow,Rat.natCast_add,Rat.natCast_add,Rat.natCast_mul];exact h1
 obtain ⟨c1,c2⟩:=h2;rw [←Rat.intCast_neg] at c1;have c3:=Rat.intCast_le_intCast.1 c1;have c4:=Rat.intCast_le_intCast.1 c2;show (seq g i).num.natAbs<_;omega
end Go.Proofs.YtafgmcimcbhhjaaGreat.Sg
/- Sizes for chains of a polynomial and of its divisors. Plain facts. -/
namespace Go.Proofs.YtafgmcimcbhhjaaGreat
open Go.RowKit Go.Front Go.Num Stab Sg
theorem yJ{q:List Rat}{L:Nat}(hq:cg q=q)(hw:∀ x ∈ ax q,Wz L x)(hL:1≤L):∃ D,0<D∧D<W32 ^ L∧FrL L D q:=by
 obtain ⟨D,h1,h2,h3⟩:=yI hw (bt q) hL;rw [(kA q).mon,hq] at h3;exact ⟨D,h1,h2,h3⟩
def KN(K S n:Nat):Prop:=3*((((S+1)*(2*n+1)+2)*(2*n)+(S+1)*(2*n+1)+2)*(2*n+3))≤K
theorem AE{K S S' n n':Nat}(h:3*(((S+2)*(2*n)+S+2)*(2*n+3))≤K)(hS:S'≤S)(hn:n'≤n):KZ K S' n':=by
 right
 refine nXe (nXf 3 (nXw ?_ (by omega))) h;have:(S'+2)*(2*n')≤(S+2)*(2*n):=nXw (by omega) (by omega);omega
theorem KN.kz{K S S' n n':Nat}(h:KN K S n)(hS:S'≤(S+1)*(2*n+1))(hn:n'≤n):KZ K S' n':=AE (S:=(S+1)*(2*n+1)) h hS hn
theorem KN.self{K S n n':Nat}(h:KN K S n)(hn:n'≤n):KZ K S n':=h.kz (by
 have:(S+1)*1≤(S+1)*(2*n+1):=nXf _ (by omega);omega) hn
theorem AW{K S n:Nat}{p q:List Rat}(hp:∀ x ∈ p,Wz S x)(hp0:tz p≠[])(hl:p.length≤n)(hn:n≤1000)(hK:KN K S n)(hd:Dv (evV q) (evV p))(hm:cg q=q):FrK K q:=by
 have h1:=ws hp hp0 hd (by omega);have h2:=kS hd hp0;have h3:=ai p;have h4:tz q=q:=by rw [←hm,fJ]
 rw [h4] at h2;have hL:1≤(S+1)*(2*p.length+1):=Nat.mul_pos (by omega) (by omega);have hL2:(S+1)*(2*p.length+1)≤(S+1)*(2*n+1):=nXf _ (by omega);obtain ⟨D,d1,d2,d3⟩:=yJ hm h1 hL;exact ⟨_,D,hL,d1,d2,d3,hK.kz hL2 (by omega)⟩
theorem AV{p q:List Rat}(h0:tz p≠[])(h:Dv (evV q) (evV p)):Dv (evV q) (evV (ax p)):=by
 obtain ⟨c,hc,h1⟩:=h;have hm:=bF h0;refine ⟨_,hc.smul (aK p)⁻¹,fun x=>?_⟩;have h2:=eo p x;have h3:=nYh (aK p) (fun k=>by rw [k] at hm;exact absurd hm Rat.lt_irrefl);rw [h1 x] at h2;have h4:(aK p)⁻¹*(evV q x*c x)=evV (ax p) x:=by rw [h2,←nYb,nYa _ (aK p),h3,Rat.one_mul]
 rw [←h4];grind
theorem Ag{p:List Rat}(h0:tz p≠[]):Dv (evV (sqfV p)) (evV p):=by
 obtain ⟨g,q1,hg,-,-,h1,-⟩:=(ky h0).dv;exact ⟨g,hg,fun x=>by rw [h1 x];grind⟩
theorem xU(p:List Rat):cg (sqfV p)=sqfV p:=jk _
theorem v7{K S D n:Nat}{p:List Rat}(hS:1≤S)(hD:0<D)(hD2:D<W32 ^ S)(hf:FrL S D p)(hl:p.length≤n)(hK:KN K S n):FrK K p:=⟨S,D,hS,hD,hD2,hf,hK.self hl⟩
theorem yS{K S D n:Nat}{p:List Rat}(hD:0<D)(hf:FrL S D p)(h0:tz p≠[])(hl:p.length≤n)(hn:n≤1000)(hK:KN K S n):FrK K (sqfV p):=by
 refine AW (p:=ax p) (dM (fun x hx=>hf x (gD hx)) hD) (by rw [bt];exact fun k=>h0 (cD.1 k)) ?_ hn hK (AV h0 (Ag h0)) (xU p);rw [aD];exact nXe (ai p) hl
end Go.Proofs.YtafgmcimcbhhjaaGreat
/- Package prototype: Valid, Ratio. -/
set_option maxRecDepth 8000
set_option maxHeartbeats 8000000
namespace Go.Proofs.YtafgmcimcbhhjaaGreat
open Go.RowKit Go.Front Go.Num Stab
attribute [local go_sem] XW.cell XW.frozen
def IvE(w:World)(x:RH×RH)(a b:Rat):Prop:=av w x.1 a∧av w x.2 b
theorem IvE.ext{w w':World}{x:RH×RH}{a b:Rat}(h:IvE w x a b)(he:Ext w w'):IvE w' x a b:=⟨h.1.ext he,h.2.ext he⟩
instance {w w':World} {x:RH×RH} {a b:Rat}:Go.Front.Mv w w' (IvE w x a b) (IvE w' x a b):=⟨fun e h=>IvE.ext h e⟩

def km(w:World)(x:PH)(g:Rat)(e d:List Rat):Prop:=aW w x.g g∧cV w x.e e∧cV w x.d d
theorem km.ext{w w':World}{x:PH}{g:Rat}{e d:List Rat}(h:km w x g e d)(he:Ext w w'):km w' x g e d:=⟨h.1.ext he,h.2.1.ext he,h.2.2.ext he⟩
instance {w w':World} {x:PH} {g:Rat} {e d:List Rat}:Go.Front.Mv w w' (km w x g e d) (km w' x g e d):=⟨fun e h=>km.ext h e⟩

def cW(g:Rat)(e:List Rat)(p:Int)(d:List Rat):Bool:=decide (0<g∧0≤p∧p≤48∧tz e≠[]∧(tz e).length≤25∧(tz d).length≤49) && uE d (-1) 1
theorem gV{g:Rat}{e:List Rat}{p:Int}{d:List Rat}(h:¬ (0<g∧0≤p∧p≤48∧tz e≠[]∧(tz e).length≤25∧(tz d).length≤49)):cW g e p d=false:=by
 unfold cW;rw [decide_eq_false h];rfl
theorem oN{g:Rat}{e:List Rat}{p:Int}{d:List Rat}(h:0<g∧0≤p∧p≤48∧tz e≠[]∧(tz e).length≤25∧(tz d).length≤49):cW g e p d=uE d (-1) 1:=by
 unfold cW;rw [decide_eq_true h];rfl
theorem t6{g:Rat}:dl g 0≤0↔¬ 0<g:=by rw [gj];exact ⟨fun h=>Rat.not_lt.2 h,fun h=>Rat.not_lt.1 h⟩
structure DnK (K P:Nat) (d:List Rat):Prop where
 fr:FrK K d
 sq:FrK K (Sg.sqfV d)
 k1:K≤3900000
 k2:(P+1)*(K / 3)≤25000000
theorem kF(x:PH)(g:Rat)(e d:List Rat)(K:Nat)(w:World)(h:km w x g e d)(hP:x.d.n≤49)(hk:DnK K x.d.n d) :
  aq 42 [x.v] w (fun _:Unit=>.bool (cW g e x.p d)) (fun _ _=>True):=by
 obtain ⟨⟨gn,ga,gl,gc,gb,gm,gd⟩,⟨ea,en,ec⟩,p,⟨da,dn,dc⟩⟩:=x;have HX:=Hi (Ext.refl w);have RG:=Hi h.1;have LE:=Hi h.2.1;have LD:=Hi h.2.2;have HK:=Hi hk;have HEn:=Hi h.2.1.len;have HDn:=Hi h.2.2.len;simp only at hP RG LE LD HK HEn HDn;clear h hk;have hdl:(tz d).length≤49:=by have:=ai d;have:=HDn.out;omega
 have HDl:=Hi hdl;clear hdl;obtain ⟨c1,hc1⟩:∃ c,c=dl g 0:=⟨_,rfl⟩;have HC1:=Hi hc1;have HC:Hid (c1≤0↔¬ 0<g):=Hi (by rw [hc1];exact t6);clear hc1;unfold aq;go_enter Tryz.func42,Tryz.ntmps42
 go_upto_region 1 with fail
 refine nmA ?_;intro w1 hE B1 hz_w1 hr_w1;refine mV4 hE ?_ HX RG LE LD;clear HX RG LE LD;intro HX RG LE LD;have hs_w1:=hE.size;clear hE;replace b_B1:=bX3 B1
 go_wp2_with fail
 refine cM (cE ⟨gn,ga,gl,gc,gb,gm,gd⟩ g _ RG.out) fun x2 w2 hE _=>?_
 refine mV5 hE ?_ B1 HX RG LE LD;clear B1 HX RG LE LD;intro B1 HX RG LE LD;have hs_w2:=hE.size;clear hE;replace b_B1:=bX3 B1;rw [←HC1.out];by_cases h1:c1≤0
 ·have HV:Hid (cW g e p d=false):=Hi (gV (fun k=>HC.out.1 h1 k.1));go_wp2
  go_ret
  exact ⟨(),by rw [HV.out];rfl,HX.out,trivial⟩
 have HG:Hid (0<g):=Hi (Classical.byContradiction fun k=>h1 (HC.out.2 k));clear HC;by_cases h2:p<0
 ·have HV:Hid (cW g e p d=false):=Hi (gV (fun k=>by have:=k.2.1;omega));go_wp2
  go_ret
  exact ⟨(),by rw [HV.out];rfl,HX.out,trivial⟩
 by_cases h3:48<p
 ·have HV:Hid (cW g e p d=false):=Hi (gV (fun k=>by have:=k.2.2.1;omega));go_wp2
  go_ret
  exact ⟨(),by rw [HV.out];rfl,HX.out,trivial⟩
 go_wp2_with fail
 refine cM (cO ea en ec e _ LE.out) fun x3 w3 hE _=>?_
 refine mV5 hE ?_ B1 HX RG LE LD;clear B1 HX RG LE LD;intro B1 HX RG LE LD;have hs_w3:=hE.size;clear hE;replace b_B1:=bX3 B1;obtain ⟨le,hle⟩:∃ n,n=(tz e).length:=⟨_,rfl⟩;have HLe:=Hi hle;rw [←hle];clear hle;by_cases h4:le=0
 ·have HV:Hid (cW g e p d=false):=Hi (gV (fun k=>k.2.2.2.1 (nXi.1 (by rw [←HLe.out];exact h4))));subst h4;go_wp2
  go_ret
  exact ⟨(),by rw [HV.out];rfl,HX.out,trivial⟩
 have h4i:¬ (le:Int)-1<0:=by omega
 by_cases h5:25<le
 ·have HV:Hid (cW g e p d=false):=Hi (gV (fun k=>by have:=k.2.2.2.2.1;rw [←HLe.out] at this;omega));have h5i:(24:Int)<(le:Int)-1:=by omega
  go_wp2
  go_ret
  exact ⟨(),by rw [HV.out];rfl,HX.out,trivial⟩
 have h5i:¬ (24:Int)<(le:Int)-1:=by omega
 have HV:Hid (cW g e p d=uE d (-1) 1):=Hi (oN ⟨HG.out,by omega,by omega,fun k=>by have:=HLe.out;rw [k] at this;exact h4 this,by rw [←HLe.out];omega,HDl.out⟩)
 go_wp2_with fail
 refine cM (cO da dn dc d _ LD.out) fun x5 w5 hE _=>?_
 refine mV5 hE ?_ B1 HX RG LE LD;clear B1 HX RG LE LD;intro B1 HX RG LE LD;have hs_w5:=hE.size;clear hE;replace b_B1:=bX3 B1;obtain ⟨ld,hld⟩:∃ n,n=(tz d).length:=⟨_,rfl⟩;have h6i:¬ (48:Int)<(ld:Int)-1:=by have:=HDl.out;omega
 rw [←hld];clear hld;have Zm:Hid (Sz 1 ((-1:Int):Rat)):=Hi (Sz.int (by decide));have Z1:Hid (Sz 1 ((1:Int):Rat)):=Hi (Sz.int (by decide));have Em:Hid (loV ((-1:Int):Rat) ((1:Int):Rat)=((-1:Int):Rat)):=Hi (vL (by decide));have E1:Hid (hiV ((-1:Int):Rat) ((1:Int):Rat)=((1:Int):Rat)):=Hi (vS (by decide));have HPV:Hid (Sg.posV d ((-1:Int):Rat) ((1:Int):Rat)=uE d (-1) 1):=Hi (yg (by decide));obtain ⟨v,hv⟩:∃ v,v=uE d (-1) 1:=⟨_,rfl⟩;rw [←hv] at HV HPV;clear hv h1 h2 h3
 go_upto_region 6 with fail
 refine aQ [(9,8)] _ (by simp only [gy,kk,List.push_toArray,List.cons_append,List.nil_append];exact rfl) (by intro c a d v w h;cases d <;> exact h) 9 (fun opIx=>match opIx with
  | 2=>.spec RH default RH.v (fun s w'=>av w' s (((-1:Int):Rat)))
  | 3=>.spec RH default RH.v (fun s w'=>av w' s (((1:Int):Rat)))
  | 4=>.spec (RH×RH) (default) (IvV) (fun x w'=>IvE w' x ((-1:Int):Rat) ((1:Int):Rat))
  | 5=>.spec Unit () (fun _=>.tuple #[.bool v,.int .i64 0]) (fun _ _=>True)
  | _=>.quiet) (fun|4=>[2,3]|5=>[4]|_=>[]) (by kernel_rfl) (by kernel_rfl) (by kernel_rfl) (fun w0 he0 hz0 hc0 hf0=>?_)
 replace he0:=Hi he0;simp only [pT];refine qQ ?_;refine wps he0.out rfl rfl (fun w1 hW hG=>?_) fun x40=>?_
 ·exact spc [.int .i64 (-1)] Tryz.func84 (aI (-1) _ (by decide) (by decide))
 refine qZ ?_;refine wps he0.out rfl rfl (fun w1 hW hG=>?_) fun x41=>?_
 ·exact spc [.int .i64 1] Tryz.func84 (aI 1 _ (by decide) (by decide))
 refine qZ ?_;refine wps he0.out rfl rfl (fun w1 hW hG=>?_) fun x42=>?_
 ·have g40:=(hG 2 (by decide):aw _ _).get fun _ e g=>g.ext e
  have g41:=(hG 3 (by decide):aw _ _).get fun _ e g=>g.ext e
  exact spc [x40.v,x41.v] Tryz.func106 ((by have h:=kQ x40 x41 _ _ _ (g40.raw Zm.out (by decide)) (g41.raw Z1.out (by decide));rw [Em.out,E1.out] at h;exact h))
 refine qZ ?_;refine wps he0.out rfl rfl (fun w1 hW hG=>?_) fun x43=>?_
 ·have g42:=(hG 4 (by decide):aw _ _).get fun _ e g=>g.ext e
  exact spc [.slice da dn dc,IvV x42] Tryz.func27 ((by have h:=uP da dn dc d K x42.1 x42.2 ((-1:Int):Rat) ((1:Int):Rat) 1 _ (LD.out.ext hW) hP HK.out.fr HK.out.sq (nXe HK.out.k1 (by decide)) HK.out.k2 (g42.1.raw Zm.out (by decide)) (g42.2.raw Z1.out (by decide)) Zm.out Z1.out (by decide) (by decide);rw [Em.out,E1.out,HPV.out] at h;exact h))
 refine qZ ?_;refine aj ?_;intro w6 hI;have hE:=he0.out.trans hI.ext;have G40:=gT (hI.facts 2);have G41:=gT (hI.facts 3);have G42:=gT (hI.facts 4);clear hI he0 hz0 hc0 hf0;refine mV5 hE ?_ B1 HX RG LE LD;clear B1 HX RG LE LD;intro B1 HX RG LE LD;have hs_w6:=hE.size;clear hE;replace b_B1:=bX3 B1;simp only [pD];clear G42;clear G40;clear G41;cases v
 ·go_wp2
  go_ret
  exact ⟨(),by rw [HV.out];rfl,HX.out,trivial⟩
 ·go_wp2
  go_ret
  exact ⟨(),by rw [HV.out];rfl,HX.out,trivial⟩
def si(g:Rat)(e:List Rat)(p:Int)(d:List Rat):Int×List Rat×List Rat:=if cW g e p d=true then (0,tz ((ar (ar e e) (bE plQ p.toNat)).map (·*g)),tz d) else (2,[],[])
theorem uH{g:Rat}{e:List Rat}{p:Int}{d:List Rat}(h:cW g e p d=true):0≤p∧p≤48:=by
 unfold cW at h;have h1:=of_decide_eq_true (Bool.and_eq_true_iff.1 h).1;exact ⟨h1.2.1,h1.2.2.1⟩
theorem kH(x:PH)(g:Rat)(e d:List Rat)(K S T:Nat)(w:World)(h:km w x g e d)(hP:x.d.n≤49)(hk:DnK K x.d.n d)(hE:x.e.n≤25)(fe:FrB S e)(hS:S≤10000)(zg:Sz T g)(hT:T≤10000) :
  aq 41 [x.v] w FE (FEP (si g e x.p d)):=by
 obtain ⟨⟨gn,ga,gl,gc,gb,gm,gd⟩,⟨ea,en,ec⟩,p,⟨da,dn,dc⟩⟩:=x;have HX:=Hi (Ext.refl w);have HR:=Hi h;have RG:=Hi h.1;have LE:=Hi h.2.1;have LD:=Hi h.2.2;have HEn:=Hi h.2.1.len;have HDn:=Hi h.2.2.len;have HK:=Hi hk;have FE':=Hi fe;have ZG:=Hi zg;simp only at hP hE RG LE LD HEn HDn HK;clear h hk fe zg;unfold aq;go_enter Tryz.func41,Tryz.ntmps41
 go_upto_region 1 with fail
 refine iU ?_;intro w1 hE B1 B2 hz_w1 hr_w1;refine mV5 hE ?_ HX HR RG LE LD;clear HX HR RG LE LD;intro HX HR RG LE LD;have hs_w1:=hE.size;clear hE;replace b_B1:=bX3 B1;replace b_B2:=bX3 B2
 go_wp2_with fail
 refine cM (kF ⟨⟨gn,ga,gl,gc,gb,gm,gd⟩,⟨ea,en,ec⟩,p,⟨da,dn,dc⟩⟩ g e d K _ HR.out hP HK.out) fun x2 w2 hE _=>?_
 refine mV7 hE ?_ B1 B2 HX HR RG LE LD;clear B1 B2 HX HR RG LE LD;intro B1 B2 HX HR RG LE LD;have hs_w2:=hE.size;clear hE;replace b_B1:=bX3 B1;replace b_B2:=bX3 B2;obtain ⟨v,hv⟩:∃ v,v=cW g e p d:=⟨_,rfl⟩;have HV:=Hi hv;rw [show cW g e (PH.p ⟨⟨gn,ga,gl,gc,gb,gm,gd⟩,⟨ea,en,ec⟩,p,⟨da,dn,dc⟩⟩) d=v from hv.symm];clear hv;clear HR;cases v
 ·have HQ:Hid (si g e p d=(2,[],[])):=Hi (by unfold si;rw [←HV.out];rfl);go_wp2;clear RG;clear LE;clear LD;refine sD (F:=fun W=>bodyPost _ _ _ _ _ W) B2.out rfl ?_;intro w3 T;replace HX:=Hi (T.ext HX.out (by omega));replace B1:=Hi (T.rest _ _ (by omega) B1.out);replace B2:=Hi (T.bx);have hs_w3:=nle T.size;have hr_w3:=nle T.size.symm;clear T;replace b_B1:=bX3 B1;replace b_B2:=bX3 B2;exact bodyPost_ret (v:=FE (⟨⟨none,0,0⟩,⟨none,0,0⟩⟩,2)) (by simp [results,Tryz.results41,go_sem,b_B2.1,FE]) rfl ⟨(⟨⟨none,0,0⟩,⟨none,0,0⟩⟩,2),rfl,HX.out,by rw [HQ.out];exact ⟨rfl,wE _⟩⟩
 obtain ⟨hp0,hp1⟩:=uH HV.out.symm;obtain ⟨k,rfl⟩:∃ k:Nat,p=(k:Nat):=⟨p.toNat,by omega⟩;have hk48:k≤48:=by omega
 have HQ:Hid (si g e (k:Nat) d=(0,tz ((ar (ar e e) (bE plQ k)).map (·*g)),tz d)):=Hi (by unfold si;rw [←HV.out,if_pos rfl,Int.toNat_natCast]);have F1:Hid (FrB (2*S+1) (ar e e)):=Hi ((FE'.out.mul FE'.out (by have:=HEn.out;omega)).mono (by omega));have N1:Hid ((ar e e).length≤50):=Hi (nXe (aS (n:=25) (m:=25) (by rw [HEn.out];exact hE) (by rw [HEn.out];exact hE)) (by decide));have F2:Hid (FrB 99 (bE plQ k)):=Hi (su hk48);have N2:Hid ((bE plQ k).length≤49):=Hi (nXe (i8 k) (by omega));have F3:Hid (FrB (2*S+101) (ar (ar e e) (bE plQ k))):=Hi ((F1.out.mul F2.out (by have:=N1.out;omega)).mono (by omega));have N3:Hid ((ar (ar e e) (bE plQ k)).length≤98):=Hi (nXe (aS N1.out N2.out) (by decide));clear HV hp0 hp1
 go_upto_region 3 with fail
 refine wpG 9 (fun opIx=>match opIx with
  | 4=>.spec (SH) (default) (SH.v) (fun x w'=>aG w' x (ar e e))
  | 7=>.spec (SH) (default) (SH.v) (fun x w'=>aG w' x (bE plQ k))
  | 8=>.spec (SH) (default) (SH.v) (fun x w'=>aG w' x (ar (ar e e) (bE plQ k)))
  | _=>.quiet) (fun|8=>[4,7]|_=>[]) fun w0 he0 hz0 hc0 hf0=>?_
 refine wps he0.out rfl rfl (fun w1 hW hG=>?_) fun x30=>?_
 ·exact spc [.slice ea en ec,.slice ea en ec] Tryz.func100 ((d9 ea ea en ec en ec e e S S _ (LE.out.ext hW) (LE.out.ext hW) (by omega) (by omega) FE'.out FE'.out (by omega)).weak (fun _ _ _ h=>h.can))
 refine qZ ?_;refine wps he0.out rfl rfl (fun w1 hW hG=>?_) fun x31=>?_
 ·exact spc [.int .i64 (k:Nat)] Tryz.func101 (cZ k _ hk48)
 refine qZ ?_;refine wps he0.out rfl rfl (fun w1 hW hG=>?_) fun x32=>?_
 ·have g30:=(hG 4 (by decide):aw _ _).get fun _ e g=>g.ext e
  have g31:=(hG 7 (by decide):aw _ _).get fun _ e g=>g.ext e
  exact spc [x30.v,x31.v] Tryz.func100 ((d9 x30.a x31.a x30.n x30.c x31.n x31.c _ _ (2*S+1) 99 _ (g30.raw F1.out.sz (by omega)) (g31.raw F2.out.sz (by decide)) (by have h:=g30.len;have h2:=N1.out;omega) (by have h:=g31.len;have h2:=N2.out;omega) F1.out F2.out (by omega)).weak (fun _ _ _ h=>h.can))
 refine qZ ?_;refine aj ?_;intro w3 hI;have hE:=he0.out.trans hI.ext;have G30:=gT (hI.facts 4);have G31:=gT (hI.facts 7);have G32:=gT (hI.facts 8);clear hI he0 hz0 hc0 hf0;refine mV6 hE ?_ RG LD HX B1 B2 LE;clear RG LD HX B1 B2 LE;intro RG LD HX B1 B2 LE;have hs_w3:=hE.size;clear hE;replace b_B1:=bX3 B1;replace b_B2:=bX3 B2;simp only [pD];obtain ⟨ma,mn,mc⟩:=x32;have LM:=Hi G32.out;clear G30 G31 G32;have hmn:mn≤98:=by have h:=LM.out.len;have h2:=N3.out;simp only at h;omega
 simp only [SH.v]
 go_upto_region 4 with fail
 refine wpG 8 (fun opIx=>match opIx with
  | 3=>.spec (SH) (default) (SH.v) (fun x w'=>aG w' x (tz ((ar (ar e e) (bE plQ k)).map (·*g))))
  | 6=>.spec (SH) (default) (SH.v) (fun x w'=>aG w' x (tz d))
  | _=>.quiet) (fun _=>[]) fun w0 he0 hz0 hc0 hf0=>?_
 refine wps he0.out rfl rfl (fun w1 hW hG=>?_) fun x40=>?_
 ·exact spc [.slice ma mn mc,RH.v ⟨gn,ga,gl,gc,gb,gm,gd⟩] Tryz.func102 ((br ma mn mc (ar (ar e e) (bE plQ k)) ⟨gn,ga,gl,gc,gb,gm,gd⟩ g _ ((LM.out.ext hW).raw F3.out.sz (by omega)) (RG.out.ext hW) (by omega) (F3.out.sz.mono (by omega)) (ZG.out.mono (by omega))).weak (fun _ _ _ h=>h.can))
 refine qZ ?_;refine wps he0.out rfl rfl (fun w1 hW hG=>?_) fun x41=>?_
 ·exact spc [.slice da dn dc] Tryz.func103 ((mI da dn dc d _ (LD.out.ext hW) (by omega)).weak (fun _ _ _ h=>h.can))
 refine qZ ?_;refine aj ?_;intro w4 hI;have hE:=he0.out.trans hI.ext;have G40:=gT (hI.facts 3);have G41:=gT (hI.facts 6);clear hI he0 hz0 hc0 hf0;refine mV7 hE ?_ HX B1 B2 LE LM RG LD;clear HX B1 B2 LE LM RG LD;intro HX B1 B2 LE LM RG LD;have hs_w4:=hE.size;clear hE;replace b_B1:=bX3 B1;replace b_B2:=bX3 B2;simp only [pD];obtain ⟨ua,un,uc⟩:=x40;obtain ⟨va,vn,vc⟩:=x41;simp only [SH.v];go_wp2;refine sD (F:=fun W=>bodyPost _ _ _ _ _ W) B2.out rfl ?_;intro w5 T;have L1:=Hi (G40.out.put2 B2.out T);have L2:=Hi (G41.out.put2 B2.out T);clear G40 G41;clear RG;clear LE;clear LD;clear LM;replace HX:=Hi (T.ext HX.out (by omega));replace B1:=Hi (T.rest _ _ (by omega) B1.out);replace B2:=Hi (T.bx);have hs_w5:=nle T.size;have hr_w5:=nle T.size.symm;clear T;replace b_B1:=bX3 B1;replace b_B2:=bX3 B2;exact bodyPost_ret (v:=FE (⟨⟨ua,un,uc⟩,⟨va,vn,vc⟩⟩,0)) (by simp [results,Tryz.results41,go_sem,b_B2.1,FE]) rfl ⟨(⟨⟨ua,un,uc⟩,⟨va,vn,vc⟩⟩,0),rfl,HX.out,by rw [HQ.out];exact ⟨rfl,L1.out,L2.out⟩⟩
end Go.Proofs.YtafgmcimcbhhjaaGreat
/- The squared magnitude as a form of two sequences: it is found from the squares. Plain facts. -/
namespace Go.Proofs.YtafgmcimcbhhjaaGreat
open Go.RowKit Go.Front Go.Num Stab
def cc(N:Nat)(u v:Nat→Rat)(k:Nat):Rat:=sm N (fun i=>u i*v (i+k))
def ttM(x:Rat):Nat→Rat×Rat
 | 0=>(1,0)
 | n+1=>(x*(ttM x n).1-(1-x*x)*(ttM x n).2,x*(ttM x n).2+(ttM x n).1)
def iv(p:List Rat)(x:Rat)(N:Nat):Rat:=sm N (fun i=>seq p i*(ttM x i).2)
theorem yV(p q:List Rat)(x:Rat):evV (subV p q) x=evV p x-evV q x:=by
 unfold subV;rw [Sg.ev_add5];have h:evV (q.map (fun y=>-y)) x=-1*evV q x:=fP (fun n=>by
  show (q.map (fun y=>-y)).getD n 0=-1*q.getD n 0;rw [nXc,nXc,nXu];cases q[n]? with
  | none=>show (0:Rat)=-1*0;grind
  | some v=>show -v=-1*v;grind) x
 rw [h];grind
theorem yh{p:List Rat}{k:Rat}(hk:0<k)(h:∀ x,-1≤x→x≤1→k≤evV p x):uE p (-1) 1=true:=by
 have h0:=h (-1) (by decide) (by decide);have hz:tz p≠[]:=fun e=>by have:=Sg.ev_tznil.1 e (-1);grind
 unfold uE;rw [if_neg hz,vL (by decide),vS (by decide),decide_eq_true_eq];refine ⟨Sg.cnt6_on hk (-1) 1 (by decide) (fun x hx hy=>by rw [tA];exact h x hx hy),?_⟩;rw [Sg.sg_pos (show 0<evV p (-1) by grind)];decide
end Go.Proofs.YtafgmcimcbhhjaaGreat
/- What Nonnegative and Positive say of the values. Plain facts. -/
namespace Go.Proofs.YtafgmcimcbhhjaaGreat.Sg
open Go.RowKit Go.Front Go.Num Go.Stab Go.Proofs.YtafgmcimcbhhjaaGreat
theorem m0(l:List Rat)(x:Rat):evV (tz l) x=evV l x:=(fP (c:=1) (fun i=>by rw [aT,Rat.one_mul]) x).trans (Rat.one_mul _)
theorem Cp.mulr{a b c:Rat→Rat}(h:Cp a b)(k:Cp a c)(ha:Pf a)(hb:Pf b)(hc:Pf c):Cp a (fun x=>b x*c x):=by
 obtain ⟨u,v,hu,hv,e⟩:=h;obtain ⟨u',v',hu',hv',e'⟩:=k;refine ⟨fun x=>u x*(u' x*a x+v' x*c x)+v x*b x*u' x,fun x=>v x*v' x,(hu.mul ((hu'.mul ha).add (hv'.mul hc))).add ((hv.mul hb).mul hu'),hv.mul hv',fun x=>?_⟩;have e1:=e x;have e2:=e' x;show (u x*(u' x*a x+v' x*c x)+v x*b x*u' x)*a x+v x*v' x*(b x*c x)=1;have:(u x*(u' x*a x+v' x*c x)+v x*b x*u' x)*a x+v x*v' x*(b x*c x)=(u x*a x+v x*b x)*(u' x*a x+v' x*c x):=by grind
 rw [this,e1,e2,Rat.mul_one]
theorem iX(p:List Rat)(k:Nat)(x:Rat):evV (bE p k) x=evV p x ^ k:=by
 induction k with
 | zero=>show 0*x+((1:Int):Rat)=_;rw [Rat.pow_zero];have:((1:Int):Rat)=1:=rfl;grind
 | succ k ih=>show evV (ar (bE p k) p) x=_;rw [aJ,ih,Rat.pow_succ]
theorem m7(l:List Rat)(c x:Rat):evV (scP l c) x=c*evV l x:=by unfold scP;rw [m0,bJ]
theorem xu(x:Rat):evV plQ x=1+x:=by show (0*x+((1:Int):Rat))*x+((1:Int):Rat)=_;have:((1:Int):Rat)=1:=rfl;grind
theorem xv(x:Rat):evV miQ x=1-x:=by show (0*x+((-1:Int):Rat))*x+((1:Int):Rat)=_;have h1:((1:Int):Rat)=1:=rfl;have h2:((-1:Int):Rat)=-1:=rfl;grind
def hm(g:List Rat)(n:Nat)(a z:Rat):Nat→Rat
 | 0=>0
 | j+1=>hm g n a z j+g.getD j 0*a ^ j*z ^ (n-j)
theorem xZ(a:Rat):a ^ 0=1:=Rat.pow_zero ..
theorem By(a:Rat):a ^ 1=a:=by rw [show (1:Nat)=0+1 from rfl,Rat.pow_succ,Rat.pow_zero];grind
theorem Cp.change{a b e o:Rat→Rat}{p q r s:Rat}(h:Cp a b)(ha:∀ x,a x=p*e x+q*o x)(hb:∀ x,b x=r*e x+s*o x):Cp e o:=by
 obtain ⟨u,v,hu,hv,h1⟩:=h;refine ⟨_,_,(hu.smul p).add (hv.smul r),(hu.smul q).add (hv.smul s),fun x=>?_⟩;have:=h1 x;rw [ha,hb] at this;show (p*u x+r*v x)*e x+(q*u x+s*v x)*o x=1;grind
theorem Cp.smulr{a b:Rat→Rat}{k:Rat}(h:Cp a b)(hk:k≠0):Cp a (fun x=>k*b x) :=
 h.change (p:=1) (q:=0) (r:=0) (s:=1 / k) (fun x=>by grind) (fun x=>by have:=aE (a:=1) (b:=k) hk;grind)
theorem xR{a b:Rat→Rat}(h:Cp a b)(ha:∀ x,-1≤x→x≤1→0≤a x)(hb:∀ x,-1≤x→x≤1→0≤b x):∃ k,0<k∧∀ x,-1≤x→x≤1→k≤a x+b x:=by
 obtain ⟨d,hd,h1⟩:=h.bound (-1) 1;refine ⟨d,hd,fun x h2 h3=>?_⟩;have a1:=ha x h2 h3;have b1:=hb x h2 h3;rcases h1 x h2 h3 with (k|k)|(k|k) <;> grind
theorem BX:Cp (fun x=>1+x) (fun x=>1-x):=⟨fun _=>1 / 2,fun _=>1 / 2,Pf.const _,Pf.const _,fun x=>by have:=aE (a:=1) (b:=2) (by decide);grind⟩
structure Prf (inv:Bool) (e0 r:Rat) (g:Rat) (e:List Rat) (p:Int) (d:List Rat):Prop where
 val:cW g e p d=true
 low:∃ k:Rat,0<k∧∀ x,-1≤x→x≤1→k≤evV d x
 nn:∀ x,-1≤x→x≤1→0≤g*(evV e x*evV e x*(1+x) ^ p.toNat)
 le:∀ x,-1≤x→x≤1→g*(evV e x*evV e x*(1+x) ^ p.toNat)≤evV d x
 edge:(1+r)*(g*(evV e e0*evV e e0*(1+e0) ^ p.toNat))=(if inv=true then r else 1)*evV d e0
 band:inv=false→∀ x,e0≤x→x≤1→evV d x≤(1+r)*(g*(evV e x*evV e x*(1+x) ^ p.toNat))
 stop:inv=true→∀ x,-1≤x→x≤e0→(1+r)*(g*(evV e x*evV e x*(1+x) ^ p.toNat))≤r*evV d x
theorem je{e:Rat}(h1:-1<e)(h2:e<1):0<aM e∧aM e*(1-e)=1+e:=by
 have h0:((1:Int):Rat)=1:=rfl;unfold aM;rw [h0];exact ⟨q9 (by grind) (by grind),aE (by grind)⟩
theorem z8{g:Rat}{e d:List Rat}{p:Int}(hg:0<g)(h0:0≤p)(h1:p≤48)(he:tz e≠[])(hl:(tz e).length≤25)(hd:(tz d).length≤49){k:Rat}(hk:0<k)(h:∀ x,-1≤x→x≤1→k≤evV d x):cW g e p d=true:=by
 rw [oN ⟨hg,h0,h1,he,hl,hd⟩];exact yh hk h
theorem AM(x:Rat):evV [((1:Int):Rat)] x=1:=by show 0*x+((1:Int):Rat)=1;have:((1:Int):Rat)=1:=rfl;grind
theorem xV{c:Rat}(hc:c≠0):Cp (fun x=>1+x) (fun x=>c*(1-x)):=BX.smulr hc
theorem BV{c e0 x:Rat}(hc:0<c)(hce:c*(1-e0)=1+e0)(hx:e0≤x):c*(1-x)≤1+x:=by
 have:=dK hx (Rat.le_of_lt hc);grind
end Go.Proofs.YtafgmcimcbhhjaaGreat.Sg
