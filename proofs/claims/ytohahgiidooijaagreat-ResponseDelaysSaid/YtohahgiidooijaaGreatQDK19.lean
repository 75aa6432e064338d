/- The divisors of a polynomial with whole coefficients are small: Gauss's lemma, and a polynomial from its values. Plain facts. -/
import Derived.Test.YtohahgiidooijaaGreatQDK6
import Derived.Test.YtohahgiidooijaaGreatQDK15
import Derived.Test.YtohahgiidooijaaGreatQDK16
import Derived.Test.YtohahgiidooijaaGreatQDK12
import Derived.Test.YtohahgiidooijaaGreatQDK8
import Derived.Test.YtohahgiidooijaaGreatQDK10
import Derived.Test.YtohahgiidooijaaGreatQDK18
set_option linter.unusedVariables false
namespace Go.Proofs.YtohahgiidooijaaGreat.Sg
open Go.RowKit Go.Front Go.Num Go.Stab Go.Proofs.YtohahgiidooijaaGreat Sie
theorem D4{g a b:Rat}(ha:Mu g a)(hb:Mu g b)(h0:a≠0∨b≠0):Mu g (j5 a b):=by
 have habs:∀ {x:Rat},Mu g x→Mu g x.abs:=fun {x} ⟨z,hz,e⟩=>by
  rcases xt x with k|k
  ·exact ⟨z,hz,by rw [k,e]⟩
  ·exact ⟨-z,hz.neg,by rw [k,e];grind⟩
 unfold j5;by_cases ha0:a=0
 ·rw [if_pos ha0];exact habs hb
 ·rw [if_neg ha0];by_cases hb0:b=0
  ·rw [if_pos hb0];exact ha
  ·rw [if_neg hb0];refine habs ?_;obtain ⟨z,hz,rfl⟩:=ha;obtain ⟨y,hy,rfl⟩:=hb;have hg:g≠0:=fun h=>ha0 (by rw [h];grind)
   have hz0:z≠0:=fun h=>ha0 (by rw [h];grind)
   have hy0:y≠0:=fun h=>hb0 (by rw [h];grind)
   have e:z*g / (y*g)=z / y:=kh hg z hy0;rw [e];have h1:=low (z / y);have h2:=div_cancel (a:=z) hy0;have hq0:z / y≠0:=fun h=>hz0 (by rw [←h2,h];grind)
   have hN:=ou hq0;rw [hz.eq,hy.eq] at h1 h2;rw [hz.eq,hy.eq] at hN ⊢;generalize hq:(z.num:Rat) / (y.num:Rat)=q at *
   -- z den=y num
   have h3:z.num*q.den=y.num*q.num:=by
    have:(z.num:Rat)*(q.den:Rat)=(y.num:Rat)*(q.num:Rat):=by rw [←h1,←h2];grind
    have h4:((z.num*q.den:Int):Rat)=((y.num*q.num:Int):Rat):=by
     rw [Rat.intCast_mul,Rat.intCast_mul,Rat.intCast_natCast];exact this
    exact Rat.intCast_inj.1 h4
   have hd:q.num ∣ z.num:=by
    have h4:q.num ∣ z.num*q.den:=⟨y.num,by rw [h3,Int.mul_comm]⟩;have h5:q.num.natAbs ∣ z.num.natAbs*q.den:=by
     have:=Int.natAbs_dvd_natAbs.2 h4
     rwa [Int.natAbs_mul,nYg] at this
    exact Int.natAbs_dvd_natAbs.1 (Nat.Coprime.dvd_of_dvd_mul_right q.reduced h5)
   obtain ⟨k,hk⟩:=hd;refine ⟨(k:Rat),Wh.int k,?_⟩;have h6:=div_cancel (a:=(z.num:Rat)*g) hN;have h7:(z.num:Rat)=(q.num:Rat)*(k:Rat):=by rw [hk,Rat.intCast_mul]
   have h8:((z.num:Rat)*g / (q.num:Rat)-(k:Rat)*g)*(q.num:Rat)=0:=by rw [Rat.sub_eq_add_neg,Rat.add_mul,h6,h7];grind
   rcases nXq.1 h8 with h|h
   ·grind
   ·exact absurd h hN
theorem BP{g:Rat}(l:List Rat)(h:∀ x ∈ l,Mu g x):Mu g (cF l):=by
 induction l using snoc_ind with
 | h0=>exact Mu.zero g
 | h1 l r ih =>
  rw [fH];have h1:=ih (fun x hx=>h x (List.mem_append_left _ hx));have h2:=h r (by simp);by_cases h3:cF l≠0∨r≠0
  ·exact D4 h1 h2 h3
  ·have e1:cF l=0:=Decidable.byContradiction fun h4=>h3 (Or.inl h4)
   have e2:r=0:=Decidable.byContradiction fun h4=>h3 (Or.inr h4)
   rw [e1,e2,sk];exact Mu.zero g
theorem pu(p:List Rat)(i:Nat):seq (aB p) i=(((seq (aB p) i).num:Int):Rat):=by
 rcases Nat.lt_or_ge i (aB p).length with h4|h4
 ·exact (Ai p _ (cu h4)).eq
 ·rw [show seq (aB p) i=0 from aG h4];rfl
theorem yi{p:List Rat}(hp:tz p≠[]){t:Int}(h:∀ i,t ∣ (seq (aB p) i).num):t.natAbs=1:=by
 have hm:=bV hp;have h1:Mu ((t:Rat)*aO p) (aO p):=BP (tz p) fun x hx=>by
  obtain ⟨i,hi,rfl⟩:=dr hx;rw [ax];have h2:=cL p i;obtain ⟨k,hk⟩:=h i;have h3:=pu p i;refine ⟨(k:Rat),Wh.int k,?_⟩;show seq p i=_;rw [h2,h3,hk,Rat.intCast_mul];grind
 obtain ⟨z,hz,e⟩:=h1;have h2:z*(t:Rat)=1:=by
  have h3:(z*(t:Rat)-1)*aO p=0:=by grind
  rcases nXq.1 h3 with h|h
  ·grind
  ·rw [h] at hm;exact absurd hm Rat.lt_irrefl
 rw [hz.eq,←Rat.intCast_mul] at h2;have h4:z.num*t=1:=Rat.intCast_inj.1 h2;exact Int.natAbs_dvd_natAbs.2 (⟨z.num,by rw [←h4,Int.mul_comm]⟩:t ∣ 1) |> fun h=>Nat.dvd_one.1 h
theorem vp:∀ N:Nat,2≤N→∃ r,2≤r∧r ∣ N∧∀ x y:Int,(r:Int) ∣ x*y→(r:Int) ∣ x∨(r:Int) ∣ y:=by
 intro N hN;have key:∀ n:Nat,∀ r,2≤r→r≤n→r ∣ N→∃ r,2≤r∧r ∣ N∧∀ d,d ∣ N→2≤d→r≤d:=by
  intro n;induction n with
  | zero=>intro r h1 h2;omega
  | succ n ih =>
   intro r h1 h2 h3;by_cases h4:∃ d,d ∣ N∧2≤d∧d<r
   ·obtain ⟨d,d1,d2,d3⟩:=h4;exact ih d d2 (by omega) d1
   ·exact ⟨r,h1,h3,fun d d1 d2=>Classical.byContradiction fun h5=>h4 ⟨d,d1,d2,by omega⟩⟩
 obtain ⟨r,h1,h2,h3⟩:=key N N hN (nXd N) (Nat.dvd_refl N);refine ⟨r,h1,h2,fun x y h=>?_⟩;have hg:Nat.gcd r x.natAbs=1∨Nat.gcd r x.natAbs=r:=by
  have a1:=Nat.gcd_dvd_left r x.natAbs;have a2:Nat.gcd r x.natAbs ∣ N:=Nat.dvd_trans a1 h2;have a3:=Nat.le_of_dvd (by omega) a1;have a4:0<Nat.gcd r x.natAbs:=Nat.gcd_pos_of_pos_left _ (by omega);rcases Nat.lt_or_ge (Nat.gcd r x.natAbs) 2 with h4|h4
  ·left;omega
  ·right
   have:=h3 _ a2 h4;omega
 have hn:r ∣ x.natAbs*y.natAbs:=by
  have:=Int.natAbs_dvd_natAbs.2 h
  rwa [nYg,Int.natAbs_mul] at this
 rcases hg with h4|h4
 ·right
  exact Int.natAbs_dvd_natAbs.1 (by rw [nYg];exact Nat.Coprime.dvd_of_dvd_mul_left h4 hn)
 ·left
  exact Int.natAbs_dvd_natAbs.1 (by rw [nYg,←h4];exact Nat.gcd_dvd_right _ _)
theorem oK{r:Int}{f:Nat→Int}(h:∃ i,¬ r ∣ f i):∃ i,¬ r ∣ f i∧∀ j,j<i→r ∣ f j:=by
 obtain ⟨i,hi⟩:=h;induction i using Nat.strongRecOn with
 | _ i ih =>
  by_cases h2:∃ j,j<i∧¬ r ∣ f j
  ·obtain ⟨j,h3,h4⟩:=h2;exact ih j h3 h4
  ·exact ⟨i,hi,fun j hj=>Decidable.byContradiction fun h=>h2 ⟨j,hj,h⟩⟩
theorem zg{r:Int}{n:Nat}{f:Nat→Int}(h:∀ i,i<n→r ∣ f i):r ∣ iJ n f:=by
 induction n with
 | zero=>exact ⟨0,by simp [iJ]⟩
 | succ n ih=>exact Int.dvd_add (ih fun i hi=>h i (by omega)) (h n (Nat.lt_succ_self n))
theorem zh{r:Int}:∀ {n:Nat} {f:Nat→Int} {k:Nat},k<n→(∀ i,i<n→i≠k→r ∣ f i)→r ∣ iJ n f→r ∣ f k:=by
 intro n;induction n with
 | zero=>intro f k h;omega
 | succ n ih =>
  intro f k hk h hs;have hs':r ∣ iJ n f+f n:=hs;by_cases h1:k=n
  ·subst h1;exact (Int.dvd_add_right (zg fun i hi=>h i (by omega) (by omega))).1 hs'
  ·exact ih (by omega) (fun i hi hne=>h i (by omega) hne) ((Int.dvd_add_left (h n (Nat.lt_succ_self n) (by omega))).1 hs')
theorem FG{r:Nat}(hr:∀ x y:Int,(r:Int) ∣ x*y→(r:Int) ∣ x∨(r:Int) ∣ y){f g:Nat→Int}(hf:∃ i,¬ (r:Int) ∣ f i)(hg:∃ i,¬ (r:Int) ∣ g i):∃ n,¬ (r:Int) ∣ iJ (n+1) (fun i=>f i*g (n-i)):=by
 obtain ⟨a,ha,ha2⟩:=oK hf;obtain ⟨b,hb,hb2⟩:=oK hg;refine ⟨a+b,fun h=>?_⟩;have h1:=zh (k:=a) (by omega) (fun i hi hne=>?_) h
 ·rw [show a+b-a=b by omega] at h1;rcases hr _ _ h1 with h2|h2
  ·exact ha h2
  ·exact hb h2
 ·rcases Nat.lt_or_ge i a with h2|h2
  ·exact Int.dvd_mul_of_dvd_left (ha2 i h2)
  ·exact Int.dvd_mul_of_dvd_right (hb2 (a+b-i) (by omega))
theorem zY{q g h:List Rat}(hq:∀ i,Wh (seq q i))(hq0:tz q≠[])(hg:aB g=g)(he:∀ x,evV q x=evV g x*evV h x):∀ i,Wh (seq h i):=by
 have hg0:tz g≠[]:=fun h0=>by
  obtain ⟨y,hy⟩:=yR hq0;exact hy (by rw [he,ev_tznil.1 h0 y];grind)
 have hh0:tz h≠[]:=fun h0=>by
  obtain ⟨y,hy⟩:=yR hq0;exact hy (by rw [he,ev_tznil.1 h0 y];grind)
 have whs:=pu;have hc:∀ n,(seq q n)*((aO h).den:Rat)=((aO h).num:Rat)*((iJ (n+1) (fun i=>(seq g i).num*(seq (aB h) (n-i)).num):Int):Rat):=fun n=>by
  have h1:=ev_inj (p:=q) (q:=ag g h) (fun x=>by rw [ev_mul5,he]) n;rw [h1,bu,cK,oE];have h2:cv (seq g) (seq h) n=aO h*sm (n+1) (fun i=>(((seq g i).num*(seq (aB h) (n-i)).num:Int):Rat)):=by
   rw [←sm_mul];refine sm_congr fun i hi=>?_
   rw [Rat.intCast_mul,←whs h,cL h (n-i)];have h3:=whs g i;rw [hg] at h3;rw [←h3];grind
  rw [h2];have h4:=low (aO h);rw [←h4];grind
 have hd:(aO h).den=1:=by
  apply Classical.byContradiction;intro hd;have hd2:2≤(aO h).den:=by have:=(aO h).den_pos;omega
  obtain ⟨r,r1,r2,r3⟩:=vp _ hd2;have hpf:∀ {p:List Rat},tz p≠[]→∃ i,¬ (r:Int) ∣ (seq (aB p) i).num:=fun {p} hp=>Classical.byContradiction fun hn=>by
   have:=yi hp (t:=(r:Int)) (fun i=>Classical.byContradiction fun h=>hn ⟨i,h⟩);rw [nYg] at this;omega
  have hgf:=hpf hg0;rw [hg] at hgf;obtain ⟨n,hn⟩:=FG r3 hgf (hpf hh0);apply hn;have h1:=hc n;rw [(hq n).eq] at h1;have h2:(seq q n).num*(aO h).den=(aO h).num*iJ (n+1) (fun i=>(seq g i).num*(seq (aB h) (n-i)).num):=by
   apply Rat.intCast_inj.1;rw [Rat.intCast_mul,Rat.intCast_mul,Rat.intCast_natCast];exact h1
  have h3:(r:Int) ∣ (aO h).num*iJ (n+1) (fun i=>(seq g i).num*(seq (aB h) (n-i)).num):=by
   rw [←h2];obtain ⟨k,hk⟩:=r2;exact ⟨(seq q n).num*k,by rw [hk,Int.natCast_mul];grind⟩
  rcases r3 _ _ h3 with h4|h4
  ·exfalso;have h5:r ∣ (aO h).num.natAbs:=by
    have:=Int.natAbs_dvd_natAbs.2 h4
    rwa [nYg] at this
   have h6:=Nat.dvd_gcd h5 r2;rw [(aO h).reduced] at h6;have:=Nat.dvd_one.1 h6;omega
  ·exact h4
 intro i;rw [cL h i];exact Wh.mul hd (by rw [whs h i];exact Wh.int _)
theorem CP:∀ (m:Nat) (g:List Rat) (a B R:Rat),ln g≤m+1→0≤B→0≤R→(∀ t:Nat,t≤m→Sg.Bd B (evV g (a+(t:Rat))))→(∀ t:Nat,t≤m→Sg.Bd R (a+(t:Rat)))→∀ i,Sg.Bd (B*(2*R+3) ^ m) (seq g i):=by
 intro m;induction m with
 | zero =>
  intro g a B R hl hB hR hv hp i;rw [Rat.pow_zero,Rat.mul_one];cases i with
  | zero=>rw [←nk hl (a+((0:Nat):Rat))];exact hv 0 (nXd 0)
  | succ i=>rw [C9 (by omega)];exact ⟨by grind,hB⟩
 | succ m ih =>
  intro g a B R hl hB hR hv hp i;obtain ⟨c,hc⟩:∃ c,c=a+((m+1:Nat):Rat):=⟨_,rfl⟩;have hcv:=hv (m+1) (nXd _);have hcR:=hp (m+1) (nXd _);rw [←hc] at hcv hcR;have one:∀ t:Rat,∀ x,evV [t] x=t:=fun t x=>by show 0*x+t=t;grind
  obtain ⟨f,hf⟩:∃ f,f=subV g [evV g c]:=⟨_,rfl⟩;have hfx:∀ x,evV f x=evV g x-evV g c:=fun x=>by rw [hf,ev_sub,one]
  obtain ⟨g1',⟨g1,rfl⟩,h1⟩:=Ek (Pf.ev f) (a:=c) (by rw [hfx];grind);have hlf:ln f≤m+2:=by
   have h2:=i6 g [evV g c];have h3:ln [evV g c]≤1:=af [evV g c];rw [hf];omega
  have hl1:ln g1≤m+1:=by
   by_cases h2:tz g1=[]
   ·show (tz g1).length≤_;rw [h2];exact Nat.zero_le _
   ·have h3:=BX h1 h2;have h4:ln g1<ln f:=h3;omega
  have hmul:∀ d y:Rat,1≤d→Sg.Bd (2*B) (d*y)→Sg.Bd (2*B) y:=fun d y hd hb=>by
   rcases tot 0 y with h|h
   ·have h2:=ig hd h;exact ⟨by grind,by have:=hb.2;grind⟩
   ·have h2:=ig hd (show 0≤-y by grind);exact ⟨by have:=hb.1;grind,by grind⟩
  have hv1:∀ t:Nat,t≤m→Sg.Bd (2*B) (evV g1 (a+(t:Rat))):=fun t ht=>by
   have h2:=h1 (a+(t:Rat));rw [hfx] at h2;have h3:((m+1:Nat):Rat)-(t:Rat)=((m+1-t:Nat):Rat):=by
    have:((m+1:Nat):Rat)=((m+1-t:Nat):Rat)+(t:Rat):=by rw [←Rat.natCast_add];congr 1;omega
    grind
   have h4:(1:Rat)≤((m+1-t:Nat):Rat):=by exact_mod_cast (show 1≤m+1-t by omega)
   refine hmul _ _ h4 ?_;have h5:((m+1-t:Nat):Rat)*evV g1 (a+(t:Rat))=-(evV g (a+(t:Rat))-evV g c):=by rw [h2,←h3,hc];grind
   rw [h5,show (2:Rat)*B=B+B by grind];exact ((hv t (by omega)).sub hcv).neg
  have hI:=ih g1 a (2*B) R hl1 (by grind) hR hv1 (fun t ht=>hp t (by omega));have hs:=vh h1 i;have hsg:seq g i=seq f i+seq [evV g c] i:=by rw [hf,uh];grind
  have hcon:Sg.Bd B (seq [evV g c] i):=by
   cases i with
   | zero=>exact hcv
   | succ i=>exact ⟨by show -B≤(0:Rat);grind,by show (0:Rat)≤B;exact hB⟩
  have hP:0≤(2*R+3) ^ m:=Rat.pow_nonneg (by grind);have hsh:Sg.Bd (2*B*(2*R+3) ^ m) (sh (seq g1) i):=by
   cases i with
   | zero =>
    have:=yU (show 0≤2*B by grind) hP;exact ⟨by show -_≤(0:Rat);grind,by show (0:Rat)≤_;exact this⟩
   | succ i=>exact hI i
  have hP1:1≤(2*R+3) ^ m:=by
   have:∀ k:Nat,(1:Rat)≤(2*R+3) ^ k:=fun k=>by
    induction k with
    | zero=>rw [Rat.pow_zero];exact Rat.le_refl
    | succ k ihk =>
     rw [Rat.pow_succ];have h6:=ig ihk (show 0≤2*R+3 by grind);grind
   exact this m
  rw [hsg,hs,Rat.pow_succ];refine ((hsh.sub (hcR.mul (hI i))).add hcon).mono ?_;have h7:=eM hP1 hB;generalize (2*R+3) ^ m=P at *
  grind
theorem Cx{A x:Rat}(hA:1≤A)(hx:A≤x):∀ p:List Rat,(∀ y ∈ p,Wh y∧Sg.Bd (A-1) y)→tz p≠[]→Big 1 (evV p x):=by
 intro p;induction p with
 | nil=>intro _ h;exact absurd rfl h
 | cons c p ih =>
  intro h h0;obtain ⟨hc1,hc2⟩:=h c (List.mem_cons_self ..);have e:evV (c :: p) x=evV p x*x+c:=rfl;rw [e];by_cases h1:tz p=[]
  ·rw [ev_tznil.1 h1 x];have hc0:c≠0:=fun hc=>h0 (ev_tznil.2 fun y=>by show evV p y*y+c=0;rw [ev_tznil.1 h1 y,hc];grind)
   obtain ⟨z,hz⟩:=Wh.iff.1 hc1;rw [hz] at hc0 ⊢;have hz0:z≠0:=fun h=>hc0 (by rw [h];rfl)
   rcases (show 1≤z∨z≤-1 by omega) with h2|h2
   ·left
    have:((1:Int):Rat)≤(z:Rat):=Rat.intCast_le_intCast.2 h2;have e1:((1:Int):Rat)=1:=rfl;grind
   ·right
    have:(z:Rat)≤((-1:Int):Rat):=Rat.intCast_le_intCast.2 h2;have e1:((-1:Int):Rat)=-1:=rfl;grind
  ·have h2:=ih (fun y hy=>h y (List.mem_cons_of_mem _ hy)) h1;obtain ⟨b1,b2⟩:=hc2;rcases h2 with h3|h3
   ·left
    have h4:=ig h3 (show 0≤x by grind);grind
   ·right
    have h4:=ig h3 (show 0≤x by grind);grind
theorem Ej{A X x:Rat}(hA:0≤A)(hx:0≤x)(hX:x≤X):∀ p:List Rat,(∀ y ∈ p,Sg.Bd A y)→Sg.Bd (A*(X+1) ^ p.length) (evV p x):=by
 intro p;induction p with
 | nil =>
  intro _;rw [List.length_nil,Rat.pow_zero,Rat.mul_one];exact ⟨by show -A≤(0:Rat);grind,hA⟩
 | cons c p ih =>
  intro h;have h1:=ih (fun y hy=>h y (List.mem_cons_of_mem _ hy));have h2:=h c (List.mem_cons_self ..);have hP:∀ k:Nat,(1:Rat)≤(X+1) ^ k:=fun k=>by
   induction k with
   | zero=>rw [Rat.pow_zero];exact Rat.le_refl
   | succ k ihk =>
    rw [Rat.pow_succ];have h6:=ig ihk (show 0≤X+1 by grind);grind
  have e:evV (c :: p) x=evV p x*x+c:=rfl;rw [e,List.length_cons,Rat.pow_succ];refine ((h1.mul (show Sg.Bd X x from ⟨by grind,hX⟩)).add h2).mono ?_;have h3:=eM (hP p.length) hA;generalize (X+1) ^ p.length=P at *
  grind
theorem Dc{p:List Rat}(h:∀ i,Wh (seq p i)){x:Rat}(hx:Wh x):Wh (evV p x):=by
 have key:∀ p:List Rat,(∀ i,Wh (seq p i))→Wh (evV p x):=by
  intro p;induction p with
  | nil=>intro _;exact Wh.zero
  | cons c p ih=>intro h;exact ((ih fun i=>h (i+1)).mul hx).add (h 0)
 exact key p h
theorem dv_small{q d:List Rat}{S:Nat}(hq:∀ x ∈ q,Wz S x)(hq0:tz q≠[])(hd:Dv (evV d) (evV q))(hn:q.length≤1000):∀ x ∈ aB d,Wz ((S+1)*(2*q.length+1)) x:=by
 have hd0:tz d≠[]:=fun h0=>by
  obtain ⟨y,hy⟩:=yR hq0;obtain ⟨c,-,h1⟩:=hd;exact hy (by rw [h1,ev_tznil.1 h0 y];grind)
 have hdl:=dv_len hd hq0;have hql:=af q;obtain ⟨g,hg⟩:∃ g,g=aB d:=⟨_,rfl⟩;have hgg:aB g=g:=by
  rw [hg];exact (eH (p:=d) (q:=aB d) (bV hd0) (fun n=>by rw [cL d n];grind)).symm
 obtain ⟨h,hh⟩:∃ h:List Rat,∀ x,evV q x=evV g x*evV h x:=by
  obtain ⟨c,hc,h1⟩:=hd;obtain ⟨h,hh⟩:=hc.smul (aO d);exact ⟨h,fun x=>by rw [h1,←hh,gB d x,hg];grind⟩
 have hqw:∀ i,Wh (seq q i):=fun i=>by rw [(iK hq i).1];exact Wh.int _
 have hhw:=zY hqw hq0 hgg hh;have hgw:∀ i,Wh (seq g i):=fun i=>by
  have:=pu d i;rw [←hg] at this;rw [this];exact Wh.int _
 obtain ⟨A,hA⟩:∃ A:Nat,A=W32 ^ S:=⟨_,rfl⟩;have hA1:1≤A:=by rw [hA];exact nYl aC
 have hA1':(1:Rat)≤(A:Rat):=by exact_mod_cast hA1
 obtain ⟨m,hm⟩:∃ m,ln g=m+1:=⟨ln g-1,by
  have:1≤ln g:=ln_pos (by rw [hg,bY];exact fun k=>hd0 (spl_ne.1 k));omega⟩
 have hmq:m+1≤q.length:=by
  have:ln g=(tz d).length:=by show (tz g).length=_;rw [hg,bY,aE]
  omega
 obtain ⟨X,hX⟩:∃ X:Nat,X=A+m:=⟨_,rfl⟩;have hcoef:∀ y ∈ q,Wh y∧Sg.Bd ((A:Rat)-1) y:=fun y hy=>by
  obtain ⟨w1,w2⟩:=hq y hy;refine ⟨w1,?_⟩;rw [w1.eq];have h1:-((A:Int)-1)≤y.num∧y.num≤(A:Int)-1:=by rw [hA];omega
  have h2:=Rat.intCast_le_intCast.2 h1.1;have h3:=Rat.intCast_le_intCast.2 h1.2;rw [Rat.intCast_neg,Rat.intCast_sub,Rat.intCast_natCast] at h2;rw [Rat.intCast_sub,Rat.intCast_natCast] at h3;exact ⟨h2,h3⟩
 have hB:=fun (t:Nat) (ht:t≤m)=>Ej (A:=(A:Rat)) (X:=(X:Rat)) (x:=(A:Rat)+(t:Rat)) (by grind) (by
  have:(0:Rat)≤(t:Rat):=by exact_mod_cast Nat.zero_le t
  grind) (by rw [hX,←Rat.natCast_add];exact_mod_cast (show A+t≤A+m by omega)) q (fun y hy=>(hcoef y hy).2.mono (by grind))
 have hval:∀ t:Nat,t≤m→Sg.Bd ((A:Rat)*((X:Rat)+1) ^ q.length) (evV g ((A:Rat)+(t:Rat))):=fun t ht=>by
  have h1:=Cx (A:=(A:Rat)) (x:=(A:Rat)+(t:Rat)) hA1' (by
   have:(0:Rat)≤(t:Rat):=by exact_mod_cast Nat.zero_le t
   grind) q hcoef hq0
  have h2:=hB t ht;have hxw:Wh ((A:Rat)+(t:Rat)):=by
   have h3:∀ k:Nat,Wh (k:Rat):=fun k=>Rat.den_natCast k
   exact (h3 A).add (h3 t)
  have hv1:=Dc hgw hxw;have hv2:=Dc hhw hxw;rw [hh] at h1 h2;generalize evV g ((A:Rat)+(t:Rat))=u at *
  generalize evV h ((A:Rat)+(t:Rat))=v at *
  generalize (A:Rat)*((X:Rat)+1) ^ q.length=C at *
  have hvz:v≠0:=fun h0=>by
   rw [h0,nYa] at h1;rcases h1 with h1|h1 <;> grind
  obtain ⟨z,hz⟩:=Wh.iff.1 hv2;have hz0:z≠0:=fun h=>hvz (by rw [hz,h];rfl)
  obtain ⟨c1,c2⟩:=h2;rcases (show 1≤z∨z≤-1 by omega) with h3|h3
  ·have h4:(1:Rat)≤v:=by
    have:((1:Int):Rat)≤(z:Rat):=Rat.intCast_le_intCast.2 h3;rw [hz];exact this
   rcases tot 0 u with h5|h5
   ·have h6:=eM h4 h5;exact ⟨by grind,by grind⟩
   ·have h6:=eM h4 (show 0≤-u by grind);exact ⟨by grind,by grind⟩
  ·have h4:v≤-1:=by
    have:(z:Rat)≤((-1:Int):Rat):=Rat.intCast_le_intCast.2 h3;rw [hz];exact this
   rcases tot 0 u with h5|h5
   ·have h6:=eM (show 1≤-v by grind) h5;exact ⟨by grind,by grind⟩
   ·have h6:=eM (show 1≤-v by grind) (show 0≤-u by grind);exact ⟨by grind,by grind⟩
 have hXr:∀ t:Nat,t≤m→Sg.Bd (X:Rat) ((A:Rat)+(t:Rat)):=fun t ht=>by
  have h1:(A:Rat)+(t:Rat)≤(X:Rat):=by rw [hX,←Rat.natCast_add];exact_mod_cast (show A+t≤A+m by omega)
  have h2:(0:Rat)≤(A:Rat)+(t:Rat):=by rw [←Rat.natCast_add];exact_mod_cast Nat.zero_le (A+t)
  exact ⟨by grind,h1⟩
 have hX0:(0:Rat)≤(X:Rat):=by exact_mod_cast Nat.zero_le X
 have hC0:(0:Rat)≤(A:Rat)*((X:Rat)+1) ^ q.length:=yU (by grind) (Rat.pow_nonneg (by grind));have hfin:=CP m g (A:Rat) _ (X:Rat) (by omega) hC0 hX0 hval hXr;have hW:2*X+3≤W32 ^ (S+1):=by
  have e1:W32 ^ (S+1)=A*4294967296:=by rw [nXt,←hA];rfl
  omega
 have hbound:A*(X+1) ^ q.length*(2*X+3) ^ m<W32 ^ ((S+1)*(2*q.length+1)):=by
  have b1:(X+1) ^ q.length≤W32 ^ ((S+1)*q.length):=by rw [Nat.pow_mul];exact Nat.pow_le_pow_left (by omega) _
  have b2:(2*X+3) ^ m≤W32 ^ ((S+1)*m):=by rw [Nat.pow_mul];exact Nat.pow_le_pow_left hW _
  have b3:A*(X+1) ^ q.length*(2*X+3) ^ m≤W32 ^ S*W32 ^ ((S+1)*q.length)*W32 ^ ((S+1)*m):=by
   rw [hA] at *
   exact nXw (nXf _ b1) b2
  refine nYj b3 ?_;rw [←Nat.pow_add,←Nat.pow_add];refine Nat.pow_lt_pow_right (by decide) ?_;have e2:(S+1)*(2*q.length+1)=(S+1)*q.length+(S+1)*q.length+(S+1):=by rw [Nat.mul_add,Nat.mul_one,show 2*q.length=q.length+q.length by omega,Nat.mul_add]
  have e3:(S+1)*m≤(S+1)*q.length:=nXf _ (by omega);omega
 intro x hx;rw [←hg] at hx;obtain ⟨i,hi,rfl⟩:=dr hx;have h1:=hfin i;have hw:=hgw i;refine ⟨hw,?_⟩;have h2:Sg.Bd (((A*(X+1) ^ q.length*(2*X+3) ^ m:Nat):Int):Rat) (((seq g i).num:Int):Rat):=by
  rw [←hw.eq,Rat.intCast_natCast,Rat.natCast_mul,Rat.natCast_mul,Rat.natCast_pow,Rat.natCast_pow,Rat.natCast_add,Rat.natCast_add,Rat.natCast_mul];exact h1
 obtain ⟨c1,c2⟩:=h2;rw [←Rat.intCast_neg] at c1;have c3:=Rat.intCast_le_intCast.1 c1;have c4:=Rat.intCast_le_intCast.1 c2;show (seq g i).num.natAbs<_;omega
end Go.Proofs.YtohahgiidooijaaGreat.Sg
/- Sizes for chains of a polynomial and of its divisors. Plain facts. -/
namespace Go.Proofs.YtohahgiidooijaaGreat
open Go.RowKit Go.Front Go.Num Stab Sg
theorem BQ{q:List Rat}{L:Nat}(hq:bi q=q)(hw:∀ x ∈ aB q,Wz L x)(hL:1≤L):∃ D,0<D∧D<W32 ^ L∧FrL L D q:=by
 obtain ⟨D,h1,h2,h3⟩:=k6 hw (bY q) hL;rw [(ie q).mon,hq] at h3;exact ⟨D,h1,h2,h3⟩
def KN(K S n:Nat):Prop:=3*((((S+1)*(2*n+1)+2)*(2*n)+(S+1)*(2*n+1)+2)*(2*n+3))≤K
theorem Ax{K S S' n n':Nat}(h:3*(((S+2)*(2*n)+S+2)*(2*n+3))≤K)(hS:S'≤S)(hn:n'≤n):KZ K S' n':=by
 right
 refine nXe (nXf 3 (nXw ?_ (by omega))) h;have:(S'+2)*(2*n')≤(S+2)*(2*n):=nXw (by omega) (by omega);omega
theorem KN.kz{K S S' n n':Nat}(h:KN K S n)(hS:S'≤(S+1)*(2*n+1))(hn:n'≤n):KZ K S' n':=Ax (S:=(S+1)*(2*n+1)) h hS hn
theorem Eo{K S n:Nat}{p q:List Rat}(hp:∀ x ∈ p,Wz S x)(hp0:tz p≠[])(hl:p.length≤n)(hn:n≤1000)(hK:KN K S n)(hd:Dv (evV q) (evV p))(hm:bi q=q):FrK K q:=by
 have h1:=dv_small hp hp0 hd (by omega);have h2:=dv_len hd hp0;have h3:=af p;have h4:tz q=q:=by rw [←hm,cN]
 rw [h4] at h2;have hL:1≤(S+1)*(2*p.length+1):=Nat.mul_pos (by omega) (by omega);have hL2:(S+1)*(2*p.length+1)≤(S+1)*(2*n+1):=nXf _ (by omega);obtain ⟨D,d1,d2,d3⟩:=BQ hm h1 hL;exact ⟨_,D,hL,d1,d2,d3,hK.kz hL2 (by omega)⟩
theorem AN{p q:List Rat}(h0:tz p≠[])(h:Dv (evV q) (evV p)):Dv (evV q) (evV (aB p)):=by
 obtain ⟨c,hc,h1⟩:=h;have hm:=bV h0;refine ⟨_,hc.smul (aO p)⁻¹,fun x=>?_⟩;have h2:=gB p x;have h3:=nYi (aO p) (fun k=>by rw [k] at hm;exact absurd hm Rat.lt_irrefl);rw [h1 x] at h2;have h4:(aO p)⁻¹*(evV q x*c x)=evV (aB p) x:=by rw [h2,←nYc,nYb _ (aO p),h3,Rat.one_mul]
 rw [←h4];grind
theorem Do{p:List Rat}(h0:tz p≠[]):Dv (evV (sqfV p)) (evV p):=by
 obtain ⟨g,q1,hg,-,-,h1,-⟩:=(tT h0).dv;exact ⟨g,hg,fun x=>by rw [h1 x];grind⟩
theorem Bb(p:List Rat):bi (sqfV p)=sqfV p:=j7 _
end Go.Proofs.YtohahgiidooijaaGreat
/- Series, Parallel, Run of the filters of make: what they return. Plain facts. -/
namespace Go.Proofs.YtohahgiidooijaaGreat
open Go.RowKit Go.Front Go.Num Stab
structure Fj (b a:List Rat):Prop where
 lb:b.length≤4
 la:a.length≤4
 zb:FrB 7 b
 za:FrB 7 a
 tb:tz b=b
 ta:tz a=a
 head:a.getD 0 0=1
theorem FI(xs ks:List Int):Fj (vU xs) (xL ks):=⟨rX xs,zD ks,zC xs,zE ks,Cq xs,Ct ks,vV ks⟩
theorem Fj.vf{b a:List Rat}(h:Fj b a):VF b a:=⟨by rw [h.tb];have:=h.lb;omega,by rw [h.ta];have:=h.la;omega,h.head⟩
theorem vq{p a b:List Rat}(ha:tz a≠[])(hb:tz b≠[])(h:∀ x,evV p x=evV a x*evV b x):aI (tz p)=aI (tz a)*aI (tz b):=by
 obtain ⟨n,hn⟩:∃ n,(tz a).length=n+1:=⟨(tz a).length-1,by have:=nYf.2 ha;omega⟩;obtain ⟨m,hm⟩:∃ m,(tz b).length=m+1:=⟨(tz b).length-1,by have:=nYf.2 hb;omega⟩;have e:tz p=tz (ag a b):=dY (Sg.ev_inj fun x=>by rw [Sg.ev_mul5,h x]);have l:(tz (ag a b)).length+1=(tz a).length+(tz b).length:=Sg.ln_mul ha hb;have l2:(tz (ag a b)).length-1=n+m:=by omega
 have t:seq (ag a b) (n+m)=(tz a).getD n 0*(tz b).getD m 0:=by
  rw [i5,cK,lH (by rw [←hn];exact Bd.seq _) (by rw [←hm];exact Bd.seq _)];rfl
 unfold aI;rw [e,l2,hn,hm,Nat.add_sub_cancel,Nat.add_sub_cancel,ax,←t];rfl
theorem yZ{p:List Rat}(h:tz p≠[])(i:Nat):seq p i=seq (bi p) i*aI (tz p):=by
 have h0:=bN h;rw [iB h];show p.getD i 0=((tz p).map _).getD i 0*_;rcases Nat.lt_or_ge i (tz p).length with hi|hi
 ·rw [gO hi,ax,nYc,Sg.div_cancel h0];exact (Rat.mul_one _).symm
 ·have h1:p.getD i 0=0:=by rw [←ax];exact aG hi
  have h2:((tz p).map (·*(((1:Int):Rat) / aI (tz p)))).getD i 0=0:=aG (by rw [nXk];exact hi);rw [h1,h2,nXz]
theorem uF{S n:Nat}{p g:List Rat}(hp:FrB S p)(hp0:tz p≠[])(hl:p.length≤n)(hn:n≤1000)(hd:Sg.Dv (evV g) (evV p))(hg:bi g=g):FrB ((S+1)*(2*n+1)+S) (aP p g):=by
 obtain ⟨h0,E,h1,h2,h3⟩:=hp;have hg0:tz g≠[]:=fun h=>by
  obtain ⟨c,-,hc⟩:=hd;exact hp0 (Sg.ev_tznil.2 fun x=>by rw [hc x,Sg.ev_tznil.1 h x];grind)
 have hx:=Sg.quo_exact hg0 hd;have hq0:tz (aP p g)≠[]:=fun h=>hp0 (Sg.ev_tznil.2 fun x=>by rw [hx x,Sg.ev_tznil.1 h x];grind)
 have hle:=vq hg0 hq0 hx;have hgl:aI (tz g)=1:=by have:=Sg.mon_lead hg0;rwa [hg] at this
 rw [hgl,Rat.one_mul] at hle;have hdv:Sg.Dv (evV (aP p g)) (evV p):=⟨_,Sg.Pf.ev g,fun x=>by rw [hx x];grind⟩;have hw:∀ x ∈ aB p,Wz S x:=dC (fun x hx=>h3 x (ii hx)) h1;have hsl:(aB p).length≤n:=by rw [aE];exact nXe (af p) hl
 have hs:=Sg.dv_small hw (by rw [bY];exact fun k=>hp0 (Sg.spl_ne.1 k)) (AN hp0 hdv) (by omega);have hL:1≤(S+1)*(2*n+1):=Nat.mul_pos (by omega) (by omega);have hL2:(S+1)*(2*(aB p).length+1)≤(S+1)*(2*n+1):=nXf _ (by omega);obtain ⟨D,d1,d2,d3⟩:=k6 (fun x hx=>(hs x hx).mono hL2) (bY _) hL;rw [(ie _).mon] at d3;obtain ⟨L,eL⟩:∃ L,L=(S+1)*(2*n+1):=⟨_,rfl⟩;rw [←eL] at d2 d3 hL ⊢;refine ⟨by omega,D*E,Nat.mul_pos d1 h1,j6 d2 h2 h1,FrL.of fun i=>?_⟩;have h4:(aP p g).getD i 0=seq (bi (aP p g)) i*aI (tz p):=by rw [hle];exact yZ hq0 i
 rw [h4];exact (d3.at i).mul (h3.tz.at _)
theorem rt{S n:Nat}{p g:List Rat}(hp:FrB S p)(hl:p.length≤n)(hn:n≤1000)(hg0:tz g≠[])(hd:Sg.Dv (evV g) (evV p))(hg:bi g=g):FrB ((S+1)*(2*n+1)+S) (aP p g):=by
 by_cases hp0:tz p=[]
 ·have hx:=Sg.quo_exact hg0 hd;have hq:tz (aP p g)=[]:=Sg.ev_tznil.2 fun x=>de hg0 (a:=aP p g) (b:=[]) (fun x=>by rw [←hx x,Sg.ev_tznil.1 hp0 x];show (0:Rat)=_*0;grind) x
  have h0:=hp.1;rw [←(bW p hg0).2.2.1,hq];exact FrB.nil.mono (by omega)
 ·exact uF hp hp0 hl hn hd hg
theorem FrB.ngv{S:Nat}{l:List Rat}(h:FrB S l):FrB (S+1) (ngV l):=by
 obtain ⟨h0,D,h1,h2,h3⟩:=h;unfold ngV;exact FrB.tz ⟨by omega,D,h1,nXm h2 (gE (by omega)),D6 h3 (Wz.int (by decide))⟩
theorem uU(l:List Rat):(ngV l).length≤l.length:=by
 unfold ngV;exact nXe (af _) (by rw [nXk];exact nXd _)
theorem rj{p g:List Rat}{n:Nat}(hl:p.length≤n)(hg0:tz g≠[])(hd:Sg.Dv (evV g) (evV p)):(aP p g).length≤n:=by
 have hx:=Sg.quo_exact hg0 hd;have e:=(bW p hg0).2.2.1;by_cases hp0:tz p=[]
 ·have hq:tz (aP p g)=[]:=Sg.ev_tznil.2 fun x=>de hg0 (a:=aP p g) (b:=[]) (fun x=>by rw [←hx x,Sg.ev_tznil.1 hp0 x];show (0:Rat)=_*0;grind) x
  rw [←e,hq];exact Nat.zero_le _
 ·have h1:=Sg.dv_len (a:=aP p g) (b:=p) ⟨_,Sg.Pf.ev g,fun x=>by rw [hx x];grind⟩ hp0;rw [e] at h1;exact nXe h1 (nXe (af p) hl)
theorem wI{b a u v:List Rat}(hu:u=aP (dlN (tz b) (tz a)) (bv (dlN (tz b) (tz a)) (dlD (tz b) (tz a))))(hv:v=aP (dlD (tz b) (tz a)) (bv (dlN (tz b) (tz a)) (dlD (tz b) (tz a)))) :
  (∃ e,cD b a=(e,[],[]))∨cD b a=(0,u,v)∨cD b a=(0,ngV u,ngV v):=by
 unfold cD;by_cases h1:VF b a
 ·rw [if_pos h1];by_cases h2:tz b=[]
  ·rw [if_pos h2];exact Or.inl ⟨_,rfl⟩
  ·rw [if_neg h2];by_cases h3:50<(tz b).length+(tz a).length
   ·rw [if_pos h3];exact Or.inl ⟨_,rfl⟩
   ·rw [if_neg h3,←hu,←hv];by_cases h4:evV v ((1:Int):Rat)<0
    ·rw [if_pos h4];exact Or.inr (Or.inr rfl)
    ·rw [if_neg h4];exact Or.inr (Or.inl rfl)
 ·rw [if_neg h1];exact Or.inl ⟨_,rfl⟩
theorem zV{K n:Nat}{x:Int×List Rat×List Rat}(nil:FrB K ([]:List Rat)){e:Int}(h:x=(e,[],[])):FrB K x.2.1∧FrB K x.2.2∧x.2.1.length≤n∧x.2.2.length≤n:=by
 subst h;exact ⟨nil,nil,Nat.zero_le _,Nat.zero_le _⟩
theorem wH{K n:Nat}{x:Int×List Rat×List Rat}{e:Int}{u v:List Rat}(h:x=(e,u,v))(h1:FrB K u)(h2:FrB K v)(h3:u.length≤n)(h4:v.length≤n):FrB K x.2.1∧FrB K x.2.2∧x.2.1.length≤n∧x.2.2.length≤n:=by
 subst h;exact ⟨h1,h2,h3,h4⟩
theorem qh{n S K:Nat}{b a:List Rat}(hv:VF b a)(hb:tz b≠[])(hN:FrB S (dlN (tz b) (tz a)))(hD:FrB S (dlD (tz b) (tz a)))(lN:(dlN (tz b) (tz a)).length≤n)(lD:(dlD (tz b) (tz a)).length≤n)(hn:n≤1000)(hK:(S+1)*(2*n+1)+S+1≤K) :
  FrB K (cD b a).2.1∧FrB K (cD b a).2.2∧(cD b a).2.1.length≤n∧(cD b a).2.2.length≤n:=by
 have ha:=sG hv;have hd0:=jO (b:=tz b) (a:=tz a) (by rw [av];exact hb) (by rw [av];exact ha);have hG:=Sg.gcd_spec (dlN (tz b) (tz a)) (dlD (tz b) (tz a));have hg:tz (bv (dlN (tz b) (tz a)) (dlD (tz b) (tz a)))≠[]:=fun h0=>hd0 (Sg.ev_tznil.2 fun x=>by
  obtain ⟨q,-,h1⟩:=hG.2.1;rw [h1 x,Sg.ev_tznil.1 h0 x,nXz])
 have hm:=kd (dlN (tz b) (tz a)) (dlD (tz b) (tz a));have q1:=rt hN lN hn hg hG.1 hm;have q2:=rt hD lD hn hg hG.2.1 hm;have l1:=rj lN hg hG.1;have l2:=rj lD hg hG.2.1;have nil:FrB K ([]:List Rat):=FrB.nil.mono (by omega);obtain ⟨u,hu⟩:∃ u,u=aP (dlN (tz b) (tz a)) (bv (dlN (tz b) (tz a)) (dlD (tz b) (tz a))):=⟨_,rfl⟩;obtain ⟨v,hv'⟩:∃ v,v=aP (dlD (tz b) (tz a)) (bv (dlN (tz b) (tz a)) (dlD (tz b) (tz a))):=⟨_,rfl⟩;have hor:=wI hu hv';rw [←hu] at q1 l1;rw [←hv'] at q2 l2;clear hu hv' hm hg hG;obtain ⟨L,hL⟩:∃ L,L=(S+1)*(2*n+1):=⟨_,rfl⟩;rw [←hL] at q1 q2 hK;rcases hor with ⟨e,h⟩|h|h
 ·exact zV nil h
 ·exact wH h (q1.mono (by omega)) (q2.mono (by omega)) l1 l2
 ·exact wH h (q1.ngv.mono hK) (q2.ngv.mono hK) (nXe (uU _) l1) (nXe (uU _) l2)
theorem Di{n:Nat}(hn:n≤20):∃ t:Nat,0<t∧t<W32∧Tf n n=((t:Nat):Rat):=by
 obtain ⟨h1,h2⟩:=C5 (k:=n) (i:=n) hn;have h3:=(qx n).1;have h4:=h1.eq;have h5:0<(Tf n n).num:=by
  have:=Rat.num_nonneg.2 (Rat.le_of_lt h3);have h6:(Tf n n).num≠0:=fun h=>by
   rw [Rat.num_eq_zero.1 h] at h3;exact absurd h3 Rat.lt_irrefl
  omega
 refine ⟨(Tf n n).num.natAbs,by omega,by rw [Nat.pow_one] at h2;exact h2,?_⟩;have h6:(((Tf n n).num.natAbs:Int):Rat)=Tf n n:=by rw [show ((Tf n n).num.natAbs:Int)=(Tf n n).num by omega];exact h4.symm
 exact h6.symm
theorem AC{S D t:Nat}{x T:Rat}(h:Fr S D x)(hT:T=((t:Nat):Rat))(ht:0<t):Fr S (D*t) (x / T):=by
 have h0:T≠0:=fun h=>by
  rw [hT] at h;have:(t:Int)=0:=by exact_mod_cast h
  omega
 unfold Fr;have e:x / T*((D*t:Nat):Rat)=x*(D:Rat):=by
  rw [Rat.natCast_mul,←hT,Rat.div_def];have:=nYi T h0;grind
 rw [e];exact h
theorem Fq:∀ (n:Nat) (r:List Rat) (S D:Nat),n≤20→FrL S D r→∃ E,0<E∧E≤W32 ^ n∧FrL (S+3*n) (D*E) (tbV n r):=by
 intro n;induction n with
 | zero=>intro r S D _ _;exact ⟨1,by decide,by decide,fun x hx=>by simp [tbV] at hx⟩
 | succ n ih =>
  intro r S D hn hr;obtain ⟨t,t1,t2,t3⟩:=Di (n:=n) (by omega);have hq:Fr S (D*t) (r.getD n 0 / Tf n n):=AC (hr.at n) t3 t1;have hr2:FrL (S+2) (D*t) (lZ r n):=by
   unfold lZ;refine FrL.range fun k hk=>?_
   exact ((hr.at k).den (U:=1) (by rw [Nat.pow_one];exact t2)).sub (hq.muli (C5 (by omega)))
  obtain ⟨E,e1,e2,e3⟩:=ih (lZ r n) (S+2) (D*t) (by omega) hr2;refine ⟨t*E,Nat.mul_pos t1 e1,by rw [nXt,nYd (W32 ^ n)];exact nXw (nYk t2) e2,?_⟩;rw [←Nat.mul_assoc];intro x hx;rcases List.mem_append.1 hx with hx|hx
  ·exact (e3 x hx).mono (by omega)
  ·rw [List.mem_singleton.1 hx];exact (hq.up e2 e1).mono (by omega)
theorem tK{n S:Nat}{r:List Rat}(h:FrB S r)(hn:n≤20):FrB (S+3*n) (tbV n r):=by
 obtain ⟨h0,D,h1,h2,h3⟩:=h;obtain ⟨E,e1,e2,e3⟩:=Fq n r S D hn h3;refine ⟨by omega,D*E,Nat.mul_pos h1 e1,?_,e3⟩;have:D*E<W32 ^ (S+n):=by
  rw [Nat.pow_add];exact Nat.mul_lt_mul_of_lt_of_le h2 e2 (nYl aC)
 exact nXm this (gE (by omega))
theorem tM{S m:Nat}{c:List Rat}(h:FrB S c):FrB (S+1) (jU c m):=by
 obtain ⟨h0,D,h1,h2,h3⟩:=h;refine ⟨by omega,D*2,by omega,by rw [nXt];exact Nat.mul_lt_mul_of_lt_of_le h2 (by decide) (by decide),?_⟩;unfold jU;refine FrL.range fun k hk=>?_
 unfold qL;split
 ·exact (h3.at 0).den (U:=1) (by decide)
 ·have e:xK=1 / (((2:Nat):Rat)):=rfl;have e2:∀ x:Rat,x*xK=x / ((2:Nat):Rat):=fun x=>by rw [e,Rat.div_def,Rat.div_def,Rat.one_mul]
  rw [e2];exact (AC (h3.at _) rfl (by decide)).mono (by omega)
theorem Cd:xK≠0:=by decide +kernel
theorem zW{n S K:Nat}{b a:List Rat}(hv:VF b a)(hb:tz b≠[])(hD:FrB S (dlD (tz b) (tz a)))(lD:(dlD (tz b) (tz a)).length≤n)(hn:n≤1000)(hK:(S+1)*(2*n+1)+S+1≤K):FrB K (cD b a).2.2:=by
 have ha:=sG hv;have hd0:=jO (b:=tz b) (a:=tz a) (by rw [av];exact hb) (by rw [av];exact ha);have hG:=Sg.gcd_spec (dlN (tz b) (tz a)) (dlD (tz b) (tz a));have q2:=uF hD hd0 lD hn hG.2.1 (kd (dlN (tz b) (tz a)) (dlD (tz b) (tz a)));have nil:FrB K ([]:List Rat):=FrB.nil.mono (by omega);obtain ⟨u,hu⟩:∃ u,u=aP (dlN (tz b) (tz a)) (bv (dlN (tz b) (tz a)) (dlD (tz b) (tz a))):=⟨_,rfl⟩;obtain ⟨v,hv'⟩:∃ v,v=aP (dlD (tz b) (tz a)) (bv (dlN (tz b) (tz a)) (dlD (tz b) (tz a))):=⟨_,rfl⟩;have hor:=wI hu hv';rw [←hv'] at q2;clear hu hv' hG;obtain ⟨L,hL⟩:∃ L,L=(S+1)*(2*n+1):=⟨_,rfl⟩;rw [←hL] at q2 hK;obtain ⟨x,hx⟩:∃ x,x=cD b a:=⟨_,rfl⟩;rw [←hx] at hor ⊢;rcases hor with ⟨e,h⟩|h|h
 ·subst h;exact nil
 ·subst h;exact q2.mono (by omega)
 ·subst h;exact q2.ngv.mono hK
theorem ED{b a:List Rat}(hv:VF b a)(hb:tz b≠[])(h0:(cD b a).2.2≠[]):Sg.Dv (evV (cD b a).2.2) (evV (dlD (tz b) (tz a))):=by
 have ha:=sG hv;have hd0:=jO (b:=tz b) (a:=tz a) (by rw [av];exact hb) (by rw [av];exact ha);have hG:=Sg.gcd_spec (dlN (tz b) (tz a)) (dlD (tz b) (tz a));have hg:tz (bv (dlN (tz b) (tz a)) (dlD (tz b) (tz a)))≠[]:=fun h0=>hd0 (Sg.ev_tznil.2 fun x=>by
  obtain ⟨q,-,h1⟩:=hG.2.1;rw [h1 x,Sg.ev_tznil.1 h0 x,nXz])
 have hx:=Sg.quo_exact hg hG.2.1;obtain ⟨u,hu⟩:∃ u,u=aP (dlN (tz b) (tz a)) (bv (dlN (tz b) (tz a)) (dlD (tz b) (tz a))):=⟨_,rfl⟩;obtain ⟨v,hv'⟩:∃ v,v=aP (dlD (tz b) (tz a)) (bv (dlN (tz b) (tz a)) (dlD (tz b) (tz a))):=⟨_,rfl⟩;have hor:=wI hu hv';rw [←hv'] at hx;obtain ⟨g,hgg⟩:∃ g,g=bv (dlN (tz b) (tz a)) (dlD (tz b) (tz a)):=⟨_,rfl⟩;rw [←hgg] at hx;obtain ⟨d,hd⟩:∃ d,d=dlD (tz b) (tz a):=⟨_,rfl⟩;rw [←hd] at hx ⊢;clear hu hv' hG hg hd hgg hd0;obtain ⟨x,hx'⟩:∃ x,x=cD b a:=⟨_,rfl⟩;rw [←hx'] at hor h0 ⊢;clear hx';rcases hor with ⟨e,h⟩|h|h <;> subst h
 ·exact absurd rfl h0
 ·exact ⟨_,Sg.Pf.ev g,fun x=>by rw [hx x];exact nYb _ _⟩
 ·refine ⟨_,Sg.Pf.ev (ngV g),fun x=>?_⟩;show _=evV (ngV _) x*_;rw [hx x,rZ,rZ];grind
structure Ga (b a h xn xd yn yd zn zd:List Rat) (m:Nat):Prop where
 ex:cD b a=(0,xn,xd)
 ey:cD h [1]=(0,yn,yd)
 ez:cD (ag b h) (ag a [1])=(0,zn,zd)
 es:xE b a h [1]=(0,ag b h,ag a [1])
 fh:FrB 40 h
 fs:FrB 40 (ag b h)
 ft:FrB 40 (ag a [1])
 lh:h.length≤11
 ls:(ag b h).length≤14
 lt:(ag a [1]).length≤5
 fx:FrB 1240 xd
 lx:xd.length≤9
 gx:FrB 13000 xn∧xn.length≤18
 gy:FrB 13000 yn∧yn.length≤18
 hy:FrB 13000 yd∧yd.length≤18
 gz:FrB 13000 zn∧zn.length≤18
 hz:FrB 13000 zd∧zd.length≤18
 ck:lQ xd (-1) 1=true
 ne:yd≠[]
 nil:go (ag zn (ag xd yd)) (ag zd (aS (ag xn yd) (ag yn xd)))=[]
 same:tz yn=tz (aK yd (((m:Nat):Int):Rat))
 kx:FrK 1500000 (tz xd)
 kq:FrK 1500000 (Sg.sqfV (tz xd))
theorem pM:FrB 3 [(1:Rat)]:=FrB.of (k:=1) (n:=1) (fun x hx=>by rw [List.mem_singleton.1 hx];exact Sz.int (z:=1) (by decide)) (by decide)
theorem FP{b a h:List Rat}{m:Nat}(P:Fj b a)(hb:b≠[])(hn:h≠[])(ht:tz h=h)(hf:FrB 20 h)(hm:m≤5)(hl:h.length≤2*m+1)(hs:∀ k,k≤2*m→seq h k=seq h (2*m-k)) :
  ∃ xn xd yn yd zn zd,Ga b a h xn xd yn yd zn zd m:=by
 have hb':tz b≠[]:=by rw [P.tb];exact hb
 have hn':tz h≠[]:=by rw [ht];exact hn
 have lb:=P.lb;have la:=P.la;obtain ⟨v2,e0,e1,e2,e3,ck,ne,nil,same⟩:=oU P.vf hb' hn' (by rw [P.tb];omega) (by rw [P.ta];omega) hm hl hs;have t1:tz [(1:Rat)]=[1]:=by decide
 have fb:FrB 13 (tz b):=P.zb.tz.mono (by decide);have fa:FrB 13 (tz a):=P.za.tz.mono (by decide);have ltb:(tz b).length≤4:=by rw [P.tb];exact lb
 have lta:(tz a).length≤4:=by rw [P.ta];exact la
 have lth:(tz h).length≤11:=by rw [ht];omega
 have F1:=Ex fb fa (by omega) (by omega) (by decide);have L1:=Et (p:=tz b) (q:=tz a) (by omega) (by omega);have X:=qh (n:=9) (S:=125) (K:=13000) P.vf hb' F1.2.2.2.2.2.2.1 (F1.2.2.2.2.2.2.2.mono (by decide)) L1.1 L1.2 (by decide) (by decide);have fb2:FrB 40 (tz b):=P.zb.tz.mono (by decide);have fs:FrB 40 (ag b h):=(P.zb.mul hf (by omega)).mono (by decide);have ft:FrB 40 (ag a [1]):=(P.za.mul pM (by omega)).mono (by decide);have ls:(ag b h).length≤14:=nXe (bI (n:=4) (m:=11) lb (by omega)) (by decide);have lt:(ag a [1]).length≤5:=nXe (bI (n:=4) (m:=1) la (by decide)) (by decide);have tls:=af (ag b h);have tlt:=af (ag a [1]);have FY:=qe (S:=40) (p:=tz h) (q:=tz [1]) (hf.tz.mono (by decide)) (by rw [t1];exact pM.mono (by decide)) (by omega) (by rw [t1];decide) (by decide);have LY:=p9 (p:=tz h) (q:=tz [1]) (by omega) (by rw [t1];decide);have FZ:=qe (S:=40) (p:=tz (ag b h)) (q:=tz (ag a [1])) fs.tz ft.tz (by omega) (by omega) (by decide);have LZ:=p9 (p:=tz (ag b h)) (q:=tz (ag a [1])) (by omega) (by omega);have v3:VF (ag b h) (ag a [1]):=by
  refine Classical.byContradiction fun hv=>?_
  unfold cD at e3;rw [if_neg hv] at e3;exact absurd e3 (by decide)
 have hbh:tz (ag b h)≠[]:=by rw [dq];exact kZ hb' hn'
 have Y:=qh (n:=18) (S:=341) (K:=13000) v2 hn' FY.2.2.2.2.2.2.1 (FY.2.2.2.2.2.2.2.mono (by decide)) LY.1 LY.2 (by decide) (by decide);have Z:=qh (n:=18) (S:=341) (K:=13000) v3 hbh FZ.2.2.2.2.2.2.1 (FZ.2.2.2.2.2.2.2.mono (by decide)) LZ.1 LZ.2 (by decide) (by decide);have hdv:=ED P.vf hb' (fun e=>pI ck (by rw [e];rfl));have hd0:=jO (b:=tz b) (a:=tz a) (by rw [av];exact hb') (by rw [av,P.ta];intro h;have:=P.head;rw [h] at this;exact absurd this (by decide));have fx:FrB 1240 (cD b a).2.2:=zW P.vf hb' F1.2.2.2.2.2.2.2 L1.2 (by decide) (by decide);have hxz:tz (cD b a).2.2≠[]:=pI ck;obtain ⟨D,d1,d2,d3⟩:=F1.2.2.2.2.2.2.2.2;refine ⟨(cD b a).2.1,(cD b a).2.2,(cD h [1]).2.1,(cD h [1]).2.2,(cD (ag b h) (ag a [1])).2.1,(cD (ag b h) (ag a [1])).2.2,⟨?_,?_,?_,e0,hf.mono (by decide),fs,ft,by omega,ls,lt,fx,X.2.2.2,⟨X.1,by have:=X.2.2.1;omega⟩,⟨Y.1,Y.2.2.1⟩,⟨Y.2.1,Y.2.2.2⟩,⟨Z.1,Z.2.2.1⟩,⟨Z.2.1,Z.2.2.2⟩,ck,ne,nil,same,?_,?_⟩⟩
 ·exact Prod.ext e1 rfl
 ·exact Prod.ext e2 rfl
 ·exact Prod.ext e3 rfl
 ·obtain ⟨h0,E,h1,h2,h3⟩:=fx.tz;exact ⟨1240,E,h0,h1,h2,h3,Ax (S:=1240) (n:=9) (by decide) (nXd _) (nXe (af _) X.2.2.2)⟩
 ·refine Eo (S:=61) (n:=9) (p:=aB (dlD (tz b) (tz a))) (dC (fun x hx=>d3 x (ii hx)) d1) (by rw [bY];exact fun k=>hd0 (Sg.spl_ne.1 k)) (by rw [aE];exact nXe (af _) L1.2) (by decide) (by unfold KN;decide) (AN hd0 ((Do (by rw [av];exact hxz)).trans ?_)) (Bb _);obtain ⟨c,hc,h1⟩:=hdv;exact ⟨c,hc,fun x=>by rw [h1 x,jC]⟩
end Go.Proofs.YtohahgiidooijaaGreat
