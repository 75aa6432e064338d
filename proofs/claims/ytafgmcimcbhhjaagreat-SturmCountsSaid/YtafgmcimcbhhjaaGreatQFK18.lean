import Derived.Test.YtafgmcimcbhhjaaGreatQFK17
set_option linter.unusedVariables false
namespace Go.Proofs.YtafgmcimcbhhjaaGreat.Sg
open Go.RowKit Go.Front Go.Num Go.Stab Go.Proofs.YtafgmcimcbhhjaaGreat Sie
theorem CA{g a b:Rat}(ha:Mu g a)(hb:Mu g b)(h0:a≠0∨b≠0):Mu g (fX a b):=by
 have habs:∀ {x:Rat},Mu g x→Mu g x.abs:=fun {x} ⟨z,hz,e⟩=>by
  rcases wt x with k|k
  ·exact ⟨z,hz,by rw [k,e]⟩
  ·exact ⟨-z,hz.neg,by rw [k,e];grind⟩
 unfold fX;by_cases ha0:a=0
 ·rw [if_pos ha0];exact habs hb
 ·rw [if_neg ha0];by_cases hb0:b=0
  ·rw [if_pos hb0];exact ha
  ·rw [if_neg hb0];refine habs ?_;obtain ⟨z,hz,rfl⟩:=ha;obtain ⟨y,hy,rfl⟩:=hb;have hg:g≠0:=fun h=>ha0 (by rw [h];grind)
   have hz0:z≠0:=fun h=>ha0 (by rw [h];grind)
   have hy0:y≠0:=fun h=>hb0 (by rw [h];grind)
   have e:z*g / (y*g)=z / y:=kv hg z hy0;rw [e];have h1:=low (z / y);have h2:=aA (a:=z) hy0;have hq0:z / y≠0:=fun h=>hz0 (by rw [←h2,h];grind)
   have hN:=mD hq0;rw [hz.eq,hy.eq] at h1 h2;rw [hz.eq,hy.eq] at hN ⊢;generalize hq:(z.num:Rat) / (y.num:Rat)=q at *
   -- z den=y num
   have h3:z.num*q.den=y.num*q.num:=by
    have:(z.num:Rat)*(q.den:Rat)=(y.num:Rat)*(q.num:Rat):=by rw [←h1,←h2];grind
    have h4:((z.num*q.den:Int):Rat)=((y.num*q.num:Int):Rat):=by
     rw [Rat.intCast_mul,Rat.intCast_mul,Rat.intCast_natCast];exact this
    exact Rat.intCast_inj.1 h4
   have hd:q.num ∣ z.num:=by
    have h4:q.num ∣ z.num*q.den:=⟨y.num,by rw [h3,Int.mul_comm]⟩;have h5:q.num.natAbs ∣ z.num.natAbs*q.den:=by
     have:=Int.natAbs_dvd_natAbs.2 h4
     rwa [Int.natAbs_mul,nYh] at this
    exact Int.natAbs_dvd_natAbs.1 (Nat.Coprime.dvd_of_dvd_mul_right q.reduced h5)
   obtain ⟨k,hk⟩:=hd;refine ⟨(k:Rat),Wh.int k,?_⟩;have h6:=aA (a:=(z.num:Rat)*g) hN;have h7:(z.num:Rat)=(q.num:Rat)*(k:Rat):=by rw [hk,Rat.intCast_mul]
   have h8:((z.num:Rat)*g / (q.num:Rat)-(k:Rat)*g)*(q.num:Rat)=0:=by rw [Rat.sub_eq_add_neg,Rat.add_mul,h6,h7];grind
   rcases nXr.1 h8 with h|h
   ·grind
   ·exact absurd h hN
theorem AR{g:Rat}(l:List Rat)(h:∀ x ∈ l,Mu g x):Mu g (bh l):=by
 induction l using snoc_ind with
 | h0=>exact Mu.zero g
 | h1 l r ih =>
  rw [ez];have h1:=ih (fun x hx=>h x (List.mem_append_left _ hx));have h2:=h r (by simp);by_cases h3:bh l≠0∨r≠0
  ·exact CA h1 h2 h3
  ·have e1:bh l=0:=Decidable.byContradiction fun h4=>h3 (Or.inl h4)
   have e2:r=0:=Decidable.byContradiction fun h4=>h3 (Or.inr h4)
   rw [e1,e2,rN];exact Mu.zero g
theorem o9(p:List Rat)(i:Nat):seq (ak p) i=(((seq (ak p) i).num:Int):Rat):=by
 rcases Nat.lt_or_ge i (ak p).length with h4|h4
 ·exact (yV p _ (bJ h4)).eq
 ·rw [show seq (ak p) i=0 from bg h4];rfl
theorem wM{p:List Rat}(hp:tz p≠[]){t:Int}(h:∀ i,t ∣ (seq (ak p) i).num):t.natAbs=1:=by
 have hm:=aW hp;have h1:Mu ((t:Rat)*aH p) (aH p):=AR (tz p) fun x hx=>by
  obtain ⟨i,hi,rfl⟩:=dk hx;rw [bj];have h2:=c9 p i;obtain ⟨k,hk⟩:=h i;have h3:=o9 p i;refine ⟨(k:Rat),Wh.int k,?_⟩;show seq p i=_;rw [h2,h3,hk,Rat.intCast_mul];grind
 obtain ⟨z,hz,e⟩:=h1;have h2:z*(t:Rat)=1:=by
  have h3:(z*(t:Rat)-1)*aH p=0:=by grind
  rcases nXr.1 h3 with h|h
  ·grind
  ·rw [h] at hm;exact absurd hm Rat.lt_irrefl
 rw [hz.eq,←Rat.intCast_mul] at h2;have h4:z.num*t=1:=Rat.intCast_inj.1 h2;exact Int.natAbs_dvd_natAbs.2 (⟨z.num,by rw [←h4,Int.mul_comm]⟩:t ∣ 1) |> fun h=>Nat.dvd_one.1 h
theorem uN:∀ N:Nat,2≤N→∃ r,2≤r∧r ∣ N∧∀ x y:Int,(r:Int) ∣ x*y→(r:Int) ∣ x∨(r:Int) ∣ y:=by
 intro N hN;have key:∀ n:Nat,∀ r,2≤r→r≤n→r ∣ N→∃ r,2≤r∧r ∣ N∧∀ d,d ∣ N→2≤d→r≤d:=by
  intro n;induction n with
  | zero=>intro r h1 h2;omega
  | succ n ih =>
   intro r h1 h2 h3;by_cases h4:∃ d,d ∣ N∧2≤d∧d<r
   ·obtain ⟨d,d1,d2,d3⟩:=h4;exact ih d d2 zo d1
   ·exact ⟨r,h1,h3,fun d d1 d2=>Classical.byContradiction fun h5=>h4 ⟨d,d1,d2,zo⟩⟩
 obtain ⟨r,h1,h2,h3⟩:=key N N hN (nXe N) (Nat.dvd_refl N);refine ⟨r,h1,h2,fun x y h=>?_⟩;have hg:Nat.gcd r x.natAbs=1∨Nat.gcd r x.natAbs=r:=by
  have a1:=Nat.gcd_dvd_left r x.natAbs;have a2:Nat.gcd r x.natAbs ∣ N:=Nat.dvd_trans a1 h2;have a3:=Nat.le_of_dvd zo a1;have a4:0<Nat.gcd r x.natAbs:=Nat.gcd_pos_of_pos_left _ zo;rcases Nat.lt_or_ge (Nat.gcd r x.natAbs) 2 with h4|h4
  ·left;omega
  ·right
   have:=h3 _ a2 h4;omega
 have hn:r ∣ x.natAbs*y.natAbs:=by
  have:=Int.natAbs_dvd_natAbs.2 h
  rwa [nYh,Int.natAbs_mul] at this
 rcases hg with h4|h4
 ·right
  exact Int.natAbs_dvd_natAbs.1 (by rw [nYh];exact Nat.Coprime.dvd_of_dvd_mul_left h4 hn)
 ·left
  exact Int.natAbs_dvd_natAbs.1 (by rw [nYh,←h4];exact Nat.gcd_dvd_right _ _)
theorem oJ{r:Int}{f:Nat→Int}(h:∃ i,¬ r ∣ f i):∃ i,¬ r ∣ f i∧∀ j,j<i→r ∣ f j:=by
 obtain ⟨i,hi⟩:=h;induction i using Nat.strongRecOn with
 | _ i ih =>
  by_cases h2:∃ j,j<i∧¬ r ∣ f j
  ·obtain ⟨j,h3,h4⟩:=h2;exact ih j h3 h4
  ·exact ⟨i,hi,fun j hj=>Decidable.byContradiction fun h=>h2 ⟨j,hj,h⟩⟩
theorem xW{r:Int}{n:Nat}{f:Nat→Int}(h:∀ i,i<n→r ∣ f i):r ∣ iM n f:=by
 induction n with
 | zero=>exact ⟨0,by simp [iM]⟩
 | succ n ih=>exact Int.dvd_add (ih fun i hi=>h i zo) (h n (Nat.lt_succ_self n))
theorem xX{r:Int}:∀ {n:Nat} {f:Nat→Int} {k:Nat},k<n→(∀ i,i<n→i≠k→r ∣ f i)→r ∣ iM n f→r ∣ f k:=by
 intro n;induction n with
 | zero=>intro f k h;omega
 | succ n ih =>
  intro f k hk h hs;have hs':r ∣ iM n f+f n:=hs;by_cases h1:k=n
  ·subst h1;exact (Int.dvd_add_right (xW fun i hi=>h i zo zo)).1 hs'
  ·exact ih zo (fun i hi hne=>h i zo hne) ((Int.dvd_add_left (h n (Nat.lt_succ_self n) zo)).1 hs')
theorem DX{r:Nat}(hr:∀ x y:Int,(r:Int) ∣ x*y→(r:Int) ∣ x∨(r:Int) ∣ y){f g:Nat→Int}(hf:∃ i,¬ (r:Int) ∣ f i)(hg:∃ i,¬ (r:Int) ∣ g i):∃ n,¬ (r:Int) ∣ iM (n+1) (fun i=>f i*g (n-i)):=by
 obtain ⟨a,ha,ha2⟩:=oJ hf;obtain ⟨b,hb,hb2⟩:=oJ hg;refine ⟨a+b,fun h=>?_⟩;have h1:=xX (k:=a) zo (fun i hi hne=>?_) h
 ·rw [show a+b-a=b by omega] at h1;rcases hr _ _ h1 with h2|h2
  ·exact ha h2
  ·exact hb h2
 ·rcases Nat.lt_or_ge i a with h2|h2
  ·exact Int.dvd_mul_of_dvd_left (ha2 i h2)
  ·exact Int.dvd_mul_of_dvd_right (hb2 (a+b-i) zo)
theorem yE{q g h:List Rat}(hq:∀ i,Wh (seq q i))(hq0:tz q≠[])(hg:ak g=g)(he:∀ x,evV q x=evV g x*evV h x):∀ i,Wh (seq h i):=by
 have hg0:tz g≠[]:=fun h0=>by
  obtain ⟨y,hy⟩:=iC hq0;exact hy (by rw [he,av.1 h0 y];grind)
 have hh0:tz h≠[]:=fun h0=>by
  obtain ⟨y,hy⟩:=iC hq0;exact hy (by rw [he,av.1 h0 y];grind)
 have whs:=o9;have hc:∀ n,(seq q n)*((aH h).den:Rat)=((aH h).num:Rat)*((iM (n+1) (fun i=>(seq g i).num*(seq (ak h) (n-i)).num):Int):Rat):=fun n=>by
  have h1:=gK (p:=q) (q:=aI g h) (fun x=>by rw [aU,he]) n;rw [h1,dQ,iJ,oB];have h2:cv (seq g) (seq h) n=aH h*sm (n+1) (fun i=>(((seq g i).num*(seq (ak h) (n-i)).num:Int):Rat)):=by
   rw [←mtq];refine sm_congr fun i hi=>?_
   rw [Rat.intCast_mul,←whs h,c9 h (n-i)];have h3:=whs g i;rw [hg] at h3;rw [←h3];grind
  rw [h2];have h4:=low (aH h);rw [←h4];grind
 have hd:(aH h).den=1:=by
  apply Classical.byContradiction;intro hd;have hd2:2≤(aH h).den:=by have:=(aH h).den_pos;omega
  obtain ⟨r,r1,r2,r3⟩:=uN _ hd2;have hpf:∀ {p:List Rat},tz p≠[]→∃ i,¬ (r:Int) ∣ (seq (ak p) i).num:=fun {p} hp=>Classical.byContradiction fun hn=>by
   have:=wM hp (t:=(r:Int)) (fun i=>Classical.byContradiction fun h=>hn ⟨i,h⟩);rw [nYh] at this;omega
  have hgf:=hpf hg0;rw [hg] at hgf;obtain ⟨n,hn⟩:=DX r3 hgf (hpf hh0);apply hn;have h1:=hc n;rw [(hq n).eq] at h1;have h2:(seq q n).num*(aH h).den=(aH h).num*iM (n+1) (fun i=>(seq g i).num*(seq (ak h) (n-i)).num):=by
   apply Rat.intCast_inj.1;rw [Rat.intCast_mul,Rat.intCast_mul,Rat.intCast_natCast];exact h1
  have h3:(r:Int) ∣ (aH h).num*iM (n+1) (fun i=>(seq g i).num*(seq (ak h) (n-i)).num):=by
   rw [←h2];obtain ⟨k,hk⟩:=r2;exact ⟨(seq q n).num*k,by rw [hk,Int.natCast_mul];grind⟩
  rcases r3 _ _ h3 with h4|h4
  ·exfalso;have h5:r ∣ (aH h).num.natAbs:=by
    have:=Int.natAbs_dvd_natAbs.2 h4
    rwa [nYh] at this
   have h6:=Nat.dvd_gcd h5 r2;rw [(aH h).reduced] at h6;have:=Nat.dvd_one.1 h6;omega
  ·exact h4
 intro i;rw [c9 h i];exact Wh.mul hd (by rw [whs h i];exact Wh.int _)
theorem Br:∀ (m:Nat) (g:List Rat) (a B R:Rat),ln g≤m+1→0≤B→0≤R→(∀ t:Nat,t≤m→Sg.Bd B (evV g (a+(t:Rat))))→(∀ t:Nat,t≤m→Sg.Bd R (a+(t:Rat)))→∀ i,Sg.Bd (B*(2*R+3) ^ m) (seq g i):=by
 intro m;induction m with
 | zero =>
  intro g a B R hl hB hR hv hp i;rw [Rat.pow_zero,Rat.mul_one];cases i with
  | zero=>rw [←eA hl (a+((0:Nat):Rat))];exact hv 0 (nXe 0)
  | succ i=>rw [BJ zo];exact ⟨by grind,hB⟩
 | succ m ih =>
  intro g a B R hl hB hR hv hp i;obtain ⟨c,hc⟩:∃ c,c=a+((m+1:Nat):Rat):=⟨_,rfl⟩;have hcv:=hv (m+1) (nXe _);have hcR:=hp (m+1) (nXe _);rw [←hc] at hcv hcR;have one:∀ t:Rat,∀ x,evV [t] x=t:=fun t x=>by show 0*x+t=t;grind
  obtain ⟨f,hf⟩:∃ f,f=im g [evV g c]:=⟨_,rfl⟩;have hfx:∀ x,evV f x=evV g x-evV g c:=fun x=>by rw [hf,eD,one]
  obtain ⟨g1',⟨g1,rfl⟩,h1⟩:=rA (Pf.ev f) (a:=c) (by rw [hfx];grind);have hlf:ln f≤m+2:=by
   have h2:=jm g [evV g c];have h3:ln [evV g c]≤1:=af [evV g c];rw [hf];omega
  have hl1:ln g1≤m+1:=by
   by_cases h2:tz g1=[]
   ·show (tz g1).length≤_;rw [h2];exact Nat.zero_le _
   ·have h3:=pM h1 h2;have h4:ln g1<ln f:=h3;omega
  have hmul:∀ d y:Rat,1≤d→Sg.Bd (2*B) (d*y)→Sg.Bd (2*B) y:=fun d y hd hb=>by
   rcases tot 0 y with h|h
   ·have h2:=cJ hd h;exact ⟨by grind,by have:=hb.2;grind⟩
   ·have h2:=cJ hd (show 0≤-y by grind);exact ⟨by have:=hb.1;grind,by grind⟩
  have hv1:∀ t:Nat,t≤m→Sg.Bd (2*B) (evV g1 (a+(t:Rat))):=fun t ht=>by
   have h2:=h1 (a+(t:Rat));rw [hfx] at h2;have h3:((m+1:Nat):Rat)-(t:Rat)=((m+1-t:Nat):Rat):=by
    have:((m+1:Nat):Rat)=((m+1-t:Nat):Rat)+(t:Rat):=by rw [←Rat.natCast_add];congr 1;omega
    grind
   have h4:(1:Rat)≤((m+1-t:Nat):Rat):=by exact_mod_cast (show 1≤m+1-t by omega)
   refine hmul _ _ h4 ?_;have h5:((m+1-t:Nat):Rat)*evV g1 (a+(t:Rat))=-(evV g (a+(t:Rat))-evV g c):=by rw [h2,←h3,hc];grind
   rw [h5,show (2:Rat)*B=B+B by grind];exact ((hv t zo).sub hcv).neg
  have hI:=ih g1 a (2*B) R hl1 (by grind) hR hv1 (fun t ht=>hp t zo);have hs:=pL h1 i;have hsg:seq g i=seq f i+seq [evV g c] i:=by rw [hf,tK];grind
  have hcon:Sg.Bd B (seq [evV g c] i):=by
   cases i with
   | zero=>exact hcv
   | succ i=>exact ⟨by show -B≤(0:Rat);grind,by show (0:Rat)≤B;exact hB⟩
  have hP:0≤(2*R+3) ^ m:=Rat.pow_nonneg (by grind);have hsh:Sg.Bd (2*B*(2*R+3) ^ m) (sh (seq g1) i):=by
   cases i with
   | zero =>
    have:=nq (show 0≤2*B by grind) hP;exact ⟨by show -_≤(0:Rat);grind,by show (0:Rat)≤_;exact this⟩
   | succ i=>exact hI i
  have hP1:1≤(2*R+3) ^ m:=by
   have:∀ k:Nat,(1:Rat)≤(2*R+3) ^ k:=fun k=>by
    induction k with
    | zero=>rw [Rat.pow_zero];exact Rat.le_refl
    | succ k ihk =>
     rw [Rat.pow_succ];have h6:=cJ ihk (show 0≤2*R+3 by grind);grind
   exact this m
  rw [hsg,hs,Rat.pow_succ];refine ((hsh.sub (hcR.mul (hI i))).add hcon).mono ?_;have h7:=aZ hP1 hB;generalize (2*R+3) ^ m=P at *
  grind
theorem A3{A x:Rat}(hA:1≤A)(hx:A≤x):∀ p:List Rat,(∀ y ∈ p,Wh y∧Sg.Bd (A-1) y)→tz p≠[]→Big 1 (evV p x):=by
 intro p;induction p with
 | nil=>intro _ h;exact absurd rfl h
 | cons c p ih =>
  intro h h0;obtain ⟨hc1,hc2⟩:=h c (List.mem_cons_self ..);have e:evV (c :: p) x=evV p x*x+c:=rfl;rw [e];by_cases h1:tz p=[]
  ·rw [av.1 h1 x];have hc0:c≠0:=fun hc=>h0 (av.2 fun y=>by show evV p y*y+c=0;rw [av.1 h1 y,hc];grind)
   obtain ⟨z,hz⟩:=Wh.iff.1 hc1;rw [hz] at hc0 ⊢;have hz0:z≠0:=fun h=>hc0 (by rw [h];rfl)
   rcases (show 1≤z∨z≤-1 by omega) with h2|h2
   ·left
    have:((1:Int):Rat)≤(z:Rat):=Rat.intCast_le_intCast.2 h2;have e1:((1:Int):Rat)=1:=rfl;grind
   ·right
    have:(z:Rat)≤((-1:Int):Rat):=Rat.intCast_le_intCast.2 h2;have e1:((-1:Int):Rat)=-1:=rfl;grind
  ·have h2:=ih (fun y hy=>h y (List.mem_cons_of_mem _ hy)) h1;obtain ⟨b1,b2⟩:=hc2;rcases h2 with h3|h3
   ·left
    have h4:=cJ h3 (show 0≤x by grind);grind
   ·right
    have h4:=cJ h3 (show 0≤x by grind);grind
theorem CO{A X x:Rat}(hA:0≤A)(hx:0≤x)(hX:x≤X):∀ p:List Rat,(∀ y ∈ p,Sg.Bd A y)→Sg.Bd (A*(X+1) ^ p.length) (evV p x):=by
 intro p;induction p with
 | nil =>
  intro _;rw [List.length_nil,Rat.pow_zero,Rat.mul_one];exact ⟨by show -A≤(0:Rat);grind,hA⟩
 | cons c p ih =>
  intro h;have h1:=ih (fun y hy=>h y (List.mem_cons_of_mem _ hy));have h2:=h c (List.mem_cons_self ..);have hP:∀ k:Nat,(1:Rat)≤(X+1) ^ k:=fun k=>by
   induction k with
   | zero=>rw [Rat.pow_zero];exact Rat.le_refl
   | succ k ihk =>
    rw [Rat.pow_succ];have h6:=cJ ihk (show 0≤X+1 by grind);grind
  have e:evV (c :: p) x=evV p x*x+c:=rfl;rw [e,List.length_cons,Rat.pow_succ];refine ((h1.mul (show Sg.Bd X x from ⟨by grind,hX⟩)).add h2).mono ?_;have h3:=aZ (hP p.length) hA;generalize (X+1) ^ p.length=P at *
  grind
theorem BQ{p:List Rat}(h:∀ i,Wh (seq p i)){x:Rat}(hx:Wh x):Wh (evV p x):=by
 have key:∀ p:List Rat,(∀ i,Wh (seq p i))→Wh (evV p x):=by
  intro p;induction p with
  | nil=>intro _;exact Wh.zero
  | cons c p ih=>intro h;exact ((ih fun i=>h (i+1)).mul hx).add (h 0)
 exact key p h
theorem rE{q d:List Rat}{S:Nat}(hq:∀ x ∈ q,Wz S x)(hq0:tz q≠[])(hd:Dv (evV d) (evV q))(hn:q.length≤1000):∀ x ∈ ak d,Wz ((S+1)*(2*q.length+1)) x:=by
 have hd0:tz d≠[]:=fun h0=>by
  obtain ⟨y,hy⟩:=iC hq0;obtain ⟨c,-,h1⟩:=hd;exact hy (by rw [h1,av.1 h0 y];grind)
 have hdl:=eE hd hq0;have hql:=af q;obtain ⟨g,hg⟩:∃ g,g=ak d:=⟨_,rfl⟩;have hgg:ak g=g:=by
  rw [hg];exact (ck (p:=d) (q:=ak d) (aW hd0) (fun n=>by rw [c9 d n];grind)).symm
 obtain ⟨h,hh⟩:∃ h:List Rat,∀ x,evV q x=evV g x*evV h x:=by
  obtain ⟨c,hc,h1⟩:=hd;obtain ⟨h,hh⟩:=hc.smul (aH d);exact ⟨h,fun x=>by rw [h1,←hh,bM d x,hg];grind⟩
 have hqw:∀ i,Wh (seq q i):=fun i=>by rw [(iN hq i).1];exact Wh.int _
 have hhw:=yE hqw hq0 hgg hh;have hgw:∀ i,Wh (seq g i):=fun i=>by
  have:=o9 d i;rw [←hg] at this;rw [this];exact Wh.int _
 obtain ⟨A,hA⟩:∃ A:Nat,A=W32 ^ S:=⟨_,rfl⟩;have hA1:1≤A:=by rw [hA];exact nYm aw
 have hA1':(1:Rat)≤(A:Rat):=by exact_mod_cast hA1
 obtain ⟨m,hm⟩:∃ m,ln g=m+1:=⟨ln g-1,by
  have:1≤ln g:=dS (by rw [hg,aJ];exact fun k=>hd0 (bs.1 k));omega⟩
 have hmq:m+1≤q.length:=by
  have:ln g=(tz d).length:=by show (tz g).length=_;rw [hg,aJ,ax]
  omega
 obtain ⟨X,hX⟩:∃ X:Nat,X=A+m:=⟨_,rfl⟩;have hcoef:∀ y ∈ q,Wh y∧Sg.Bd ((A:Rat)-1) y:=fun y hy=>by
  obtain ⟨w1,w2⟩:=hq y hy;refine ⟨w1,?_⟩;rw [w1.eq];have h1:-((A:Int)-1)≤y.num∧y.num≤(A:Int)-1:=by rw [hA];omega
  have h2:=Rat.intCast_le_intCast.2 h1.1;have h3:=Rat.intCast_le_intCast.2 h1.2;rw [Rat.intCast_neg,Rat.intCast_sub,Rat.intCast_natCast] at h2;rw [Rat.intCast_sub,Rat.intCast_natCast] at h3;exact ⟨h2,h3⟩
 have hB:=fun (t:Nat) (ht:t≤m)=>CO (A:=(A:Rat)) (X:=(X:Rat)) (x:=(A:Rat)+(t:Rat)) (by grind) (by
  have:(0:Rat)≤(t:Rat):=by exact_mod_cast Nat.zero_le t
  grind) (by rw [hX,←Rat.natCast_add];exact_mod_cast (show A+t≤A+m by omega)) q (fun y hy=>(hcoef y hy).2.mono (by grind))
 have hval:∀ t:Nat,t≤m→Sg.Bd ((A:Rat)*((X:Rat)+1) ^ q.length) (evV g ((A:Rat)+(t:Rat))):=fun t ht=>by
  have h1:=A3 (A:=(A:Rat)) (x:=(A:Rat)+(t:Rat)) hA1' (by
   have:(0:Rat)≤(t:Rat):=by exact_mod_cast Nat.zero_le t
   grind) q hcoef hq0
  have h2:=hB t ht;have hxw:Wh ((A:Rat)+(t:Rat)):=by
   have h3:∀ k:Nat,Wh (k:Rat):=fun k=>Rat.den_natCast k
   exact (h3 A).add (h3 t)
  have hv1:=BQ hgw hxw;have hv2:=BQ hhw hxw;rw [hh] at h1 h2;generalize evV g ((A:Rat)+(t:Rat))=u at *
  generalize evV h ((A:Rat)+(t:Rat))=v at *
  generalize (A:Rat)*((X:Rat)+1) ^ q.length=C at *
  have hvz:v≠0:=fun h0=>by
   rw [h0,nYb] at h1;rcases h1 with h1|h1 <;> grind
  obtain ⟨z,hz⟩:=Wh.iff.1 hv2;have hz0:z≠0:=fun h=>hvz (by rw [hz,h];rfl)
  obtain ⟨c1,c2⟩:=h2;rcases (show 1≤z∨z≤-1 by omega) with h3|h3
  ·have h4:(1:Rat)≤v:=by
    have:((1:Int):Rat)≤(z:Rat):=Rat.intCast_le_intCast.2 h3;rw [hz];exact this
   rcases tot 0 u with h5|h5
   ·have h6:=aZ h4 h5;exact ⟨by grind,by grind⟩
   ·have h6:=aZ h4 (show 0≤-u by grind);exact ⟨by grind,by grind⟩
  ·have h4:v≤-1:=by
    have:(z:Rat)≤((-1:Int):Rat):=Rat.intCast_le_intCast.2 h3;rw [hz];exact this
   rcases tot 0 u with h5|h5
   ·have h6:=aZ (show 1≤-v by grind) h5;exact ⟨by grind,by grind⟩
   ·have h6:=aZ (show 1≤-v by grind) (show 0≤-u by grind);exact ⟨by grind,by grind⟩
 have hXr:∀ t:Nat,t≤m→Sg.Bd (X:Rat) ((A:Rat)+(t:Rat)):=fun t ht=>by
  have h1:(A:Rat)+(t:Rat)≤(X:Rat):=by rw [hX,←Rat.natCast_add];exact_mod_cast (show A+t≤A+m by omega)
  have h2:(0:Rat)≤(A:Rat)+(t:Rat):=by rw [←Rat.natCast_add];exact_mod_cast Nat.zero_le (A+t)
  exact ⟨by grind,h1⟩
 have hX0:(0:Rat)≤(X:Rat):=by exact_mod_cast Nat.zero_le X
 have hC0:(0:Rat)≤(A:Rat)*((X:Rat)+1) ^ q.length:=nq (by grind) (Rat.pow_nonneg (by grind));have hfin:=Br m g (A:Rat) _ (X:Rat) zo hC0 hX0 hval hXr;have hW:2*X+3≤W32 ^ (S+1):=by
  have e1:W32 ^ (S+1)=A*4294967296:=by rw [nXt,←hA];rfl
  omega
 have hbound:A*(X+1) ^ q.length*(2*X+3) ^ m<W32 ^ ((S+1)*(2*q.length+1)):=by
  have b1:(X+1) ^ q.length≤W32 ^ ((S+1)*q.length):=by rw [Nat.pow_mul];exact Nat.pow_le_pow_left zo _
  have b2:(2*X+3) ^ m≤W32 ^ ((S+1)*m):=by rw [Nat.pow_mul];exact Nat.pow_le_pow_left hW _
  have b3:A*(X+1) ^ q.length*(2*X+3) ^ m≤W32 ^ S*W32 ^ ((S+1)*q.length)*W32 ^ ((S+1)*m):=by
   rw [hA] at *
   exact nXx (nXg _ b1) b2
  refine nYk b3 ?_;rw [←Nat.pow_add,←Nat.pow_add];refine Nat.pow_lt_pow_right dZ ?_;have e2:(S+1)*(2*q.length+1)=(S+1)*q.length+(S+1)*q.length+(S+1):=by rw [Nat.mul_add,Nat.mul_one,show 2*q.length=q.length+q.length by omega,Nat.mul_add]
  have e3:(S+1)*m≤(S+1)*q.length:=nXg _ zo;omega
 intro x hx;rw [←hg] at hx;obtain ⟨i,hi,rfl⟩:=dk hx;have h1:=hfin i;have hw:=hgw i;refine ⟨hw,?_⟩;have h2:Sg.Bd (((A*(X+1) ^ q.length*(2*X+3) ^ m:Nat):Int):Rat) (((seq g i).num:Int):Rat):=by
  rw [←hw.eq,Rat.intCast_natCast,Rat.natCast_mul,Rat.natCast_mul,Rat.natCast_pow,Rat.natCast_pow,Rat.natCast_add,Rat.natCast_add,Rat.natCast_mul];exact h1
 obtain ⟨c1,c2⟩:=h2;rw [←Rat.intCast_neg] at c1;have c3:=Rat.intCast_le_intCast.1 c1;have c4:=Rat.intCast_le_intCast.1 c2;show (seq g i).num.natAbs<_;omega
end Go.Proofs.YtafgmcimcbhhjaaGreat.Sg
/- Sizes for chains of a polynomial and of its divisors. Plain facts. -/
namespace Go.Proofs.YtafgmcimcbhhjaaGreat
open Go.RowKit Go.Front Go.Num Stab Sg
theorem AT{q:List Rat}{L:Nat}(hq:bq q=q)(hw:∀ x ∈ ak q,Wz L x)(hL:1≤L):∃ D,0<D∧D<W32 ^ L∧FrL L D q:=by
 obtain ⟨D,h1,h2,h3⟩:=nr hw (aJ q) hL;rw [(i7 q).mon,hq] at h3;exact ⟨D,h1,h2,h3⟩
def KN(K S n:Nat):Prop:=3*((((S+1)*(2*n+1)+2)*(2*n)+(S+1)*(2*n+1)+2)*(2*n+3))≤K
theorem CE{K S S' n n':Nat}(h:3*(((S+2)*(2*n)+S+2)*(2*n+3))≤K)(hS:S'≤S)(hn:n'≤n):KZ K S' n':=by
 right
 refine nXf (nXg 3 (nXx ?_ zo)) h;have:(S'+2)*(2*n')≤(S+2)*(2*n):=nXx zo zo;omega
theorem KN.kz{K S S' n n':Nat}(h:KN K S n)(hS:S'≤(S+1)*(2*n+1))(hn:n'≤n):KZ K S' n':=CE (S:=(S+1)*(2*n+1)) h hS hn
theorem KN.self{K S n n':Nat}(h:KN K S n)(hn:n'≤n):KZ K S n':=h.kz (by
 have:(S+1)*1≤(S+1)*(2*n+1):=nXg _ zo;omega) hn
theorem vz{K S n:Nat}{p q:List Rat}(hp:∀ x ∈ p,Wz S x)(hp0:tz p≠[])(hl:p.length≤n)(hn:n≤1000)(hK:KN K S n)(hd:Dv (evV q) (evV p))(hm:bq q=q):FrK K q:=by
 have h1:=rE hp hp0 hd zo;have h2:=eE hd hp0;have h3:=af p;have h4:tz q=q:=by rw [←hm,et]
 rw [h4] at h2;have hL:1≤(S+1)*(2*p.length+1):=Nat.mul_pos zo zo;have hL2:(S+1)*(2*p.length+1)≤(S+1)*(2*n+1):=nXg _ zo;obtain ⟨D,d1,d2,d3⟩:=AT hm h1 hL;exact ⟨_,D,hL,d1,d2,d3,hK.kz hL2 zo⟩
theorem zK{p q:List Rat}(h0:tz p≠[])(h:Dv (evV q) (evV p)):Dv (evV q) (evV (ak p)):=by
 obtain ⟨c,hc,h1⟩:=h;have hm:=aW h0;refine ⟨_,hc.smul (aH p)⁻¹,fun x=>?_⟩;have h2:=bM p x;have h3:=nYj (aH p) (fun k=>by rw [k] at hm;exact absurd hm Rat.lt_irrefl);rw [h1 x] at h2;have h4:(aH p)⁻¹*(evV q x*c x)=evV (ak p) x:=by rw [h2,←nYd,nYc _ (aH p),h3,Rat.one_mul]
 rw [←h4];grind
theorem tA{p:List Rat}(h0:tz p≠[]):Dv (evV (sqfV p)) (evV p):=by
 obtain ⟨g,q1,hg,-,-,h1,-⟩:=(iq h0).dv;exact ⟨g,hg,fun x=>by rw [h1 x];grind⟩
theorem tx(p:List Rat):bq (sqfV p)=sqfV p:=kr _
theorem nE{K S D n:Nat}{p:List Rat}(hS:1≤S)(hD:0<D)(hD2:D<W32 ^ S)(hf:FrL S D p)(hl:p.length≤n)(hK:KN K S n):FrK K p:=⟨S,D,hS,hD,hD2,hf,hK.self hl⟩
theorem vi{K S D n:Nat}{p:List Rat}(hD:0<D)(hf:FrL S D p)(h0:tz p≠[])(hl:p.length≤n)(hn:n≤1000)(hK:KN K S n):FrK K (sqfV p):=by
 refine vz (p:=ak p) (cG (fun x hx=>hf x (dA hx)) hD) (by rw [aJ];exact fun k=>h0 (bs.1 k)) ?_ hn hK (zK h0 (tA h0)) (tx p);rw [ax];exact nXf (af p) hl
theorem yH{K S D T n:Nat}{p:List Rat}{x:Rat}(hS:1≤S)(hD:0<D)(hf:FrL S D p)(hl:p.length≤n)(hn:n≤100)(h0:tz p≠[])(hK:KZ K S p.length)(hK2:K≤10000000)(hx:Sz T x)(hT:n*(T+1)≤20000000):Mz (iI p) x:=by
 have h1:=tU hS hD hf zo h0 hK;have h2:=jd p;have h3:=nb h0;have hK1:1≤K:=by have:=hK.small;omega
 rw [nM];refine ⟨by rw [nXl];omega,fun k hk=>?_⟩;rw [nXl] at hk;have hm:(remsV p).getD k [] ∈ remsV p:=by
  rw [nXd,List.getElem?_eq_getElem hk];exact List.getElem_mem _
 have e:((remsV p).map aX).getD k []=aX ((remsV p).getD k []):=by
  rw [nXd,nXd,nXv,List.getElem?_eq_getElem hk];rfl
 have ht:tz ((remsV p).getD k [])=(remsV p).getD k []:=zS _ _ _ (aJ _) (aJ _) _ hm;have hml:=h3 _ hm;obtain ⟨E,e1,e2,e3⟩:=mQ (h1 _ hm) ht hK1;rw [e];have hul:(aX ((remsV p).getD k [])).length≤n:=by rw [jw,ht];omega
 refine ⟨zo,(e3.sz hK1 e1 e2).mono zo,fun j hj=>(mH e3 hx hK1 e1 e2 j).mono ?_⟩;have h5:(aX ((remsV p).getD k [])).length*(T+1)≤n*(T+1):=nXh _ hul;omega
def isS(S n:Nat):Nat:=(S+1)*(2*n+1)
def isY(S n T:Nat):Nat:=yX (isS S n) n T+8
def isM(S n T:Nat):Nat:=isY S n T+T+1
def isT(S n T:Nat):Nat:=3*T+isM S n T+1
theorem BW{T:Nat}{x:Rat}(h:Sz T x):-((W32 ^ T:Nat):Rat)≤x∧x≤((W32 ^ T:Nat):Rat):=(nF h (Nat.dvd_refl _)).bd x.den_pos
theorem Ak{K S n:Nat}{l:List Rat}(hf:FrB S l)(hl:l.length≤n)(hn:n≤1000)(h0:tz l≠[])(hK:KN K S n):FrK K (tz l)∧FrK K (sqfV (tz l)):=by
 obtain ⟨h1,D,h2,h3,h4⟩:=hf.tz;have h5:=af l;exact ⟨nE h1 h2 h3 h4 zo hK,vi h2 h4 (by rw [aC];exact h0) zo hn hK⟩
theorem BZ{S n:Nat}{l:List Rat}(hf:FrB S l)(hl:l.length≤n)(hn:n≤1000)(h0:tz l≠[]):∀ y ∈ ak (sqfV (tz l)),Wz (isS S n) y:=by
 obtain ⟨h1,D,h2,h3,h4⟩:=hf.tz;have h5:=af l;have h00:tz (tz l)≠[]:=by rw [aC];exact h0
 have hsl:(ak (tz l)).length≤n:=by rw [ax,aC];omega
 have:=rE (q:=ak (tz l)) (d:=sqfV (tz l)) (S:=S) (cG (fun x hx=>h4 x (dA hx)) h2) (by rw [aJ];exact fun k=>h00 (bs.1 k)) (zK h00 (tA h00)) zo;exact fun y hy=>(this y hy).mono (nXg _ zo)
theorem CG{l:List Rat}{S n T bits K P:Nat}{lo hi:Rat}(hf:FrB S l)(hl:l.length≤n)(hP:P≤n)(hn:n≤49)(h0:tz l≠[])(za:Sz T lo)(zb:Sz T hi)(hlh:lo≤hi)(hT:T≤1000)(hb:bits≤256)(hK:KN K S n)(hK1:K≤3900000)(hK2:(n+1)*(K / 3)≤25000000)(hT2:isT S n T≤150000) :
  Is6 l K P lo hi bits T (isM S n T) (isY S n T) (32*isM S n T) (lo.den*hi.den):=by
 have h00:tz (tz l)≠[]:=by rw [aC];exact h0
 have hrt:=iq h00;obtain ⟨k1,k2⟩:=Ak hf hl zo h0 hK;have hql:(sqfV (tz l)).length≤n:=by have:=kK h00;have:=af l;omega
 have hw:=BZ hf hl zo h0;have hwl:(ak (sqfV (tz l))).length≤n:=by rw [ax];have:=af (sqfV (tz l));omega
 obtain ⟨b1,b2⟩:=BW za;obtain ⟨b3,b4⟩:=BW zb;have hnT:n*(isT S n T+1)≤49*150001:=nXx hn zo;have hYY:W32 ^ yX (isS S n) n T≤W32 ^ isY S n T:=nXp aw (by unfold isY;omega);have hYr:((W32 ^ yX (isS S n) n T:Nat):Rat)≤((W32 ^ isY S n T:Nat):Rat):=by exact_mod_cast hYY
 refine ⟨zo,h0,k1,hK1,?_,k2,za,zb,hT,⟨hrt.ne,hrt.cp,Nat.mul_pos lo.den_pos hi.den_pos,?_,fun a b h1 h2 h3 h4=>?_,?_⟩,⟨nXe _,?_,(BR hb).mono dZ,fun x hx=>?_⟩,hb,?_,?_,?_⟩
 ·exact nXf (nXh _ zo) hK2
 ·rw [show 2*T=T+T by omega,Nat.pow_add];exact nXx (nYl za.2) (nYl zb.2)
 ·refine sep hrt.ne hrt.cp hw hwl zo h1 h2 h3 ?_;have:=aZ hYr (show 0≤b-a by grind);grind
 ·unfold wd6;have e1:((1:Int):Rat)=1:=rfl;rw [e1];have hp:(0:Rat)<((2 ^ bits:Nat):Rat):=by exact_mod_cast Nat.two_pow_pos bits
  have h1:=aA (a:=1) (b:=((2 ^ bits:Nat):Rat)) (by grind);have h2:((2 ^ bits:Nat):Rat)≤((W32 ^ isY S n T:Nat):Rat):=by
   have a1:(2:Nat) ^ bits≤2 ^ 256:=nXp dZ hb;have a2:(2:Nat) ^ 256≤W32 ^ 8:=by decide
   have a3:W32 ^ 8≤W32 ^ isY S n T:=nXp aw (by unfold isY;omega)
   exact_mod_cast nXf a1 (nXf a2 a3)
  have h3:=vI (show (0:Rat)<1 by decide) hp;generalize 1 / ((2 ^ bits:Nat):Rat)=c at *
  have h4:=aZ h2 (Rat.le_of_lt h3);grind
 ·have:isT S n T=3*T+isM S n T+1:=rfl;omega
 ·obtain ⟨U,F,u1,u2,u3,u4,u5⟩:=k2;have:isT S n T=3*T+isM S n T+1:=rfl;rw [←this] at hx;exact yH u1 u2 u4 hql zo hrt.ne u5 zo hx zo
 ·rw [l6 hlh];exact nF za (Nat.dvd_mul_right _ _)
 ·rw [l7 hlh];exact nF zb (Nat.dvd_mul_left _ _)
 ·rw [l6 hlh,l7 hlh,Cs];have e:((W32 ^ isM S n T:Nat):Rat)=((W32 ^ isY S n T:Nat):Rat)*((W32 ^ T:Nat):Rat)*((W32 ^ 1:Nat):Rat):=by
   unfold isM;rw [Nat.pow_add,Nat.pow_add,Rat.natCast_mul,Rat.natCast_mul]
  have h2:(2:Rat)≤((W32 ^ 1:Nat):Rat):=by decide +kernel
  have hY0:(0:Rat)≤((W32 ^ isY S n T:Nat):Rat):=by exact_mod_cast Nat.zero_le _
  have hT0:(0:Rat)≤((W32 ^ T:Nat):Rat):=by exact_mod_cast Nat.zero_le _
  rw [e];generalize ((W32 ^ isY S n T:Nat):Rat)=y at *
  generalize ((W32 ^ T:Nat):Rat)=t at *
  generalize ((W32 ^ 1:Nat):Rat)=u at *
  have a1:=cJ (show hi-lo≤2*t by grind) hY0;have a2:=aZ h2 (nq hY0 hT0);grind
theorem Dj{l:List Rat}{S n T:Nat}(hf:FrB S l)(hl:l.length≤n)(hn:n≤49)(hS:S≤500000)(hT2:T≤150000):∃ D,AfZ S D T n l:=by
 obtain ⟨h1,D,h2,h3,h4⟩:=hf;have hnT:n*(T+1)≤49*150001:=nXx hn zo;exact ⟨D,h1,h2,h3,h4,hl,zo,zo⟩
set_option maxRecDepth 8000
set_option maxHeartbeats 8000000
attribute [local go_sem] XW.cell XW.frozen
structure PoK (K P:Nat) (p:List Rat):Prop where
 tz:tz p=p
 fr:FrK K p
 sq:FrK K (sqfV p)
 ok:OkC K (2*(P+1)) (ak p)
def yR(n:Nat)(w:World)(x:SH)(l:List Rat):Prop:=bB w x l∧x.n=n
theorem yR.ext{n:Nat}{w w':World}{x:SH}{l:List Rat}(h:yR n w x l)(he:Ext w w'):yR n w' x l:=⟨h.1.ext he,h.2⟩
instance {n:Nat} {w w':World} {x:SH} {l:List Rat}:Go.Front.Mv w w' (yR n w x l) (yR n w' x l):=⟨fun e h=>yR.ext h e⟩

theorem kw{a b:Rat}:dO a b=0↔a=b:=by
 unfold dO;split
 ·constructor
  ·intro h;omega
  ·intro h;subst h;exfalso;grind
 ·split
  ·exact ⟨fun _=>by assumption,fun _=>rfl⟩
  ·constructor
   ·intro h;omega
   ·intro h;contradiction
theorem zU{p:List Rat}(h:p=[]):me p=3:=by subst h;rfl
theorem rS{p:List Rat}(h:tz p≠[])(hl:p.length≤49):me p=0:=by unfold me;rw [if_neg (by have:=af p;omega),if_neg h]
theorem wP(pa:Option Addr)(P pc:Nat)(p:List Rat)(K:Nat)(s t:RH)(a b:Rat)(T:Nat)(w:World)(h:bB w ⟨pa,P,pc⟩ p)(hP:P≤49)(hk:PoK K P p)(hK:K≤12000000)(hK2:(P+1)*(K / 3)≤25000000)
 (hs:aR w s a)(ht:aR w t b)(za:Sz T a)(zb:Sz T b)(hT:1≤T)(hT3:T≤1000) :
  ar 26 [.slice pa P pc,IvV (s,t)] w (fun _:Unit=>.tuple #[.bool (dX p (loV a b) (hiV a b)),.int .i64 0]) (fun _ _=>True):=by
 obtain ⟨sn,sa,sl,sc,sb,sm,sd⟩:=s;obtain ⟨tn,ta,tl,tc,tb,tm,td⟩:=t;have HX:=Hi (Ext.refl w);have LP:=Hi h.lin;have HS:=Hi hs;have HT:=Hi ht;have hlen:=h.len;simp only at hlen;have HKp:=Hi hk.fr;have HKo:=Hi hk.ok;have HTZ:=Hi hk.tz;obtain ⟨S,D,hS,hD,hDW,hF,hSK⟩:=hk.fr;have hSs:=KZ.small hSK;have HF:=Hi hF;have HSz:Hid (SzL K p):=Hi ((hF.sz hS hD hDW).mono zo);have HSW:Hid (∀ y ∈ ak p,Wz S y):=Hi (cG (fun x hx=>hF x (dA hx)) hD);have HSl:Hid ((ak p).length=P):=Hi (by rw [ax,hk.tz,hlen]);have ZA:Hid (Sz T (loV a b)):=Hi (by rcases lC a b with e|e <;> rw [e] <;> assumption);have ZB:Hid (Sz T (hiV a b)):=Hi (by rcases lJ a b with e|e <;> rw [e] <;> assumption);obtain ⟨lo,hlo⟩:∃ lo,lo=loV a b:=⟨_,rfl⟩;obtain ⟨hi,hhi⟩:∃ hi,hi=hiV a b:=⟨_,rfl⟩;rw [←hlo] at ZA;rw [←hhi] at ZB;have HLO:=Hi hlo;have HHI:=Hi hhi;have HLn:=Hi hlen;rw [←hlo,←hhi];clear h hs ht hk za zb hlo hhi hF hSK hlen;unfold ar;go_enter Tryz.func26,Tryz.ntmps26
 go_upto_region 1 with fail
 refine nmA ?_;intro w1 hE B3 hz_w1 hr_w1;refine mV4 hE ?_ HX LP HS HT;clear HX LP HS HT;intro HX LP HS HT;have hs_w1:=hE.size;replace b_B3:=bX3 B3
 go_wp2_with fail
 refine cM (fH pa P pc p _ (LP.out.can.raw HSz.out zo)) fun x8 w8 hE _=>?_
 refine mV5 hE ?_ B3 HX LP HS HT;clear B3 HX LP HS HT;intro B3 HX LP HS HT;have hs_w8:=hE.size;replace b_B3:=bX3 B3;by_cases h0:P=0
 case pos =>
  subst h0;have hp:p=[]:=nXj.1 HLn.out;have HE:Hid (dX p lo hi=true):=Hi (by rw [hp];rfl);rw [zU hp];clear hp;go_wp2;exact nXa (v:=.tuple #[.bool (dX p lo hi),.int .i64 0]) (by rw [HE.out];simp [results,Tryz.results26,go_sem]) rfl ⟨(),rfl,HX.out,trivial⟩
 have hp:tz p≠[]:=fun h=>h0 (by rw [←HLn.out,←HTZ.out,h];rfl)
 have H0:=Hi hp;rw [rS hp (by rw [HLn.out];exact hP)];clear hp;have HNV:Hid (dX p lo hi=if Sg.sg (evV (ak p) lo)<0∨Sg.sg (evV (ak p) hi)<0 then false else if lo=hi then true else decide (0<cu (P+1) (ak p) lo) && ! lR (P+1) (ak p) lo hi):=Hi (by
  have e:(tz p).length=P:=by rw [HTZ.out,HLn.out]
  unfold dX;rw [if_neg H0.out,e])
 go_wp2_with fail
 refine cM (fv ⟨sn,sa,sl,sc,sb,sm,sd⟩ ⟨tn,ta,tl,tc,tb,tm,td⟩ a b _ HS.out HT.out) fun x14 w14 hE G14=>?_
 refine mV5 hE ?_ B3 HX LP HS HT;clear B3 HX LP HS HT;intro B3 HX LP HS HT;have hs_w14:=hE.size;replace b_B3:=bX3 B3;obtain ⟨⟨ln,la,ll,lc,lb,lm,ld⟩,⟨hn,ha,hl,hc,hb,hm,hd⟩⟩:=x14;rw [←HLO.out,←HHI.out] at G14;have HL:=Hi G14.out.1;have HH:=Hi G14.out.2;clear G14;clear HS;clear HT
 go_upto_region 7 with fail
 refine cz B3.out rfl ?_;intro w15 T;replace HX:=Hi (T.ext HX.out zo);replace LP:=Hi (LP.out.put T zo);replace B3:=Hi (T.bx);replace HL:=Hi (HL.out.keep T.keep);replace HH:=Hi (HH.out.keep T.keep);have hs_w15:=nle T.size;have hr_w15:=nle T.size.symm;clear T;replace b_B3:=bX3 B3
 go_wp2_with fail
 refine cM (iZ pa P pc p S D _ LP.out.can zo hS zo hD hDW HF.out) fun x16 w16 hE G16=>?_
 refine mV5 hE ?_ HX LP B3 HL HH;clear HX LP B3 HL HH;intro HX LP B3 HL HH;have hs_w16:=hE.size;replace b_B3:=bX3 B3;obtain ⟨Lq,hLq,hLq2,hxq,hrq⟩:=dB.lin G16.out (by have:=HSl.out;omega);rw [HSl.out] at hxq;subst hxq;have HQ:=Hi hrq;clear hrq G16;have HS0:Hid (tz (ak p)≠[]):=Hi (by rw [aJ];exact fun h=>H0.out (bs.1 h));obtain ⟨q,hq⟩:∃ q,q=ak p:=⟨_,rfl⟩;have HTQ:Hid (tz q=q):=Hi (by rw [hq];exact aJ p);rw [←hq] at HQ HSW HKo HNV HS0 HSl;clear hq;clear LP
 go_wp2_with fail
 refine cM (cZ (some ⟨Lq,0,none⟩) P P q ⟨ln,la,ll,lc,lb,lm,ld⟩ lo S T _ HQ.out.can HL.out zo HSW.out ZA.out hT hS zo hT3) fun x20 w20 hE _=>?_
 refine mV5 hE ?_ HX B3 HL HH HQ;clear HX B3 HL HH HQ;intro HX B3 HL HH HQ;have hs_w20:=hE.size;replace b_B3:=bX3 B3;obtain ⟨s1,hs1⟩:∃ s1,s1=Sg.sg (evV q lo):=⟨_,rfl⟩;rw [←hs1] at HNV ⊢;clear hs1;by_cases hn1:s1<0
 case pos =>
  have HE:Hid (dX p lo hi=false):=Hi (by rw [HNV.out,if_pos (Or.inl hn1)]);go_wp2;exact nXa (v:=.tuple #[.bool (dX p lo hi),.int .i64 0]) (by rw [HE.out];simp [results,Tryz.results26,go_sem]) rfl ⟨(),rfl,HX.out,trivial⟩
 go_wp2_with fail
 refine cM (cZ (some ⟨Lq,0,none⟩) P P q ⟨hn,ha,hl,hc,hb,hm,hd⟩ hi S T _ HQ.out.can HH.out zo HSW.out ZB.out hT hS zo hT3) fun x26 w26 hE _=>?_
 refine mV5 hE ?_ HX B3 HL HH HQ;clear HX B3 HL HH HQ;intro HX B3 HL HH HQ;have hs_w26:=hE.size;replace b_B3:=bX3 B3;obtain ⟨s2,hs2⟩:∃ s2,s2=Sg.sg (evV q hi):=⟨_,rfl⟩;rw [←hs2] at HNV ⊢;clear hs2;by_cases hn2:s2<0
 case pos =>
  have HE:Hid (dX p lo hi=false):=Hi (by rw [HNV.out,if_pos (Or.inr hn2)]);go_wp2;exact nXa (v:=.tuple #[.bool (dX p lo hi),.int .i64 0]) (by rw [HE.out];simp [results,Tryz.results26,go_sem]) rfl ⟨(),rfl,HX.out,trivial⟩
 rw [if_neg (fun h=>h.elim (fun k=>by omega) (fun k=>by omega))] at HNV
 go_wp2_with fail
 refine cM (gW ⟨ln,la,ll,lc,lb,lm,ld⟩ ⟨hn,ha,hl,hc,hb,hm,hd⟩ lo hi _ (HL.out.raw ZA.out zo) (HH.out.raw ZB.out zo)) fun x33 w33 hE _=>?_
 refine mV5 hE ?_ HX B3 HL HH HQ;clear HX B3 HL HH HQ;intro HX B3 HL HH HQ;have hs_w33:=hE.size;replace b_B3:=bX3 B3;obtain ⟨c,hcc⟩:∃ c,c=dO lo hi:=⟨_,rfl⟩;have HCC:Hid (c=0↔lo=hi):=Hi (by rw [hcc];exact kw);rw [←hcc];clear hcc;by_cases hc0:c=0
 case pos =>
  have HE:Hid (dX p lo hi=true):=Hi (by rw [HNV.out,if_pos (HCC.out.1 hc0)]);subst hc0;go_wp2;exact nXa (v:=.tuple #[.bool (dX p lo hi),.int .i64 0]) (by rw [HE.out];simp [results,Tryz.results26,go_sem]) rfl ⟨(),rfl,HX.out,trivial⟩
 have hcb:(c == 0)=false:=by rw [nXs];exact hc0
 rw [if_neg (fun h=>hc0 (HCC.out.2 h))] at HNV
 go_wp2_with fail
 refine cM (mX (some ⟨Lq,0,none⟩) P P q ⟨ln,la,ll,lc,lb,lm,ld⟩ lo S T _ HQ.out.can zo HTQ.out HSW.out hS zo HL.out ZA.out hT hT3) fun x38 w38 hE _=>?_
 refine mV5 hE ?_ HX B3 HL HH HQ;clear HX B3 HL HH HQ;intro HX B3 HL HH HQ;have hs_w38:=hE.size;replace b_B3:=bX3 B3;have hsI:=yZ (P+1) q lo;obtain ⟨s3,hs3⟩:∃ s3,s3=cu (P+1) q lo:=⟨_,rfl⟩;rw [←hs3] at HNV hsI ⊢;clear hs3;by_cases hp3:0<s3
 case neg =>
  have HE:Hid (dX p lo hi=false):=Hi (by rw [HNV.out,decide_eq_false hp3];rfl);go_wp2;exact nXa (v:=.tuple #[.bool (dX p lo hi),.int .i64 0]) (by rw [HE.out];simp [results,Tryz.results26,go_sem]) rfl ⟨(),rfl,HX.out,trivial⟩
 go_wp2_with fail
 refine cM (qF (some ⟨Lq,0,none⟩) P P q K ⟨ln,la,ll,lc,lb,lm,ld⟩ ⟨hn,ha,hl,hc,hb,hm,hd⟩ lo hi T _ HQ.out.can hP HS0.out HKo.out hK hK2 HL.out HH.out ZA.out ZB.out hT hT3) fun x43 w43 hE _=>?_
 refine mV5 hE ?_ HX B3 HL HH HQ;clear HX B3 HL HH HQ;intro HX B3 HL HH HQ;have hs_w43:=hE.size;replace b_B3:=bX3 B3;obtain ⟨r,hr⟩:∃ r,r=lR (P+1) q lo hi:=⟨_,rfl⟩;rw [←hr,decide_eq_true hp3] at HNV;rw [←hr];clear hr;have HE:Hid (dX p lo hi=!r):=Hi (by rw [HNV.out];rfl);cases r
 ·go_wp2;exact nXa (v:=.tuple #[.bool (dX p lo hi),.int .i64 0]) (by rw [HE.out];simp [results,Tryz.results26,go_sem]) rfl ⟨(),rfl,HX.out,trivial⟩
 ·go_wp2;exact nXa (v:=.tuple #[.bool (dX p lo hi),.int .i64 0]) (by rw [HE.out];simp [results,Tryz.results26,go_sem]) rfl ⟨(),rfl,HX.out,trivial⟩
theorem wL(pa:Option Addr)(P pc:Nat)(p:List Rat)(K:Nat)(s t:RH)(a b:Rat)(T:Nat)(w:World)(h:bB w ⟨pa,P,pc⟩ p)(hP:P≤49)(hk:PoK K P p)(hK:K≤12000000)(hK2:(P+1)*(K / 3)≤25000000)
 (hs:aR w s a)(ht:aR w t b)(za:Sz T a)(zb:Sz T b)(hT:1≤T)(hT3:T≤1000) :
  ar 27 [.slice pa P pc,IvV (s,t)] w (fun _:Unit=>.tuple #[.bool (posV p (loV a b) (hiV a b)),.int .i64 0]) (fun _ _=>True):=by
 obtain ⟨sn,sa,sl,sc,sb,sm,sd⟩:=s;obtain ⟨tn,ta,tl,tc,tb,tm,td⟩:=t;have HX:=Hi (Ext.refl w);have LP:=Hi h.lin;have HS:=Hi hs;have HT:=Hi ht;have hlen:=h.len;simp only at hlen;have HKp:=Hi hk.fr;have HKs:=Hi hk.sq;have HTZ:=Hi hk.tz;obtain ⟨S,D,hS,hD,hDW,hF,hSK⟩:=hk.fr;have hSs:=KZ.small hSK;have HF:=Hi hF;have HSz:Hid (SzL K p):=Hi ((hF.sz hS hD hDW).mono zo);have HSW:Hid (∀ y ∈ ak p,Wz S y):=Hi (cG (fun x hx=>hF x (dA hx)) hD);have HSl:Hid ((ak p).length=P):=Hi (by rw [ax,hk.tz,hlen]);have ZA:Hid (Sz T (loV a b)):=Hi (by rcases lC a b with e|e <;> rw [e] <;> assumption);have ZB:Hid (Sz T (hiV a b)):=Hi (by rcases lJ a b with e|e <;> rw [e] <;> assumption);have HLH:Hid (loV (loV a b) (hiV a b)=loV a b∧hiV (loV a b) (hiV a b)=hiV a b):=Hi ⟨l6 (gG a b),l7 (gG a b)⟩;obtain ⟨lo,hlo⟩:∃ lo,lo=loV a b:=⟨_,rfl⟩;obtain ⟨hi,hhi⟩:∃ hi,hi=hiV a b:=⟨_,rfl⟩;rw [←hlo] at ZA;rw [←hhi] at ZB;rw [←hlo,←hhi] at HLH;have HLO:=Hi hlo;have HHI:=Hi hhi;have HLn:=Hi hlen;rw [←hlo,←hhi];clear h hs ht hk za zb hlo hhi hF hSK hlen;unfold ar;go_enter Tryz.func27,Tryz.ntmps27
 go_upto_region 1 with fail
 refine nmA ?_;intro w1 hE B3 hz_w1 hr_w1;refine mV4 hE ?_ HX LP HS HT;clear HX LP HS HT;intro HX LP HS HT;have hs_w1:=hE.size;replace b_B3:=bX3 B3
 go_wp2_with fail
 refine cM (fH pa P pc p _ (LP.out.can.raw HSz.out zo)) fun x9 w9 hE _=>?_
 refine mV5 hE ?_ B3 HX LP HS HT;clear B3 HX LP HS HT;intro B3 HX LP HS HT;have hs_w9:=hE.size;replace b_B3:=bX3 B3;by_cases h0:P=0
 case pos =>
  subst h0;have hp:p=[]:=nXj.1 HLn.out;have HE:Hid (posV p lo hi=false):=Hi (by rw [hp];rfl);rw [zU hp];clear hp;go_wp2;exact nXa (v:=.tuple #[.bool (posV p lo hi),.int .i64 0]) (by rw [HE.out];simp [results,Tryz.results27,go_sem]) rfl ⟨(),rfl,HX.out,trivial⟩
 have hp:tz p≠[]:=fun h=>h0 (by rw [←HLn.out,←HTZ.out,h];rfl)
 have H0:=Hi hp;rw [rS hp (by rw [HLn.out];exact hP)];clear hp;have HNV:Hid (posV p lo hi=if Sg.sg (evV (ak p) lo)≤0 then false else decide (cntV p lo hi=0)):=Hi (by
  unfold posV;rw [if_neg H0.out])
 go_wp2_with fail
 refine cM (fv ⟨sn,sa,sl,sc,sb,sm,sd⟩ ⟨tn,ta,tl,tc,tb,tm,td⟩ a b _ HS.out HT.out) fun x15 w15 hE G15=>?_
 refine mV5 hE ?_ B3 HX LP HS HT;clear B3 HX LP HS HT;intro B3 HX LP HS HT;have hs_w15:=hE.size;replace b_B3:=bX3 B3;obtain ⟨⟨ln,la,ll,lc,lb,lm,ld⟩,⟨hn,ha,hl,hc,hb,hm,hd⟩⟩:=x15;rw [←HLO.out,←HHI.out] at G15;have HL:=Hi G15.out.1;have HH:=Hi G15.out.2;clear G15;clear HS;clear HT
 go_upto_region 7 with fail
 refine cz B3.out rfl ?_;intro w16 T;replace HX:=Hi (T.ext HX.out zo);replace LP:=Hi (LP.out.put T zo);replace B3:=Hi (T.bx);replace HL:=Hi (HL.out.keep T.keep);replace HH:=Hi (HH.out.keep T.keep);have hs_w16:=nle T.size;have hr_w16:=nle T.size.symm;clear T;replace b_B3:=bX3 B3;obtain ⟨s1,hs1⟩:∃ s1,s1=Sg.sg (evV (ak p) lo):=⟨_,rfl⟩;have HS1:=Hi hs1;rw [←hs1] at HNV;clear hs1;refine wpG 6 (fun opIx=>match opIx with
  | 1=>.spec (SH) (default) (SH.v) (fun x w'=>yR P w' x (ak p))
  | 4=>sU (.int .i64 s1)
  | _=>.quiet) (fun|4=>[1]|_=>[]) fun w0 he0 hz0 hc0 hf0=>?_
 refine wps he0 (fun w1 hW hG=>?_) fun x20=>?_
 ·exact spc [.slice pa P pc] Tryz.func77 ((iZ pa P pc p S D _ (LP.out.can.ext hW) zo hS zo hD hDW HF.out).wk (fun x w' _ h=>⟨let ⟨_,_,_,_,h4⟩:=h.lin (by have:=HSl.out;omega);h4.can,by have h5:=(let ⟨_,_,_,_,h4⟩:=h.lin (by have:=HSl.out;omega);h4.can.len);rw [←h5];exact HSl.out⟩))
 refine qZ ?_;refine wps he0 (fun w1 hW hG=>?_) fun x21=>?_
 ·have g20:=gS (hG 1 dZ);exact spc [x20.v,RH.v ⟨ln,la,ll,lc,lb,lm,ld⟩] Tryz.func79 ((by rw [HS1.out];exact cZ x20.a x20.n x20.c (ak p) ⟨ln,la,ll,lc,lb,lm,ld⟩ lo S T _ g20.1 (HL.out.ext hW) (by rw [g20.2];omega) HSW.out ZA.out hT hS zo hT3))
 refine qZ ?_;refine am ?_;intro w17 hI;have hE:=he0.out.trans hI.ext;have G20:=gT (hI.facts 1);clear hI he0 hz0 hc0 hf0;refine mV5 hE ?_ HX B3 HH LP HL;clear HX B3 HH LP HL;intro HX B3 HH LP HL;have hs_w17:=hE.size;replace b_B3:=bX3 B3;simp only [pD];clear G20;by_cases hn1:s1≤0
 case pos =>
  have HE:Hid (posV p lo hi=false):=Hi (by rw [HNV.out,if_pos hn1]);go_wp2;exact nXa (v:=.tuple #[.bool (posV p lo hi),.int .i64 0]) (by rw [HE.out];simp [results,Tryz.results27,go_sem]) rfl ⟨(),rfl,HX.out,trivial⟩
 rw [if_neg (fun h=>by omega)] at HNV
 go_wp2_with fail
 refine cM (mu pa P pc p K ⟨ln,la,ll,lc,lb,lm,ld⟩ ⟨hn,ha,hl,hc,hb,hm,hd⟩ lo hi T _ LP.out.can hP H0.out HKp.out hK hK2 HKs.out (HL.out.raw ZA.out zo) (HH.out.raw ZB.out zo) ZA.out ZB.out hT hT3) fun x25 w25 hE _=>?_
 refine mV5 hE ?_ HX B3 HH LP HL;clear HX B3 HH LP HL;intro HX B3 HH LP HL;have hs_w25:=hE.size;replace b_B3:=bX3 B3;rw [HLH.out.1,HLH.out.2];obtain ⟨c,hcc⟩:∃ c,c=cntV p lo hi:=⟨_,rfl⟩;rw [←hcc] at HNV ⊢;clear hcc;by_cases hc0:c=0
 ·have HE:Hid (posV p lo hi=true):=Hi (by rw [HNV.out,decide_eq_true hc0]);subst hc0;go_wp2;exact nXa (v:=.tuple #[.bool (posV p lo hi),.int .i64 0]) (by rw [HE.out];simp [results,Tryz.results27,go_sem]) rfl ⟨(),rfl,HX.out,trivial⟩
 ·have HE:Hid (posV p lo hi=false):=Hi (by rw [HNV.out,decide_eq_false hc0]);have hcb:(c == 0)=false:=by rw [nXs];exact hc0
  go_wp2;exact nXa (v:=.tuple #[.bool (posV p lo hi),.int .i64 0]) (by rw [HE.out];simp [results,Tryz.results27,go_sem]) rfl ⟨(),rfl,HX.out,trivial⟩
end Go.Proofs.YtafgmcimcbhhjaaGreat
