/- The members of Euclid's sequence of two polynomials with whole coefficients are small. Plain facts. -/
import Derived.Test.YtafgmcimcbhhjaaGreatQGK5
import Derived.Test.YtafgmcimcbhhjaaGreatQGM25
import Derived.Test.YtafgmcimcbhhjaaGreatQGM22
import Derived.Test.YtafgmcimcbhhjaaGreatQGK4
set_option linter.unusedVariables false
namespace Go.Proofs.YtafgmcimcbhhjaaGreat.Sg
open Go.RowKit Go.Front Go.Num Go.Stab Go.Proofs.YtafgmcimcbhhjaaGreat Sie
abbrev ln(p:List Rat):Nat:=(tz p).length
theorem yX{p:List Rat}{m:Nat}(h:∀ i,m≤i→seq p i=0):ln p≤m:=by
 by_cases h0:tz p=[]
 ·show (tz p).length≤m;rw [h0];exact Nat.zero_le _
 ·obtain ⟨n,hn,hn0⟩:=eQ h0;rcases Nat.lt_or_ge n m with h1|h1
  ·show (tz p).length≤m;omega
  ·exact absurd (h n h1) hn0
theorem Aq{p:List Rat}{i:Nat}(h:ln p≤i):seq p i=0:=by rw [←aS];exact bC h
theorem eA{p:List Rat}(h:tz p≠[]):1≤ln p:=nYe.2 h
theorem eP(p q:List Rat):ln (ar p q)≤ln p+ln q-1:=by
 refine nXe (ah _) ?_;unfold ar;refine nXe (ah _) ?_;simp
theorem kh{p q:List Rat}(hp:tz p≠[])(hq:tz q≠[]):ln (ar p q)+1=ln p+ln q:=by
 obtain ⟨a,ha,ha0⟩:=eQ hp;obtain ⟨b,hb,hb0⟩:=eQ hq;have b1:Go.Proofs.YtafgmcimcbhhjaaGreat.Bd (a+1) (seq p):=by rw [←aS,←ha];exact Bd.seq _
 have b2:Go.Proofs.YtafgmcimcbhhjaaGreat.Bd (b+1) (seq q):=by rw [←aS,←hb];exact Bd.seq _
 have h1:seq (ar p q) (a+b)≠0:=by
  rw [dL,fT,nB b1 b2];intro h;rcases nXq.1 h with h|h
  ·exact ha0 h
  ·exact hb0 h
 have h2:=m8 h1;have h3:=eP p q;have e1:ln p=a+1:=ha;have e2:ln q=b+1:=hb;have e3:a+b<ln (ar p q):=h2;omega
theorem m7(p q:List Rat):ln (bg p q)≤max (ln p) (ln q):=yX fun i hi=>by
 rw [eU,Aq (by omega),Aq (by omega)];exact Rat.add_zero 0
theorem dt{p:List Rat}{c:Rat}:ln (p.map (·*c))≤ln p:=yX fun i hi=>by rw [aU,Aq hi,nXy]
def subV(p q:List Rat):List Rat:=bg p (q.map (·*-1))
theorem em(p q:List Rat)(x:Rat):evV (subV p q) x=evV p x-evV q x:=by unfold subV;rw [ev_add5,bG];grind
theorem r5(p q:List Rat)(n:Nat):seq (subV p q) n=seq p n-seq q n:=by unfold subV;rw [eU,aU];grind
theorem iF(p q:List Rat):ln (subV p q)≤max (ln p) (ln q):=by
 have h1:=m7 p (q.map (·*-1));have h2:=dt (p:=q) (c:=-1);unfold subV;omega
theorem de{p q:List Rat}(h:∀ x,evV p x=evV q x):ln p=ln q:=by
 show (tz p).length=(tz q).length;rw [jZ (fun n=>iN h n)]
theorem kg{p q:List Rat}(h:ln q<ln p):ln (subV p q)=ln p:=by
 have h1:=iF p q;obtain ⟨n,hn,h0⟩:=eQ (p:=p) (fun h0=>by have:ln p=0:=(by show (tz p).length=0;rw [h0];rfl);omega);have e:ln p=n+1:=hn;have h2:seq (subV p q) n≠0:=by rw [r5,Aq (p:=q) (by omega)];grind
 have h3:n<ln (subV p q):=m8 h2;omega
theorem Cj{p:List Rat}{x:Rat}(h:evV p x≠0):tz p≠[]:=fun h0=>h (ev_tznil.1 h0 x)
structure Eu (a b c e u v u' v':List Rat) (k:Rat):Prop where
 hc:∀ x,evV c x=evV u x*evV a x+evV v x*evV b x
 he:∀ x,evV e x=evV u' x*evV a x+evV v' x*evV b x
 det:∀ x,evV u x*evV v' x-evV v x*evV u' x=k
 k0:k≠0
 lv:ln v'+ln c=ln a+1
 lu:ln u'+ln c≤ln b+1
 lv0:ln v≤ln v'
 lu0:ln u+ln e≤ln b+1
 le:ln e<ln c
 lc:ln c≤ln b
 la:ln c≤ln a
theorem xu{c e:List Rat}(he:tz e≠[])(hl:ln e≤ln c):ln (bA c e)+ln e=ln c+1:=by
 have h1:=iL c he;have h2:ln (bS c e)<ln e:=nYi (ah _) (cx c he).1;have hq:tz (bA c e)≠[]:=fun h0=>by
  have h3:ln c=ln (bS c e):=de fun x=>by rw [h1 x,ev_tznil.1 h0 x];grind
  omega
 have h3:=kh hq he;have h4:ln c=ln (subV (ar (bA c e) e) ((bS c e).map (·*-1))):=de fun x=>by rw [em,aI,bG,h1 x];grind
 have h5:=dt (p:=bS c e) (c:=-1);have h6:=eA hq;rw [kg (by omega)] at h4;omega
theorem Eu.next{a b c e u v u' v' r:List Rat}{k:Rat}(E:Eu a b c e u v u' v' k)(h0:tz e≠[])(hr:Pr r (bS c e)):∃ u'' v'' k',Eu a b e r u' v' u'' v'' k':=by
 obtain ⟨c0,hc0,hr⟩:=nr hr;have hq:=xu h0 (nYj E.le);have h1:=iL c h0;have hlr:ln r<ln e:=by
  have h2:ln (bS c e)<ln e:=nYi (ah _) (cx c h0).1;have h3:ln r=ln ((bS c e).map (·*c0)):=de fun x=>by rw [hr x,bG]
  have:=dt (p:=bS c e) (c:=c0);omega
 have hv':tz v'≠[]:=fun h=>by
  have h2:=E.lv;have h3:ln v'=0:=by show (tz v').length=0;rw [h];rfl
  have h4:=E.la;omega
 have hqn:tz (bA c e)≠[]:=fun h=>by
  have h3:ln (bA c e)=0:=by show (tz (bA c e)).length=0;rw [h];rfl
  have:=E.le;omega
 have hm:=kh hqn hv';have hle:=E.le;have hlv:=E.lv;have hlu:=E.lu;have hlv0:=E.lv0;have hlu0:=E.lu0;have hmu:=eP (bA c e) u';have s1:=iF u (ar (bA c e) u');have s2:ln (subV v (ar (bA c e) v'))=ln (ar (bA c e) v'):=by
  have e1:ln (subV v (ar (bA c e) v'))=ln (subV ((ar (bA c e) v').map (·*-1)) (v.map (·*-1))):=de fun x=>by rw [em,em,bG,bG];grind
  have e2:ln ((ar (bA c e) v').map (·*-1))=ln (ar (bA c e) v'):=by
   have a1:=dt (p:=ar (bA c e) v') (c:=-1);have a2:=dt (p:=(ar (bA c e) v').map (·*-1)) (c:=-1);have a3:ln (ar (bA c e) v')=ln (((ar (bA c e) v').map (·*-1)).map (·*-1)):=de fun x=>by rw [bG,bG];grind
   omega
  have e3:=dt (p:=v) (c:=-1);rw [e1,kg (by omega),e2]
 have t1:=dt (p:=subV u (ar (bA c e) u')) (c:=c0);have t2:ln ((subV v (ar (bA c e) v')).map (·*c0))=ln (subV v (ar (bA c e) v')):=by
  have a1:=dt (p:=subV v (ar (bA c e) v')) (c:=c0);have a2:=dt (p:=(subV v (ar (bA c e) v')).map (·*c0)) (c:=c0⁻¹);have a3:ln (subV v (ar (bA c e) v'))=ln (((subV v (ar (bA c e) v')).map (·*c0)).map (·*c0⁻¹)):=de fun x=>by
   rw [bG,bG,←nYb,nYa c0⁻¹,nYh c0 hc0,Rat.one_mul]
  omega
 have hpe:=eA h0;refine ⟨(subV u (ar (bA c e) u')).map (·*c0),(subV v (ar (bA c e) v')).map (·*c0),-(c0*k),E.he,fun x=>?_,fun x=>?_,?_,by omega,by omega,by omega,by omega,hlr,by have:=E.lc;omega,by have:=E.la;omega⟩
 ·rw [bG,bG,em,em,aI,aI,hr x];have h2:=h1 x;rw [E.hc x,E.he x] at h2;have h3:evV (bS c e) x=(evV u x*evV a x+evV v x*evV b x)-evV (bA c e) x*(evV u' x*evV a x+evV v' x*evV b x):=by grind
  rw [h3];grind
 ·rw [bG,bG,em,em,aI,aI,←E.det x];grind
 ·intro h;have:c0*k=0:=by grind
  rcases nXq.1 this with h|h
  ·exact hc0 h
  ·exact E.k0 h
inductive Es (a b:List Rat):List Rat→List Rat→Prop
 | start {c e:List Rat} (hc:Pr c a) (he:Pr e b):Es a b c e
 | next {c e r:List Rat} (h:Es a b c e) (h0:tz e≠[]) (hr:Pr r (bS c e)):Es a b e r
theorem Es.shift{a b r c e:List Rat}(hb:tz b≠[])(hr:Pr r (bS a b))(h:Es b r c e):Es a b c e:=by
 induction h with
 | start hc he =>
  refine Es.next (Es.start (Pr.refl a) hc) (fun h=>hb (hc.nil.1 h)) ?_;exact (he.trans hr).trans (lM (Pr.refl a) hc.symm (fun h=>hb (hc.nil.1 h)))
 | next h h0 hr ih=>exact Es.next ih h0 hr
theorem Es.eu{a b c e:List Rat}(hb:tz b≠[])(hl:ln b≤ln a)(h:Es a b c e):(Pr c a∧Pr e b)∨tz e=[]∨∃ u v u' v' k,Eu a b c e u v u' v' k:=by
 induction h with
 | start hc he=>exact Or.inl ⟨hc,he⟩
 | @next c e r h h0 hr ih =>
  rcases ih with ⟨hc,he⟩|h1|⟨u,v,u',v',k,E⟩
  ·right
   by_cases hrn:tz r=[]
   ·exact Or.inl hrn
   ·right
    have e1:ln c=ln a:=hc.len;have e2:ln e=ln b:=he.len;obtain ⟨c1,hc1,hc⟩:=nr hc;obtain ⟨c2,hc2,he⟩:=nr he;obtain ⟨c0,hc0,hr'⟩:=nr hr;have h1:=iL c h0;have hq:=xu (c:=c) h0 (by omega);have hrl:ln r<ln e:=by rw [show ln r=ln (bS c e) from hr.len];exact nYi (ah _) (cx c h0).1
    have one:∀ t:Rat,∀ x,evV [t] x=t:=fun t x=>by show 0*x+t=t;grind
    have lone:∀ t:Rat,t≠0→ln [t]=1:=fun t ht=>by
     have h2:=Cj (p:=[t]) (x:=0) (by rw [one];exact ht);have h3:=eA h2;have h4:ln [t]≤1:=ah [t];omega
    have lnil:ln []=0:=rfl;have hc0c1:c0*c1≠0:=fun h=>by rcases nXq.1 h with h|h <;> contradiction
    have hcc:c0*c2≠0:=fun h=>by rcases nXq.1 h with h|h <;> contradiction
    have lq:ln ((bA c e).map (·*-(c0*c2)))=ln (bA c e):=by
     have a1:=dt (p:=bA c e) (c:=-(c0*c2));have a2:=dt (p:=(bA c e).map (·*-(c0*c2))) (c:=(-(c0*c2))⁻¹);have a3:ln (bA c e)=ln (((bA c e).map (·*-(c0*c2))).map (·*(-(c0*c2))⁻¹)):=de fun x=>by
      rw [bG,bG,←nYb,nYa (-(c0*c2))⁻¹,nYh _ (by grind),Rat.one_mul]
     omega
    have hpe:=eA h0;refine ⟨[],[c2],[c0*c1],(bA c e).map (·*-(c0*c2)),-(c2*(c0*c1)),fun x=>?_,fun x=>?_,fun x=>?_,?_,?_,?_,?_,?_,hrl,by omega,by omega⟩
    ·rw [one,he x];show _=0*_+_;grind
    ·rw [hr' x,one,bG];have h2:=h1 x;rw [hc x,he x] at h2;have h3:evV (bS c e) x=c1*evV a x-evV (bA c e) x*(c2*evV b x):=by grind
     rw [h3];grind
    ·rw [one,one];show 0*_-_=_;grind
    ·intro h;have:c2*(c0*c1)=0:=by grind
     rcases nXq.1 this with h|h
     ·exact hc2 h
     ·exact hc0c1 h
    ·rw [lq];omega
    ·rw [lone _ hc0c1];omega
    ·rw [lone _ hc2,lq];omega
    ·rw [lnil];omega
  ·exact absurd h1 h0
  ·obtain ⟨u'',v'',k',E'⟩:=E.next h0 hr;exact Or.inr (Or.inr ⟨_,_,_,_,_,E'⟩)
theorem rY{n m:Nat}{f:Nat→Rat}(h:∀ i,n≤i→f i=0):sm n f=sm (n+m) f:=by
 rw [sm_split,sm_congr (n:=m) (g:=fun _=>0) (fun i _=>h (n+i) (by omega)),sm_zero,Rat.add_zero]
theorem qe{P:Nat}{f g:Nat→Rat}(hf:∀ i,P≤i→f i=0)(n:Nat):cv f g n=sm P (fun i=>if i≤n then f i*g (n-i) else 0):=by
 have h1:cv f g n=sm (n+1) (fun i=>if i≤n then f i*g (n-i) else 0):=sm_congr fun i hi=>by rw [if_pos (by omega)]
 rw [h1,rY (m:=P) (fun i hi=>if_neg (by omega)),nYg (n+1) P,←rY (fun i hi=>by
  rw [hf i hi];split
  ·exact nXy _
  ·rfl)]
def syl(P:Nat)(a b:Nat→Int)(n i:Nat):Int:=if i<P then (if i≤n then a (n-i) else 0) else (if i-P≤n then b (n-(i-P)) else 0)
theorem yi{P Q:Nat}{a b:List Rat}{az bz x:Nat→Int}(ha:∀ i,seq a i=((az i:Int):Rat))(hb:∀ i,seq b i=((bz i:Int):Rat))(n:Nat) :
  seq (bg (ar ((List.range P).map fun i=>((x i:Int):Rat)) a) (ar ((List.range Q).map fun i=>((x (P+i):Int):Rat)) b)) n=((gV (P+Q) (fun i=>syl P az bz n i*x i):Int):Rat):=by
 rw [eU,dL,dL,fT,fT,nd,sm_split]
 congr 1
 ·rw [qe (P:=P) (fun i hi=>by unfold seq;rw [dC,if_neg (by omega)])];refine sm_congr fun i hi=>?_
  unfold syl;rw [if_pos hi];by_cases h:i≤n
  ·rw [if_pos h,if_pos h,ha,Rat.intCast_mul,nYa];unfold seq;rw [dC,if_pos hi]
  ·rw [if_neg h,if_neg h,Int.zero_mul];rfl
 ·rw [qe (P:=Q) (fun i hi=>by unfold seq;rw [dC,if_neg (by omega)])];refine sm_congr fun i hi=>?_
  unfold syl;rw [if_neg (show ¬ P+i<P by omega),show P+i-P=i by omega];by_cases h:i≤n
  ·rw [if_pos h,if_pos h,hb,Rat.intCast_mul,nYa];unfold seq;rw [dC,if_pos hi]
  ·rw [if_neg h,if_neg h,Int.zero_mul];rfl
theorem gW{S:Nat}{a:List Rat}(ha:∀ x ∈ a,Wz S x)(i:Nat):seq a i=(((seq a i).num:Int):Rat)∧(seq a i).num.natAbs<W32 ^ S:=by
 have h:Wz S (seq a i):=by
  rcases Nat.lt_or_ge i a.length with h|h
  ·exact ha _ (bL h)
  ·rw [show seq a i=0 from bC h];exact Wz.zero S
 exact ⟨h.1.eq,h.2⟩
theorem uZ{a b:List Rat}{S d P Q:Nat}(ha:∀ x ∈ a,Wz S x)(hb:∀ x ∈ b,Wz S x)(hP:P+d=ln b)(hQ:Q+d=ln a)(hPQ:1≤P+Q)(hN:2*(P+Q)≤W32) :
  ∃ U V W:List Rat,ln U≤P∧ln V≤Q∧ln W≤d∧(∀ x,evV W x=evV U x*evV a x+evV V x*evV b x)∧(tz U≠[]∨tz V≠[])∧(∀ i,Wz ((S+1)*(P+Q)) (seq U i))∧(∀ i,Wz ((S+1)*(P+Q)) (seq V i))∧∀ i,Wz ((S+1)*(P+Q)) (seq W i):=by
 obtain ⟨M,hM⟩:∃ M,P+Q=M+1:=⟨P+Q-1,by omega⟩;have hA1:1≤W32 ^ S:=nYk aB;obtain ⟨x,⟨i0,hi0,hx0⟩,hxb,hxe⟩:=AJ M (fun j i=>syl P (fun i=>(seq a i).num) (fun i=>(seq b i).num) (d+j) i) (W32 ^ S) (fun j i=>by
  unfold syl;split
  ·split
   ·exact nYj (gW ha _).2
   ·exact Nat.zero_le _
  ·split
   ·exact nYj (gW hb _).2
   ·exact Nat.zero_le _) hA1
 have hseq:=yi (P:=P) (Q:=Q) (a:=a) (b:=b) (x:=x) (fun i=>(gW ha i).1) (fun i=>(gW hb i).1);have hG:2*(M+1)*W32 ^ S≤W32 ^ (S+1):=by
  rw [nXs,nYc];exact nXf _ (by omega)
 have hGM:(2*(M+1)*W32 ^ S) ^ (M+1)≤W32 ^ ((S+1)*(P+Q)):=by
  rw [hM,Nat.pow_mul];exact Nat.pow_le_pow_left hG _
 have hG1:1≤2*(M+1)*W32 ^ S:=Nat.mul_pos (by omega) hA1;have hG2:1<2*(M+1)*W32 ^ S:=by
  have:2*(M+1)*1≤2*(M+1)*W32 ^ S:=nXf _ hA1;omega
 have hxw:∀ i,Wz ((S+1)*(P+Q)) ((x i:Int):Rat):=fun i=>Wz.int (nXm (nYi (hxb i) (Nat.pow_lt_pow_right hG2 (Nat.lt_succ_self M))) hGM)
 refine ⟨(List.range P).map fun i=>((x i:Int):Rat),(List.range Q).map fun i=>((x (P+i):Int):Rat),bg (ar ((List.range P).map fun i=>((x i:Int):Rat)) a) (ar ((List.range Q).map fun i=>((x (P+i):Int):Rat)) b),?_,?_,?_,fun y=>(by rw [ev_add5,aI,aI]),?_,?_,?_,?_⟩
 ·exact nXe (ah _) (by simp)
 ·exact nXe (ah _) (by simp)
 ·refine yX fun n hn=>?_
  by_cases h1:n<d+M
  ·obtain ⟨j,rfl⟩:∃ j,n=d+j:=⟨n-d,by omega⟩;rw [hseq,hM,hxe j (by omega)];rfl
  ·refine Aq (nXe (m7 _ _) ?_);have l1:=eP ((List.range P).map fun i=>((x i:Int):Rat)) a;have l2:=eP ((List.range Q).map fun i=>((x (P+i):Int):Rat)) b;have l3:ln ((List.range P).map fun i=>((x i:Int):Rat))≤P:=nXe (ah _) (by simp);have l4:ln ((List.range Q).map fun i=>((x (P+i):Int):Rat))≤Q:=nXe (ah _) (by simp);omega
 ·rcases Nat.lt_or_ge i0 P with h|h
  ·left
   refine nYe.1 (nYi (Nat.zero_le i0) (m8 ?_));unfold seq;rw [dC,if_pos h];exact fun h=>hx0 (Rat.intCast_eq_zero_iff.1 h)
  ·right
   refine nYe.1 (nYi (Nat.zero_le (i0-P)) (m8 ?_));unfold seq;rw [dC,if_pos (by omega),show P+(i0-P)=i0 by omega];exact fun h=>hx0 (Rat.intCast_eq_zero_iff.1 h)
 ·intro i;unfold seq;rw [dC];split
  ·exact hxw i
  ·exact Wz.zero _
 ·intro i;unfold seq;rw [dC];split
  ·exact hxw _
  ·exact Wz.zero _
 ·intro n;rw [hseq,hM];refine Wz.int (nXm (nYi (s7 (C:=W32 ^ S*(2*(M+1)*W32 ^ S) ^ M) (fun i _=>?_)) ?_) (by rw [←hM];exact hGM))
  ·rw [Int.natAbs_mul];refine nXw ?_ (hxb i);unfold syl;split
   ·split
    ·exact nYj (gW ha _).2
    ·exact Nat.zero_le _
   ·split
    ·exact nYj (gW hb _).2
    ·exact Nat.zero_le _
  ·rw [nXs,←Nat.mul_assoc,nYc ((2*(M+1)*W32 ^ S) ^ M)];refine Nat.mul_lt_mul_of_pos_right ?_ (nYk hG1);have h2:0<(M+1)*W32 ^ S:=Nat.mul_pos (Nat.succ_pos _) hA1;rw [Nat.mul_assoc 2];omega
theorem rW{p q:List Rat}{c:Rat}(hc:c<0)(h:∀ n,seq p n=seq q n*c):ax p=ax (q.map (·*-1)) :=
 ce (c:=-c) (by grind) (fun n=>by rw [h,aU];grind)
theorem wF{a b c e u v u' v':List Rat}{k:Rat}{S:Nat}(E:Eu a b c e u v u' v' k)(he:tz e≠[])(ha:∀ x ∈ a,Wz S x)(hb:∀ x ∈ b,Wz S x)(hN:2*(ln a+ln b)≤W32):∀ x ∈ ax e,Wz ((S+1)*(ln a+ln b)) x:=by
 have hle:=E.le;have hlc:=E.lc;have hla:=E.la;have hlv:=E.lv;have hpe:=eA he;obtain ⟨d,hd⟩:∃ d,ln c=d+1:=⟨ln c-1,by omega⟩;obtain ⟨U,V,W,hU,hV,hW,hev,hne,-,-,hWz⟩:=uZ (S:=S) (d:=d) (P:=ln b-d) (Q:=ln a-d) ha hb (by omega) (by omega) (by omega) (by omega);have c1:∀ x,evV u' x*evV V x=evV U x*evV v' x:=by
  by_cases hT:tz (subV (ar u' V) (ar U v'))=[]
  ·intro x;have:=ev_tznil.1 hT x;rw [em,aI,aI] at this;grind
  ·exfalso;have hta:tz a≠[]:=fun h=>by
    have:ln a=0:=by show (tz a).length=0;rw [h];rfl
    omega
   have h1:=kh hta hT;have h2:=eA hT;have h3:ln (ar a (subV (ar u' V) (ar U v')))=ln (subV (ar e V) (ar W v')):=de fun x=>by
    rw [aI,em,em,aI,aI,aI,aI,hev,E.he];grind
   have h4:=iF (ar e V) (ar W v');have h5:=eP e V;have h6:=eP W v';omega
 obtain ⟨m,hm⟩:∃ m,m=subV (ar u V) (ar v U):=⟨_,rfl⟩;have hmx:∀ x,evV m x=evV u x*evV V x-evV v x*evV U x:=fun x=>by rw [hm,em,aI,aI]
 have kV:∀ x,k*evV V x=evV m x*evV v' x:=fun x=>by rw [←E.det x,hmx];have:=c1 x;grind
 have kU:∀ x,k*evV U x=evV m x*evV u' x:=fun x=>by rw [←E.det x,hmx];have:=c1 x;grind
 have kW:∀ x,k*evV W x=evV m x*evV e x:=fun x=>by
  have h1:=kV x;have h2:=kU x;rw [hev,E.he];grind
 have hk:=E.k0;have hmn:tz m≠[]:=fun h=>by
  have z:∀ {f:List Rat} {g:List Rat},(∀ x,k*evV f x=evV m x*evV g x)→tz f=[]:=fun {f g} h1=>ev_tznil.2 fun x=>by
   have h2:=h1 x;rw [ev_tznil.1 h x,nXy] at h2;rcases nXq.1 h2 with h3|h3
   ·exact absurd h3 hk
   ·exact h3
  rcases hne with h1|h1
  ·exact h1 (z kU)
  ·exact h1 (z kV)
 have hv':tz v'≠[]:=fun h=>by
  have:ln v'=0:=by show (tz v').length=0;rw [h];rfl
  omega
 have h1:=kh hmn hv';have h2:ln (ar m v')=ln (V.map (·*k)):=de fun x=>by rw [aI,bG,kV]
 have h3:=dt (p:=V) (c:=k);have h4:=ki (p:=m) (by show ln m≤1;omega);have h5:seq m 0≠0:=fun h=>hmn (ev_tznil.2 fun x=>by rw [h4 x,h])
 have h6:∀ n,seq e n=seq W n*(k / seq m 0):=fun n=>by
  have h7:=iN (p:=W.map (·*k)) (q:=e.map (·*seq m 0)) (fun x=>by rw [bG,bG,kW,h4]) n;rw [aU,aU] at h7;have h8:=aE (a:=k) h5;have h9:(seq e n-seq W n*(k / seq m 0))*seq m 0=0:=by grind
  rcases nXq.1 h9 with h|h
  ·grind
  ·contradiction
 have hx:k / seq m 0≠0:=fun h=>by
  have h8:=aE (a:=k) h5;rw [h,nXy] at h8;exact hk h8.symm
 have hl:(S+1)*(ln b-d+(ln a-d))≤(S+1)*(ln a+ln b):=nXf _ (by omega);have hall:∀ {l:List Rat},(∀ i,Wz ((S+1)*(ln b-d+(ln a-d))) (seq l i))→∀ x ∈ ax l,Wz ((S+1)*(ln a+ln b)) x:=fun {l} h x hx=>(dN (D:=1) (fun y hy=>by
  obtain ⟨i,hi,rfl⟩:=dE hy;rw [bj];exact Fr.one (h i)) (by decide) x hx).mono hl
 rcases tri (k / seq m 0) 0 with h|h|h
 ·rw [rW h h6];exact hall fun i=>by rw [aU,show seq W i*-1=-seq W i by grind];exact (hWz i).neg
 ·exact absurd h hx
 ·rw [ce h h6];exact hall hWz
theorem oe{a b:List Rat}{L:Nat}(h:Pr a b)(hb:∀ x ∈ b,Wz L x):∀ x ∈ ax a,Wz L x:=by
 obtain ⟨c,hc,h⟩:=h;have hall:∀ {l:List Rat},(∀ i,Wz L (seq l i))→∀ x ∈ ax l,Wz L x:=fun {l} h x hx=>dN (D:=1) (fun y hy=>by
  obtain ⟨i,hi,rfl⟩:=dE hy;rw [bj];exact Fr.one (h i)) (by decide) x hx
 have hw:∀ i,Wz L (seq b i):=fun i=>⟨by rw [(gW hb i).1];exact Wh.int _,(gW hb i).2⟩
 rcases tri c 0 with h0|h0|h0
 ·rw [rW (q:=b) h0 (fun n=>by rw [h n];grind)];exact hall fun i=>by rw [aU,show seq b i*-1=-seq b i by grind];exact (hw i).neg
 ·exact absurd h0 hc
 ·rw [ce (q:=b) h0 (fun n=>by rw [h n];grind)];exact hall hw
def Eg(L:Nat)(a b:List Rat):Prop:=∀ c e,Es a b c e→∀ x ∈ ax e,Wz L x
theorem xN{a b:List Rat}{S:Nat}(ha:∀ x ∈ a,Wz S x)(hb:∀ x ∈ b,Wz S x)(hbn:tz b≠[])(hl:ln b≤ln a)(hN:2*(ln a+ln b)≤W32):Eg ((S+1)*(ln a+ln b)) a b:=by
 intro c e h;have hp:=eA hbn;have hS:S≤(S+1)*(ln a+ln b):=by
  have:(S+1)*1≤(S+1)*(ln a+ln b):=nXf _ (by omega);omega
 rcases h.eu hbn hl with ⟨-,he⟩|he|⟨u,v,u',v',k,E⟩
 ·intro x hx;exact (oe he hb x hx).mono hS
 ·rw [show ax e=[] from cF.2 he];intro x hx;simp at hx
 ·by_cases he:tz e=[]
  ·rw [show ax e=[] from cF.2 he];intro x hx;simp at hx
  ·exact wF E he ha hb hN
theorem Eg.next{L:Nat}{a b r:List Rat}(h:Eg L a b)(hb:tz b≠[])(hr:Pr r (bS a b)):Eg L b r:=fun c e hs=>h c e (hs.shift hb hr)
theorem Eg.snd{L:Nat}{a b:List Rat}(h:Eg L a b):∀ x ∈ ax b,Wz L x:=h a b (Es.start (Pr.refl a) (Pr.refl b))
end Go.Proofs.YtafgmcimcbhhjaaGreat.Sg
/- Sizes in Euclid's algorithm: with a factor of 3 a round, or by the bound of all members. Plain facts. -/
namespace Go.Proofs.YtafgmcimcbhhjaaGreat
open Go.RowKit Go.Front Go.Num Stab Sg
theorem gF{p:List Rat}{x:Rat}(h:x ∈ tz p):x ∈ p:=by
 rw [ig p] at h;exact List.mem_of_mem_take h
theorem rM(d:Nat)(hd:1≤d):2+d≤3 ^ d:=by
 induction d with
 | zero=>omega
 | succ d ih =>
  rcases Nat.eq_zero_or_pos d with h|h
  ·subst h;decide
  ·have:=ih h;rw [nXs];omega
theorem zo(la lb:Nat):(1+(la+1-lb))*3 ^ lb≤3 ^ max la (lb+1):=by
 rcases Nat.lt_or_ge lb la with h|h
 ·obtain ⟨d,rfl⟩:∃ d,la=lb+d:=⟨la-lb,by omega⟩;rw [show max (lb+d) (lb+1)=lb+d by omega,Nat.pow_add,nYc];exact nXf _ (by have:=rM d (by omega);omega)
 ·rw [show max la (lb+1)=lb+1 by omega,nXs,nYc];exact nXf _ (by omega)
theorem wx{X la lb lr L:Nat}(h:(X+1)*3 ^ max la (lb+1)≤L)(hr:lr+1≤lb):(X+(la+1-lb)*(X+1)+1)*3 ^ max lb (lr+1)≤L:=by
 have h1:X+(la+1-lb)*(X+1)+1=(X+1)*(1+(la+1-lb)):=by rw [Nat.mul_add (X+1) 1,nYc (X+1) (la+1-lb)];omega
 rw [h1,Nat.mul_assoc,show max lb (lr+1)=lb by omega];exact nXe (nXf _ (zo la lb)) h
theorem rT(p:List Rat):ax (ax p)=ax p:=by
 by_cases h:tz p=[]
 ·rw [cF.2 h];rfl
 ·exact (ce (p:=p) (q:=ax p) (bH h) (fun n=>by rw [cV p n];grind)).symm
def Zk(K X:Nat)(a b:List Rat):Prop:=(X+1)*3 ^ max a.length (b.length+1)≤K∨(Eg X a b∧3*((X+1)*(max a.length b.length+3))≤K)
theorem Zk.small{K X:Nat}{a b:List Rat}(h:Zk K X a b):X+1≤K:=by
 rcases h with h|⟨-,h⟩
 ·have:X+1≤(X+1)*3 ^ max a.length (b.length+1):=Nat.le_mul_of_pos_right _ (nYk (by decide));omega
 ·have:(X+1)*1≤(X+1)*(max a.length b.length+3):=nXf _ (by omega);omega
theorem Zk.dsz{K X:Nat}{a b:List Rat}(h:Zk K X a b):X+(a.length+1)*(X+1)≤K:=by
 have h4:(X+1)*(a.length+2)≤K:=by
  rcases h with h|⟨-,h⟩
  ·have h2:a.length+2≤3 ^ max a.length (b.length+1):=by
    have h3:=rM (max a.length (b.length+1)) (by omega);omega
   exact nXe (nXf _ h2) h
  ·have:(X+1)*(a.length+2)≤(X+1)*(max a.length b.length+3):=nXf _ (by omega);omega
 rw [show (a.length+1)*(X+1)=(X+1)*(a.length+1) from nYc _ _];rw [show a.length+2=(a.length+1)+1 from rfl,Nat.mul_succ] at h4;omega
theorem Zk.size{K X:Nat}{a b:List Rat}(h:Zk K X a b)(hb:b≠[]):X+(a.length+1-b.length)*(X+1)≤K:=by
 have h1:=h.dsz;have h2:(a.length+1-b.length)*(X+1)≤(a.length+1)*(X+1):=nXg _ (by omega);omega
theorem Zk.next{K X:Nat}{a b r:List Rat}(h:Zk K X a b)(hbt:tz b=b)(hb:b≠[])(hr:Pr r (bS a b))(hs:ax r=r)(hl:r.length<b.length)(hw:∀ x ∈ r,Wz (X+(a.length+1-b.length)*(X+1)) x):∃ X',X≤X'∧Zk K X' b r∧∀ x ∈ r,Wz X' x:=by
 rcases h with h|⟨hE,h⟩
 ·exact ⟨_,Nat.le_add_right _ _,Or.inl (wx h (by omega)),hw⟩
 ·have hE2:=hE.next (by rw [hbt];exact hb) hr;refine ⟨X,nXd _,Or.inr ⟨hE2,?_⟩,by have:=hE2.snd;rwa [hs] at this⟩;have:(X+1)*(max b.length r.length+3)≤(X+1)*(max a.length b.length+3):=nXf _ (by omega);omega
def GZ(K S:Nat)(p q:List Rat):Prop:=∃ X,S≤X∧Zk K X (ax p) (ax q)
theorem Bm{K S P Q:Nat}{p q:List Rat}(hp:p.length≤P)(hq:q.length≤Q)(h:(S+1)*3 ^ max P (Q+1)≤K):GZ K S p q:=by
 have h1:=ah p;have h2:=ah q;exact ⟨S,nXd _,Or.inl (nXe (nXf _ (nXo (by decide) (by rw [aD,aD];omega))) h)⟩
theorem zH{a b:List Rat}{S:Nat}(ha:∀ x ∈ a,Wz S x)(hb:∀ x ∈ b,Wz S x)(hN:2*(ln a+ln b)≤W32):Eg ((S+1)*(ln a+ln b)) a b:=by
 by_cases hbn:tz b=[]
 ·intro c e h;cases h with
  | start hc he=>rw [show ax e=[] from cF.2 (he.nil.2 hbn)];intro x hx;simp at hx
  | @next c' e' r h h0 hr =>
   exfalso;have key:∀ c e,Es a b c e→tz e=[]:=by
    intro c e h;induction h with
    | start hc he=>exact he.nil.2 hbn
    | next h h0 hr ih=>exact absurd ih h0
   exact h0 (key _ _ h)
 ·rcases Nat.lt_or_ge (ln a) (ln b) with hl|hl
  ·-- the first remainder is a itself
   have hrem:Pr a (bS a b):=by
    have h1:=cx a hbn;have hq:tz (bA a b)=[]:=Classical.byContradiction fun hq=>by
     have h2:=kh hq hbn;have h3:ln (subV (ar (bA a b) b) ((bS a b).map (·*-1)))=ln a:=de fun x=>by rw [em,aI,bG,iL a hbn x];grind
     have h4:ln (bS a b)<ln b:=nYi (ah _) h1.1;have h5:=dt (p:=bS a b) (c:=-1);have h6:=eA hq;rw [kg (by omega)] at h3;omega
    refine ⟨1,by decide,fun n=>?_⟩;exact iN (p:=a) (q:=(bS a b).map (·*1)) (fun x=>by rw [bG,iL a hbn x,ev_tznil.1 hq x];grind) n |>.trans (by rw [aU];grind)
   have hS:S≤(S+1)*(ln a+ln b):=by
    have hp:=eA hbn;have:(S+1)*1≤(S+1)*(ln a+ln b):=nXf _ (by omega);omega
   by_cases han:tz a=[]
   ·intro c e h;have key:∀ c e,Es a b c e→(Pr c a∧Pr e b)∨tz e=[]:=by
     intro c e h;induction h with
     | start hc he=>exact Or.inl ⟨hc,he⟩
     | @next c e r h h0 hr ih =>
      rcases ih with ⟨hc,he⟩|h1
      ·exact Or.inr (hr.nil.2 ((lM hc he hbn).nil.2 (hrem.nil.1 han)))
      ·exact absurd h1 h0
    rcases key c e h with ⟨-,h1⟩|h1
    ·intro x hx;exact (oe h1 hb x hx).mono hS
    ·rw [show ax e=[] from cF.2 h1];intro x hx;simp at hx
   ·have hE:=xN hb ha han (nYj hl) (by omega);rw [nYg (ln b)] at hE;intro c e h;have key:∀ c e,Es a b c e→(Pr c a∧Pr e b)∨Es b a c e:=by
     intro c e h;induction h with
     | start hc he=>exact Or.inl ⟨hc,he⟩
     | @next c e r h h0 hr ih =>
      right
      rcases ih with ⟨hc,he⟩|h1
      ·exact Es.start he (hr.trans ((lM hc he hbn).trans hrem.symm))
      ·exact Es.next h1 h0 hr
    rcases key c e h with ⟨-,h1⟩|h1
    ·intro x hx;exact (oe h1 hb x hx).mono hS
    ·exact hE c e h1
  ·exact xN ha hb hbn hl hN
theorem Bl{K S D E P Q:Nat}{p q:List Rat}(hD:0<D)(hE:0<E)(hp:FrL S D p)(hq:FrL S E q)(hpl:p.length≤P)(hql:q.length≤Q)(hN:2*(P+Q)≤4294967296)(h:3*(((S+1)*(P+Q)+S+1)*(P+Q+3))≤K):GZ K S p q:=by
 have h1:=ah p;have h2:=ah q;have wa:∀ x ∈ ax p,Wz S x:=dN (fun x hx=>hp x (gF hx)) hD;have wb:∀ x ∈ ax q,Wz S x:=dN (fun x hx=>hq x (gF hx)) hE;have la:ln (ax p)≤P:=by show (tz (ax p)).length≤P;rw [bt,aD];omega
 have lb:ln (ax q)≤Q:=by show (tz (ax q)).length≤Q;rw [bt,aD];omega
 have hE:=zH wa wb (by show _≤4294967296;omega);refine ⟨(S+1)*(P+Q)+S,by omega,Or.inr ⟨fun c e hs x hx=>(hE c e hs x hx).mono ?_,?_⟩⟩
 ·have:(S+1)*(ln (ax p)+ln (ax q))≤(S+1)*(P+Q):=nXf _ (by omega);omega
 ·rw [aD,aD];have:((S+1)*(P+Q)+S+1)*(max (tz p).length (tz q).length+3)≤((S+1)*(P+Q)+S+1)*(P+Q+3):=nXf _ (by omega);omega
def GcI(K:Nat)(p q a b:List Rat)(X:Nat):Prop:=tz a=a∧tz b=b∧(∀ x ∈ a,Wz X x)∧(∀ x ∈ b,Wz X x)∧1≤X∧Zk K X a b∧nk b.length (cj a) (cj b)=dm p q∧a.length≤100000∧b.length≤100000
theorem GcI.small{K:Nat}{p q a b:List Rat}{X:Nat}(h:GcI K p q a b X):X+1≤K:=h.2.2.2.2.2.1.small
theorem GcI.size{K:Nat}{p q a b:List Rat}{X:Nat}(h:GcI K p q a b X)(hb:b≠[]):X+(a.length+1-b.length)*(X+1)≤K:=h.2.2.2.2.2.1.size hb
theorem GcI.next{K:Nat}{p q a b s r:List Rat}{f:Rat}{X:Nat}(h:GcI K p q a b X)(hb:b≠[])(hd:DvP a b X X s r f):∃ X',GcI K p q b (ax r) X':=by
 obtain ⟨h1,h2,h3,h4,h5,h6,h7,h8,h9⟩:=h;obtain ⟨d0,d1,d2,d3,d4,d5,d6,d7⟩:=hd;have hl:(ax r).length=r.length:=by rw [aD,d4]
 have hbt:tz b≠[]:=by rw [h2];exact hb
 have hpr:Pr (ax r) (bS a b):=(kL r).trans (n7 hbt d0 (Bd.seq s) (by rw [h2];exact d5) d7);obtain ⟨X',g1,g2,g3⟩:=h6.next h2 hb hpr (rT r) (by omega) (dN (D:=1) (fun x hx=>by
  have hw:=d3 x (by rw [d4] at hx;exact hx);exact Fr.one hw) (by decide))
 exact ⟨X',h2,bt r,fun x hx=>(h4 x hx).mono g1,g3,by omega,g2,by rw [←tt h2 hb d0 d5 d7,h7],h9,by omega⟩
theorem GcI.start{K S D E:Nat}{p q:List Rat}(hS:1≤S)(hD:0<D)(hE:0<E)(hp:FrL S D p)(hq:FrL S E q)(hg:GZ K S p q)(hpl:p.length≤100000)(hql:q.length≤100000):∃ X,GcI K p q (ax p) (ax q) X:=by
 obtain ⟨X,h1,h2⟩:=hg;have e1:=ah p;have e2:=ah q;exact ⟨X,bt p,bt q,fun x hx=>(dN (fun x hx=>hp x (gF hx)) hD x hx).mono h1,fun x hx=>(dN (fun x hx=>hq x (gF hx)) hE x hx).mono h1,by omega,h2,tv p q,by rw [aD];omega,by rw [aD];omega⟩
def GcR(K:Nat)(g:List Rat):Prop:=∃ X D,FrL X D g∧1≤X∧0<D∧D<W32 ^ X∧((X+1)*3 ^ max g.length 1≤K∨3*((X+1)*(g.length+3))≤K)
theorem GcR.small{K:Nat}{g:List Rat}{X:Nat}(h:(X+1)*3 ^ max g.length 1≤K∨3*((X+1)*(g.length+3))≤K):X+1≤K / 3:=by
 rcases h with h|h
 ·have h1:(X+1)*3≤(X+1)*3 ^ max g.length 1:=nXf _ (by
   have:=nXo (n:=3) (by decide) (show 1≤max g.length 1 by omega);omega)
  omega
 ·have h1:(X+1)*1≤(X+1)*(g.length+3):=nXf _ (by omega);omega
theorem GcI.done{K:Nat}{p q a b:List Rat}{X:Nat}(h:GcI K p q a b X)(hb:b=[]):GcR K (dm p q):=by
 obtain ⟨h1,h2,h3,h4,h5,h6,h7,h8,h9⟩:=h;subst hb;have e:dm p q=cj a:=h7.symm;have hf:FrL X 1 a:=fun x hx=>Fr.one (h3 x hx)
 rw [e];have hsz:∀ n,n≤a.length→(X+1)*3 ^ max n 1≤K∨3*((X+1)*(n+3))≤K:=fun n hn=>by
  rcases h6 with h6|⟨-,h6⟩
  ·exact Or.inl (nXe (nXf _ (nXo (by decide) (by simp only [List.length_nil];omega))) h6)
  ·right
   have:(X+1)*(n+3)≤(X+1)*(max a.length ([]:List Rat).length+3):=nXf _ (by omega);omega
 by_cases ha:tz a=[]
 ·have:cj a=[]:=by unfold cj;rw [if_pos ha]
  rw [this];exact ⟨X,1,fun x hx=>by simp at hx,h5,by decide,Nat.one_lt_pow (by omega) (by decide),hsz _ (by simp)⟩
 ·exact ⟨X,ldD (tz a) 1,sR hf,h5,s5 hf.tz (cg ha) (by decide),xH hf.tz,hsz _ (by rw [eZ,h1];exact nXd _)⟩
def RmI(K:Nat)(a b:List Rat)(X:Nat):Prop:=tz a=a∧tz b=b∧(∀ x ∈ a,Wz X x)∧(∀ x ∈ b,Wz X x)∧1≤X∧Zk K X a b∧(a=[]∨b.length<a.length)∧a.length≤100000∧b.length≤100000
theorem RmI.small{K:Nat}{a b:List Rat}{X:Nat}(h:RmI K a b X):X+1≤K:=h.2.2.2.2.2.1.small
theorem RmI.size{K:Nat}{a b:List Rat}{X:Nat}(h:RmI K a b X)(hb:b≠[]):X+(a.length+1-b.length)*(X+1)≤K:=h.2.2.2.2.2.1.size hb
theorem RmI.next{K:Nat}{a b s r:List Rat}{f:Rat}{X:Nat}(h:RmI K a b X)(hb:b≠[])(hf:0<f)(hd:DvP a b X X s r f):ax (r.map (·*-1))=ax ((bS a b).map (·*-1))∧∃ X',RmI K b (ax (r.map (·*-1))) X':=by
 obtain ⟨h1,h2,h3,h4,h5,h6,h7,h8,h9⟩:=h;obtain ⟨d0,d1,d2,d3,d4,d5,d6,d7⟩:=hd;have hm:tz (r.map (·*-1))=r.map (·*-1):=by rw [ii (by decide),d4]
 have hl:(ax (r.map (·*-1))).length=r.length:=by rw [aD,hm,nXk]
 have hbt:tz b≠[]:=by rw [h2];exact hb
 have hpr:Pr (ax (r.map (·*-1))) (bS a b):=((kL _).trans ⟨-1,by decide,fun n=>by rw [aU];grind⟩).trans (n7 hbt d0 (Bd.seq s) (by rw [h2];exact d5) d7);obtain ⟨X',g1,g2,g3⟩:=h6.next h2 hb hpr (rT _) (by omega) (dN (D:=1) (fun x hx=>by
  rw [hm] at hx;obtain ⟨y,hy,rfl⟩:=nYd.1 hx;have hw:=(d3 y hy).neg;rw [show y*-1=-y by grind];exact Fr.one hw) (by decide))
 exact ⟨kZ (by rw [h2];exact hb) hf (by rw [h2];exact d5) d7,X',h2,bt _,fun x hx=>(h4 x hx).mono g1,g3,by omega,g2,Or.inr (by omega),h9,by omega⟩
def KZ(K S n:Nat):Prop:=(S+2)*3 ^ n≤K∨3*(((S+2)*(2*n)+S+2)*(2*n+3))≤K
theorem KZ.small{K S n:Nat}(h:KZ K S n):S+2≤K:=by
 rcases h with h|h
 ·exact nXe (Nat.le_mul_of_pos_right _ (nYk (by decide))) h
 ·have:((S+2)*(2*n)+S+2)*1≤((S+2)*(2*n)+S+2)*(2*n+3):=nXf _ (by omega);omega
theorem KZ.small3{K S n:Nat}(hn:1≤n)(h:KZ K S n):S+2≤K / 3:=by
 rcases h with h|h
 ·have h1:(S+2)*3≤(S+2)*3 ^ n:=nXf _ (by
   have:=nXo (n:=3) (by decide) hn;omega)
  omega
 ·have:((S+2)*(2*n)+S+2)*1≤((S+2)*(2*n)+S+2)*(2*n+3):=nXf _ (by omega);omega
end Go.Proofs.YtafgmcimcbhhjaaGreat
