/- The members of Euclid's sequence of two polynomials with whole coefficients are small. Plain facts. -/
import Derived.Test.YtohahgiidooijaaGreatQDK5
import Derived.Test.YtohahgiidooijaaGreatQDM25
import Derived.Test.YtohahgiidooijaaGreatQDM22
import Derived.Test.YtohahgiidooijaaGreatQDK2
set_option linter.unusedVariables false
namespace Go.Proofs.YtohahgiidooijaaGreat.Sg
open Go.RowKit Go.Front Go.Num Go.Stab Go.Proofs.YtohahgiidooijaaGreat Sie
abbrev ln(p:List Rat):Nat:=(tz p).length
theorem BW{p:List Rat}{m:Nat}(h:∀ i,m≤i→seq p i=0):ln p≤m:=by
 by_cases h0:tz p=[]
 ·show (tz p).length≤m;rw [h0];exact Nat.zero_le _
 ·obtain ⟨n,hn,hn0⟩:=fZ h0;rcases Nat.lt_or_ge n m with h1|h1
  ·show (tz p).length≤m;omega
  ·exact absurd (h n h1) hn0
theorem C9{p:List Rat}{i:Nat}(h:ln p≤i):seq p i=0:=by rw [←aW];exact aG h
theorem ln_pos{p:List Rat}(h:tz p≠[]):1≤ln p:=nYf.2 h
theorem fJ(p q:List Rat):ln (ag p q)≤ln p+ln q-1:=by
 refine nXe (af _) ?_;unfold ag;refine nXe (af _) ?_;simp
theorem ln_mul{p q:List Rat}(hp:tz p≠[])(hq:tz q≠[]):ln (ag p q)+1=ln p+ln q:=by
 obtain ⟨a,ha,ha0⟩:=fZ hp;obtain ⟨b,hb,hb0⟩:=fZ hq;have b1:Go.Proofs.YtohahgiidooijaaGreat.Bd (a+1) (seq p):=by rw [←aW,←ha];exact Bd.seq _
 have b2:Go.Proofs.YtohahgiidooijaaGreat.Bd (b+1) (seq q):=by rw [←aW,←hb];exact Bd.seq _
 have h1:seq (ag p q) (a+b)≠0:=by
  rw [bu,cK,lH b1 b2];intro h;rcases nXq.1 h with h|h
  ·exact ha0 h
  ·exact hb0 h
 have h2:=oC h1;have h3:=fJ p q;have e1:ln p=a+1:=ha;have e2:ln q=b+1:=hb;have e3:a+b<ln (ag p q):=h2;omega
theorem oB(p q:List Rat):ln (aS p q)≤max (ln p) (ln q):=BW fun i hi=>by
 rw [seq_add5,C9 (by omega),C9 (by omega)];exact Rat.add_zero 0
theorem dJ{p:List Rat}{c:Rat}:ln (p.map (·*c))≤ln p:=BW fun i hi=>by rw [aT,C9 hi,nXz]
def subV(p q:List Rat):List Rat:=aS p (q.map (·*-1))
theorem ev_sub(p q:List Rat)(x:Rat):evV (subV p q) x=evV p x-evV q x:=by unfold subV;rw [ev_add5,ev_map];grind
theorem uh(p q:List Rat)(n:Nat):seq (subV p q) n=seq p n-seq q n:=by unfold subV;rw [seq_add5,aT];grind
theorem i6(p q:List Rat):ln (subV p q)≤max (ln p) (ln q):=by
 have h1:=oB p (q.map (·*-1));have h2:=dJ (p:=q) (c:=-1);unfold subV;omega
theorem ln_congr{p q:List Rat}(h:∀ x,evV p x=evV q x):ln p=ln q:=by
 show (tz p).length=(tz q).length;rw [dY (fun n=>ev_inj h n)]
theorem k7{p q:List Rat}(h:ln q<ln p):ln (subV p q)=ln p:=by
 have h1:=i6 p q;obtain ⟨n,hn,h0⟩:=fZ (p:=p) (fun h0=>by have:ln p=0:=(by show (tz p).length=0;rw [h0];rfl);omega);have e:ln p=n+1:=hn;have h2:seq (subV p q) n≠0:=by rw [uh,C9 (p:=q) (by omega)];grind
 have h3:n<ln (subV p q):=oC h2;omega
theorem Fl{p:List Rat}{x:Rat}(h:evV p x≠0):tz p≠[]:=fun h0=>h (ev_tznil.1 h0 x)
structure Eu (a b c e u v u' v':List Rat) (k:Rat):Prop where
 hc:∀ x,evV c x=evV u x*evV a x+evV v x*evV b x
 he:∀ x,evV e x=evV u' x*evV a x+evV v' x*evV b x
 det:∀ x,evV u x*evV v' x-evV v x*evV u' x=k
 k0:k≠0
 lv:ln v'+ln c=ln a+1
 lu:ln u'+ln c≤ln b+1
 lv0:ln v≤ln v'
 lu0:ln u+ln e≤ln b+1
 le:ln e<ln c
 lc:ln c≤ln b
 la:ln c≤ln a
theorem Al{c e:List Rat}(he:tz e≠[])(hl:ln e≤ln c):ln (aP c e)+ln e=ln c+1:=by
 have h1:=i9 c he;have h2:ln (bD c e)<ln e:=nYj (af _) (bW c he).1;have hq:tz (aP c e)≠[]:=fun h0=>by
  have h3:ln c=ln (bD c e):=ln_congr fun x=>by rw [h1 x,ev_tznil.1 h0 x];grind
  omega
 have h3:=ln_mul hq he;have h4:ln c=ln (subV (ag (aP c e) e) ((bD c e).map (·*-1))):=ln_congr fun x=>by rw [ev_sub,ev_mul5,ev_map,h1 x];grind
 have h5:=dJ (p:=bD c e) (c:=-1);have h6:=ln_pos hq;rw [k7 (by omega)] at h4;omega
theorem Eu.next{a b c e u v u' v' r:List Rat}{k:Rat}(E:Eu a b c e u v u' v' k)(h0:tz e≠[])(hr:Pr r (bD c e)):∃ u'' v'' k',Eu a b e r u' v' u'' v'' k':=by
 obtain ⟨c0,hc0,hr⟩:=oN hr;have hq:=Al h0 (nYk E.le);have h1:=i9 c h0;have hlr:ln r<ln e:=by
  have h2:ln (bD c e)<ln e:=nYj (af _) (bW c h0).1;have h3:ln r=ln ((bD c e).map (·*c0)):=ln_congr fun x=>by rw [hr x,ev_map]
  have:=dJ (p:=bD c e) (c:=c0);omega
 have hv':tz v'≠[]:=fun h=>by
  have h2:=E.lv;have h3:ln v'=0:=by show (tz v').length=0;rw [h];rfl
  have h4:=E.la;omega
 have hqn:tz (aP c e)≠[]:=fun h=>by
  have h3:ln (aP c e)=0:=by show (tz (aP c e)).length=0;rw [h];rfl
  have:=E.le;omega
 have hm:=ln_mul hqn hv';have hle:=E.le;have hlv:=E.lv;have hlu:=E.lu;have hlv0:=E.lv0;have hlu0:=E.lu0;have hmu:=fJ (aP c e) u';have s1:=i6 u (ag (aP c e) u');have s2:ln (subV v (ag (aP c e) v'))=ln (ag (aP c e) v'):=by
  have e1:ln (subV v (ag (aP c e) v'))=ln (subV ((ag (aP c e) v').map (·*-1)) (v.map (·*-1))):=ln_congr fun x=>by rw [ev_sub,ev_sub,ev_map,ev_map];grind
  have e2:ln ((ag (aP c e) v').map (·*-1))=ln (ag (aP c e) v'):=by
   have a1:=dJ (p:=ag (aP c e) v') (c:=-1);have a2:=dJ (p:=(ag (aP c e) v').map (·*-1)) (c:=-1);have a3:ln (ag (aP c e) v')=ln (((ag (aP c e) v').map (·*-1)).map (·*-1)):=ln_congr fun x=>by rw [ev_map,ev_map];grind
   omega
  have e3:=dJ (p:=v) (c:=-1);rw [e1,k7 (by omega),e2]
 have t1:=dJ (p:=subV u (ag (aP c e) u')) (c:=c0);have t2:ln ((subV v (ag (aP c e) v')).map (·*c0))=ln (subV v (ag (aP c e) v')):=by
  have a1:=dJ (p:=subV v (ag (aP c e) v')) (c:=c0);have a2:=dJ (p:=(subV v (ag (aP c e) v')).map (·*c0)) (c:=c0⁻¹);have a3:ln (subV v (ag (aP c e) v'))=ln (((subV v (ag (aP c e) v')).map (·*c0)).map (·*c0⁻¹)):=ln_congr fun x=>by
   rw [ev_map,ev_map,←nYc,nYb c0⁻¹,nYi c0 hc0,Rat.one_mul]
  omega
 have hpe:=ln_pos h0;refine ⟨(subV u (ag (aP c e) u')).map (·*c0),(subV v (ag (aP c e) v')).map (·*c0),-(c0*k),E.he,fun x=>?_,fun x=>?_,?_,by omega,by omega,by omega,by omega,hlr,by have:=E.lc;omega,by have:=E.la;omega⟩
 ·rw [ev_map,ev_map,ev_sub,ev_sub,ev_mul5,ev_mul5,hr x];have h2:=h1 x;rw [E.hc x,E.he x] at h2;have h3:evV (bD c e) x=(evV u x*evV a x+evV v x*evV b x)-evV (aP c e) x*(evV u' x*evV a x+evV v' x*evV b x):=by grind
  rw [h3];grind
 ·rw [ev_map,ev_map,ev_sub,ev_sub,ev_mul5,ev_mul5,←E.det x];grind
 ·intro h;have:c0*k=0:=by grind
  rcases nXq.1 this with h|h
  ·exact hc0 h
  ·exact E.k0 h
inductive Es (a b:List Rat):List Rat→List Rat→Prop
 | start {c e:List Rat} (hc:Pr c a) (he:Pr e b):Es a b c e
 | next {c e r:List Rat} (h:Es a b c e) (h0:tz e≠[]) (hr:Pr r (bD c e)):Es a b e r
theorem Es.shift{a b r c e:List Rat}(hb:tz b≠[])(hr:Pr r (bD a b))(h:Es b r c e):Es a b c e:=by
 induction h with
 | start hc he =>
  refine Es.next (Es.start (Pr.refl a) hc) (fun h=>hb (hc.nil.1 h)) ?_;exact (he.trans hr).trans (kH (Pr.refl a) hc.symm (fun h=>hb (hc.nil.1 h)))
 | next h h0 hr ih=>exact Es.next ih h0 hr
theorem Es.eu{a b c e:List Rat}(hb:tz b≠[])(hl:ln b≤ln a)(h:Es a b c e):(Pr c a∧Pr e b)∨tz e=[]∨∃ u v u' v' k,Eu a b c e u v u' v' k:=by
 induction h with
 | start hc he=>exact Or.inl ⟨hc,he⟩
 | @next c e r h h0 hr ih =>
  rcases ih with ⟨hc,he⟩|h1|⟨u,v,u',v',k,E⟩
  ·right
   by_cases hrn:tz r=[]
   ·exact Or.inl hrn
   ·right
    have e1:ln c=ln a:=hc.len;have e2:ln e=ln b:=he.len;obtain ⟨c1,hc1,hc⟩:=oN hc;obtain ⟨c2,hc2,he⟩:=oN he;obtain ⟨c0,hc0,hr'⟩:=oN hr;have h1:=i9 c h0;have hq:=Al (c:=c) h0 (by omega);have hrl:ln r<ln e:=by rw [show ln r=ln (bD c e) from hr.len];exact nYj (af _) (bW c h0).1
    have one:∀ t:Rat,∀ x,evV [t] x=t:=fun t x=>by show 0*x+t=t;grind
    have lone:∀ t:Rat,t≠0→ln [t]=1:=fun t ht=>by
     have h2:=Fl (p:=[t]) (x:=0) (by rw [one];exact ht);have h3:=ln_pos h2;have h4:ln [t]≤1:=af [t];omega
    have lnil:ln []=0:=rfl;have hc0c1:c0*c1≠0:=fun h=>by rcases nXq.1 h with h|h <;> contradiction
    have hcc:c0*c2≠0:=fun h=>by rcases nXq.1 h with h|h <;> contradiction
    have lq:ln ((aP c e).map (·*-(c0*c2)))=ln (aP c e):=by
     have a1:=dJ (p:=aP c e) (c:=-(c0*c2));have a2:=dJ (p:=(aP c e).map (·*-(c0*c2))) (c:=(-(c0*c2))⁻¹);have a3:ln (aP c e)=ln (((aP c e).map (·*-(c0*c2))).map (·*(-(c0*c2))⁻¹)):=ln_congr fun x=>by
      rw [ev_map,ev_map,←nYc,nYb (-(c0*c2))⁻¹,nYi _ (by grind),Rat.one_mul]
     omega
    have hpe:=ln_pos h0;refine ⟨[],[c2],[c0*c1],(aP c e).map (·*-(c0*c2)),-(c2*(c0*c1)),fun x=>?_,fun x=>?_,fun x=>?_,?_,?_,?_,?_,?_,hrl,by omega,by omega⟩
    ·rw [one,he x];show _=0*_+_;grind
    ·rw [hr' x,one,ev_map];have h2:=h1 x;rw [hc x,he x] at h2;have h3:evV (bD c e) x=c1*evV a x-evV (aP c e) x*(c2*evV b x):=by grind
     rw [h3];grind
    ·rw [one,one];show 0*_-_=_;grind
    ·intro h;have:c2*(c0*c1)=0:=by grind
     rcases nXq.1 this with h|h
     ·exact hc2 h
     ·exact hc0c1 h
    ·rw [lq];omega
    ·rw [lone _ hc0c1];omega
    ·rw [lone _ hc2,lq];omega
    ·rw [lnil];omega
  ·exact absurd h1 h0
  ·obtain ⟨u'',v'',k',E'⟩:=E.next h0 hr;exact Or.inr (Or.inr ⟨_,_,_,_,_,E'⟩)
theorem t8{n m:Nat}{f:Nat→Rat}(h:∀ i,n≤i→f i=0):sm n f=sm (n+m) f:=by
 rw [sm_split,sm_congr (n:=m) (g:=fun _=>0) (fun i _=>h (n+i) (by omega)),sm_zero,Rat.add_zero]
theorem sf{P:Nat}{f g:Nat→Rat}(hf:∀ i,P≤i→f i=0)(n:Nat):cv f g n=sm P (fun i=>if i≤n then f i*g (n-i) else 0):=by
 have h1:cv f g n=sm (n+1) (fun i=>if i≤n then f i*g (n-i) else 0):=sm_congr fun i hi=>by rw [if_pos (by omega)]
 rw [h1,t8 (m:=P) (fun i hi=>if_neg (by omega)),nYh (n+1) P,←t8 (fun i hi=>by
  rw [hf i hi];split
  ·exact nXz _
  ·rfl)]
def syl(P:Nat)(a b:Nat→Int)(n i:Nat):Int:=if i<P then (if i≤n then a (n-i) else 0) else (if i-P≤n then b (n-(i-P)) else 0)
theorem A7{P Q:Nat}{a b:List Rat}{az bz x:Nat→Int}(ha:∀ i,seq a i=((az i:Int):Rat))(hb:∀ i,seq b i=((bz i:Int):Rat))(n:Nat) :
  seq (aS (ag ((List.range P).map fun i=>((x i:Int):Rat)) a) (ag ((List.range Q).map fun i=>((x (P+i):Int):Rat)) b)) n=((iJ (P+Q) (fun i=>syl P az bz n i*x i):Int):Rat):=by
 rw [seq_add5,bu,bu,cK,cK,oE,sm_split]
 congr 1
 ·rw [sf (P:=P) (fun i hi=>by unfold seq;rw [bS,if_neg (by omega)])];refine sm_congr fun i hi=>?_
  unfold syl;rw [if_pos hi];by_cases h:i≤n
  ·rw [if_pos h,if_pos h,ha,Rat.intCast_mul,nYb];unfold seq;rw [bS,if_pos hi]
  ·rw [if_neg h,if_neg h,Int.zero_mul];rfl
 ·rw [sf (P:=Q) (fun i hi=>by unfold seq;rw [bS,if_neg (by omega)])];refine sm_congr fun i hi=>?_
  unfold syl;rw [if_neg (show ¬ P+i<P by omega),show P+i-P=i by omega];by_cases h:i≤n
  ·rw [if_pos h,if_pos h,hb,Rat.intCast_mul,nYb];unfold seq;rw [bS,if_pos hi]
  ·rw [if_neg h,if_neg h,Int.zero_mul];rfl
theorem iK{S:Nat}{a:List Rat}(ha:∀ x ∈ a,Wz S x)(i:Nat):seq a i=(((seq a i).num:Int):Rat)∧(seq a i).num.natAbs<W32 ^ S:=by
 have h:Wz S (seq a i):=by
  rcases Nat.lt_or_ge i a.length with h|h
  ·exact ha _ (cu h)
  ·rw [show seq a i=0 from aG h];exact Wz.zero S
 exact ⟨h.1.eq,h.2⟩
theorem yr{a b:List Rat}{S d P Q:Nat}(ha:∀ x ∈ a,Wz S x)(hb:∀ x ∈ b,Wz S x)(hP:P+d=ln b)(hQ:Q+d=ln a)(hPQ:1≤P+Q)(hN:2*(P+Q)≤W32) :
  ∃ U V W:List Rat,ln U≤P∧ln V≤Q∧ln W≤d∧(∀ x,evV W x=evV U x*evV a x+evV V x*evV b x)∧(tz U≠[]∨tz V≠[])∧(∀ i,Wz ((S+1)*(P+Q)) (seq U i))∧(∀ i,Wz ((S+1)*(P+Q)) (seq V i))∧∀ i,Wz ((S+1)*(P+Q)) (seq W i):=by
 obtain ⟨M,hM⟩:∃ M,P+Q=M+1:=⟨P+Q-1,by omega⟩;have hA1:1≤W32 ^ S:=nYl aC;obtain ⟨x,⟨i0,hi0,hx0⟩,hxb,hxe⟩:=Ds M (fun j i=>syl P (fun i=>(seq a i).num) (fun i=>(seq b i).num) (d+j) i) (W32 ^ S) (fun j i=>by
  unfold syl;split
  ·split
   ·exact nYk (iK ha _).2
   ·exact Nat.zero_le _
  ·split
   ·exact nYk (iK hb _).2
   ·exact Nat.zero_le _) hA1
 have hseq:=A7 (P:=P) (Q:=Q) (a:=a) (b:=b) (x:=x) (fun i=>(iK ha i).1) (fun i=>(iK hb i).1);have hG:2*(M+1)*W32 ^ S≤W32 ^ (S+1):=by
  rw [nXt,nYd];exact nXf _ (by omega)
 have hGM:(2*(M+1)*W32 ^ S) ^ (M+1)≤W32 ^ ((S+1)*(P+Q)):=by
  rw [hM,Nat.pow_mul];exact Nat.pow_le_pow_left hG _
 have hG1:1≤2*(M+1)*W32 ^ S:=Nat.mul_pos (by omega) hA1;have hG2:1<2*(M+1)*W32 ^ S:=by
  have:2*(M+1)*1≤2*(M+1)*W32 ^ S:=nXf _ hA1;omega
 have hxw:∀ i,Wz ((S+1)*(P+Q)) ((x i:Int):Rat):=fun i=>Wz.int (nXm (nYj (hxb i) (Nat.pow_lt_pow_right hG2 (Nat.lt_succ_self M))) hGM)
 refine ⟨(List.range P).map fun i=>((x i:Int):Rat),(List.range Q).map fun i=>((x (P+i):Int):Rat),aS (ag ((List.range P).map fun i=>((x i:Int):Rat)) a) (ag ((List.range Q).map fun i=>((x (P+i):Int):Rat)) b),?_,?_,?_,fun y=>(by rw [ev_add5,ev_mul5,ev_mul5]),?_,?_,?_,?_⟩
 ·exact nXe (af _) (by simp)
 ·exact nXe (af _) (by simp)
 ·refine BW fun n hn=>?_
  by_cases h1:n<d+M
  ·obtain ⟨j,rfl⟩:∃ j,n=d+j:=⟨n-d,by omega⟩;rw [hseq,hM,hxe j (by omega)];rfl
  ·refine C9 (nXe (oB _ _) ?_);have l1:=fJ ((List.range P).map fun i=>((x i:Int):Rat)) a;have l2:=fJ ((List.range Q).map fun i=>((x (P+i):Int):Rat)) b;have l3:ln ((List.range P).map fun i=>((x i:Int):Rat))≤P:=nXe (af _) (by simp);have l4:ln ((List.range Q).map fun i=>((x (P+i):Int):Rat))≤Q:=nXe (af _) (by simp);omega
 ·rcases Nat.lt_or_ge i0 P with h|h
  ·left
   refine nYf.1 (nYj (Nat.zero_le i0) (oC ?_));unfold seq;rw [bS,if_pos h];exact fun h=>hx0 (Rat.intCast_eq_zero_iff.1 h)
  ·right
   refine nYf.1 (nYj (Nat.zero_le (i0-P)) (oC ?_));unfold seq;rw [bS,if_pos (by omega),show P+(i0-P)=i0 by omega];exact fun h=>hx0 (Rat.intCast_eq_zero_iff.1 h)
 ·intro i;unfold seq;rw [bS];split
  ·exact hxw i
  ·exact Wz.zero _
 ·intro i;unfold seq;rw [bS];split
  ·exact hxw _
  ·exact Wz.zero _
 ·intro n;rw [hseq,hM];refine Wz.int (nXm (nYj (vA (C:=W32 ^ S*(2*(M+1)*W32 ^ S) ^ M) (fun i _=>?_)) ?_) (by rw [←hM];exact hGM))
  ·rw [Int.natAbs_mul];refine nXw ?_ (hxb i);unfold syl;split
   ·split
    ·exact nYk (iK ha _).2
    ·exact Nat.zero_le _
   ·split
    ·exact nYk (iK hb _).2
    ·exact Nat.zero_le _
  ·rw [nXt,←Nat.mul_assoc,nYd ((2*(M+1)*W32 ^ S) ^ M)];refine Nat.mul_lt_mul_of_pos_right ?_ (nYl hG1);have h2:0<(M+1)*W32 ^ S:=Nat.mul_pos (Nat.succ_pos _) hA1;rw [Nat.mul_assoc 2];omega
theorem tW{p q:List Rat}{c:Rat}(hc:c<0)(h:∀ n,seq p n=seq q n*c):aB p=aB (q.map (·*-1)) :=
 eH (c:=-c) (by grind) (fun n=>by rw [h,aT];grind)
theorem zJ{a b c e u v u' v':List Rat}{k:Rat}{S:Nat}(E:Eu a b c e u v u' v' k)(he:tz e≠[])(ha:∀ x ∈ a,Wz S x)(hb:∀ x ∈ b,Wz S x)(hN:2*(ln a+ln b)≤W32):∀ x ∈ aB e,Wz ((S+1)*(ln a+ln b)) x:=by
 have hle:=E.le;have hlc:=E.lc;have hla:=E.la;have hlv:=E.lv;have hpe:=ln_pos he;obtain ⟨d,hd⟩:∃ d,ln c=d+1:=⟨ln c-1,by omega⟩;obtain ⟨U,V,W,hU,hV,hW,hev,hne,-,-,hWz⟩:=yr (S:=S) (d:=d) (P:=ln b-d) (Q:=ln a-d) ha hb (by omega) (by omega) (by omega) (by omega);have c1:∀ x,evV u' x*evV V x=evV U x*evV v' x:=by
  by_cases hT:tz (subV (ag u' V) (ag U v'))=[]
  ·intro x;have:=ev_tznil.1 hT x;rw [ev_sub,ev_mul5,ev_mul5] at this;grind
  ·exfalso;have hta:tz a≠[]:=fun h=>by
    have:ln a=0:=by show (tz a).length=0;rw [h];rfl
    omega
   have h1:=ln_mul hta hT;have h2:=ln_pos hT;have h3:ln (ag a (subV (ag u' V) (ag U v')))=ln (subV (ag e V) (ag W v')):=ln_congr fun x=>by
    rw [ev_mul5,ev_sub,ev_sub,ev_mul5,ev_mul5,ev_mul5,ev_mul5,hev,E.he];grind
   have h4:=i6 (ag e V) (ag W v');have h5:=fJ e V;have h6:=fJ W v';omega
 obtain ⟨m,hm⟩:∃ m,m=subV (ag u V) (ag v U):=⟨_,rfl⟩;have hmx:∀ x,evV m x=evV u x*evV V x-evV v x*evV U x:=fun x=>by rw [hm,ev_sub,ev_mul5,ev_mul5]
 have kV:∀ x,k*evV V x=evV m x*evV v' x:=fun x=>by rw [←E.det x,hmx];have:=c1 x;grind
 have kU:∀ x,k*evV U x=evV m x*evV u' x:=fun x=>by rw [←E.det x,hmx];have:=c1 x;grind
 have kW:∀ x,k*evV W x=evV m x*evV e x:=fun x=>by
  have h1:=kV x;have h2:=kU x;rw [hev,E.he];grind
 have hk:=E.k0;have hmn:tz m≠[]:=fun h=>by
  have z:∀ {f:List Rat} {g:List Rat},(∀ x,k*evV f x=evV m x*evV g x)→tz f=[]:=fun {f g} h1=>ev_tznil.2 fun x=>by
   have h2:=h1 x;rw [ev_tznil.1 h x,nXz] at h2;rcases nXq.1 h2 with h3|h3
   ·exact absurd h3 hk
   ·exact h3
  rcases hne with h1|h1
  ·exact h1 (z kU)
  ·exact h1 (z kV)
 have hv':tz v'≠[]:=fun h=>by
  have:ln v'=0:=by show (tz v').length=0;rw [h];rfl
  omega
 have h1:=ln_mul hmn hv';have h2:ln (ag m v')=ln (V.map (·*k)):=ln_congr fun x=>by rw [ev_mul5,ev_map,kV]
 have h3:=dJ (p:=V) (c:=k);have h4:=nk (p:=m) (by show ln m≤1;omega);have h5:seq m 0≠0:=fun h=>hmn (ev_tznil.2 fun x=>by rw [h4 x,h])
 have h6:∀ n,seq e n=seq W n*(k / seq m 0):=fun n=>by
  have h7:=ev_inj (p:=W.map (·*k)) (q:=e.map (·*seq m 0)) (fun x=>by rw [ev_map,ev_map,kW,h4]) n;rw [aT,aT] at h7;have h8:=div_cancel (a:=k) h5;have h9:(seq e n-seq W n*(k / seq m 0))*seq m 0=0:=by grind
  rcases nXq.1 h9 with h|h
  ·grind
  ·contradiction
 have hx:k / seq m 0≠0:=fun h=>by
  have h8:=div_cancel (a:=k) h5;rw [h,nXz] at h8;exact hk h8.symm
 have hl:(S+1)*(ln b-d+(ln a-d))≤(S+1)*(ln a+ln b):=nXf _ (by omega);have hall:∀ {l:List Rat},(∀ i,Wz ((S+1)*(ln b-d+(ln a-d))) (seq l i))→∀ x ∈ aB l,Wz ((S+1)*(ln a+ln b)) x:=fun {l} h x hx=>(dC (D:=1) (fun y hy=>by
  obtain ⟨i,hi,rfl⟩:=dr hy;rw [ax];exact Fr.one (h i)) (by decide) x hx).mono hl
 rcases tri (k / seq m 0) 0 with h|h|h
 ·rw [tW h h6];exact hall fun i=>by rw [aT,show seq W i*-1=-seq W i by grind];exact (hWz i).neg
 ·exact absurd h hx
 ·rw [eH h h6];exact hall hWz
theorem pH{a b:List Rat}{L:Nat}(h:Pr a b)(hb:∀ x ∈ b,Wz L x):∀ x ∈ aB a,Wz L x:=by
 obtain ⟨c,hc,h⟩:=h;have hall:∀ {l:List Rat},(∀ i,Wz L (seq l i))→∀ x ∈ aB l,Wz L x:=fun {l} h x hx=>dC (D:=1) (fun y hy=>by
  obtain ⟨i,hi,rfl⟩:=dr hy;rw [ax];exact Fr.one (h i)) (by decide) x hx
 have hw:∀ i,Wz L (seq b i):=fun i=>⟨by rw [(iK hb i).1];exact Wh.int _,(iK hb i).2⟩
 rcases tri c 0 with h0|h0|h0
 ·rw [tW (q:=b) h0 (fun n=>by rw [h n];grind)];exact hall fun i=>by rw [aT,show seq b i*-1=-seq b i by grind];exact (hw i).neg
 ·exact absurd h0 hc
 ·rw [eH (q:=b) h0 (fun n=>by rw [h n];grind)];exact hall hw
def Eg(L:Nat)(a b:List Rat):Prop:=∀ c e,Es a b c e→∀ x ∈ aB e,Wz L x
theorem AM{a b:List Rat}{S:Nat}(ha:∀ x ∈ a,Wz S x)(hb:∀ x ∈ b,Wz S x)(hbn:tz b≠[])(hl:ln b≤ln a)(hN:2*(ln a+ln b)≤W32):Eg ((S+1)*(ln a+ln b)) a b:=by
 intro c e h;have hp:=ln_pos hbn;have hS:S≤(S+1)*(ln a+ln b):=by
  have:(S+1)*1≤(S+1)*(ln a+ln b):=nXf _ (by omega);omega
 rcases h.eu hbn hl with ⟨-,he⟩|he|⟨u,v,u',v',k,E⟩
 ·intro x hx;exact (pH he hb x hx).mono hS
 ·rw [show aB e=[] from spl_ne.2 he];intro x hx;simp at hx
 ·by_cases he:tz e=[]
  ·rw [show aB e=[] from spl_ne.2 he];intro x hx;simp at hx
  ·exact zJ E he ha hb hN
theorem Eg.next{L:Nat}{a b r:List Rat}(h:Eg L a b)(hb:tz b≠[])(hr:Pr r (bD a b)):Eg L b r:=fun c e hs=>h c e (hs.shift hb hr)
theorem Eg.snd{L:Nat}{a b:List Rat}(h:Eg L a b):∀ x ∈ aB b,Wz L x:=h a b (Es.start (Pr.refl a) (Pr.refl b))
end Go.Proofs.YtohahgiidooijaaGreat.Sg
/- Sizes in Euclid's algorithm: with a factor of 3 a round, or by the bound of all members. Plain facts. -/
namespace Go.Proofs.YtohahgiidooijaaGreat
open Go.RowKit Go.Front Go.Num Stab Sg
theorem ii{p:List Rat}{x:Rat}(h:x ∈ tz p):x ∈ p:=by
 rw [gg p] at h;exact List.mem_of_mem_take h
theorem tJ(d:Nat)(hd:1≤d):2+d≤3 ^ d:=by
 induction d with
 | zero=>omega
 | succ d ih =>
  rcases Nat.eq_zero_or_pos d with h|h
  ·subst h;decide
  ·have:=ih h;rw [nXt];omega
theorem Cg(la lb:Nat):(1+(la+1-lb))*3 ^ lb≤3 ^ max la (lb+1):=by
 rcases Nat.lt_or_ge lb la with h|h
 ·obtain ⟨d,rfl⟩:∃ d,la=lb+d:=⟨la-lb,by omega⟩;rw [show max (lb+d) (lb+1)=lb+d by omega,Nat.pow_add,nYd];exact nXf _ (by have:=tJ d (by omega);omega)
 ·rw [show max la (lb+1)=lb+1 by omega,nXt,nYd];exact nXf _ (by omega)
theorem zr{X la lb lr L:Nat}(h:(X+1)*3 ^ max la (lb+1)≤L)(hr:lr+1≤lb):(X+(la+1-lb)*(X+1)+1)*3 ^ max lb (lr+1)≤L:=by
 have h1:X+(la+1-lb)*(X+1)+1=(X+1)*(1+(la+1-lb)):=by rw [Nat.mul_add (X+1) 1,nYd (X+1) (la+1-lb)];omega
 rw [h1,Nat.mul_assoc,show max lb (lr+1)=lb by omega];exact nXe (nXf _ (Cg la lb)) h
theorem tV(p:List Rat):aB (aB p)=aB p:=by
 by_cases h:tz p=[]
 ·rw [spl_ne.2 h];rfl
 ·exact (eH (p:=p) (q:=aB p) (bV h) (fun n=>by rw [cL p n];grind)).symm
def Zk(K X:Nat)(a b:List Rat):Prop:=(X+1)*3 ^ max a.length (b.length+1)≤K∨(Eg X a b∧3*((X+1)*(max a.length b.length+3))≤K)
theorem Zk.small{K X:Nat}{a b:List Rat}(h:Zk K X a b):X+1≤K:=by
 rcases h with h|⟨-,h⟩
 ·have:X+1≤(X+1)*3 ^ max a.length (b.length+1):=Nat.le_mul_of_pos_right _ (nYl (by decide));omega
 ·have:(X+1)*1≤(X+1)*(max a.length b.length+3):=nXf _ (by omega);omega
theorem Zk.dsz{K X:Nat}{a b:List Rat}(h:Zk K X a b):X+(a.length+1)*(X+1)≤K:=by
 have h4:(X+1)*(a.length+2)≤K:=by
  rcases h with h|⟨-,h⟩
  ·have h2:a.length+2≤3 ^ max a.length (b.length+1):=by
    have h3:=tJ (max a.length (b.length+1)) (by omega);omega
   exact nXe (nXf _ h2) h
  ·have:(X+1)*(a.length+2)≤(X+1)*(max a.length b.length+3):=nXf _ (by omega);omega
 rw [show (a.length+1)*(X+1)=(X+1)*(a.length+1) from nYd _ _];rw [show a.length+2=(a.length+1)+1 from rfl,Nat.mul_succ] at h4;omega
theorem Zk.size{K X:Nat}{a b:List Rat}(h:Zk K X a b)(hb:b≠[]):X+(a.length+1-b.length)*(X+1)≤K:=by
 have h1:=h.dsz;have h2:(a.length+1-b.length)*(X+1)≤(a.length+1)*(X+1):=nXg _ (by omega);omega
theorem Zk.next{K X:Nat}{a b r:List Rat}(h:Zk K X a b)(hbt:tz b=b)(hb:b≠[])(hr:Pr r (bD a b))(hs:aB r=r)(hl:r.length<b.length)(hw:∀ x ∈ r,Wz (X+(a.length+1-b.length)*(X+1)) x):∃ X',X≤X'∧Zk K X' b r∧∀ x ∈ r,Wz X' x:=by
 rcases h with h|⟨hE,h⟩
 ·exact ⟨_,Nat.le_add_right _ _,Or.inl (zr h (by omega)),hw⟩
 ·have hE2:=hE.next (by rw [hbt];exact hb) hr;refine ⟨X,nXd _,Or.inr ⟨hE2,?_⟩,by have:=hE2.snd;rwa [hs] at this⟩;have:(X+1)*(max b.length r.length+3)≤(X+1)*(max a.length b.length+3):=nXf _ (by omega);omega
def GZ(K S:Nat)(p q:List Rat):Prop:=∃ X,S≤X∧Zk K X (aB p) (aB q)
theorem Ed{K S P Q:Nat}{p q:List Rat}(hp:p.length≤P)(hq:q.length≤Q)(h:(S+1)*3 ^ max P (Q+1)≤K):GZ K S p q:=by
 have h1:=af p;have h2:=af q;exact ⟨S,nXd _,Or.inl (nXe (nXf _ (nXo (by decide) (by rw [aE,aE];omega))) h)⟩
theorem CB{a b:List Rat}{S:Nat}(ha:∀ x ∈ a,Wz S x)(hb:∀ x ∈ b,Wz S x)(hN:2*(ln a+ln b)≤W32):Eg ((S+1)*(ln a+ln b)) a b:=by
 by_cases hbn:tz b=[]
 ·intro c e h;cases h with
  | start hc he=>rw [show aB e=[] from spl_ne.2 (he.nil.2 hbn)];intro x hx;simp at hx
  | @next c' e' r h h0 hr =>
   exfalso;have key:∀ c e,Es a b c e→tz e=[]:=by
    intro c e h;induction h with
    | start hc he=>exact he.nil.2 hbn
    | next h h0 hr ih=>exact absurd ih h0
   exact h0 (key _ _ h)
 ·rcases Nat.lt_or_ge (ln a) (ln b) with hl|hl
  ·-- the first remainder is a itself
   have hrem:Pr a (bD a b):=by
    have h1:=bW a hbn;have hq:tz (aP a b)=[]:=Classical.byContradiction fun hq=>by
     have h2:=ln_mul hq hbn;have h3:ln (subV (ag (aP a b) b) ((bD a b).map (·*-1)))=ln a:=ln_congr fun x=>by rw [ev_sub,ev_mul5,ev_map,i9 a hbn x];grind
     have h4:ln (bD a b)<ln b:=nYj (af _) h1.1;have h5:=dJ (p:=bD a b) (c:=-1);have h6:=ln_pos hq;rw [k7 (by omega)] at h3;omega
    refine ⟨1,by decide,fun n=>?_⟩;exact ev_inj (p:=a) (q:=(bD a b).map (·*1)) (fun x=>by rw [ev_map,i9 a hbn x,ev_tznil.1 hq x];grind) n |>.trans (by rw [aT];grind)
   have hS:S≤(S+1)*(ln a+ln b):=by
    have hp:=ln_pos hbn;have:(S+1)*1≤(S+1)*(ln a+ln b):=nXf _ (by omega);omega
   by_cases han:tz a=[]
   ·intro c e h;have key:∀ c e,Es a b c e→(Pr c a∧Pr e b)∨tz e=[]:=by
     intro c e h;induction h with
     | start hc he=>exact Or.inl ⟨hc,he⟩
     | @next c e r h h0 hr ih =>
      rcases ih with ⟨hc,he⟩|h1
      ·exact Or.inr (hr.nil.2 ((kH hc he hbn).nil.2 (hrem.nil.1 han)))
      ·exact absurd h1 h0
    rcases key c e h with ⟨-,h1⟩|h1
    ·intro x hx;exact (pH h1 hb x hx).mono hS
    ·rw [show aB e=[] from spl_ne.2 h1];intro x hx;simp at hx
   ·have hE:=AM hb ha han (nYk hl) (by omega);rw [nYh (ln b)] at hE;intro c e h;have key:∀ c e,Es a b c e→(Pr c a∧Pr e b)∨Es b a c e:=by
     intro c e h;induction h with
     | start hc he=>exact Or.inl ⟨hc,he⟩
     | @next c e r h h0 hr ih =>
      right
      rcases ih with ⟨hc,he⟩|h1
      ·exact Es.start he (hr.trans ((kH hc he hbn).trans hrem.symm))
      ·exact Es.next h1 h0 hr
    rcases key c e h with ⟨-,h1⟩|h1
    ·intro x hx;exact (pH h1 hb x hx).mono hS
    ·exact hE c e h1
  ·exact AM ha hb hbn hl hN
theorem AA{K S D E P Q:Nat}{p q:List Rat}(hD:0<D)(hE:0<E)(hp:FrL S D p)(hq:FrL S E q)(hpl:p.length≤P)(hql:q.length≤Q)(hN:2*(P+Q)≤4294967296)(h:3*(((S+1)*(P+Q)+S+1)*(P+Q+3))≤K):GZ K S p q:=by
 have h1:=af p;have h2:=af q;have wa:∀ x ∈ aB p,Wz S x:=dC (fun x hx=>hp x (ii hx)) hD;have wb:∀ x ∈ aB q,Wz S x:=dC (fun x hx=>hq x (ii hx)) hE;have la:ln (aB p)≤P:=by show (tz (aB p)).length≤P;rw [bY,aE];omega
 have lb:ln (aB q)≤Q:=by show (tz (aB q)).length≤Q;rw [bY,aE];omega
 have hE:=CB wa wb (by show _≤4294967296;omega);refine ⟨(S+1)*(P+Q)+S,by omega,Or.inr ⟨fun c e hs x hx=>(hE c e hs x hx).mono ?_,?_⟩⟩
 ·have:(S+1)*(ln (aB p)+ln (aB q))≤(S+1)*(P+Q):=nXf _ (by omega);omega
 ·rw [aE,aE];have:((S+1)*(P+Q)+S+1)*(max (tz p).length (tz q).length+3)≤((S+1)*(P+Q)+S+1)*(P+Q+3):=nXf _ (by omega);omega
def GcI(K:Nat)(p q a b:List Rat)(X:Nat):Prop:=tz a=a∧tz b=b∧(∀ x ∈ a,Wz X x)∧(∀ x ∈ b,Wz X x)∧1≤X∧Zk K X a b∧lV b.length (bi a) (bi b)=bv p q∧a.length≤100000∧b.length≤100000
theorem GcI.small{K:Nat}{p q a b:List Rat}{X:Nat}(h:GcI K p q a b X):X+1≤K:=h.2.2.2.2.2.1.small
theorem GcI.dsz{K:Nat}{p q a b:List Rat}{X:Nat}(h:GcI K p q a b X):X+(a.length+1)*(X+1)≤K:=h.2.2.2.2.2.1.dsz
theorem GcI.size{K:Nat}{p q a b:List Rat}{X:Nat}(h:GcI K p q a b X)(hb:b≠[]):X+(a.length+1-b.length)*(X+1)≤K:=h.2.2.2.2.2.1.size hb
theorem GcI.next{K:Nat}{p q a b s r:List Rat}{f:Rat}{X:Nat}(h:GcI K p q a b X)(hb:b≠[])(hd:DvP a b X X s r f):∃ X',GcI K p q b (aB r) X':=by
 obtain ⟨h1,h2,h3,h4,h5,h6,h7,h8,h9⟩:=h;obtain ⟨d0,d1,d2,d3,d4,d5,d6,d7⟩:=hd;have hl:(aB r).length=r.length:=by rw [aE,d4]
 have hbt:tz b≠[]:=by rw [h2];exact hb
 have hpr:Pr (aB r) (bD a b):=(ie r).trans (mS hbt d0 (Bd.seq s) (by rw [h2];exact d5) d7);obtain ⟨X',g1,g2,g3⟩:=h6.next h2 hb hpr (tV r) (by omega) (dC (D:=1) (fun x hx=>by
  have hw:=d3 x (by rw [d4] at hx;exact hx);exact Fr.one hw) (by decide))
 exact ⟨X',h2,bY r,fun x hx=>(h4 x hx).mono g1,g3,by omega,g2,by rw [←vL h2 hb d0 d5 d7,h7],h9,by omega⟩
theorem GcI.start{K S D E:Nat}{p q:List Rat}(hS:1≤S)(hD:0<D)(hE:0<E)(hp:FrL S D p)(hq:FrL S E q)(hg:GZ K S p q)(hpl:p.length≤100000)(hql:q.length≤100000):∃ X,GcI K p q (aB p) (aB q) X:=by
 obtain ⟨X,h1,h2⟩:=hg;have e1:=af p;have e2:=af q;exact ⟨X,bY p,bY q,fun x hx=>(dC (fun x hx=>hp x (ii hx)) hD x hx).mono h1,fun x hx=>(dC (fun x hx=>hq x (ii hx)) hE x hx).mono h1,by omega,h2,vN p q,by rw [aE];omega,by rw [aE];omega⟩
def GcR(K:Nat)(g:List Rat):Prop:=∃ X D,FrL X D g∧1≤X∧0<D∧D<W32 ^ X∧((X+1)*3 ^ max g.length 1≤K∨3*((X+1)*(g.length+3))≤K)
theorem GcR.small{K:Nat}{g:List Rat}{X:Nat}(h:(X+1)*3 ^ max g.length 1≤K∨3*((X+1)*(g.length+3))≤K):X+1≤K / 3:=by
 rcases h with h|h
 ·have h1:(X+1)*3≤(X+1)*3 ^ max g.length 1:=nXf _ (by
   have:=nXo (n:=3) (by decide) (show 1≤max g.length 1 by omega);omega)
  omega
 ·have h1:(X+1)*1≤(X+1)*(g.length+3):=nXf _ (by omega);omega
theorem GcI.done{K:Nat}{p q a b:List Rat}{X:Nat}(h:GcI K p q a b X)(hb:b=[]):GcR K (bv p q):=by
 obtain ⟨h1,h2,h3,h4,h5,h6,h7,h8,h9⟩:=h;subst hb;have e:bv p q=bi a:=h7.symm;have hf:FrL X 1 a:=fun x hx=>Fr.one (h3 x hx)
 rw [e];have hsz:∀ n,n≤a.length→(X+1)*3 ^ max n 1≤K∨3*((X+1)*(n+3))≤K:=fun n hn=>by
  rcases h6 with h6|⟨-,h6⟩
  ·exact Or.inl (nXe (nXf _ (nXo (by decide) (by simp only [List.length_nil];omega))) h6)
  ·right
   have:(X+1)*(n+3)≤(X+1)*(max a.length ([]:List Rat).length+3):=nXf _ (by omega);omega
 by_cases ha:tz a=[]
 ·have:bi a=[]:=by unfold bi;rw [if_pos ha]
  rw [this];exact ⟨X,1,fun x hx=>by simp at hx,h5,by decide,Nat.one_lt_pow (by omega) (by decide),hsz _ (by simp)⟩
 ·exact ⟨X,ldD (tz a) 1,u6 hf,h5,jA hf.tz (bN ha) (by decide),mx hf.tz,hsz _ (by rw [bK,h1];exact nXd _)⟩
def RmI(K:Nat)(a b:List Rat)(X:Nat):Prop:=tz a=a∧tz b=b∧(∀ x ∈ a,Wz X x)∧(∀ x ∈ b,Wz X x)∧1≤X∧Zk K X a b∧(a=[]∨b.length<a.length)∧a.length≤100000∧b.length≤100000
theorem RmI.small{K:Nat}{a b:List Rat}{X:Nat}(h:RmI K a b X):X+1≤K:=h.2.2.2.2.2.1.small
theorem RmI.dsz{K:Nat}{a b:List Rat}{X:Nat}(h:RmI K a b X):X+(a.length+1)*(X+1)≤K:=h.2.2.2.2.2.1.dsz
theorem RmI.next{K:Nat}{a b s r:List Rat}{f:Rat}{X:Nat}(h:RmI K a b X)(hb:b≠[])(hf:0<f)(hd:DvP a b X X s r f):aB (r.map (·*-1))=aB ((bD a b).map (·*-1))∧∃ X',RmI K b (aB (r.map (·*-1))) X':=by
 obtain ⟨h1,h2,h3,h4,h5,h6,h7,h8,h9⟩:=h;obtain ⟨d0,d1,d2,d3,d4,d5,d6,d7⟩:=hd;have hm:tz (r.map (·*-1))=r.map (·*-1):=by rw [gi (by decide),d4]
 have hl:(aB (r.map (·*-1))).length=r.length:=by rw [aE,hm,nXk]
 have hbt:tz b≠[]:=by rw [h2];exact hb
 have hpr:Pr (aB (r.map (·*-1))) (bD a b):=((ie _).trans ⟨-1,by decide,fun n=>by rw [aT];grind⟩).trans (mS hbt d0 (Bd.seq s) (by rw [h2];exact d5) d7);obtain ⟨X',g1,g2,g3⟩:=h6.next h2 hb hpr (tV _) (by omega) (dC (D:=1) (fun x hx=>by
  rw [hm] at hx;obtain ⟨y,hy,rfl⟩:=nYe.1 hx;have hw:=(d3 y hy).neg;rw [show y*-1=-y by grind];exact Fr.one hw) (by decide))
 exact ⟨mt (by rw [h2];exact hb) hf (by rw [h2];exact d5) d7,X',h2,bY _,fun x hx=>(h4 x hx).mono g1,g3,by omega,g2,Or.inr (by omega),h9,by omega⟩
def KZ(K S n:Nat):Prop:=(S+2)*3 ^ n≤K∨3*(((S+2)*(2*n)+S+2)*(2*n+3))≤K
theorem KZ.small{K S n:Nat}(h:KZ K S n):S+2≤K:=by
 rcases h with h|h
 ·exact nXe (Nat.le_mul_of_pos_right _ (nYl (by decide))) h
 ·have:((S+2)*(2*n)+S+2)*1≤((S+2)*(2*n)+S+2)*(2*n+3):=nXf _ (by omega);omega
theorem KZ.small3{K S n:Nat}(hn:1≤n)(h:KZ K S n):S+2≤K / 3:=by
 rcases h with h|h
 ·have h1:(S+2)*3≤(S+2)*3 ^ n:=nXf _ (by
   have:=nXo (n:=3) (by decide) hn;omega)
  omega
 ·have:((S+2)*(2*n)+S+2)*1≤((S+2)*(2*n)+S+2)*(2*n+3):=nXf _ (by omega);omega
end Go.Proofs.YtohahgiidooijaaGreat
