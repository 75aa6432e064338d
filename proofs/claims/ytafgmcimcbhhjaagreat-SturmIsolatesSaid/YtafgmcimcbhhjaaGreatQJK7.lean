import Derived.Test.YtafgmcimcbhhjaaGreatQJK6
set_option linter.unusedVariables false
namespace Go.Proofs.YtafgmcimcbhhjaaGreat.Sg
open Go.RowKit Go.Front Go.Num Go.Stab Go.Proofs.YtafgmcimcbhhjaaGreat Sie
abbrev ln(p:List Rat):Nat:=(tz p).length
theorem Am{p:List Rat}{m:Nat}(h:∀ i,m≤i→seq p i=0):ln p≤m:=by
 by_cases h0:tz p=[]
 ·show (tz p).length≤m;rw [h0];exact Nat.zero_le _
 ·obtain ⟨n,hn,hn0⟩:=dN h0;rcases Nat.lt_or_ge n m with h1|h1
  ·show (tz p).length≤m;omega
  ·exact absurd (h n h1) hn0
theorem Ba{p:List Rat}{i:Nat}(h:ln p≤i):seq p i=0:=by rw [←aT];exact bh h
theorem dM{p:List Rat}(h:tz p≠[]):1≤ln p:=nYg.2 h
theorem eU(p q:List Rat):ln (aI p q)≤ln p+ln q-1:=by
 refine nXf (ah _) ?_;unfold aI;refine nXf (ah _) ?_;simp
theorem k7{p q:List Rat}(hp:tz p≠[])(hq:tz q≠[]):ln (aI p q)+1=ln p+ln q:=by
 obtain ⟨a,ha,ha0⟩:=dN hp;obtain ⟨b,hb,hb0⟩:=dN hq;have b1:Go.Proofs.YtafgmcimcbhhjaaGreat.Bd (a+1) (seq p):=by rw [←aT,←ha];exact Bd.seq _
 have b2:Go.Proofs.YtafgmcimcbhhjaaGreat.Bd (b+1) (seq q):=by rw [←aT,←hb];exact Bd.seq _
 have h1:seq (aI p q) (a+b)≠0:=by
  rw [dH,iC,oF b1 b2];intro h;rcases nXr.1 h with h|h
  ·exact ha0 h
  ·exact hb0 h
 have h2:=l7 h1;have h3:=eU p q;have e1:ln p=a+1:=ha;have e2:ln q=b+1:=hb;have e3:a+b<ln (aI p q):=h2;omega
theorem n5(p q:List Rat):ln (gU p q)≤max (ln p) (ln q):=Am fun i hi=>by
 rw [fg,Ba zo,Ba zo];exact Rat.add_zero 0
theorem dm{p:List Rat}{c:Rat}:ln (p.map (·*c))≤ln p:=Am fun i hi=>by rw [aQ,Ba hi,nYa]
def gY(p q:List Rat):List Rat:=gU p (q.map (·*-1))
theorem et(p q:List Rat)(x:Rat):evV (gY p q) x=evV p x-evV q x:=by unfold gY;rw [iz,bP];grind
theorem th(p q:List Rat)(n:Nat):seq (gY p q) n=seq p n-seq q n:=by unfold gY;rw [fg,aQ];grind
theorem je(p q:List Rat):ln (gY p q)≤max (ln p) (ln q):=by
 have h1:=n5 p (q.map (·*-1));have h2:=dm (p:=q) (c:=-1);unfold gY;omega
theorem cU{p q:List Rat}(h:∀ x,evV p x=evV q x):ln p=ln q:=by
 show (tz p).length=(tz q).length;rw [jR (fun n=>f9 h n)]
theorem kY{p q:List Rat}(h:ln q<ln p):ln (gY p q)=ln p:=by
 have h1:=je p q;obtain ⟨n,hn,h0⟩:=dN (p:=p) (fun h0=>by have:ln p=0:=(by show (tz p).length=0;rw [h0];rfl);omega);have e:ln p=n+1:=hn;have h2:seq (gY p q) n≠0:=by rw [th,Ba (p:=q) zo];grind
 have h3:n<ln (gY p q):=l7 h2;omega
theorem C7{p:List Rat}{x:Rat}(h:evV p x≠0):tz p≠[]:=fun h0=>h (ax.1 h0 x)
structure Eu (a b c e u v u' v':List Rat) (k:Rat):Prop where
 hc:∀ x,evV c x=evV u x*evV a x+evV v x*evV b x
 he:∀ x,evV e x=evV u' x*evV a x+evV v' x*evV b x
 det:∀ x,evV u x*evV v' x-evV v x*evV u' x=k
 k0:k≠0
 lv:ln v'+ln c=ln a+1
 lu:ln u'+ln c≤ln b+1
 lv0:ln v≤ln v'
 lu0:ln u+ln e≤ln b+1
 le:ln e<ln c
 lc:ln c≤ln b
 la:ln c≤ln a
theorem yz{c e:List Rat}(he:tz e≠[])(hl:ln e≤ln c):ln (bD c e)+ln e=ln c+1:=by
 have h1:=jg c he;have h2:ln (bB c e)<ln e:=nYk (ah _) (cd c he).1;have hq:tz (bD c e)≠[]:=fun h0=>by
  have h3:ln c=ln (bB c e):=cU fun x=>by rw [h1 x,ax.1 h0 x];grind
  omega
 have h3:=k7 hq he;have h4:ln c=ln (gY (aI (bD c e) e) ((bB c e).map (·*-1))):=cU fun x=>by rw [et,aU,bP,h1 x];grind
 have h5:=dm (p:=bB c e) (c:=-1);have h6:=dM hq;rw [kY zo] at h4;omega
theorem Eu.next{a b c e u v u' v' r:List Rat}{k:Rat}(E:Eu a b c e u v u' v' k)(h0:tz e≠[])(hr:Pr r (bB c e)):∃ u'' v'' k',Eu a b e r u' v' u'' v'' k':=by
 obtain ⟨c0,hc0,hr⟩:=oz hr;have hq:=yz h0 (nYl E.le);have h1:=jg c h0;have hlr:ln r<ln e:=by
  have h2:ln (bB c e)<ln e:=nYk (ah _) (cd c h0).1;have h3:ln r=ln ((bB c e).map (·*c0)):=cU fun x=>by rw [hr x,bP]
  have:=dm (p:=bB c e) (c:=c0);omega
 have hv':tz v'≠[]:=fun h=>by
  have h2:=E.lv;have h3:ln v'=0:=by show (tz v').length=0;rw [h];rfl
  have h4:=E.la;omega
 have hqn:tz (bD c e)≠[]:=fun h=>by
  have h3:ln (bD c e)=0:=by show (tz (bD c e)).length=0;rw [h];rfl
  have:=E.le;omega
 have hm:=k7 hqn hv';have hle:=E.le;have hlv:=E.lv;have hlu:=E.lu;have hlv0:=E.lv0;have hlu0:=E.lu0;have hmu:=eU (bD c e) u';have s1:=je u (aI (bD c e) u');have s2:ln (gY v (aI (bD c e) v'))=ln (aI (bD c e) v'):=by
  have e1:ln (gY v (aI (bD c e) v'))=ln (gY ((aI (bD c e) v').map (·*-1)) (v.map (·*-1))):=cU fun x=>by rw [et,et,bP,bP];grind
  have e2:ln ((aI (bD c e) v').map (·*-1))=ln (aI (bD c e) v'):=by
   have a1:=dm (p:=aI (bD c e) v') (c:=-1);have a2:=dm (p:=(aI (bD c e) v').map (·*-1)) (c:=-1);have a3:ln (aI (bD c e) v')=ln (((aI (bD c e) v').map (·*-1)).map (·*-1)):=cU fun x=>by rw [bP,bP];grind
   omega
  have e3:=dm (p:=v) (c:=-1);rw [e1,kY zo,e2]
 have t1:=dm (p:=gY u (aI (bD c e) u')) (c:=c0);have t2:ln ((gY v (aI (bD c e) v')).map (·*c0))=ln (gY v (aI (bD c e) v')):=by
  have a1:=dm (p:=gY v (aI (bD c e) v')) (c:=c0);have a2:=dm (p:=(gY v (aI (bD c e) v')).map (·*c0)) (c:=c0⁻¹);have a3:ln (gY v (aI (bD c e) v'))=ln (((gY v (aI (bD c e) v')).map (·*c0)).map (·*c0⁻¹)):=cU fun x=>by
   rw [bP,bP,←nYd,nYc c0⁻¹,nYj c0 hc0,Rat.one_mul]
  omega
 have hpe:=dM h0;refine ⟨(gY u (aI (bD c e) u')).map (·*c0),(gY v (aI (bD c e) v')).map (·*c0),-(c0*k),E.he,fun x=>?_,fun x=>?_,?_,zo,zo,zo,zo,hlr,by have:=E.lc;omega,by have:=E.la;omega⟩
 ·rw [bP,bP,et,et,aU,aU,hr x];have h2:=h1 x;rw [E.hc x,E.he x] at h2;have h3:evV (bB c e) x=(evV u x*evV a x+evV v x*evV b x)-evV (bD c e) x*(evV u' x*evV a x+evV v' x*evV b x):=by grind
  rw [h3];grind
 ·rw [bP,bP,et,et,aU,aU,←E.det x];grind
 ·intro h;have:c0*k=0:=by grind
  rcases nXr.1 this with h|h
  ·exact hc0 h
  ·exact E.k0 h
inductive Es (a b:List Rat):List Rat→List Rat→Prop
 | start {c e:List Rat} (hc:Pr c a) (he:Pr e b):Es a b c e
 | next {c e r:List Rat} (h:Es a b c e) (h0:tz e≠[]) (hr:Pr r (bB c e)):Es a b e r
theorem Es.shift{a b r c e:List Rat}(hb:tz b≠[])(hr:Pr r (bB a b))(h:Es b r c e):Es a b c e:=by
 induction h with
 | start hc he =>
  refine Es.next (Es.start (Pr.refl a) hc) (fun h=>hb (hc.nil.1 h)) ?_;exact (he.trans hr).trans (kF (Pr.refl a) hc.symm (fun h=>hb (hc.nil.1 h)))
 | next h h0 hr ih=>exact Es.next ih h0 hr
theorem Es.eu{a b c e:List Rat}(hb:tz b≠[])(hl:ln b≤ln a)(h:Es a b c e):(Pr c a∧Pr e b)∨tz e=[]∨∃ u v u' v' k,Eu a b c e u v u' v' k:=by
 induction h with
 | start hc he=>exact Or.inl ⟨hc,he⟩
 | @next c e r h h0 hr ih =>
  rcases ih with ⟨hc,he⟩|h1|⟨u,v,u',v',k,E⟩
  ·right
   by_cases hrn:tz r=[]
   ·exact Or.inl hrn
   ·right
    have e1:ln c=ln a:=hc.len;have e2:ln e=ln b:=he.len;obtain ⟨c1,hc1,hc⟩:=oz hc;obtain ⟨c2,hc2,he⟩:=oz he;obtain ⟨c0,hc0,hr'⟩:=oz hr;have h1:=jg c h0;have hq:=yz (c:=c) h0 zo;have hrl:ln r<ln e:=by rw [show ln r=ln (bB c e) from hr.len];exact nYk (ah _) (cd c h0).1
    have one:∀ t:Rat,∀ x,evV [t] x=t:=fun t x=>by show 0*x+t=t;grind
    have lone:∀ t:Rat,t≠0→ln [t]=1:=fun t ht=>by
     have h2:=C7 (p:=[t]) (x:=0) (by rw [one];exact ht);have h3:=dM h2;have h4:ln [t]≤1:=ah [t];omega
    have lnil:ln []=0:=rfl;have hc0c1:c0*c1≠0:=fun h=>by rcases nXr.1 h with h|h <;> contradiction
    have hcc:c0*c2≠0:=fun h=>by rcases nXr.1 h with h|h <;> contradiction
    have lq:ln ((bD c e).map (·*-(c0*c2)))=ln (bD c e):=by
     have a1:=dm (p:=bD c e) (c:=-(c0*c2));have a2:=dm (p:=(bD c e).map (·*-(c0*c2))) (c:=(-(c0*c2))⁻¹);have a3:ln (bD c e)=ln (((bD c e).map (·*-(c0*c2))).map (·*(-(c0*c2))⁻¹)):=cU fun x=>by
      rw [bP,bP,←nYd,nYc (-(c0*c2))⁻¹,nYj _ (by grind),Rat.one_mul]
     omega
    have hpe:=dM h0;refine ⟨[],[c2],[c0*c1],(bD c e).map (·*-(c0*c2)),-(c2*(c0*c1)),fun x=>?_,fun x=>?_,fun x=>?_,?_,?_,?_,?_,?_,hrl,zo,zo⟩
    ·rw [one,he x];show _=0*_+_;grind
    ·rw [hr' x,one,bP];have h2:=h1 x;rw [hc x,he x] at h2;have h3:evV (bB c e) x=c1*evV a x-evV (bD c e) x*(c2*evV b x):=by grind
     rw [h3];grind
    ·rw [one,one];show 0*_-_=_;grind
    ·intro h;have:c2*(c0*c1)=0:=by grind
     rcases nXr.1 this with h|h
     ·exact hc2 h
     ·exact hc0c1 h
    ·rw [lq];omega
    ·rw [lone _ hc0c1];omega
    ·rw [lone _ hc2,lq];omega
    ·rw [lnil];omega
  ·exact absurd h1 h0
  ·obtain ⟨u'',v'',k',E'⟩:=E.next h0 hr;exact Or.inr (Or.inr ⟨_,_,_,_,_,E'⟩)
theorem s8{n m:Nat}{f:Nat→Rat}(h:∀ i,n≤i→f i=0):sm n f=sm (n+m) f:=by
 rw [sm_split,sm_congr (n:=m) (g:=fun _=>0) (fun i _=>h (n+i) zo),sm_zero,Rat.add_zero]
theorem ri{P:Nat}{f g:Nat→Rat}(hf:∀ i,P≤i→f i=0)(n:Nat):cv f g n=sm P (fun i=>if i≤n then f i*g (n-i) else 0):=by
 have h1:cv f g n=sm (n+1) (fun i=>if i≤n then f i*g (n-i) else 0):=sm_congr fun i hi=>by rw [if_pos zo]
 rw [h1,s8 (m:=P) (fun i hi=>if_neg zo),nYi (n+1) P,←s8 (fun i hi=>by
  rw [hf i hi];split
  ·exact nYa _
  ·rfl)]
def syl(P:Nat)(a b:Nat→Int)(n i:Nat):Int:=if i<P then (if i≤n then a (n-i) else 0) else (if i-P≤n then b (n-(i-P)) else 0)
theorem zB{P Q:Nat}{a b:List Rat}{az bz x:Nat→Int}(ha:∀ i,seq a i=((az i:Int):Rat))(hb:∀ i,seq b i=((bz i:Int):Rat))(n:Nat) :
  seq (gU (aI ((List.range P).map fun i=>((x i:Int):Rat)) a) (aI ((List.range Q).map fun i=>((x (P+i):Int):Rat)) b)) n=((iH (P+Q) (fun i=>syl P az bz n i*x i):Int):Rat):=by
 rw [fg,dH,dH,iC,iC,oe,sm_split]
 congr 1
 ·rw [ri (P:=P) (fun i hi=>by unfold seq;rw [cG,if_neg zo])];refine sm_congr fun i hi=>?_
  unfold syl;rw [if_pos hi];by_cases h:i≤n
  ·rw [if_pos h,if_pos h,ha,Rat.intCast_mul,nYc];unfold seq;rw [cG,if_pos hi]
  ·rw [if_neg h,if_neg h,Int.zero_mul];rfl
 ·rw [ri (P:=Q) (fun i hi=>by unfold seq;rw [cG,if_neg zo])];refine sm_congr fun i hi=>?_
  unfold syl;rw [if_neg (show ¬ P+i<P by omega),show P+i-P=i by omega];by_cases h:i≤n
  ·rw [if_pos h,if_pos h,hb,Rat.intCast_mul,nYc];unfold seq;rw [cG,if_pos hi]
  ·rw [if_neg h,if_neg h,Int.zero_mul];rfl
theorem iI{S:Nat}{a:List Rat}(ha:∀ x ∈ a,Wz S x)(i:Nat):seq a i=(((seq a i).num:Int):Rat)∧(seq a i).num.natAbs<W32 ^ S:=by
 have h:Wz S (seq a i):=by
  rcases Nat.lt_or_ge i a.length with h|h
  ·exact ha _ (bK h)
  ·rw [show seq a i=0 from bh h];exact Wz.zero S
 exact ⟨h.1.eq,h.2⟩
theorem qf{a b:List Rat}{S d P Q:Nat}(ha:∀ x ∈ a,Wz S x)(hb:∀ x ∈ b,Wz S x)(hP:P+d=ln b)(hQ:Q+d=ln a)(hPQ:1≤P+Q)(hN:2*(P+Q)≤W32) :
  ∃ U V W:List Rat,ln U≤P∧ln V≤Q∧ln W≤d∧(∀ x,evV W x=evV U x*evV a x+evV V x*evV b x)∧(tz U≠[]∨tz V≠[])∧(∀ i,Wz ((S+1)*(P+Q)) (seq U i))∧(∀ i,Wz ((S+1)*(P+Q)) (seq V i))∧∀ i,Wz ((S+1)*(P+Q)) (seq W i):=by
 obtain ⟨M,hM⟩:∃ M,P+Q=M+1:=⟨P+Q-1,zo⟩;have hA1:1≤W32 ^ S:=nYm ay;obtain ⟨x,⟨i0,hi0,hx0⟩,hxb,hxe⟩:=Bz M (fun j i=>syl P (fun i=>(seq a i).num) (fun i=>(seq b i).num) (d+j) i) (W32 ^ S) (fun j i=>by
  unfold syl;split
  ·split
   ·exact nYl (iI ha _).2
   ·exact Nat.zero_le _
  ·split
   ·exact nYl (iI hb _).2
   ·exact Nat.zero_le _) hA1
 have hseq:=zB (P:=P) (Q:=Q) (a:=a) (b:=b) (x:=x) (fun i=>(iI ha i).1) (fun i=>(iI hb i).1);have hG:2*(M+1)*W32 ^ S≤W32 ^ (S+1):=by
  rw [nXt,nYe];exact nXg _ zo
 have hGM:(2*(M+1)*W32 ^ S) ^ (M+1)≤W32 ^ ((S+1)*(P+Q)):=by
  rw [hM,Nat.pow_mul];exact Nat.pow_le_pow_left hG _
 have hG1:1≤2*(M+1)*W32 ^ S:=Nat.mul_pos zo hA1;have hG2:1<2*(M+1)*W32 ^ S:=by
  have:2*(M+1)*1≤2*(M+1)*W32 ^ S:=nXg _ hA1;omega
 have hxw:∀ i,Wz ((S+1)*(P+Q)) ((x i:Int):Rat):=fun i=>Wz.int (nXn (nYk (hxb i) (Nat.pow_lt_pow_right hG2 (Nat.lt_succ_self M))) hGM)
 refine ⟨(List.range P).map fun i=>((x i:Int):Rat),(List.range Q).map fun i=>((x (P+i):Int):Rat),gU (aI ((List.range P).map fun i=>((x i:Int):Rat)) a) (aI ((List.range Q).map fun i=>((x (P+i):Int):Rat)) b),?_,?_,?_,fun y=>(by rw [iz,aU,aU]),?_,?_,?_,?_⟩
 ·exact nXf (ah _) (by simp)
 ·exact nXf (ah _) (by simp)
 ·refine Am fun n hn=>?_
  by_cases h1:n<d+M
  ·obtain ⟨j,rfl⟩:∃ j,n=d+j:=⟨n-d,zo⟩;rw [hseq,hM,hxe j zo];rfl
  ·refine Ba (nXf (n5 _ _) ?_);have l1:=eU ((List.range P).map fun i=>((x i:Int):Rat)) a;have l2:=eU ((List.range Q).map fun i=>((x (P+i):Int):Rat)) b;have l3:ln ((List.range P).map fun i=>((x i:Int):Rat))≤P:=nXf (ah _) (by simp);have l4:ln ((List.range Q).map fun i=>((x (P+i):Int):Rat))≤Q:=nXf (ah _) (by simp);omega
 ·rcases Nat.lt_or_ge i0 P with h|h
  ·left
   refine nYg.1 (nYk (Nat.zero_le i0) (l7 ?_));unfold seq;rw [cG,if_pos h];exact fun h=>hx0 (Rat.intCast_eq_zero_iff.1 h)
  ·right
   refine nYg.1 (nYk (Nat.zero_le (i0-P)) (l7 ?_));unfold seq;rw [cG,if_pos zo,show P+(i0-P)=i0 by omega];exact fun h=>hx0 (Rat.intCast_eq_zero_iff.1 h)
 ·intro i;unfold seq;rw [cG];split
  ·exact hxw i
  ·exact Wz.zero _
 ·intro i;unfold seq;rw [cG];split
  ·exact hxw _
  ·exact Wz.zero _
 ·intro n;rw [hseq,hM];refine Wz.int (nXn (nYk (uq (C:=W32 ^ S*(2*(M+1)*W32 ^ S) ^ M) (fun i _=>?_)) ?_) (by rw [←hM];exact hGM))
  ·rw [Int.natAbs_mul];refine nXx ?_ (hxb i);unfold syl;split
   ·split
    ·exact nYl (iI ha _).2
    ·exact Nat.zero_le _
   ·split
    ·exact nYl (iI hb _).2
    ·exact Nat.zero_le _
  ·rw [nXt,←Nat.mul_assoc,nYe ((2*(M+1)*W32 ^ S) ^ M)];refine Nat.mul_lt_mul_of_pos_right ?_ (nYm hG1);have h2:0<(M+1)*W32 ^ S:=Nat.mul_pos (Nat.succ_pos _) hA1;rw [Nat.mul_assoc 2];omega
theorem s6{p q:List Rat}{c:Rat}(hc:c<0)(h:∀ n,seq p n=seq q n*c):ar p=ar (q.map (·*-1)) :=
 cg (c:=-c) (by grind) (fun n=>by rw [h,aQ];grind)
theorem xL{a b c e u v u' v':List Rat}{k:Rat}{S:Nat}(E:Eu a b c e u v u' v' k)(he:tz e≠[])(ha:∀ x ∈ a,Wz S x)(hb:∀ x ∈ b,Wz S x)(hN:2*(ln a+ln b)≤W32):∀ x ∈ ar e,Wz ((S+1)*(ln a+ln b)) x:=by
 have hle:=E.le;have hlc:=E.lc;have hla:=E.la;have hlv:=E.lv;have hpe:=dM he;obtain ⟨d,hd⟩:∃ d,ln c=d+1:=⟨ln c-1,zo⟩;obtain ⟨U,V,W,hU,hV,hW,hev,hne,-,-,hWz⟩:=qf (S:=S) (d:=d) (P:=ln b-d) (Q:=ln a-d) ha hb zo zo zo zo;have c1:∀ x,evV u' x*evV V x=evV U x*evV v' x:=by
  by_cases hT:tz (gY (aI u' V) (aI U v'))=[]
  ·intro x;have:=ax.1 hT x;rw [et,aU,aU] at this;grind
  ·exfalso;have hta:tz a≠[]:=fun h=>by
    have:ln a=0:=by show (tz a).length=0;rw [h];rfl
    omega
   have h1:=k7 hta hT;have h2:=dM hT;have h3:ln (aI a (gY (aI u' V) (aI U v')))=ln (gY (aI e V) (aI W v')):=cU fun x=>by
    rw [aU,et,et,aU,aU,aU,aU,hev,E.he];grind
   have h4:=je (aI e V) (aI W v');have h5:=eU e V;have h6:=eU W v';omega
 obtain ⟨m,hm⟩:∃ m,m=gY (aI u V) (aI v U):=⟨_,rfl⟩;have hmx:∀ x,evV m x=evV u x*evV V x-evV v x*evV U x:=fun x=>by rw [hm,et,aU,aU]
 have kV:∀ x,k*evV V x=evV m x*evV v' x:=fun x=>by rw [←E.det x,hmx];have:=c1 x;grind
 have kU:∀ x,k*evV U x=evV m x*evV u' x:=fun x=>by rw [←E.det x,hmx];have:=c1 x;grind
 have kW:∀ x,k*evV W x=evV m x*evV e x:=fun x=>by
  have h1:=kV x;have h2:=kU x;rw [hev,E.he];grind
 have hk:=E.k0;have hmn:tz m≠[]:=fun h=>by
  have z:∀ {f:List Rat} {g:List Rat},(∀ x,k*evV f x=evV m x*evV g x)→tz f=[]:=fun {f g} h1=>ax.2 fun x=>by
   have h2:=h1 x;rw [ax.1 h x,nYa] at h2;rcases nXr.1 h2 with h3|h3
   ·exact absurd h3 hk
   ·exact h3
  rcases hne with h1|h1
  ·exact h1 (z kU)
  ·exact h1 (z kV)
 have hv':tz v'≠[]:=fun h=>by
  have:ln v'=0:=by show (tz v').length=0;rw [h];rfl
  omega
 have h1:=k7 hmn hv';have h2:ln (aI m v')=ln (V.map (·*k)):=cU fun x=>by rw [aU,bP,kV]
 have h3:=dm (p:=V) (c:=k);have h4:=fo (p:=m) (by show ln m≤1;omega);have h5:seq m 0≠0:=fun h=>hmn (ax.2 fun x=>by rw [h4 x,h])
 have h6:∀ n,seq e n=seq W n*(k / seq m 0):=fun n=>by
  have h7:=f9 (p:=W.map (·*k)) (q:=e.map (·*seq m 0)) (fun x=>by rw [bP,bP,kW,h4]) n;rw [aQ,aQ] at h7;have h8:=aw (a:=k) h5;have h9:(seq e n-seq W n*(k / seq m 0))*seq m 0=0:=by grind
  rcases nXr.1 h9 with h|h
  ·grind
  ·contradiction
 have hx:k / seq m 0≠0:=fun h=>by
  have h8:=aw (a:=k) h5;rw [h,nYa] at h8;exact hk h8.symm
 have hl:(S+1)*(ln b-d+(ln a-d))≤(S+1)*(ln a+ln b):=nXg _ zo;have hall:∀ {l:List Rat},(∀ i,Wz ((S+1)*(ln b-d+(ln a-d))) (seq l i))→∀ x ∈ ar l,Wz ((S+1)*(ln a+ln b)) x:=fun {l} h x hx=>(cY (D:=1) (fun y hy=>by
  obtain ⟨i,hi,rfl⟩:=cT hy;rw [bp];exact Fr.one (h i)) dZ x hx).mono hl
 rcases tri (k / seq m 0) 0 with h|h|h
 ·rw [s6 h h6];exact hall fun i=>by rw [aQ,show seq W i*-1=-seq W i by grind];exact (hWz i).neg
 ·exact absurd h hx
 ·rw [cg h h6];exact hall hWz
theorem o8{a b:List Rat}{L:Nat}(h:Pr a b)(hb:∀ x ∈ b,Wz L x):∀ x ∈ ar a,Wz L x:=by
 obtain ⟨c,hc,h⟩:=h;have hall:∀ {l:List Rat},(∀ i,Wz L (seq l i))→∀ x ∈ ar l,Wz L x:=fun {l} h x hx=>cY (D:=1) (fun y hy=>by
  obtain ⟨i,hi,rfl⟩:=cT hy;rw [bp];exact Fr.one (h i)) dZ x hx
 have hw:∀ i,Wz L (seq b i):=fun i=>⟨by rw [(iI hb i).1];exact Wh.int _,(iI hb i).2⟩
 rcases tri c 0 with h0|h0|h0
 ·rw [s6 (q:=b) h0 (fun n=>by rw [h n];grind)];exact hall fun i=>by rw [aQ,show seq b i*-1=-seq b i by grind];exact (hw i).neg
 ·exact absurd h0 hc
 ·rw [cg (q:=b) h0 (fun n=>by rw [h n];grind)];exact hall hw
def Eg(L:Nat)(a b:List Rat):Prop:=∀ c e,Es a b c e→∀ x ∈ ar e,Wz L x
theorem yU{a b:List Rat}{S:Nat}(ha:∀ x ∈ a,Wz S x)(hb:∀ x ∈ b,Wz S x)(hbn:tz b≠[])(hl:ln b≤ln a)(hN:2*(ln a+ln b)≤W32):Eg ((S+1)*(ln a+ln b)) a b:=by
 intro c e h;have hp:=dM hbn;have hS:S≤(S+1)*(ln a+ln b):=by
  have:(S+1)*1≤(S+1)*(ln a+ln b):=nXg _ zo;omega
 rcases h.eu hbn hl with ⟨-,he⟩|he|⟨u,v,u',v',k,E⟩
 ·intro x hx;exact (o8 he hb x hx).mono hS
 ·rw [show ar e=[] from bH.2 he];intro x hx;simp at hx
 ·by_cases he:tz e=[]
  ·rw [show ar e=[] from bH.2 he];intro x hx;simp at hx
  ·exact xL E he ha hb hN
theorem Eg.next{L:Nat}{a b r:List Rat}(h:Eg L a b)(hb:tz b≠[])(hr:Pr r (bB a b)):Eg L b r:=fun c e hs=>h c e (hs.shift hb hr)
theorem Eg.snd{L:Nat}{a b:List Rat}(h:Eg L a b):∀ x ∈ ar b,Wz L x:=h a b (Es.start (Pr.refl a) (Pr.refl b))
theorem CO{a b:List Rat}{S:Nat}(ha:∀ x ∈ a,Wz S x)(hb:∀ x ∈ b,Wz S x)(hla:2≤ln a)(hlb:1≤ln b)(hc:Cp (evV a) (evV b))(hN:2*(ln a+ln b)≤W32) :
  ∃ (U V:List Rat) (w:Rat),w≠0∧ln U≤ln b∧ln V≤ln a∧(∀ x,evV U x*evV a x+evV V x*evV b x=w)∧(∀ i,Wz ((S+1)*(ln a+ln b)) (seq U i))∧(∀ i,Wz ((S+1)*(ln a+ln b)) (seq V i))∧Wz ((S+1)*(ln a+ln b)) w:=by
 obtain ⟨U,V,W,hU,hV,hW,hev,hne,hUz,hVz,hWz⟩:=qf (S:=S) (d:=1) (P:=ln b-1) (Q:=ln a-1) ha hb zo zo zo zo;have hl:(S+1)*(ln b-1+(ln a-1))≤(S+1)*(ln a+ln b):=nXg _ zo;have h4:=fo (p:=W) hW;refine ⟨U,V,seq W 0,fun h0=>?_,zo,zo,fun x=>by rw [←hev,h4],fun i=>(hUz i).mono hl,fun i=>(hVz i).mono hl,(hWz 0).mono hl⟩;have h5:∀ x,evV U x*evV a x+evV V x*evV b x=0:=fun x=>by rw [←hev,h4,h0]
 have hta:tz a≠[]:=fun h=>by
  have:ln a=0:=by show (tz a).length=0;rw [h];rfl
  omega
 have hV0:tz V=[]:=Classical.byContradiction fun hn=>by
  have h6:Dv (evV a) (evV V):=hc.dv (Pf.ev V) ⟨_,(Pf.ev U).smul (-1),fun x=>by have:=h5 x;grind⟩;have h7:=gg h6 hn;have h8:ln a≤ln V:=h7;omega
 have hU0:tz U=[]:=ax.2 fun x=>by
  have h6:=ek (f:=evV a) (g:=evV U) (h:=fun _=>0) (Pf.ev a) (Pf.ev U) (Pf.const 0) (fun x=>by have:=h5 x;rw [ax.1 hV0 x] at this;grind) (mS hta) x;exact h6
 rcases hne with h|h
 ·exact h hU0
 ·exact h hV0
end Go.Proofs.YtafgmcimcbhhjaaGreat.Sg
/- Sizes in Euclid's algorithm: with a factor of 3 a round, or by the bound of all members. Plain facts. -/
namespace Go.Proofs.YtafgmcimcbhhjaaGreat
open Go.RowKit Go.Front Go.Num Stab Sg
theorem eB{p:List Rat}{x:Rat}(h:x ∈ tz p):x ∈ p:=by
 rw [iL p] at h;exact List.mem_of_mem_take h
theorem sQ(d:Nat)(hd:1≤d):2+d≤3 ^ d:=by
 induction d with
 | zero=>omega
 | succ d ih =>
  rcases Nat.eq_zero_or_pos d with h|h
  ·subst h;decide
  ·have:=ih h;rw [nXt];omega
theorem Ar(la lb:Nat):(1+(la+1-lb))*3 ^ lb≤3 ^ max la (lb+1):=by
 rcases Nat.lt_or_ge lb la with h|h
 ·obtain ⟨d,rfl⟩:∃ d,la=lb+d:=⟨la-lb,zo⟩;rw [show max (lb+d) (lb+1)=lb+d by omega,Nat.pow_add,nYe];exact nXg _ (by have:=sQ d zo;omega)
 ·rw [show max la (lb+1)=lb+1 by omega,nXt,nYe];exact nXg _ zo
theorem xD{X la lb lr L:Nat}(h:(X+1)*3 ^ max la (lb+1)≤L)(hr:lr+1≤lb):(X+(la+1-lb)*(X+1)+1)*3 ^ max lb (lr+1)≤L:=by
 have h1:X+(la+1-lb)*(X+1)+1=(X+1)*(1+(la+1-lb)):=by rw [Nat.mul_add (X+1) 1,nYe (X+1) (la+1-lb)];omega
 rw [h1,Nat.mul_assoc,show max lb (lr+1)=lb by omega];exact nXf (nXg _ (Ar la lb)) h
theorem sZ(p:List Rat):ar (ar p)=ar p:=by
 by_cases h:tz p=[]
 ·rw [bH.2 h];rfl
 ·exact (cg (p:=p) (q:=ar p) (aZ h) (fun n=>by rw [cS p n];grind)).symm
def Zk(K X:Nat)(a b:List Rat):Prop:=(X+1)*3 ^ max a.length (b.length+1)≤K∨(Eg X a b∧3*((X+1)*(max a.length b.length+3))≤K)
theorem Zk.small{K X:Nat}{a b:List Rat}(h:Zk K X a b):X+1≤K:=by
 rcases h with h|⟨-,h⟩
 ·have:X+1≤(X+1)*3 ^ max a.length (b.length+1):=Nat.le_mul_of_pos_right _ (nYm dZ);omega
 ·have:(X+1)*1≤(X+1)*(max a.length b.length+3):=nXg _ zo;omega
theorem Zk.dsz{K X:Nat}{a b:List Rat}(h:Zk K X a b):X+(a.length+1)*(X+1)≤K:=by
 have h4:(X+1)*(a.length+2)≤K:=by
  rcases h with h|⟨-,h⟩
  ·have h2:a.length+2≤3 ^ max a.length (b.length+1):=by
    have h3:=sQ (max a.length (b.length+1)) zo;omega
   exact nXf (nXg _ h2) h
  ·have:(X+1)*(a.length+2)≤(X+1)*(max a.length b.length+3):=nXg _ zo;omega
 rw [show (a.length+1)*(X+1)=(X+1)*(a.length+1) from nYe _ _];rw [show a.length+2=(a.length+1)+1 from rfl,Nat.mul_succ] at h4;omega
theorem Zk.size{K X:Nat}{a b:List Rat}(h:Zk K X a b)(hb:b≠[]):X+(a.length+1-b.length)*(X+1)≤K:=by
 have h1:=h.dsz;have h2:(a.length+1-b.length)*(X+1)≤(a.length+1)*(X+1):=nXh _ zo;omega
theorem Zk.next{K X:Nat}{a b r:List Rat}(h:Zk K X a b)(hbt:tz b=b)(hb:b≠[])(hr:Pr r (bB a b))(hs:ar r=r)(hl:r.length<b.length)(hw:∀ x ∈ r,Wz (X+(a.length+1-b.length)*(X+1)) x):∃ X',X≤X'∧Zk K X' b r∧∀ x ∈ r,Wz X' x:=by
 rcases h with h|⟨hE,h⟩
 ·exact ⟨_,Nat.le_add_right _ _,Or.inl (xD h zo),hw⟩
 ·have hE2:=hE.next (by rw [hbt];exact hb) hr;refine ⟨X,nXe _,Or.inr ⟨hE2,?_⟩,by have:=hE2.snd;rwa [hs] at this⟩;have:(X+1)*(max b.length r.length+3)≤(X+1)*(max a.length b.length+3):=nXg _ zo;omega
def GZ(K S:Nat)(p q:List Rat):Prop:=∃ X,S≤X∧Zk K X (ar p) (ar q)
theorem Ci{K S P Q:Nat}{p q:List Rat}(hp:p.length≤P)(hq:q.length≤Q)(h:(S+1)*3 ^ max P (Q+1)≤K):GZ K S p q:=by
 have h1:=ah p;have h2:=ah q;exact ⟨S,nXe _,Or.inl (nXf (nXg _ (nXp dZ (by rw [aC,aC];omega))) h)⟩
theorem AA{a b:List Rat}{S:Nat}(ha:∀ x ∈ a,Wz S x)(hb:∀ x ∈ b,Wz S x)(hN:2*(ln a+ln b)≤W32):Eg ((S+1)*(ln a+ln b)) a b:=by
 by_cases hbn:tz b=[]
 ·intro c e h;cases h with
  | start hc he=>rw [show ar e=[] from bH.2 (he.nil.2 hbn)];intro x hx;simp at hx
  | @next c' e' r h h0 hr =>
   exfalso;have key:∀ c e,Es a b c e→tz e=[]:=by
    intro c e h;induction h with
    | start hc he=>exact he.nil.2 hbn
    | next h h0 hr ih=>exact absurd ih h0
   exact h0 (key _ _ h)
 ·rcases Nat.lt_or_ge (ln a) (ln b) with hl|hl
  ·-- the first remainder is a itself
   have hrem:Pr a (bB a b):=by
    have h1:=cd a hbn;have hq:tz (bD a b)=[]:=Classical.byContradiction fun hq=>by
     have h2:=k7 hq hbn;have h3:ln (gY (aI (bD a b) b) ((bB a b).map (·*-1)))=ln a:=cU fun x=>by rw [et,aU,bP,jg a hbn x];grind
     have h4:ln (bB a b)<ln b:=nYk (ah _) h1.1;have h5:=dm (p:=bB a b) (c:=-1);have h6:=dM hq;rw [kY zo] at h3;omega
    refine ⟨1,dZ,fun n=>?_⟩;exact f9 (p:=a) (q:=(bB a b).map (·*1)) (fun x=>by rw [bP,jg a hbn x,ax.1 hq x];grind) n |>.trans (by rw [aQ];grind)
   have hS:S≤(S+1)*(ln a+ln b):=by
    have hp:=dM hbn;have:(S+1)*1≤(S+1)*(ln a+ln b):=nXg _ zo;omega
   by_cases han:tz a=[]
   ·intro c e h;have key:∀ c e,Es a b c e→(Pr c a∧Pr e b)∨tz e=[]:=by
     intro c e h;induction h with
     | start hc he=>exact Or.inl ⟨hc,he⟩
     | @next c e r h h0 hr ih =>
      rcases ih with ⟨hc,he⟩|h1
      ·exact Or.inr (hr.nil.2 ((kF hc he hbn).nil.2 (hrem.nil.1 han)))
      ·exact absurd h1 h0
    rcases key c e h with ⟨-,h1⟩|h1
    ·intro x hx;exact (o8 h1 hb x hx).mono hS
    ·rw [show ar e=[] from bH.2 h1];intro x hx;simp at hx
   ·have hE:=yU hb ha han (nYl hl) zo;rw [nYi (ln b)] at hE;intro c e h;have key:∀ c e,Es a b c e→(Pr c a∧Pr e b)∨Es b a c e:=by
     intro c e h;induction h with
     | start hc he=>exact Or.inl ⟨hc,he⟩
     | @next c e r h h0 hr ih =>
      right
      rcases ih with ⟨hc,he⟩|h1
      ·exact Es.start he (hr.trans ((kF hc he hbn).trans hrem.symm))
      ·exact Es.next h1 h0 hr
    rcases key c e h with ⟨-,h1⟩|h1
    ·intro x hx;exact (o8 h1 hb x hx).mono hS
    ·exact hE c e h1
  ·exact yU ha hb hbn hl hN
theorem Cg{K S D E P Q:Nat}{p q:List Rat}(hD:0<D)(hE:0<E)(hp:FrL S D p)(hq:FrL S E q)(hpl:p.length≤P)(hql:q.length≤Q)(hN:2*(P+Q)≤4294967296)(h:3*(((S+1)*(P+Q)+S+1)*(P+Q+3))≤K):GZ K S p q:=by
 have h1:=ah p;have h2:=ah q;have wa:∀ x ∈ ar p,Wz S x:=cY (fun x hx=>hp x (eB hx)) hD;have wb:∀ x ∈ ar q,Wz S x:=cY (fun x hx=>hq x (eB hx)) hE;have la:ln (ar p)≤P:=by show (tz (ar p)).length≤P;rw [aX,aC];omega
 have lb:ln (ar q)≤Q:=by show (tz (ar q)).length≤Q;rw [aX,aC];omega
 have hE:=AA wa wb (by show _≤4294967296;omega);refine ⟨(S+1)*(P+Q)+S,zo,Or.inr ⟨fun c e hs x hx=>(hE c e hs x hx).mono ?_,?_⟩⟩
 ·have:(S+1)*(ln (ar p)+ln (ar q))≤(S+1)*(P+Q):=nXg _ zo;omega
 ·rw [aC,aC];have:((S+1)*(P+Q)+S+1)*(max (tz p).length (tz q).length+3)≤((S+1)*(P+Q)+S+1)*(P+Q+3):=nXg _ zo;omega
def GcI(K:Nat)(p q a b:List Rat)(X:Nat):Prop:=tz a=a∧tz b=b∧(∀ x ∈ a,Wz X x)∧(∀ x ∈ b,Wz X x)∧1≤X∧Zk K X a b∧ov b.length (bq a) (bq b)=bN p q∧a.length≤100000∧b.length≤100000
theorem GcI.small{K:Nat}{p q a b:List Rat}{X:Nat}(h:GcI K p q a b X):X+1≤K:=h.2.2.2.2.2.1.small
theorem GcI.dsz{K:Nat}{p q a b:List Rat}{X:Nat}(h:GcI K p q a b X):X+(a.length+1)*(X+1)≤K:=h.2.2.2.2.2.1.dsz
theorem GcI.size{K:Nat}{p q a b:List Rat}{X:Nat}(h:GcI K p q a b X)(hb:b≠[]):X+(a.length+1-b.length)*(X+1)≤K:=h.2.2.2.2.2.1.size hb
theorem GcI.next{K:Nat}{p q a b s r:List Rat}{f:Rat}{X:Nat}(h:GcI K p q a b X)(hb:b≠[])(hd:DvP a b X X s r f):∃ X',GcI K p q b (ar r) X':=by
 obtain ⟨h1,h2,h3,h4,h5,h6,h7,h8,h9⟩:=h;obtain ⟨d0,d1,d2,d3,d4,d5,d6,d7⟩:=hd;have hl:(ar r).length=r.length:=by rw [aC,d4]
 have hbt:tz b≠[]:=by rw [h2];exact hb
 have hpr:Pr (ar r) (bB a b):=(iT r).trans (mJ hbt d0 (Bd.seq s) (by rw [h2];exact d5) d7);obtain ⟨X',g1,g2,g3⟩:=h6.next h2 hb hpr (sZ r) zo (cY (D:=1) (fun x hx=>by
  have hw:=d3 x (by rw [d4] at hx;exact hx);exact Fr.one hw) dZ)
 exact ⟨X',h2,aX r,fun x hx=>(h4 x hx).mono g1,g3,zo,g2,by rw [←uB h2 hb d0 d5 d7,h7],h9,zo⟩
theorem GcI.start{K S D E:Nat}{p q:List Rat}(hS:1≤S)(hD:0<D)(hE:0<E)(hp:FrL S D p)(hq:FrL S E q)(hg:GZ K S p q)(hpl:p.length≤100000)(hql:q.length≤100000):∃ X,GcI K p q (ar p) (ar q) X:=by
 obtain ⟨X,h1,h2⟩:=hg;have e1:=ah p;have e2:=ah q;exact ⟨X,aX p,aX q,fun x hx=>(cY (fun x hx=>hp x (eB hx)) hD x hx).mono h1,fun x hx=>(cY (fun x hx=>hq x (eB hx)) hE x hx).mono h1,zo,h2,uC p q,by rw [aC];omega,by rw [aC];omega⟩
def GcR(K:Nat)(g:List Rat):Prop:=∃ X D,FrL X D g∧1≤X∧0<D∧D<W32 ^ X∧((X+1)*3 ^ max g.length 1≤K∨3*((X+1)*(g.length+3))≤K)
theorem GcR.small{K:Nat}{g:List Rat}{X:Nat}(h:(X+1)*3 ^ max g.length 1≤K∨3*((X+1)*(g.length+3))≤K):X+1≤K / 3:=by
 rcases h with h|h
 ·have h1:(X+1)*3≤(X+1)*3 ^ max g.length 1:=nXg _ (by
   have:=nXp (n:=3) dZ (show 1≤max g.length 1 by omega);omega)
  omega
 ·have h1:(X+1)*1≤(X+1)*(g.length+3):=nXg _ zo;omega
theorem GcI.done{K:Nat}{p q a b:List Rat}{X:Nat}(h:GcI K p q a b X)(hb:b=[]):GcR K (bN p q):=by
 obtain ⟨h1,h2,h3,h4,h5,h6,h7,h8,h9⟩:=h;subst hb;have e:bN p q=bq a:=h7.symm;have hf:FrL X 1 a:=fun x hx=>Fr.one (h3 x hx)
 rw [e];have hsz:∀ n,n≤a.length→(X+1)*3 ^ max n 1≤K∨3*((X+1)*(n+3))≤K:=fun n hn=>by
  rcases h6 with h6|⟨-,h6⟩
  ·exact Or.inl (nXf (nXg _ (nXp dZ (by simp only [List.length_nil];omega))) h6)
  ·right
   have:(X+1)*(n+3)≤(X+1)*(max a.length ([]:List Rat).length+3):=nXg _ zo;omega
 by_cases ha:tz a=[]
 ·have:bq a=[]:=by unfold bq;rw [if_pos ha]
  rw [this];exact ⟨X,1,fun x hx=>by simp at hx,h5,dZ,Nat.one_lt_pow zo dZ,hsz _ (by simp)⟩
 ·exact ⟨X,ldD (tz a) 1,t7 hf,h5,m7 hf.tz (bT ha) dZ,qL hf.tz,hsz _ (by rw [cH,h1];exact nXe _)⟩
def RmI(K:Nat)(a b:List Rat)(X:Nat):Prop:=tz a=a∧tz b=b∧(∀ x ∈ a,Wz X x)∧(∀ x ∈ b,Wz X x)∧1≤X∧Zk K X a b∧(a=[]∨b.length<a.length)∧a.length≤100000∧b.length≤100000
theorem RmI.small{K:Nat}{a b:List Rat}{X:Nat}(h:RmI K a b X):X+1≤K:=h.2.2.2.2.2.1.small
theorem RmI.dsz{K:Nat}{a b:List Rat}{X:Nat}(h:RmI K a b X):X+(a.length+1)*(X+1)≤K:=h.2.2.2.2.2.1.dsz
theorem RmI.size{K:Nat}{a b:List Rat}{X:Nat}(h:RmI K a b X)(hb:b≠[]):X+(a.length+1-b.length)*(X+1)≤K:=h.2.2.2.2.2.1.size hb
theorem RmI.next{K:Nat}{a b s r:List Rat}{f:Rat}{X:Nat}(h:RmI K a b X)(hb:b≠[])(hf:0<f)(hd:DvP a b X X s r f):ar (r.map (·*-1))=ar ((bB a b).map (·*-1))∧∃ X',RmI K b (ar (r.map (·*-1))) X':=by
 obtain ⟨h1,h2,h3,h4,h5,h6,h7,h8,h9⟩:=h;obtain ⟨d0,d1,d2,d3,d4,d5,d6,d7⟩:=hd;have hm:tz (r.map (·*-1))=r.map (·*-1):=by rw [eN dZ,d4]
 have hl:(ar (r.map (·*-1))).length=r.length:=by rw [aC,hm,nXl]
 have hbt:tz b≠[]:=by rw [h2];exact hb
 have hpr:Pr (ar (r.map (·*-1))) (bB a b):=((iT _).trans ⟨-1,dZ,fun n=>by rw [aQ];grind⟩).trans (mJ hbt d0 (Bd.seq s) (by rw [h2];exact d5) d7);obtain ⟨X',g1,g2,g3⟩:=h6.next h2 hb hpr (sZ _) zo (cY (D:=1) (fun x hx=>by
  rw [hm] at hx;obtain ⟨y,hy,rfl⟩:=nYf.1 hx;have hw:=(d3 y hy).neg;rw [show y*-1=-y by grind];exact Fr.one hw) dZ)
 exact ⟨lY (by rw [h2];exact hb) hf (by rw [h2];exact d5) d7,X',h2,aX _,fun x hx=>(h4 x hx).mono g1,g3,zo,g2,Or.inr zo,h9,zo⟩
def KZ(K S n:Nat):Prop:=(S+2)*3 ^ n≤K∨3*(((S+2)*(2*n)+S+2)*(2*n+3))≤K
theorem KZ.small{K S n:Nat}(h:KZ K S n):S+2≤K:=by
 rcases h with h|h
 ·exact nXf (Nat.le_mul_of_pos_right _ (nYm dZ)) h
 ·have:((S+2)*(2*n)+S+2)*1≤((S+2)*(2*n)+S+2)*(2*n+3):=nXg _ zo;omega
theorem KZ.small3{K S n:Nat}(hn:1≤n)(h:KZ K S n):S+2≤K / 3:=by
 rcases h with h|h
 ·have h1:(S+2)*3≤(S+2)*3 ^ n:=nXg _ (by
   have:=nXp (n:=3) dZ hn;omega)
  omega
 ·have:((S+2)*(2*n)+S+2)*1≤((S+2)*(2*n)+S+2)*(2*n+3):=nXg _ zo;omega
end Go.Proofs.YtafgmcimcbhhjaaGreat
