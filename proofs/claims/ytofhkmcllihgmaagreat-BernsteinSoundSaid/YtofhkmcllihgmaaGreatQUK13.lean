/- The members of Euclid's sequence of two polynomials with whole coefficients are small. Plain facts. -/
import Derived.Test.YtofhkmcllihgmaaGreatQUK12
import Derived.Test.YtofhkmcllihgmaaGreatQUK5
import Derived.Test.YtofhkmcllihgmaaGreatQUM22
import Derived.Test.YtofhkmcllihgmaaGreatQUK2
set_option linter.unusedVariables false
namespace Go.Proofs.YtofhkmcllihgmaaGreat.Sg
open Go.RowKit Go.Front Go.Num Go.Stab Go.Proofs.YtofhkmcllihgmaaGreat Sie
abbrev ln(p:List Rat):Nat:=(tz p).length
theorem Ad{p:List Rat}{m:Nat}(h:∀ i,m≤i→seq p i=0):ln p≤m:=by
 by_cases h0:tz p=[]
 ·show (tz p).length≤m;rw [h0];exact Nat.zero_le _
 ·obtain ⟨n,hn,hn0⟩:=eT h0;rcases Nat.lt_or_ge n m with h1|h1
  ·show (tz p).length≤m;omega
  ·exact absurd (h n h1) hn0
theorem A2{p:List Rat}{i:Nat}(h:ln p≤i):seq p i=0:=by rw [←bq];exact bs h
theorem gy{p:List Rat}(h:tz p≠[]):1≤ln p:=List.length_pos_iff.2 h
theorem eS(p q:List Rat):ln (aD p q)≤ln p+ln q-1:=by
 refine Nat.le_trans (aj _) ?_;unfold aD;refine Nat.le_trans (aj _) ?_;simp
theorem mU{p q:List Rat}(hp:tz p≠[])(hq:tz q≠[]):ln (aD p q)+1=ln p+ln q:=by
 obtain ⟨a,ha,ha0⟩:=eT hp;obtain ⟨b,hb,hb0⟩:=eT hq;have b1:Go.Proofs.YtofhkmcllihgmaaGreat.Bd (a+1) (seq p):=by rw [←bq,←ha];exact Bd.seq _
 have b2:Go.Proofs.YtofhkmcllihgmaaGreat.Bd (b+1) (seq q):=by rw [←bq,←hb];exact Bd.seq _
 have h1:seq (aD p q) (a+b)≠0:=by
  rw [dh,fT,nt b1 b2];intro h;rcases Rat.mul_eq_zero.1 h with h|h
  ·exact ha0 h
  ·exact hb0 h
 have h2:=mX h1;have h3:=eS p q;have e1:ln p=a+1:=ha;have e2:ln q=b+1:=hb;have e3:a+b<ln (aD p q):=h2;omega
theorem mW(p q:List Rat):ln (cG p q)≤max (ln p) (ln q):=Ad fun i hi=>by
 rw [ff,A2 (by omega),A2 (by omega)];exact Rat.add_zero 0
theorem dp{p:List Rat}{c:Rat}:ln (p.map (·*c))≤ln p:=Ad fun i hi=>by rw [aU,A2 hi,Rat.zero_mul]
def ib(p q:List Rat):List Rat:=cG p (q.map (·*-1))
theorem eV(p q:List Rat)(x:Rat):evV (ib p q) x=evV p x-evV q x:=by unfold ib;rw [iP,bQ];grind
theorem sE(p q:List Rat)(n:Nat):seq (ib p q) n=seq p n-seq q n:=by unfold ib;rw [ff,aU];grind
theorem iq(p q:List Rat):ln (ib p q)≤max (ln p) (ln q):=by
 have h1:=mW p (q.map (·*-1));have h2:=dp (p:=q) (c:=-1);unfold ib;omega
theorem dz{p q:List Rat}(h:∀ x,evV p x=evV q x):ln p=ln q:=by
 show (tz p).length=(tz q).length;rw [mP (fun n=>ev_inj h n)]
theorem j6{p q:List Rat}(h:ln q<ln p):ln (ib p q)=ln p:=by
  have h1:=iq p q
  obtain ⟨n, hn, h0⟩ := eT (p := p) (fun h0=>by have:ln p=0:=(by show (tz p).length=0;rw [h0];rfl);omega)
  have e:ln p=n+1:=hn;have h2:seq (ib p q) n≠0:=by rw [sE,A2 (p:=q) (by omega)];grind
  have h3:n<ln (ib p q):=mX h2;omega
theorem CQ{p:List Rat}{x:Rat}(h:evV p x≠0):tz p≠[]:=fun h0=>h (ev_tznil.1 h0 x)
structure Eu (a b c e u v u' v':List Rat) (k:Rat):Prop where
 hc:∀ x,evV c x=evV u x*evV a x+evV v x*evV b x
 he:∀ x,evV e x=evV u' x*evV a x+evV v' x*evV b x
 det:∀ x,evV u x*evV v' x-evV v x*evV u' x=k
 k0:k≠0
 lv:ln v'+ln c=ln a+1
 lu:ln u'+ln c≤ln b+1
 lv0:ln v≤ln v'
 lu0:ln u+ln e≤ln b+1
 le:ln e<ln c
 lc:ln c≤ln b
 la:ln c≤ln a
theorem yq{c e:List Rat}(he:tz e≠[])(hl:ln e≤ln c):ln (bB c e)+ln e=ln c+1:=by
 have h1:=iu c he;have h2:ln (bA c e)<ln e:=Nat.lt_of_le_of_lt (aj _) (cu c he).1;have hq:tz (bB c e)≠[]:=fun h0=>by
  have h3:ln c=ln (bA c e):=dz fun x=>by rw [h1 x,ev_tznil.1 h0 x];grind
  omega
 have h3:=mU hq he;have h4:ln c=ln (ib (aD (bB c e) e) ((bA c e).map (·*-1))):=dz fun x=>by rw [eV,bg,bQ,h1 x];grind
 have h5:=dp (p:=bA c e) (c:=-1);have h6:=gy hq;rw [j6 (by omega)] at h4;omega
theorem Eu.next{a b c e u v u' v' r:List Rat}{k:Rat}(E:Eu a b c e u v u' v' k)(h0:tz e≠[])(hr:Pr r (bA c e)):∃ u'' v'' k',Eu a b e r u' v' u'' v'' k':=by
 obtain ⟨c0,hc0,hr⟩:=nj hr;have hq:=yq h0 (Nat.le_of_lt E.le);have h1:=iu c h0;have hlr:ln r<ln e:=by
  have h2:ln (bA c e)<ln e:=Nat.lt_of_le_of_lt (aj _) (cu c h0).1;have h3:ln r=ln ((bA c e).map (·*c0)):=dz fun x=>by rw [hr x,bQ]
  have:=dp (p:=bA c e) (c:=c0);omega
 have hv':tz v'≠[]:=fun h=>by
  have h2:=E.lv;have h3:ln v'=0:=by show (tz v').length=0;rw [h];rfl
  have h4:=E.la;omega
 have hqn:tz (bB c e)≠[]:=fun h=>by
  have h3:ln (bB c e)=0:=by show (tz (bB c e)).length=0;rw [h];rfl
  have:=E.le;omega
 have hm:=mU hqn hv';have hle:=E.le;have hlv:=E.lv;have hlu:=E.lu;have hlv0:=E.lv0;have hlu0:=E.lu0;have hmu:=eS (bB c e) u';have s1:=iq u (aD (bB c e) u');have s2:ln (ib v (aD (bB c e) v'))=ln (aD (bB c e) v'):=by
  have e1:ln (ib v (aD (bB c e) v'))=ln (ib ((aD (bB c e) v').map (·*-1)) (v.map (·*-1))):=dz fun x=>by rw [eV,eV,bQ,bQ];grind
  have e2:ln ((aD (bB c e) v').map (·*-1))=ln (aD (bB c e) v'):=by
   have a1:=dp (p:=aD (bB c e) v') (c:=-1);have a2:=dp (p:=(aD (bB c e) v').map (·*-1)) (c:=-1);have a3:ln (aD (bB c e) v')=ln (((aD (bB c e) v').map (·*-1)).map (·*-1)):=dz fun x=>by rw [bQ,bQ];grind
   omega
  have e3:=dp (p:=v) (c:=-1);rw [e1,j6 (by omega),e2]
 have t1:=dp (p:=ib u (aD (bB c e) u')) (c:=c0);have t2:ln ((ib v (aD (bB c e) v')).map (·*c0))=ln (ib v (aD (bB c e) v')):=by
  have a1:=dp (p:=ib v (aD (bB c e) v')) (c:=c0);have a2:=dp (p:=(ib v (aD (bB c e) v')).map (·*c0)) (c:=c0⁻¹);have a3:ln (ib v (aD (bB c e) v'))=ln (((ib v (aD (bB c e) v')).map (·*c0)).map (·*c0⁻¹)):=dz fun x=>by
   rw [bQ,bQ,←Rat.mul_assoc,Rat.mul_comm c0⁻¹,Rat.mul_inv_cancel c0 hc0,Rat.one_mul]
  omega
 have hpe:=gy h0;refine ⟨(ib u (aD (bB c e) u')).map (·*c0),(ib v (aD (bB c e) v')).map (·*c0),-(c0*k),E.he,fun x=>?_,fun x=>?_,?_,by omega,by omega,by omega,by omega,hlr,by have:=E.lc;omega,by have:=E.la;omega⟩
 ·rw [bQ,bQ,eV,eV,bg,bg,hr x];have h2:=h1 x;rw [E.hc x,E.he x] at h2;have h3:evV (bA c e) x=(evV u x*evV a x+evV v x*evV b x)-evV (bB c e) x*(evV u' x*evV a x+evV v' x*evV b x):=by grind
  rw [h3];grind
 ·rw [bQ,bQ,eV,eV,bg,bg,←E.det x];grind
 ·intro h;have:c0*k=0:=by grind
  rcases Rat.mul_eq_zero.1 this with h|h
  ·exact hc0 h
  ·exact E.k0 h
inductive Es (a b:List Rat):List Rat→List Rat→Prop
 | start {c e:List Rat} (hc:Pr c a) (he:Pr e b):Es a b c e
 | next {c e r:List Rat} (h:Es a b c e) (h0:tz e≠[]) (hr:Pr r (bA c e)):Es a b e r
theorem Es.shift{a b r c e:List Rat}(hb:tz b≠[])(hr:Pr r (bA a b))(h:Es b r c e):Es a b c e:=by
 induction h with
 | start hc he =>
  refine Es.next (Es.start (Pr.refl a) hc) (fun h=>hb (hc.nil.1 h)) ?_;exact (he.trans hr).trans (jP (Pr.refl a) hc.symm (fun h=>hb (hc.nil.1 h)))
 | next h h0 hr ih=>exact Es.next ih h0 hr
theorem Es.eu{a b c e:List Rat}(hb:tz b≠[])(hl:ln b≤ln a)(h:Es a b c e):(Pr c a∧Pr e b)∨tz e=[]∨∃ u v u' v' k,Eu a b c e u v u' v' k:=by
 induction h with
 | start hc he=>exact Or.inl ⟨hc,he⟩
 | @next c e r h h0 hr ih =>
  rcases ih with ⟨hc,he⟩|h1|⟨u,v,u',v',k,E⟩
  ·right
   by_cases hrn:tz r=[]
   ·exact Or.inl hrn
   ·right
    have e1:ln c=ln a:=hc.len;have e2:ln e=ln b:=he.len;obtain ⟨c1,hc1,hc⟩:=nj hc;obtain ⟨c2,hc2,he⟩:=nj he;obtain ⟨c0,hc0,hr'⟩:=nj hr;have h1:=iu c h0;have hq:=yq (c:=c) h0 (by omega);have hrl:ln r<ln e:=by rw [show ln r=ln (bA c e) from hr.len];exact Nat.lt_of_le_of_lt (aj _) (cu c h0).1
    have one:∀ t:Rat,∀ x,evV [t] x=t:=fun t x=>by show 0*x+t=t;grind
    have lone:∀ t:Rat,t≠0→ln [t]=1:=fun t ht=>by
     have h2:=CQ (p:=[t]) (x:=0) (by rw [one];exact ht);have h3:=gy h2;have h4:ln [t]≤1:=aj [t];omega
    have lnil:ln []=0:=rfl;have hc0c1:c0*c1≠0:=fun h=>by rcases Rat.mul_eq_zero.1 h with h|h <;> contradiction
    have hcc:c0*c2≠0:=fun h=>by rcases Rat.mul_eq_zero.1 h with h|h <;> contradiction
    have lq:ln ((bB c e).map (·*-(c0*c2)))=ln (bB c e):=by
     have a1:=dp (p:=bB c e) (c:=-(c0*c2));have a2:=dp (p:=(bB c e).map (·*-(c0*c2))) (c:=(-(c0*c2))⁻¹);have a3:ln (bB c e)=ln (((bB c e).map (·*-(c0*c2))).map (·*(-(c0*c2))⁻¹)):=dz fun x=>by
      rw [bQ,bQ,←Rat.mul_assoc,Rat.mul_comm (-(c0*c2))⁻¹,Rat.mul_inv_cancel _ (by grind),Rat.one_mul]
     omega
    have hpe:=gy h0;refine ⟨[],[c2],[c0*c1],(bB c e).map (·*-(c0*c2)),-(c2*(c0*c1)),fun x=>?_,fun x=>?_,fun x=>?_,?_,?_,?_,?_,?_,hrl,by omega,by omega⟩
    ·rw [one,he x];show _=0*_+_;grind
    ·rw [hr' x,one,bQ];have h2:=h1 x;rw [hc x,he x] at h2;have h3:evV (bA c e) x=c1*evV a x-evV (bB c e) x*(c2*evV b x):=by grind
     rw [h3];grind
    ·rw [one,one];show 0*_-_=_;grind
    ·intro h;have:c2*(c0*c1)=0:=by grind
     rcases Rat.mul_eq_zero.1 this with h|h
     ·exact hc2 h
     ·exact hc0c1 h
    ·rw [lq];omega
    ·rw [lone _ hc0c1];omega
    ·rw [lone _ hc2,lq];omega
    ·rw [lnil];omega
  ·exact absurd h1 h0
  ·obtain ⟨u'',v'',k',E'⟩:=E.next h0 hr;exact Or.inr (Or.inr ⟨_,_,_,_,_,E'⟩)
end Go.Proofs.YtofhkmcllihgmaaGreat.Sg
/- The members of Euclid's sequence of two polynomials with whole coefficients are small: the bound. Plain facts. -/
set_option linter.unusedVariables false
namespace Go.Proofs.YtofhkmcllihgmaaGreat.Sg
open Go.RowKit Go.Front Go.Num Go.Stab Go.Proofs.YtofhkmcllihgmaaGreat Sie
theorem sC{n m:Nat}{f:Nat→Rat}(h:∀ i,n≤i→f i=0):sm n f=sm (n+m) f:=by
 rw [sm_split,sm_congr (n:=m) (g:=fun _=>0) (fun i _=>h (n+i) (by omega)),sm_zero,Rat.add_zero]
theorem qx{P:Nat}{f g:Nat→Rat}(hf:∀ i,P≤i→f i=0)(n:Nat):cv f g n=sm P (fun i=>if i≤n then f i*g (n-i) else 0):=by
 have h1:cv f g n=sm (n+1) (fun i=>if i≤n then f i*g (n-i) else 0):=sm_congr fun i hi=>by rw [if_pos (by omega)]
 rw [h1,sC (m:=P) (fun i hi=>if_neg (by omega)),Nat.add_comm (n+1) P,←sC (fun i hi=>by
  rw [hf i hi];split
  ·exact Rat.zero_mul _
  ·rfl)]
def syl(P:Nat)(a b:Nat→Int)(n i:Nat):Int:=if i<P then (if i≤n then a (n-i) else 0) else (if i-P≤n then b (n-(i-P)) else 0)
theorem zr{P Q:Nat}{a b:List Rat}{az bz x:Nat→Int}(ha:∀ i,seq a i=((az i:Int):Rat))(hb:∀ i,seq b i=((bz i:Int):Rat))(n:Nat) :
  seq (cG (aD ((List.range P).map fun i=>((x i:Int):Rat)) a) (aD ((List.range Q).map fun i=>((x (P+i):Int):Rat)) b)) n=((gS (P+Q) (fun i=>syl P az bz n i*x i):Int):Rat):=by
 rw [ff,dh,dh,fT,fT,mZ,sm_split]
 congr 1
 ·rw [qx (P:=P) (fun i hi=>by unfold seq;rw [ck,if_neg (by omega)])];refine sm_congr fun i hi=>?_
  unfold syl;rw [if_pos hi];by_cases h:i≤n
  ·rw [if_pos h,if_pos h,ha,Rat.intCast_mul,Rat.mul_comm];unfold seq;rw [ck,if_pos hi]
  ·rw [if_neg h,if_neg h,Int.zero_mul];rfl
 ·rw [qx (P:=Q) (fun i hi=>by unfold seq;rw [ck,if_neg (by omega)])];refine sm_congr fun i hi=>?_
  unfold syl;rw [if_neg (show ¬ P+i<P by omega),show P+i-P=i by omega];by_cases h:i≤n
  ·rw [if_pos h,if_pos h,hb,Rat.intCast_mul,Rat.mul_comm];unfold seq;rw [ck,if_pos hi]
  ·rw [if_neg h,if_neg h,Int.zero_mul];rfl
theorem gU{S:Nat}{a:List Rat}(ha:∀ x ∈ a,Wz S x)(i:Nat):seq a i=(((seq a i).num:Int):Rat)∧(seq a i).num.natAbs<W32 ^ S:=by
 have h:Wz S (seq a i):=by
  rcases Nat.lt_or_ge i a.length with h|h
  ·exact ha _ (eD h)
  ·rw [show seq a i=0 from bs h];exact Wz.zero S
 exact ⟨h.1.eq,h.2⟩
theorem vM{a b:List Rat}{S d P Q:Nat}(ha:∀ x ∈ a,Wz S x)(hb:∀ x ∈ b,Wz S x)(hP:P+d=ln b)(hQ:Q+d=ln a)(hPQ:1≤P+Q)(hN:2*(P+Q)≤W32) :
  ∃ U V W:List Rat,ln U≤P∧ln V≤Q∧ln W≤d∧(∀ x,evV W x=evV U x*evV a x+evV V x*evV b x)∧(tz U≠[]∨tz V≠[])∧(∀ i,Wz ((S+1)*(P+Q)) (seq U i))∧(∀ i,Wz ((S+1)*(P+Q)) (seq V i))∧∀ i,Wz ((S+1)*(P+Q)) (seq W i):=by
 obtain ⟨M,hM⟩:∃ M,P+Q=M+1:=⟨P+Q-1,by omega⟩;have hA1:1≤W32 ^ S:=Nat.pow_pos aA;obtain ⟨x,⟨i0,hi0,hx0⟩,hxb,hxe⟩:=Bm M (fun j i=>syl P (fun i=>(seq a i).num) (fun i=>(seq b i).num) (d+j) i) (W32 ^ S) (fun j i=>by
  unfold syl;split
  ·split
   ·exact Nat.le_of_lt (gU ha _).2
   ·exact Nat.zero_le _
  ·split
   ·exact Nat.le_of_lt (gU hb _).2
   ·exact Nat.zero_le _) hA1
 have hseq:=zr (P:=P) (Q:=Q) (a:=a) (b:=b) (x:=x) (fun i=>(gU ha i).1) (fun i=>(gU hb i).1);have hG:2*(M+1)*W32 ^ S≤W32 ^ (S+1):=by
  rw [Nat.pow_succ,Nat.mul_comm];exact Nat.mul_le_mul_left _ (by omega)
 have hGM:(2*(M+1)*W32 ^ S) ^ (M+1)≤W32 ^ ((S+1)*(P+Q)):=by
  rw [hM,Nat.pow_mul];exact Nat.pow_le_pow_left hG _
 have hG1:1≤2*(M+1)*W32 ^ S:=Nat.mul_pos (by omega) hA1;have hG2:1<2*(M+1)*W32 ^ S:=by
  have:2*(M+1)*1≤2*(M+1)*W32 ^ S:=Nat.mul_le_mul_left _ hA1;omega
 have hxw:∀ i,Wz ((S+1)*(P+Q)) ((x i:Int):Rat):=fun i=>Wz.int (Nat.lt_of_lt_of_le (Nat.lt_of_le_of_lt (hxb i) (Nat.pow_lt_pow_right hG2 (Nat.lt_succ_self M))) hGM)
 refine ⟨(List.range P).map fun i=>((x i:Int):Rat),(List.range Q).map fun i=>((x (P+i):Int):Rat),cG (aD ((List.range P).map fun i=>((x i:Int):Rat)) a) (aD ((List.range Q).map fun i=>((x (P+i):Int):Rat)) b),?_,?_,?_,fun y=>(by rw [iP,bg,bg]),?_,?_,?_,?_⟩
 ·exact Nat.le_trans (aj _) (by simp)
 ·exact Nat.le_trans (aj _) (by simp)
 ·refine Ad fun n hn=>?_
  by_cases h1:n<d+M
  ·obtain ⟨j,rfl⟩:∃ j,n=d+j:=⟨n-d,by omega⟩;rw [hseq,hM,hxe j (by omega)];rfl
  ·refine A2 (Nat.le_trans (mW _ _) ?_);have l1:=eS ((List.range P).map fun i=>((x i:Int):Rat)) a;have l2:=eS ((List.range Q).map fun i=>((x (P+i):Int):Rat)) b;have l3:ln ((List.range P).map fun i=>((x i:Int):Rat))≤P:=Nat.le_trans (aj _) (by simp);have l4:ln ((List.range Q).map fun i=>((x (P+i):Int):Rat))≤Q:=Nat.le_trans (aj _) (by simp);omega
 ·rcases Nat.lt_or_ge i0 P with h|h
  ·left
   refine List.length_pos_iff.1 (Nat.lt_of_le_of_lt (Nat.zero_le i0) (mX ?_));unfold seq;rw [ck,if_pos h];exact fun h=>hx0 (Rat.intCast_eq_zero_iff.1 h)
  ·right
   refine List.length_pos_iff.1 (Nat.lt_of_le_of_lt (Nat.zero_le (i0-P)) (mX ?_));unfold seq;rw [ck,if_pos (by omega),show P+(i0-P)=i0 by omega];exact fun h=>hx0 (Rat.intCast_eq_zero_iff.1 h)
 ·intro i;unfold seq;rw [ck];split
  ·exact hxw i
  ·exact Wz.zero _
 ·intro i;unfold seq;rw [ck];split
  ·exact hxw _
  ·exact Wz.zero _
 ·intro n;rw [hseq,hM];refine Wz.int (Nat.lt_of_lt_of_le (Nat.lt_of_le_of_lt (tG (C:=W32 ^ S*(2*(M+1)*W32 ^ S) ^ M) (fun i _=>?_)) ?_) (by rw [←hM];exact hGM))
  ·rw [Int.natAbs_mul];refine Nat.mul_le_mul ?_ (hxb i);unfold syl;split
   ·split
    ·exact Nat.le_of_lt (gU ha _).2
    ·exact Nat.zero_le _
   ·split
    ·exact Nat.le_of_lt (gU hb _).2
    ·exact Nat.zero_le _
  ·rw [Nat.pow_succ,←Nat.mul_assoc,Nat.mul_comm ((2*(M+1)*W32 ^ S) ^ M)];refine Nat.mul_lt_mul_of_pos_right ?_ (Nat.pow_pos hG1);have h2:0<(M+1)*W32 ^ S:=Nat.mul_pos (Nat.succ_pos _) hA1;rw [Nat.mul_assoc 2];omega
theorem sx{p q:List Rat}{c:Rat}(hc:c<0)(h:∀ n,seq p n=seq q n*c):aC p=aC (q.map (·*-1)) :=
 eh (c:=-c) (by grind) (fun n=>by rw [h,aU];grind)
theorem xy{a b c e u v u' v':List Rat}{k:Rat}{S:Nat}(E:Eu a b c e u v u' v' k)(he:tz e≠[])(ha:∀ x ∈ a,Wz S x)(hb:∀ x ∈ b,Wz S x)(hN:2*(ln a+ln b)≤W32):∀ x ∈ aC e,Wz ((S+1)*(ln a+ln b)) x:=by
 have hle:=E.le;have hlc:=E.lc;have hla:=E.la;have hlv:=E.lv;have hpe:=gy he;obtain ⟨d,hd⟩:∃ d,ln c=d+1:=⟨ln c-1,by omega⟩;obtain ⟨U,V,W,hU,hV,hW,hev,hne,-,-,hWz⟩:=vM (S:=S) (d:=d) (P:=ln b-d) (Q:=ln a-d) ha hb (by omega) (by omega) (by omega) (by omega);have c1:∀ x,evV u' x*evV V x=evV U x*evV v' x:=by
  by_cases hT:tz (ib (aD u' V) (aD U v'))=[]
  ·intro x;have:=ev_tznil.1 hT x;rw [eV,bg,bg] at this;grind
  ·exfalso;have hta:tz a≠[]:=fun h=>by
    have:ln a=0:=by show (tz a).length=0;rw [h];rfl
    omega
   have h1:=mU hta hT;have h2:=gy hT;have h3:ln (aD a (ib (aD u' V) (aD U v')))=ln (ib (aD e V) (aD W v')):=dz fun x=>by
    rw [bg,eV,eV,bg,bg,bg,bg,hev,E.he];grind
   have h4:=iq (aD e V) (aD W v');have h5:=eS e V;have h6:=eS W v';omega
 obtain ⟨m,hm⟩:∃ m,m=ib (aD u V) (aD v U):=⟨_,rfl⟩;have hmx:∀ x,evV m x=evV u x*evV V x-evV v x*evV U x:=fun x=>by rw [hm,eV,bg,bg]
 have kV:∀ x,k*evV V x=evV m x*evV v' x:=fun x=>by rw [←E.det x,hmx];have:=c1 x;grind
 have kU:∀ x,k*evV U x=evV m x*evV u' x:=fun x=>by rw [←E.det x,hmx];have:=c1 x;grind
 have kW:∀ x,k*evV W x=evV m x*evV e x:=fun x=>by
  have h1:=kV x;have h2:=kU x;rw [hev,E.he];grind
 have hk:=E.k0;have hmn:tz m≠[]:=fun h=>by
  have z:∀ {f:List Rat} {g:List Rat},(∀ x,k*evV f x=evV m x*evV g x)→tz f=[]:=fun {f g} h1=>ev_tznil.2 fun x=>by
   have h2:=h1 x;rw [ev_tznil.1 h x,Rat.zero_mul] at h2;rcases Rat.mul_eq_zero.1 h2 with h3|h3
   ·exact absurd h3 hk
   ·exact h3
  rcases hne with h1|h1
  ·exact h1 (z kU)
  ·exact h1 (z kV)
 have hv':tz v'≠[]:=fun h=>by
  have:ln v'=0:=by show (tz v').length=0;rw [h];rfl
  omega
 have h1:=mU hmn hv';have h2:ln (aD m v')=ln (V.map (·*k)):=dz fun x=>by rw [bg,bQ,kV]
 have h3:=dp (p:=V) (c:=k);have h4:=j7 (p:=m) (by show ln m≤1;omega);have h5:seq m 0≠0:=fun h=>hmn (ev_tznil.2 fun x=>by rw [h4 x,h])
 have h6:∀ n,seq e n=seq W n*(k / seq m 0):=fun n=>by
  have h7:=ev_inj (p:=W.map (·*k)) (q:=e.map (·*seq m 0)) (fun x=>by rw [bQ,bQ,kW,h4]) n;rw [aU,aU] at h7;have h8:=div_cancel (a:=k) h5;have h9:(seq e n-seq W n*(k / seq m 0))*seq m 0=0:=by grind
  rcases Rat.mul_eq_zero.1 h9 with h|h
  ·grind
  ·contradiction
 have hx:k / seq m 0≠0:=fun h=>by
  have h8:=div_cancel (a:=k) h5;rw [h,Rat.zero_mul] at h8;exact hk h8.symm
 have hl:(S+1)*(ln b-d+(ln a-d))≤(S+1)*(ln a+ln b):=Nat.mul_le_mul_left _ (by omega);have hall:∀ {l:List Rat},(∀ i,Wz ((S+1)*(ln b-d+(ln a-d))) (seq l i))→∀ x ∈ aC l,Wz ((S+1)*(ln a+ln b)) x:=fun {l} h x hx=>(fI (D:=1) (fun y hy=>by
  obtain ⟨i,hi,rfl⟩:=dR hy;rw [aW];exact Fr.one (h i)) (by decide) x hx).mono hl
 rcases tri (k / seq m 0) 0 with h|h|h
 ·rw [sx h h6];exact hall fun i=>by rw [aU,show seq W i*-1=-seq W i by grind];exact (hWz i).neg
 ·exact absurd h hx
 ·rw [eh h h6];exact hall hWz
theorem n9{a b:List Rat}{L:Nat}(h:Pr a b)(hb:∀ x ∈ b,Wz L x):∀ x ∈ aC a,Wz L x:=by
 obtain ⟨c,hc,h⟩:=h;have hall:∀ {l:List Rat},(∀ i,Wz L (seq l i))→∀ x ∈ aC l,Wz L x:=fun {l} h x hx=>fI (D:=1) (fun y hy=>by
  obtain ⟨i,hi,rfl⟩:=dR hy;rw [aW];exact Fr.one (h i)) (by decide) x hx
 have hw:∀ i,Wz L (seq b i):=fun i=>⟨by rw [(gU hb i).1];exact Wh.int _,(gU hb i).2⟩
 rcases tri c 0 with h0|h0|h0
 ·rw [sx (q:=b) h0 (fun n=>by rw [h n];grind)];exact hall fun i=>by rw [aU,show seq b i*-1=-seq b i by grind];exact (hw i).neg
 ·exact absurd h0 hc
 ·rw [eh (q:=b) h0 (fun n=>by rw [h n];grind)];exact hall hw
def Eg(L:Nat)(a b:List Rat):Prop:=∀ c e,Es a b c e→∀ x ∈ aC e,Wz L x
theorem yO{a b:List Rat}{S:Nat}(ha:∀ x ∈ a,Wz S x)(hb:∀ x ∈ b,Wz S x)(hbn:tz b≠[])(hl:ln b≤ln a)(hN:2*(ln a+ln b)≤W32):Eg ((S+1)*(ln a+ln b)) a b:=by
 intro c e h;have hp:=gy hbn;have hS:S≤(S+1)*(ln a+ln b):=by
  have:(S+1)*1≤(S+1)*(ln a+ln b):=Nat.mul_le_mul_left _ (by omega);omega
 rcases h.eu hbn hl with ⟨-,he⟩|he|⟨u,v,u',v',k,E⟩
 ·intro x hx;exact (n9 he hb x hx).mono hS
 ·rw [show aC e=[] from ct.2 he];intro x hx;simp at hx
 ·by_cases he:tz e=[]
  ·rw [show aC e=[] from ct.2 he];intro x hx;simp at hx
  ·exact xy E he ha hb hN
theorem Eg.next{L:Nat}{a b r:List Rat}(h:Eg L a b)(hb:tz b≠[])(hr:Pr r (bA a b)):Eg L b r:=fun c e hs=>h c e (hs.shift hb hr)
theorem Eg.snd{L:Nat}{a b:List Rat}(h:Eg L a b):∀ x ∈ aC b,Wz L x:=h a b (Es.start (Pr.refl a) (Pr.refl b))
end Go.Proofs.YtofhkmcllihgmaaGreat.Sg
/- Sizes in Euclid's algorithm: with a factor of 3 a round, or by the bound of all members. Plain facts. -/
set_option linter.unusedVariables false
namespace Go.Proofs.YtofhkmcllihgmaaGreat
open Go.RowKit Go.Front Go.Num Stab Sg
theorem mS{p:List Rat}{x:Rat}(h:x ∈ tz p):x ∈ p:=by
 rw [jA p] at h;exact List.mem_of_mem_take h
theorem sj(d:Nat)(hd:1≤d):2+d≤3 ^ d:=by
 induction d with
 | zero=>omega
 | succ d ih =>
  rcases Nat.eq_zero_or_pos d with h|h
  ·subst h;decide
  ·have:=ih h;rw [Nat.pow_succ];omega
theorem Al(la lb:Nat):(1+(la+1-lb))*3 ^ lb≤3 ^ max la (lb+1):=by
 rcases Nat.lt_or_ge lb la with h|h
 ·obtain ⟨d,rfl⟩:∃ d,la=lb+d:=⟨la-lb,by omega⟩;rw [show max (lb+d) (lb+1)=lb+d by omega,Nat.pow_add,Nat.mul_comm];exact Nat.mul_le_mul_left _ (by have:=sj d (by omega);omega)
 ·rw [show max la (lb+1)=lb+1 by omega,Nat.pow_succ,Nat.mul_comm];exact Nat.mul_le_mul_left _ (by omega)
theorem wY{X la lb lr L:Nat}(h:(X+1)*3 ^ max la (lb+1)≤L)(hr:lr+1≤lb):(X+(la+1-lb)*(X+1)+1)*3 ^ max lb (lr+1)≤L:=by
 have h1:X+(la+1-lb)*(X+1)+1=(X+1)*(1+(la+1-lb)):=by rw [Nat.mul_add (X+1) 1,Nat.mul_comm (X+1) (la+1-lb)];omega
 rw [h1,Nat.mul_assoc,show max lb (lr+1)=lb by omega];exact Nat.le_trans (Nat.mul_le_mul_left _ (Al la lb)) h
theorem sv(p:List Rat):aC (aC p)=aC p:=by
 by_cases h:tz p=[]
 ·rw [ct.2 h];rfl
 ·exact (eh (p:=p) (q:=aC p) (br h) (fun n=>by rw [d9 p n];grind)).symm
def Zk(K X:Nat)(a b:List Rat):Prop:=(X+1)*3 ^ max a.length (b.length+1)≤K∨(Eg X a b∧3*((X+1)*(max a.length b.length+3))≤K)
theorem Zk.small{K X:Nat}{a b:List Rat}(h:Zk K X a b):X+1≤K:=by
 rcases h with h|⟨-,h⟩
 ·have:X+1≤(X+1)*3 ^ max a.length (b.length+1):=Nat.le_mul_of_pos_right _ (Nat.pow_pos (by decide));omega
 ·have:(X+1)*1≤(X+1)*(max a.length b.length+3):=Nat.mul_le_mul_left _ (by omega);omega
theorem Zk.dsz{K X:Nat}{a b:List Rat}(h:Zk K X a b):X+(a.length+1)*(X+1)≤K:=by
 have h4:(X+1)*(a.length+2)≤K:=by
  rcases h with h|⟨-,h⟩
  ·have h2:a.length+2≤3 ^ max a.length (b.length+1):=by
    have h3:=sj (max a.length (b.length+1)) (by omega);omega
   exact Nat.le_trans (Nat.mul_le_mul_left _ h2) h
  ·have:(X+1)*(a.length+2)≤(X+1)*(max a.length b.length+3):=Nat.mul_le_mul_left _ (by omega);omega
 rw [show (a.length+1)*(X+1)=(X+1)*(a.length+1) from Nat.mul_comm _ _];rw [show a.length+2=(a.length+1)+1 from rfl,Nat.mul_succ] at h4;omega
theorem Zk.next{K X:Nat}{a b r:List Rat}(h:Zk K X a b)(hbt:tz b=b)(hb:b≠[])(hr:Pr r (bA a b))(hs:aC r=r)(hl:r.length<b.length)(hw:∀ x ∈ r,Wz (X+(a.length+1-b.length)*(X+1)) x):∃ X',X≤X'∧Zk K X' b r∧∀ x ∈ r,Wz X' x:=by
 rcases h with h|⟨hE,h⟩
 ·exact ⟨_,Nat.le_add_right _ _,Or.inl (wY h (by omega)),hw⟩
 ·have hE2:=hE.next (by rw [hbt];exact hb) hr;refine ⟨X,Nat.le_refl _,Or.inr ⟨hE2,?_⟩,by have:=hE2.snd;rwa [hs] at this⟩;have:(X+1)*(max b.length r.length+3)≤(X+1)*(max a.length b.length+3):=Nat.mul_le_mul_left _ (by omega);omega
def GZ(K S:Nat)(p q:List Rat):Prop:=∃ X,S≤X∧Zk K X (aC p) (aC q)
theorem BU{K S P Q:Nat}{p q:List Rat}(hp:p.length≤P)(hq:q.length≤Q)(h:(S+1)*3 ^ max P (Q+1)≤K):GZ K S p q:=by
 have h1:=aj p;have h2:=aj q;exact ⟨S,Nat.le_refl _,Or.inl (Nat.le_trans (Nat.mul_le_mul_left _ (Nat.pow_le_pow_right (by decide) (by rw [aP,aP];omega))) h)⟩
theorem Ax{a b:List Rat}{S:Nat}(ha:∀ x ∈ a,Wz S x)(hb:∀ x ∈ b,Wz S x)(hN:2*(ln a+ln b)≤W32):Eg ((S+1)*(ln a+ln b)) a b:=by
 by_cases hbn:tz b=[]
 ·intro c e h;cases h with
  | start hc he=>rw [show aC e=[] from ct.2 (he.nil.2 hbn)];intro x hx;simp at hx
  | @next c' e' r h h0 hr =>
   exfalso;have key:∀ c e,Es a b c e→tz e=[]:=by
    intro c e h;induction h with
    | start hc he=>exact he.nil.2 hbn
    | next h h0 hr ih=>exact absurd ih h0
   exact h0 (key _ _ h)
 ·rcases Nat.lt_or_ge (ln a) (ln b) with hl|hl
  ·-- the first remainder is a itself
   have hrem:Pr a (bA a b):=by
    have h1:=cu a hbn;have hq:tz (bB a b)=[]:=Classical.byContradiction fun hq=>by
     have h2:=mU hq hbn;have h3:ln (ib (aD (bB a b) b) ((bA a b).map (·*-1)))=ln a:=dz fun x=>by rw [eV,bg,bQ,iu a hbn x];grind
     have h4:ln (bA a b)<ln b:=Nat.lt_of_le_of_lt (aj _) h1.1;have h5:=dp (p:=bA a b) (c:=-1);have h6:=gy hq;rw [j6 (by omega)] at h3;omega
    refine ⟨1,by decide,fun n=>?_⟩;exact ev_inj (p:=a) (q:=(bA a b).map (·*1)) (fun x=>by rw [bQ,iu a hbn x,ev_tznil.1 hq x];grind) n |>.trans (by rw [aU];grind)
   have hS:S≤(S+1)*(ln a+ln b):=by
    have hp:=gy hbn;have:(S+1)*1≤(S+1)*(ln a+ln b):=Nat.mul_le_mul_left _ (by omega);omega
   by_cases han:tz a=[]
   ·intro c e h;have key:∀ c e,Es a b c e→(Pr c a∧Pr e b)∨tz e=[]:=by
     intro c e h;induction h with
     | start hc he=>exact Or.inl ⟨hc,he⟩
     | @next c e r h h0 hr ih =>
      rcases ih with ⟨hc,he⟩|h1
      ·exact Or.inr (hr.nil.2 ((jP hc he hbn).nil.2 (hrem.nil.1 han)))
      ·exact absurd h1 h0
    rcases key c e h with ⟨-,h1⟩|h1
    ·intro x hx;exact (n9 h1 hb x hx).mono hS
    ·rw [show aC e=[] from ct.2 h1];intro x hx;simp at hx
   ·have hE:=yO hb ha han (Nat.le_of_lt hl) (by omega);rw [Nat.add_comm (ln b)] at hE;intro c e h;have key:∀ c e,Es a b c e→(Pr c a∧Pr e b)∨Es b a c e:=by
     intro c e h;induction h with
     | start hc he=>exact Or.inl ⟨hc,he⟩
     | @next c e r h h0 hr ih =>
      right
      rcases ih with ⟨hc,he⟩|h1
      ·exact Es.start he (hr.trans ((jP hc he hbn).trans hrem.symm))
      ·exact Es.next h1 h0 hr
    rcases key c e h with ⟨-,h1⟩|h1
    ·intro x hx;exact (n9 h1 hb x hx).mono hS
    ·exact hE c e h1
  ·exact yO ha hb hbn hl hN
theorem BR{K S D E P Q:Nat}{p q:List Rat}(hD:0<D)(hE:0<E)(hp:FrL S D p)(hq:FrL S E q)(hpl:p.length≤P)(hql:q.length≤Q)(hN:2*(P+Q)≤4294967296)(h:3*(((S+1)*(P+Q)+S+1)*(P+Q+3))≤K):GZ K S p q:=by
 have h1:=aj p;have h2:=aj q;have wa:∀ x ∈ aC p,Wz S x:=fI (fun x hx=>hp x (mS hx)) hD;have wb:∀ x ∈ aC q,Wz S x:=fI (fun x hx=>hq x (mS hx)) hE;have la:ln (aC p)≤P:=by show (tz (aC p)).length≤P;rw [bL,aP];omega
 have lb:ln (aC q)≤Q:=by show (tz (aC q)).length≤Q;rw [bL,aP];omega
 have hE:=Ax wa wb (by show _≤4294967296;omega);refine ⟨(S+1)*(P+Q)+S,by omega,Or.inr ⟨fun c e hs x hx=>(hE c e hs x hx).mono ?_,?_⟩⟩
 ·have:(S+1)*(ln (aC p)+ln (aC q))≤(S+1)*(P+Q):=Nat.mul_le_mul_left _ (by omega);omega
 ·rw [aP,aP];have:((S+1)*(P+Q)+S+1)*(max (tz p).length (tz q).length+3)≤((S+1)*(P+Q)+S+1)*(P+Q+3):=Nat.mul_le_mul_left _ (by omega);omega
def GcI(K:Nat)(p q a b:List Rat)(X:Nat):Prop:=tz a=a∧tz b=b∧(∀ x ∈ a,Wz X x)∧(∀ x ∈ b,Wz X x)∧1≤X∧Zk K X a b∧nd b.length (bu a) (bu b)=dL p q∧a.length≤100000∧b.length≤100000
theorem GcI.small{K:Nat}{p q a b:List Rat}{X:Nat}(h:GcI K p q a b X):X+1≤K:=h.2.2.2.2.2.1.small
theorem GcI.dsz{K:Nat}{p q a b:List Rat}{X:Nat}(h:GcI K p q a b X):X+(a.length+1)*(X+1)≤K:=h.2.2.2.2.2.1.dsz
theorem GcI.next{K:Nat}{p q a b s r:List Rat}{f:Rat}{X:Nat}(h:GcI K p q a b X)(hb:b≠[])(hd:DvP a b X X s r f):∃ X',GcI K p q b (aC r) X':=by
 obtain ⟨h1,h2,h3,h4,h5,h6,h7,h8,h9⟩:=h;obtain ⟨d0,d1,d2,d3,d4,d5,d6,d7⟩:=hd;have hl:(aC r).length=r.length:=by rw [aP,d4]
 have hbt:tz b≠[]:=by rw [h2];exact hb
 have hpr:Pr (aC r) (bA a b):=(ie r).trans (lG hbt d0 (Bd.seq s) (by rw [h2];exact d5) d7);obtain ⟨X',g1,g2,g3⟩:=h6.next h2 hb hpr (sv r) (by omega) (fI (D:=1) (fun x hx=>by
  have hw:=d3 x (by rw [d4] at hx;exact hx);exact Fr.one hw) (by decide))
 exact ⟨X',h2,bL r,fun x hx=>(h4 x hx).mono g1,g3,by omega,g2,by rw [←tX h2 hb d0 d5 d7,h7],h9,by omega⟩
theorem GcI.start{K S D E:Nat}{p q:List Rat}(hS:1≤S)(hD:0<D)(hE:0<E)(hp:FrL S D p)(hq:FrL S E q)(hg:GZ K S p q)(hpl:p.length≤100000)(hql:q.length≤100000):∃ X,GcI K p q (aC p) (aC q) X:=by
 obtain ⟨X,h1,h2⟩:=hg;have e1:=aj p;have e2:=aj q;exact ⟨X,bL p,bL q,fun x hx=>(fI (fun x hx=>hp x (mS hx)) hD x hx).mono h1,fun x hx=>(fI (fun x hx=>hq x (mS hx)) hE x hx).mono h1,by omega,h2,tZ p q,by rw [aP];omega,by rw [aP];omega⟩
def GcR(K:Nat)(g:List Rat):Prop:=∃ X D,FrL X D g∧1≤X∧0<D∧D<W32 ^ X∧((X+1)*3 ^ max g.length 1≤K∨3*((X+1)*(g.length+3))≤K)
theorem GcR.small{K:Nat}{g:List Rat}{X:Nat}(h:(X+1)*3 ^ max g.length 1≤K∨3*((X+1)*(g.length+3))≤K):X+1≤K / 3:=by
 rcases h with h|h
 ·have h1:(X+1)*3≤(X+1)*3 ^ max g.length 1:=Nat.mul_le_mul_left _ (by
   have:=Nat.pow_le_pow_right (n:=3) (by decide) (show 1≤max g.length 1 by omega);omega)
  omega
 ·have h1:(X+1)*1≤(X+1)*(g.length+3):=Nat.mul_le_mul_left _ (by omega);omega
theorem GcI.done{K:Nat}{p q a b:List Rat}{X:Nat}(h:GcI K p q a b X)(hb:b=[]):GcR K (dL p q):=by
 obtain ⟨h1,h2,h3,h4,h5,h6,h7,h8,h9⟩:=h;subst hb;have e:dL p q=bu a:=h7.symm;have hf:FrL X 1 a:=fun x hx=>Fr.one (h3 x hx)
 rw [e];have hsz:∀ n,n≤a.length→(X+1)*3 ^ max n 1≤K∨3*((X+1)*(n+3))≤K:=fun n hn=>by
  rcases h6 with h6|⟨-,h6⟩
  ·exact Or.inl (Nat.le_trans (Nat.mul_le_mul_left _ (Nat.pow_le_pow_right (by decide) (by simp only [List.length_nil];omega))) h6)
  ·right
   have:(X+1)*(n+3)≤(X+1)*(max a.length ([]:List Rat).length+3):=Nat.mul_le_mul_left _ (by omega);omega
 by_cases ha:tz a=[]
 ·have:bu a=[]:=by unfold bu;rw [if_pos ha]
  rw [this];exact ⟨X,1,fun x hx=>by simp at hx,h5,by decide,Nat.one_lt_pow (by omega) (by decide),hsz _ (by simp)⟩
 ·exact ⟨X,ldD (tz a) 1,tj hf,h5,lU hf.tz (bY ha) (by decide),qe hf.tz,hsz _ (by rw [cH,h1];exact Nat.le_refl _)⟩
def RmI(K:Nat)(a b:List Rat)(X:Nat):Prop:=tz a=a∧tz b=b∧(∀ x ∈ a,Wz X x)∧(∀ x ∈ b,Wz X x)∧1≤X∧Zk K X a b∧(a=[]∨b.length<a.length)∧a.length≤100000∧b.length≤100000
theorem RmI.small{K:Nat}{a b:List Rat}{X:Nat}(h:RmI K a b X):X+1≤K:=h.2.2.2.2.2.1.small
theorem RmI.dsz{K:Nat}{a b:List Rat}{X:Nat}(h:RmI K a b X):X+(a.length+1)*(X+1)≤K:=h.2.2.2.2.2.1.dsz
theorem RmI.next{K:Nat}{a b s r:List Rat}{f:Rat}{X:Nat}(h:RmI K a b X)(hb:b≠[])(hf:0<f)(hd:DvP a b X X s r f):aC (r.map (·*-1))=aC ((bA a b).map (·*-1))∧∃ X',RmI K b (aC (r.map (·*-1))) X':=by
 obtain ⟨h1,h2,h3,h4,h5,h6,h7,h8,h9⟩:=h;obtain ⟨d0,d1,d2,d3,d4,d5,d6,d7⟩:=hd;have hm:tz (r.map (·*-1))=r.map (·*-1):=by rw [fG (by decide),d4]
 have hl:(aC (r.map (·*-1))).length=r.length:=by rw [aP,hm,List.length_map]
 have hbt:tz b≠[]:=by rw [h2];exact hb
 have hpr:Pr (aC (r.map (·*-1))) (bA a b):=((ie _).trans ⟨-1,by decide,fun n=>by rw [aU];grind⟩).trans (lG hbt d0 (Bd.seq s) (by rw [h2];exact d5) d7);obtain ⟨X',g1,g2,g3⟩:=h6.next h2 hb hpr (sv _) (by omega) (fI (D:=1) (fun x hx=>by
  rw [hm] at hx;obtain ⟨y,hy,rfl⟩:=List.mem_map.1 hx;have hw:=(d3 y hy).neg;rw [show y*-1=-y by grind];exact Fr.one hw) (by decide))
 exact ⟨kQ (by rw [h2];exact hb) hf (by rw [h2];exact d5) d7,X',h2,bL _,fun x hx=>(h4 x hx).mono g1,g3,by omega,g2,Or.inr (by omega),h9,by omega⟩
def KZ(K S n:Nat):Prop:=(S+2)*3 ^ n≤K∨3*(((S+2)*(2*n)+S+2)*(2*n+3))≤K
theorem KZ.small{K S n:Nat}(h:KZ K S n):S+2≤K:=by
 rcases h with h|h
 ·exact Nat.le_trans (Nat.le_mul_of_pos_right _ (Nat.pow_pos (by decide))) h
 ·have:((S+2)*(2*n)+S+2)*1≤((S+2)*(2*n)+S+2)*(2*n+3):=Nat.mul_le_mul_left _ (by omega);omega
theorem KZ.small3{K S n:Nat}(hn:1≤n)(h:KZ K S n):S+2≤K / 3:=by
 rcases h with h|h
 ·have h1:(S+2)*3≤(S+2)*3 ^ n:=Nat.mul_le_mul_left _ (by
   have:=Nat.pow_le_pow_right (n:=3) (by decide) hn;omega)
  omega
 ·have:((S+2)*(2*n)+S+2)*1≤((S+2)*(2*n)+S+2)*(2*n+3):=Nat.mul_le_mul_left _ (by omega);omega
end Go.Proofs.YtofhkmcllihgmaaGreat
/- Py6, Py7, Py8 -/
set_option linter.unusedVariables false
namespace Go.Proofs.YtofhkmcllihgmaaGreat
open Go.RowKit Go.Front Go.Num Stab
attribute [local go_sem] XW.cell XW.frozen
abbrev QT(x:SH×SH):Value:=.tuple #[x.1.v,x.2.v,.int .i64 0]
end Go.Proofs.YtofhkmcllihgmaaGreat
