import Derived.Test.YtafgmcimcbhhjaaGreatQJK13
set_option linter.unusedVariables false
set_option maxHeartbeats 8000000
set_option maxRecDepth 8000
namespace Go.Proofs.YtafgmcimcbhhjaaGreat.Sg
open Go.RowKit Go.Front Go.Num Go.Stab Go.Proofs.YtafgmcimcbhhjaaGreat
def md6(a b:Rat):Rat:=(a+b)*(((1:Int):Rat) / ((2:Int):Rat))
theorem Cf:(((1:Int):Rat) / ((2:Int):Rat))*2=1:=by decide +kernel
theorem nZ{a b:Rat}(h:a≤b):a≤md6 a b∧md6 a b≤b∧(md6 a b-a)*2=b-a∧(b-md6 a b)*2=b-a:=by
 have:=Cf;unfold md6;generalize ((1:Int):Rat) / ((2:Int):Rat)=c at *
 have e:(a+b)*c*2=a+b:=by grind
 exact ⟨by grind,by grind,by grind,by grind⟩
def v6(q:List Rat)(x:Rat):Nat:=cw (lz q) x
theorem jt{q:List Rat}(hq:tz q≠[])(hc:Cp (evV q) (evD q)){lo hi:Rat}(h:lo≤hi):v6 q hi≤v6 q lo:=by
 obtain ⟨l,e,hfit⟩:=C1 hq hc;unfold v6;rw [eD,eD,nw e,nw e];rcases Rat.le_iff_lt_or_eq.1 h with h1|h1
 ·exact (hfit lo hi).mono lo hi Rat.le_refl h1 Rat.le_refl
 ·rw [h1];exact nXe _
theorem C5(q:List Rat)(x:Rat):v6 q x≤(lz q).length:=gW _ _
def Dy(D R e:Nat)(x:Rat):Prop:=∃ z:Int,x*((D*2 ^ e:Nat):Rat)=(z:Rat)∧z.natAbs≤R*(D*2 ^ e)
theorem yV(D e:Nat):((D*2 ^ (e+1):Nat):Rat)=2*((D*2 ^ e:Nat):Rat):=by
 have:D*2 ^ (e+1)=2*(D*2 ^ e):=by rw [nXt,←Nat.mul_assoc,nYe]
 rw [this,Rat.natCast_mul];rfl
theorem Dy.up{D R e:Nat}{x:Rat}(h:Dy D R e x):Dy D R (e+1) x:=by
 obtain ⟨z,h1,h2⟩:=h;refine ⟨z*2,?_,?_⟩
 ·rw [yV,Rat.intCast_mul,←h1];show _=_*(2:Rat);grind
 ·rw [Int.natAbs_mul,nXt,←Nat.mul_assoc,←Nat.mul_assoc];rw [←Nat.mul_assoc] at h2;exact nXh 2 h2
theorem Dy.mid{D R e:Nat}{a b:Rat}(h:Dy D R e a)(k:Dy D R e b):Dy D R (e+1) (md6 a b):=by
 obtain ⟨z,h1,h2⟩:=h;obtain ⟨y,k1,k2⟩:=k;refine ⟨z+y,?_,?_⟩
 ·rw [yV,Rat.intCast_add,←h1,←k1];have hh:=Cf;unfold md6;generalize ((1:Int):Rat) / ((2:Int):Rat)=c at *
  grind
 ·have:=Int.natAbs_add_le z y;have e2:R*(D*2 ^ (e+1))=R*(D*2 ^ e)*2:=by rw [nXt,←Nat.mul_assoc,←Nat.mul_assoc,←Nat.mul_assoc]
  omega
theorem BK(m:Nat):2 ^ (32*m)=W32 ^ m:=by rw [Nat.pow_mul];rfl
theorem Dy.sz{D T m e:Nat}{x:Rat}(h:Dy D (W32 ^ T) e x)(hD:0<D)(hD2:D≤W32 ^ (2*T))(he:e≤32*m):Sz (3*T+m+1) x:=by
 obtain ⟨z,h1,h2⟩:=h;have h3:2 ^ e≤W32 ^ m:=by rw [←BK];exact nXp dZ he
 have h4:D*2 ^ e≤W32 ^ (2*T+m):=by rw [Nat.pow_add];exact nXx hD2 h3
 have h5:W32 ^ T*(D*2 ^ e)≤W32 ^ (3*T+m):=by rw [show 3*T+m=T+(2*T+m) by omega,Nat.pow_add];exact nXg _ h4
 have h6:W32 ^ (3*T+m)<W32 ^ (3*T+m+1):=Nat.pow_lt_pow_right dZ zo;have h7:W32 ^ (2*T+m)≤W32 ^ (3*T+m):=nXp ay zo;exact (Fr.int (S:=3*T+m+1) (D:=D*2 ^ e) (z:=z) zo h1).sz zo (Nat.mul_pos hD (Nat.two_pow_pos e)) zo
theorem Dy.bd{D R e:Nat}{x:Rat}(h:Dy D R e x)(hD:0<D):-((R:Nat):Rat)≤x∧x≤((R:Nat):Rat):=by
 obtain ⟨z,h1,h2⟩:=h;have hp:(0:Rat)<((D*2 ^ e:Nat):Rat):=by exact_mod_cast Nat.mul_pos hD (Nat.two_pow_pos e)
 have h3:z≤((R*(D*2 ^ e):Nat):Int):=zo;have h4:-((R*(D*2 ^ e):Nat):Int)≤z:=zo;have k3:=Rat.intCast_le_intCast.2 h3;have k4:=Rat.intCast_le_intCast.2 h4;rw [Rat.intCast_neg,Rat.intCast_natCast,Rat.natCast_mul,←h1] at k4;rw [Rat.intCast_natCast,Rat.natCast_mul,←h1] at k3;generalize ((D*2 ^ e:Nat):Rat)=P at *
 constructor
 ·refine Classical.byContradiction fun hn=>?_
  have:=eS (show x < -(R:Rat) by grind) hp;grind
 ·refine Classical.byContradiction fun hn=>?_
  have:=eS (show (R:Rat)<x by grind) hp;grind
theorem nc{T D:Nat}{x:Rat}(h:Sz T x)(hD:x.den ∣ D):Dy D (W32 ^ T) 0 x:=by
 obtain ⟨k,rfl⟩:=hD;refine ⟨x.num*(k:Int),?_,?_⟩
 ·rw [Nat.pow_zero,Nat.mul_one,Rat.natCast_mul,←nYd,low x,Rat.intCast_mul,Rat.intCast_natCast]
 ·rw [Int.natAbs_mul,nYh,Nat.pow_zero,Nat.mul_one];have h1:=h.1;have h2:k≤x.den*k:=Nat.le_mul_of_pos_left _ x.den_pos;exact nXx (nYl h1) h2
structure Sp6 (q:List Rat) (wd:Rat) (D T m Y:Nat):Prop where
 ne:tz q≠[]
 cp:Cp (evV q) (evD q)
 dp:0<D
 dl:D≤W32 ^ (2*T)
 sep:∀ lo hi:Rat,-((W32 ^ T:Nat):Rat)≤lo→lo<hi→hi≤((W32 ^ T:Nat):Rat)→(hi-lo)*((W32 ^ Y:Nat):Rat)≤1→v6 q lo≤v6 q hi+1∧(evV q lo=0→v6 q lo=v6 q hi)
 wd:1≤wd*((W32 ^ Y:Nat):Rat)
theorem Sp6.base{q:List Rat}{wd lo hi:Rat}{D T m Y e:Nat}(h:Sp6 q wd D T m Y)(h1:Dy D (W32 ^ T) e lo)(h2:Dy D (W32 ^ T) e hi)(hlh:lo≤hi)(hd:(hi-lo)*((W32 ^ Y:Nat):Rat)≤1):v6 q lo=v6 q hi∨(v6 q lo=v6 q hi+1∧hi-lo≤wd∧evV q lo≠0):=by
 rcases Rat.le_iff_lt_or_eq.1 hlh with h3|h3
 ·obtain ⟨k1,k2⟩:=h.sep lo hi (h1.bd h.dp).1 h3 (h2.bd h.dp).2 hd;have k3:=jt h.ne h.cp hlh;by_cases h4:v6 q lo=v6 q hi
  ·exact Or.inl h4
  ·refine Or.inr ⟨zo,?_,fun h0=>h4 (k2 h0)⟩;have hY:(0:Rat)<((W32 ^ Y:Nat):Rat):=by exact_mod_cast nYm ay
   have h5:=h.wd;refine Classical.byContradiction fun hn=>?_
   have:=eS (show wd<hi-lo by grind) hY;grind
 ·exact Or.inl (by rw [h3])
theorem Sp6.half{lo hi:Rat}{Y d:Nat}(hlh:lo≤hi)(hd:(hi-lo)*((W32 ^ Y:Nat):Rat)≤((2 ^ (d+1):Nat):Rat)):(md6 lo hi-lo)*((W32 ^ Y:Nat):Rat)≤((2 ^ d:Nat):Rat)∧(hi-md6 lo hi)*((W32 ^ Y:Nat):Rat)≤((2 ^ d:Nat):Rat):=by
 obtain ⟨-,-,h1,h2⟩:=nZ hlh;rw [nXt,Rat.natCast_mul] at hd;have e:((2:Nat):Rat)=2:=rfl;rw [e] at hd;generalize ((W32 ^ Y:Nat):Rat)=W at *
 generalize ((2 ^ d:Nat):Rat)=P at *
 have k1:(md6 lo hi-lo)*W*2=(hi-lo)*W:=by rw [←h1];grind
 have k2:(hi-md6 lo hi)*W*2=(hi-lo)*W:=by rw [←h2];grind
 exact ⟨by grind,by grind⟩
theorem BF{q:List Rat}(h0:tz q≠[]){a:Rat}{n:Nat}(hn:(tz q).length≤n):eP n q a≠0:=by
 obtain ⟨k,g,hg,hga,he⟩:=BV a _ q (nXe _) h0;have hk:=mO k q g hg h0 he;rw [kC k n q g zo hg hga he];exact o3 hga
theorem tk{n:Nat}{q:List Rat}{a:Rat}(h:evV q a≠0):eP (n+1) q a=sg (evV q a):=by
 have hq:q≠[]:=fun k=>h (by rw [k];rfl)
 show (if q=[] then 0 else if sg (evV q a)≠0 then sg (evV q a) else eP n (tz (derL q)) a)=_;rw [if_neg hq,if_pos (o3 h)]
theorem C6{q:List Rat}{l:List (List Rat)}(e:remsV q=ar q :: l)(x:Rat):v6 q x=V (evV (ar q)) (l.map evV) x:=by
 unfold v6;rw [eD,nw e]
theorem nC{q:List Rat}(hq:tz q≠[])(hc:Cp (evV q) (evD q)){s t:Rat}(hv:v6 q s=v6 q t):jm (fun x=>s<x∧x≤t) (evV q):=by
 obtain ⟨l,e,hfit⟩:=C1 hq hc;rw [C6 e,C6 e] at hv;exact sT hq fun a b ha hb hab=>rQ (hfit s t) hv ha.1 hab hb.2
theorem nK{q:List Rat}(hq:tz q≠[]){l s:Rat}(hls:l<s){n:Nat}(hn:(tz q).length≤n)(hst:jm (fun x=>l<x∧x≤s) (evV q)):sg (evV q s)=eP n q l:=by
 have h0:=BF hq (a:=l) hn;rcases tp n q l with h|h|h
 ·obtain ⟨u,u1,u2,u3⟩:=BE hq hn (a:=l) (by rw [h];decide) hls;have:=(hst u s ⟨u1,by grind⟩ ⟨hls,Rat.le_refl⟩ u2).2.2;rw [cZ u3] at this;rw [h,←this]
 ·exact absurd h h0
 ·obtain ⟨u,u1,u2,u3⟩:=zH hq hn (a:=l) (by rw [h];decide) hls;have:=(hst u s ⟨u1,by grind⟩ ⟨hls,Rat.le_refl⟩ u2).2.2;rw [fD u3] at this;rw [h,←this]
theorem wO{q:List Rat}(hq:tz q≠[])(hc:Cp (evV q) (evD q)){l m:Rat}(hlm:l<m){n:Nat}(hn:(tz q).length≤n)(hV:v6 q l=v6 q m+1)(hm:evV q m≠0):sg (evV q m)≠eP (n+1) q l:=by
 intro hbf;obtain ⟨ll,e,hfit⟩:=C1 hq hc;have hs:∀ x,sg (evV (ar q) x)=sg (evV q x):=Bu hq;have hz:∀ x,evV (ar q) x=0↔evV q x=0:=fun x=>by rw [←cL,hs,cL]
 have hvv:∀ x,v6 q x=V (evV (ar q)) (ll.map evV) x:=C6 e;have hmono:∀ a b,l≤a→a≤b→b≤m→v6 q b≤v6 q a:=fun a b _ h _=>jt hq hc h
 obtain ⟨s,t,s1,s2,s3,s4,s5⟩:∃ s t,l≤s∧s<t∧t≤m∧evV (ar q) s≠0∧sg (evV (ar q) t)≠sg (evV (ar q) s):=by
  apply Classical.byContradiction;intro hno;have:=(hfit l m).calm Rat.le_refl hlm Rat.le_refl (fun s t a b c d=>Classical.byContradiction fun h=>hno ⟨s,t,a,b,c,d,h⟩);rw [←hvv,←hvv] at this;omega
 have d1:=hmono l s Rat.le_refl s1 (by grind);have d2:=hmono s t s1 (Rat.le_of_lt s2) s3;have d3:=hmono t m (by grind) s3 Rat.le_refl;have dst:v6 q s≠v6 q t:=fun h=>by
  rw [hvv,hvv] at h;exact s5 (((hfit s t).same h s t Rat.le_refl s2 Rat.le_refl).1 s4)
 have es:sg (evV (ar q) s)=eP (n+1) q l:=by
  rw [hs];by_cases h:s=l
  ·rw [h,tk (fun k=>s4 ((hz s).2 (by rw [h];exact k)))]
  ·exact nK hq (by grind) zo (nC hq hc zo)
 have fwd:∀ b,t≤b→b≤m→evV (ar q) b≠0→sg (evV (ar q) m)=sg (evV (ar q) b):=fun b h1 h2 h3=>by
  by_cases h:b=m
  ·rw [h]
  ·have k1:=hmono t b (by grind) h1 h2;have k2:=hmono b m (by grind) h2 Rat.le_refl;have k3:v6 q b=v6 q m:=by omega
   rw [hvv,hvv] at k3;exact ((hfit b m).same k3 b m Rat.le_refl (by grind) Rat.le_refl).1 h3
 have hbm:sg (evV (ar q) m)=sg (evV (ar q) s):=by rw [hs,hbf,es]
 by_cases ht:evV (ar q) t=0
 ·have htm:t<m:=by
   by_cases h:t=m
   ·exact absurd ((hz m).1 (by rw [←h];exact ht)) hm
   ·grind
  obtain ⟨e1,he,hcell⟩:=(hfit l m).cell;obtain ⟨c,hc0,c1,c2⟩:=ib (show 0<e1 / 2 by have:=aw (a:=e1) (b:=2) dZ;grind) (show 0<m-t by grind);obtain ⟨c',hc0',c1',c2'⟩:=ib (show 0<e1 / 2 by have:=aw (a:=e1) (b:=2) dZ;grind) (show 0<t-s by grind);have hh:=aw (a:=e1) (b:=2) dZ;obtain ⟨a,ha⟩:∃ a,a=t-c':=⟨_,rfl⟩;obtain ⟨b,hb⟩:∃ b,b=t+c:=⟨_,rfl⟩;obtain ⟨k1,k2⟩:=hcell a t (by grind) (by grind) (by grind) (by grind);obtain ⟨k3,k4⟩:=hcell t b (by grind) (by grind) (by grind) (by grind);obtain ⟨k5,-⟩:=hcell a b (by grind) (by grind) (by grind) (by grind);have fa:evV (ar q) a≠0:=fun h=>k2 h ht
  have e1:iA (evV (ar q)) a t=1:=by
   unfold iA;rw [if_pos ⟨o3 fa,by rw [cL.2 ht];exact fun h=>o3 fa h.symm⟩]
  have e2:iA (evV (ar q)) t b=0:=by
   unfold iA;rw [if_neg (fun h=>h.1 (cL.2 ht))]
  have e3:iA (evV (ar q)) a b=1:=by omega
  unfold iA at e3;by_cases h7:sg (evV (ar q) a)≠0∧sg (evV (ar q) b)≠sg (evV (ar q) a)
  ·have fb:=k4 ht;have m1:=fwd b (by grind) (by grind) fb;have m2:sg (evV (ar q) a)=sg (evV (ar q) s):=by
    by_cases h:a=s
    ·rw [h]
    ·have g1:=hmono s a s1 (by grind) (by grind);rw [←hvv,←hvv] at k1;have g3:v6 q s=v6 q a:=by omega
     rw [hvv,hvv] at g3;exact ((hfit s a).same g3 s a Rat.le_refl (by grind) Rat.le_refl).1 s4
   exact h7.2 (by rw [←m1,hbm,m2])
  ·rw [if_neg h7] at e3;exact absurd e3 dZ
 ·exact s5 (by rw [←fwd t Rat.le_refl s3 ht,hbm])
def opc(q:List Rat)(lo hi:Rat):Int:=(v6 q lo:Int)-v6 q hi-(if evV q hi=0 then 1 else 0)
def clc(q:List Rat)(lo hi:Rat):Int:=(v6 q lo:Int)-v6 q hi+(if evV q lo=0 then 1 else 0)
def sgS(q:List Rat)(wd:Rat)(bf:Int):Nat→Rat→Rat→Bool→Bool→Rat×Rat
 | 0,l,h,_,_=>(l,h)
 | d+1,l,h,lr,hr=>if lr=false∧hr=false∧h-l≤wd then (l,h) else if sg (evV q (md6 l h))=0 then (md6 l h,md6 l h) else if sg (evV q (md6 l h))=bf then sgS q wd bf d (md6 l h) h false hr else sgS q wd bf d l (md6 l h) lr false
structure IsI (q:List Rat) (wd lo hi:Rat) (x:Rat×Rat):Prop where
 lo:lo≤x.1
 le:x.1≤x.2
 hi:x.2≤hi
 wd:x.2-x.1≤wd
 one:clc q x.1 x.2=1
theorem IsI.mono{q:List Rat}{wd lo hi lo' hi':Rat}{x:Rat×Rat}(h:IsI q wd lo hi x)(h1:lo'≤lo)(h2:hi≤hi'):IsI q wd lo' hi' x:=⟨by have:=h.lo;grind,h.le,by have:=h.hi;grind,h.wd,h.one⟩
theorem Sp6.wd0{q:List Rat}{wd:Rat}{D T m Y:Nat}(H:Sp6 q wd D T m Y):0≤wd:=by
 apply Classical.byContradiction;intro hn;have hY:(0:Rat)<((W32 ^ Y:Nat):Rat):=by exact_mod_cast nYm ay
 have:=eS (show wd<0 by grind) hY;have:=H.wd;grind
structure SgI (q:List Rat) (wd:Rat) (D T Y d e:Nat) (l h:Rat) (lr hr:Bool) (bf:Int):Prop where
 lt:l<h
 dl:Dy D (W32 ^ T) e l
 dh:Dy D (W32 ^ T) e h
 wd:(h-l)*((W32 ^ Y:Nat):Rat)≤((2 ^ d:Nat):Rat)
 one:opc q l h=1
 bf:bf=eP (q.length+1) q l
 lr:lr=true↔evV q l=0
 hr:hr=true↔evV q h=0
theorem SgI.done{q:List Rat}{wd:Rat}{D T Y d e:Nat}{l h:Rat}{lr hr:Bool}{bf:Int}(I:SgI q wd D T Y d e l h lr hr bf)(c:lr=false∧hr=false∧h-l≤wd):IsI q wd l h (l,h):=by
 obtain ⟨c2,c3,c4⟩:=c;have hl:evV q l≠0:=fun k=>by rw [I.lr.2 k] at c2;exact Bool.noConfusion c2
 have hh:evV q h≠0:=fun k=>by rw [I.hr.2 k] at c3;exact Bool.noConfusion c3
 have h5:=I.one;refine ⟨Rat.le_refl,Rat.le_of_lt I.lt,Rat.le_refl,c4,?_⟩;unfold opc at h5;unfold clc;rw [if_neg hh] at h5;rw [if_neg hl];dsimp only;omega
theorem SgI.base{q:List Rat}{wd:Rat}{D T m Y e:Nat}{l h:Rat}{lr hr:Bool}{bf:Int}(H:Sp6 q wd D T m Y)(I:SgI q wd D T Y 0 e l h lr hr bf):lr=false∧hr=false∧h-l≤wd:=by
 have h4':(h-l)*((W32 ^ Y:Nat):Rat)≤1:=I.wd;obtain ⟨k1,k2⟩:=H.sep l h (I.dl.bd H.dp).1 I.lt (I.dh.bd H.dp).2 h4';have h5:=I.one;unfold opc at h5;by_cases hz:evV q h=0
 ·rw [if_pos hz] at h5;omega
 ·rw [if_neg hz] at h5;have hl:evV q l≠0:=fun k=>by have:=k2 k;omega
  refine ⟨by cases lr;rfl;exact absurd (I.lr.1 rfl) hl,by cases hr;rfl;exact absurd (I.hr.1 rfl) hz,?_⟩;rcases H.base I.dl I.dh (Rat.le_of_lt I.lt) h4' with g|⟨-,g,-⟩
  ·omega
  ·exact g
theorem SgI.next{q:List Rat}{wd:Rat}{D T m Y d e:Nat}{l h:Rat}{lr hr:Bool}{bf:Int}(H:Sp6 q wd D T m Y)(I:SgI q wd D T Y (d+1) e l h lr hr bf)(c2:sg (evV q (md6 l h))≠0) :
  (sg (evV q (md6 l h))=bf→SgI q wd D T Y d (e+1) (md6 l h) h false hr bf)∧(sg (evV q (md6 l h))≠bf→SgI q wd D T Y d (e+1) l (md6 l h) lr false bf):=by
 obtain ⟨h1,h2,h3,h4,h5,h6,h7,h8⟩:=I;have hn:(tz q).length≤q.length:=ah q;obtain ⟨m1,m2,m3,m4⟩:=nZ (Rat.le_of_lt h1);obtain ⟨w1,w2⟩:=Sp6.half (Rat.le_of_lt h1) h4;have hm:=h2.mid h3;have lm:l<md6 l h:=by grind
 have mh:md6 l h<h:=by grind
 generalize md6 l h=M at *
 have hM:evV q M≠0:=fun k=>c2 (cL.2 k)
 have v1:=jt H.ne H.cp m1;have v2:=jt H.ne H.cp m2
 -- the changes fall by one at most from l to the middle
 have v3:v6 q l=v6 q M∨v6 q l=v6 q M+1:=by
  unfold opc at h5;by_cases hz:evV q h=0
  ·rw [if_pos hz] at h5;by_cases k:v6 q M=v6 q h
   ·exact absurd hz (nC H.ne H.cp k ((M+h) / 2) h ⟨by have:=aw (a:=M+h) (b:=2) dZ;grind,by have:=aw (a:=M+h) (b:=2) dZ;grind⟩ ⟨mh,Rat.le_refl⟩ (by have:=aw (a:=M+h) (b:=2) dZ;grind)).2.1
   ·omega
  ·rw [if_neg hz] at h5;omega
 constructor
 ·intro c3;have v4:v6 q l=v6 q M:=by
   rcases v3 with k|k
   ·exact k
   ·exact absurd (c3.trans h6) (wO H.ne H.cp lm hn k hM)
  exact ⟨mh,hm,h3.up,w2,by unfold opc at h5 ⊢;rw [←v4];exact h5,by rw [←c3,tk hM],⟨fun k=>Bool.noConfusion k,fun k=>absurd k hM⟩,h8⟩
 ·intro c3;have v4:v6 q l=v6 q M+1:=by
   rcases v3 with k|k
   ·exact absurd ((nK H.ne lm (show (tz q).length≤q.length+1 by omega) (nC H.ne H.cp k)).trans h6.symm) c3
   ·exact k
  exact ⟨lm,h2.up,hm,w1,by unfold opc;rw [if_neg hM,v4];omega,h6,h7,⟨fun k=>Bool.noConfusion k,fun k=>absurd k hM⟩⟩
theorem tg{q:List Rat}{wd:Rat}{D T m Y:Nat}(H:Sp6 q wd D T m Y):∀ (d e:Nat) {l h:Rat} {lr hr:Bool} {bf:Int},SgI q wd D T Y d e l h lr hr bf→IsI q wd l h (sgS q wd bf d l h lr hr):=by
 intro d;induction d with
 | zero =>
  intro e l h lr hr bf I;show IsI q wd l h (l,h);exact I.done (I.base H)
 | succ d ih =>
  intro e l h lr hr bf I;obtain ⟨m1,m2,m3,m4⟩:=nZ (Rat.le_of_lt I.lt);unfold sgS;by_cases c1:lr=false∧hr=false∧h-l≤wd
  ·rw [if_pos c1];exact I.done c1
  ·rw [if_neg c1];by_cases c2:sg (evV q (md6 l h))=0
   ·rw [if_pos c2];refine ⟨m1,Rat.le_refl,m2,by have:=H.wd0;simp only;grind,?_⟩;unfold clc;rw [if_pos (cL.1 c2)];dsimp only;omega
   ·rw [if_neg c2];obtain ⟨n1,n2⟩:=I.next H c2;by_cases c3:sg (evV q (md6 l h))=bf
    ·rw [if_pos c3];exact (ih (e+1) (n1 c3)).mono m1 Rat.le_refl
    ·rw [if_neg c3];exact (ih (e+1) (n2 c3)).mono Rat.le_refl m2
def opS(q:List Rat)(wd:Rat):Nat→Rat→Rat→List (Rat×Rat)
 | 0,lo,hi=>if opc q lo hi=0 then [] else [sgS q wd (eP (q.length+1) q lo) 0 lo hi (decide (evV q lo=0)) (decide (evV q hi=0))]
 | d+1,lo,hi=>if opc q lo hi=0 then [] else if opc q lo hi=1 then [sgS q wd (eP (q.length+1) q lo) (d+1) lo hi (decide (evV q lo=0)) (decide (evV q hi=0))] else opS q wd d lo (md6 lo hi)++((if evV q (md6 lo hi)=0 then [(md6 lo hi,md6 lo hi)] else [])++opS q wd d (md6 lo hi) hi)
structure OpI (q:List Rat) (wd lo hi:Rat) (L:List (Rat×Rat)):Prop where
 all:∀ x ∈ L,IsI q wd lo hi x
 len:(L.length:Int)=opc q lo hi
 srt:L.Pairwise (fun x y=>x.2≤y.1)
theorem OpI.nil{q:List Rat}{wd lo hi:Rat}(h:opc q lo hi=0):OpI q wd lo hi []:=⟨fun x hx=>absurd hx List.not_mem_nil,by rw [h];rfl,List.Pairwise.nil⟩
theorem OpI.one{q:List Rat}{wd lo hi:Rat}{x:Rat×Rat}(h:opc q lo hi=1)(hx:IsI q wd lo hi x):OpI q wd lo hi [x]:=⟨fun y hy=>by rw [nXu.1 hy];exact hx,by rw [h];rfl,List.pairwise_singleton _ _⟩
theorem tN{q:List Rat}{wd:Rat}{D T m Y e:Nat}(H:Sp6 q wd D T m Y){lo hi:Rat}(h1:lo<hi)(h2:Dy D (W32 ^ T) e lo)(h3:Dy D (W32 ^ T) e hi)(h4':(hi-lo)*((W32 ^ Y:Nat):Rat)≤1)(c:opc q lo hi≠0):opc q lo hi=1:=by
 obtain ⟨k1,-⟩:=H.sep lo hi (h2.bd H.dp).1 h1 (h3.bd H.dp).2 h4';have k2:=jt H.ne H.cp (Rat.le_of_lt h1);unfold opc at c ⊢;by_cases hz:evV q hi=0
 ·rw [if_pos hz] at c ⊢;exfalso;have k3:v6 q lo≠v6 q hi:=fun k=>absurd hz (nC H.ne H.cp k ((lo+hi) / 2) hi ⟨by have:=aw (a:=lo+hi) (b:=2) dZ;grind,by have:=aw (a:=lo+hi) (b:=2) dZ;grind⟩ ⟨h1,Rat.le_refl⟩ (by have:=aw (a:=lo+hi) (b:=2) dZ;grind)).2.1
  omega
 ·rw [if_neg hz] at c ⊢;omega
theorem tO{q:List Rat}{wd:Rat}{D T m Y:Nat}(H:Sp6 q wd D T m Y):∀ (d e:Nat) {lo hi:Rat},lo<hi→Dy D (W32 ^ T) e lo→Dy D (W32 ^ T) e hi→(hi-lo)*((W32 ^ Y:Nat):Rat)≤((2 ^ d:Nat):Rat)→OpI q wd lo hi (opS q wd d lo hi):=by
 intro d;induction d with
 | zero =>
  intro e lo hi h1 h2 h3 h4;unfold opS;by_cases c:opc q lo hi=0
  ·rw [if_pos c];exact OpI.nil c
  ·rw [if_neg c];have h4':(hi-lo)*((W32 ^ Y:Nat):Rat)≤1:=h4;have c1:=tN H h1 h2 h3 h4' c;exact OpI.one c1 (tg H 0 e ⟨h1,h2,h3,h4,c1,rfl,by simp,by simp⟩)
 | succ d ih =>
  intro e lo hi h1 h2 h3 h4;unfold opS;by_cases c:opc q lo hi=0
  ·rw [if_pos c];exact OpI.nil c
  ·rw [if_neg c];by_cases c1:opc q lo hi=1
   ·rw [if_pos c1];exact OpI.one c1 (tg H (d+1) e ⟨h1,h2,h3,h4,c1,rfl,by simp,by simp⟩)
   ·rw [if_neg c1];obtain ⟨m1,m2,m3,m4⟩:=nZ (Rat.le_of_lt h1);obtain ⟨w1,w2⟩:=Sp6.half (Rat.le_of_lt h1) h4;have hm:=h2.mid h3;have a:=ih (e+1) (lo:=lo) (hi:=md6 lo hi) (by grind) h2.up hm w1;have b:=ih (e+1) (lo:=md6 lo hi) (hi:=hi) (by grind) hm h3.up w2;have lm:lo<md6 lo hi:=by grind
    have mh:md6 lo hi<hi:=by grind
    generalize md6 lo hi=M at *
    have mid:∀ y,y ∈ (if evV q M=0 then [(M,M)] else [])→y=(M,M)∧evV q M=0:=fun y hy=>by
     by_cases hz:evV q M=0
     ·rw [if_pos hz] at hy;exact ⟨nXu.1 hy,hz⟩
     ·rw [if_neg hz] at hy;exact absurd hy List.not_mem_nil
    have hw:=H.wd0;refine ⟨fun x hx=>?_,?_,?_⟩
    ·rcases List.mem_append.1 hx with k|k
     ·exact (a.all x k).mono Rat.le_refl m2
     ·rcases List.mem_append.1 k with k|k
      ·obtain ⟨k1,k2⟩:=mid x k;rw [k1];refine ⟨m1,Rat.le_refl,m2,by grind,?_⟩;unfold clc;rw [if_pos k2];dsimp only;omega
      ·exact (b.all x k).mono m1 Rat.le_refl
    ·have l1:=a.len;have l2:=b.len;unfold opc at l1 l2 ⊢;rw [nXi,nXi];by_cases hz:evV q M=0
     ·rw [if_pos hz] at l1 ⊢;simp only [List.length_cons,List.length_nil];omega
     ·rw [if_neg hz] at l1 ⊢;simp only [List.length_nil];omega
    ·rw [List.pairwise_append];refine ⟨a.srt,?_,fun x hx y hy=>?_⟩
     ·rw [List.pairwise_append];refine ⟨?_,b.srt,fun x hx y hy=>?_⟩
      ·split
       ·exact List.pairwise_singleton _ _
       ·exact List.Pairwise.nil
      ·rw [(mid x hx).1];exact (b.all y hy).lo
     ·have k1:=(a.all x hx).hi;rcases List.mem_append.1 hy with k|k
      ·rw [(mid y k).1];exact k1
      ·have:=(b.all y k).lo;grind
end Go.Proofs.YtafgmcimcbhhjaaGreat.Sg
/- Derivative of the reference's polynomials. -/
namespace Go.Proofs.YtafgmcimcbhhjaaGreat
open Go.RowKit Go.Front Go.Num Stab Sg
attribute [local go_sem] XW.cell XW.frozen
theorem vf(l:List Rat)(j:Nat):(List.range (j+1)).map (pH l)=(List.range j).map (pH l)++[l.getD (j+1) 0*(((j+1:Nat):Int):Rat)]:=kH (pH l) j
theorem q9(ao:Option Addr)(n cap:Nat)(l:List Rat)(w:World)(h:bw w ⟨ao,n,cap⟩ l)(hn:n≤1000000)(hz:SzL 8388608 l) :
  au 53 [.slice ao n cap] w SH.v (fun s w'=>eL w.heap.size w' s (tz (derL l))):=by
 have HX:=Hi (Ext.refl w);have LA:=Hi h.lin;have Hlen:=Hi h.len;simp only at Hlen;have HZ:=Hi hz;clear h hz;unfold au;go_enter Tryz.func53,Tryz.ntmps53;go_wp2
 go_loopg [3,4] (n-1) (fun g v i wr=>∃ (j:Nat) (s:SH),v=s.v∧j+g=n-1∧i=.int .i64 ((j:Int)+1)∧Ext w wr∧dw wr (w.heap.size≤·) s.v ((List.range j).map (pH l)))
 case atStart=>exact ⟨0,⟨none,0,0⟩,rfl,zo,rfl,HX.out,dw.nil _ _⟩
 case round =>
  obtain ⟨j,⟨sa,sn,sc⟩,rfl,hj,rfl,g1,g4⟩:=hrel;clear HX;have HX:=Hi g1;have HO:=Hi g4;have LA2:=Hi (LA.out.ext g1);have hsz:=g1.size;clear g1 g4;simp only [SH.v];have HLj:Hid (((List.range j).map (pH l)).length=j):=Hi (by simp);by_cases h0:gk=0
  case pos =>
   subst h0;have hin:¬ (j:Int)+1<n:=zo;have hsn:=dw.len (s:=⟨sa,sn,sc⟩) HO.out;rw [HLj.out] at hsn;simp only at hsn;subst hsn;have HSz:Hid (SzL 16777216 ((List.range j).map (pH l))):=Hi (by
    intro q hq;obtain ⟨k,hk,rfl⟩:=nYf.1 hq;have hk:=List.mem_range.1 hk;have h1:Sz 8388608 (l.getD (k+1) 0):=HZ.out.at (by rw [Hlen.out];omega);exact (h1.mul (Sz.int (z:=((k+1:Nat):Int)) (by rw [nYh];show _<4294967296;omega))).mono dZ)
   have HV:Hid (tz ((List.range j).map (pH l))=tz (derL l)):=Hi (by
    by_cases h1:n=0
    ·have hl:l=[]:=nXj.1 (by rw [Hlen.out];exact h1);have hj0:j=0:=by omega
     rw [hl,hj0];rfl
    ·exact qY l (by rw [Hlen.out];omega))
   go_wp2_with fail
   refine cM (bJ sa j sc _ _ ((dw.can (s:=⟨sa,j,sc⟩) HO.out).raw HSz.out dZ) zo) fun x22 w22 hE G22=>?_
   refine mV3 hE ?_ HX HO LA2;clear HX HO LA2;intro HX HO LA2;have hs_w22:=hE.size;go_wp2
   go_ret
   exact ⟨x22,rfl,HX.out,by rw [←HV.out];exact G22.out.mono hsz⟩
  have hjn:(j:Int)+1<n:=zo;have hjn2:j+1<n:=zo;have HJI:Hid ((j:Int)+1=((j+1:Nat):Int)):=Hi zo;obtain ⟨b,off,r,hao,hbl,⟨hc1,hc2,hc3⟩,hP⟩:=LA2.out.celx (k:=j+1) hjn2;obtain ⟨rneg,ra,rn,rc,rb,rm,rd⟩:=r;simp only at hc1 hc2 hc3;subst hao;have RP:=Hi hP;clear hP;have ZP:Hid (Sz 8388608 (l.getD (j+1) 0)):=Hi (HZ.out.at (by rw [Hlen.out];exact hjn2));have HNx:=Hi (vf l j)
  go_upto_region 5 with fail
  refine wpG 9 (fun opIx=>match opIx with
   | 6=>sR ((((j+1:Nat):Int):Rat))
   | 7=>sR (l.getD (j+1) 0*(((j+1:Nat):Int):Rat))
   | 8=>.spec (Nat×RH) ((0,default)) (fun p=>.slice (some ⟨p.1,0,none⟩) 1 1) (fun p w'=>jT w' p (l.getD (j+1) 0*(((j+1:Nat):Int):Rat)))
   | _=>.quiet) (fun|7=>[6]|8=>[7]|_=>[]) fun w0 he0 hz0 hc0 hf0=>?_
  refine wps he0 (fun w1 hW hG=>?_) fun x30=>?_
  ·exact spc [.int .i64 ((j:Int)+1)] Tryz.func36 ((by rw [HJI.out];exact aO ((j+1:Nat):Int) _ zo zo))
  refine qZ ?_;refine wps he0 (fun w1 hW hG=>?_) fun x31=>?_
  ·have g30:=gS (hG 6 dZ);exact spc [RH.v ⟨rneg,ra,rn,rc,rb,rm,rd⟩,x30.v] Tryz.func48 (fV _ x30 _ _ _ ((RP.out.ext hW).raw ZP.out dZ) (g30.raw (Sz.int (by rw [nYh];show _<4294967296;omega)) dZ))
  refine qZ ?_;refine wps he0 (fun w1 hW hG=>?_) fun x32=>?_
  ·have g31:=gS (hG 7 dZ);exact rI x31 _ g31 rfl (by simp [execOp,go_sem])
  refine qZ ?_;refine aq ?_;intro w5 hI;have hE:=he0.out.trans hI.ext;have G30:=gT (hI.facts 6);have G31:=gT (hI.facts 7);have G32:=gT (hI.facts 8);clear hI he0 hz0 hc0 hf0;refine mV4 hE ?_ HX HO LA2 RP;clear HX HO LA2 RP;intro HX HO LA2 RP;have hs_w5:=hE.size;simp only [pD];clear hc1 hc2 hc3
  go_upto_region 4 with (at_builtin;refine fK rfl (.tmp 11) (.tmp 19) 24 Tryz.underlying24 rfl (w.heap.size≤·) _ _ x32.2 _ x32.1 rfl HO.out rfl G32.out.1 G32.out.2 (by rw [HLj.out];omega) (fun k hk=>by omega) ?_;intro s' y3 q1 q2 q3)
  have HX3:=Hi (Ext.mods HX.out q2 (fun k h=>h));have HO3:Hid (dw y3 (w.heap.size≤·) s'.v ((List.range (j+1)).map (pH l))):=Hi (by rw [HNx.out];exact q1);clear q1 q2 q3;go_wp2
  go_roundg (gk-1)
  case measure=>omega
  case rel=>exact ⟨j+1,s',rfl,zo,by go_num,HX3.out,HO3.out⟩
theorem LIn.oneb{w:World}{s:SH}{qs:List Rat}{lo hi B:Nat}(h:LIn w s qs lo hi)(hB:hi≤B):∃ b,b≠B∧lo≤b∧LIn w s qs b (b+1):=by
 obtain ⟨rs,h1,h2,h3⟩:=h;rcases h3 with h0|⟨b,off,e,h4,h5⟩
 ·exact ⟨lo+B+1,zo,zo,rs,h1,h2,Or.inl h0⟩
 ·exact ⟨b,zo,h4,rs,h1,h2,Or.inr ⟨b,off,e,nXe _,Nat.lt_succ_self _⟩⟩
theorem kp(ao:Option Addr)(n cap:Nat)(l:List Rat)(S:Nat)(w:World)(h:bw w ⟨ao,n,cap⟩ l)(hn:n≤1000000)(hS:S≤8000000)(hz:SzL S l) :
  au 138 [.slice ao n cap] w SH.v (fun x w'=>eL w.heap.size w' x (bC l)):=by
 have HX:=Hi (Ext.refl w);have LP:=Hi h.lin;have HSz:=Hi hz;have Hlen:=Hi h.len;simp only at Hlen;clear h hz;unfold au;go_enter Tryz.func138,Tryz.ntmps138
 go_wp2_with fail
 refine cM (bJ ao n cap l _ (LP.out.can.raw HSz.out zo) zo) fun x4 w4 hE G4=>?_
 refine mV2 hE ?_ HX LP;clear HX LP;intro HX LP;have hs_w4:=hE.size;obtain ⟨pa,P,pc⟩:=x4;have hP:=G4.out.len;simp only at hP;obtain ⟨p,hp⟩:∃ p,p=tz l:=⟨_,rfl⟩;rw [←hp] at G4 hP;have HTZ:=Hi hp;have HSp:Hid (SzL S p):=Hi (by rw [hp];exact SzL.tz HSz.out);have hPn:P≤n:=by rw [←hP,hp,←Hlen.out];exact ah l
 have hHP:=Hi hP;have HG:Hid (LIn w4 ⟨pa,P,pc⟩ p w.heap.size w4.heap.size):=Hi G4.out;clear hp hP Hlen;clear LP;clear G4;simp only [SH.v];by_cases h0:P=0
 case pos =>
  subst h0;have HV:Hid (bC l=[]):=Hi (fL.2 (by rw [←HTZ.out];exact nXj.1 hHP.out));go_wp2
  go_ret
  exact ⟨⟨none,0,0⟩,rfl,HX.out,by rw [HV.out];exact eL.nil _ _⟩
 obtain ⟨m,rfl⟩:∃ m,P=m+1:=⟨P-1,zo⟩;have hz0:((m:Int)+1 == 0)=false:=by rw [nXs];omega
 have Hne:Hid (tz l≠[]):=Hi (by rw [←HTZ.out];intro h;have:=hHP.out;rw [h] at this;simp at this);have HL:Hid ((tz l).getLast?.getD 0=p.getD m 0):=Hi (by rw [←HTZ.out,List.getLast?_eq_getElem?,hHP.out,Nat.add_sub_cancel,←nXd]);have Zc:Hid (Sz S (p.getD m 0)):=Hi (HSp.out.at (by rw [hHP.out];omega));have Zb:Hid (Sz S (p.getD m 0).abs):=Hi Zc.out.abs;have ZI:Hid (Sz (1+S) (((1:Int):Rat) / (p.getD m 0).abs)):=Hi ((Sz.int dZ).div Zb.out);have HV:Hid (bC l=bS p (((1:Int):Rat) / (p.getD m 0).abs)):=Hi (by
  unfold bS;have h1:=gX l;unfold bC at h1 ⊢;rw [HL.out,←HTZ.out] at h1 ⊢;exact h1.symm)
 obtain ⟨b,off,r,hao,hbl,⟨hc1,hc2,hc3⟩,hPc⟩:=HG.out.celx (k:=m) zo;obtain ⟨rneg,ra,rn,rc,rb,rm,rd⟩:=r;simp only at hc1 hc2 hc3;have HC:=Hi hPc;clear hPc h0;subst hao
 go_upto_region 4 with fail
 refine wpG 11 (fun opIx=>match opIx with
  | 1=>sR (((1:Int):Rat))
  | 8=>sR ((p.getD m 0).abs)
  | 9=>sR (((1:Int):Rat) / (p.getD m 0).abs)
  | 10=>.spec (SH) (default) (SH.v) (fun x w'=>eL w.heap.size w' x (bS p (((1:Int):Rat) / (p.getD m 0).abs)))
  | _=>.quiet) (fun|9=>[1,8]|10=>[9]|_=>[]) fun w0 he0 hz0 hc0 hf0=>?_
 refine wps he0 (fun w1 hW hG=>?_) fun x20=>?_
 ·exact spc [.int .i64 1] Tryz.func36 (aO 1 _ dZ dZ)
 refine qZ ?_;refine wps he0 (fun w1 hW hG=>?_) fun x21=>?_
 ·exact spc [RH.v ⟨rneg,ra,rn,rc,rb,rm,rd⟩] Tryz.func188 (tD ⟨rneg,ra,rn,rc,rb,rm,rd⟩ _ _ ((HC.out.ext hW).raw Zc.out zo))
 refine qZ ?_;refine wps he0 (fun w1 hW hG=>?_) fun x22=>?_
 ·have g20:=gS (hG 1 dZ);have g21:=gS (hG 8 dZ);exact spc [x20.v,x21.v] Tryz.func35 (eQ x20 x21 _ _ _ (g20.raw (Sz.int dZ) dZ) (g21.raw Zb.out zo))
 refine qZ ?_;refine wps he0 (fun w1 hW hG=>?_) fun x23=>?_
 ·have g22:=gS (hG 9 dZ);exact spc [.slice (some ⟨b,off,none⟩) (m+1:Nat) pc,x22.v] Tryz.func51 ((gy (some ⟨b,off,none⟩) (m+1) pc p x22 (((1:Int):Rat) / (p.getD m 0).abs) _ ((HG.out.ext hW).can.raw HSp.out zo) (g22.raw ZI.out zo) zo (HSp.out.mono zo) (ZI.out.mono zo)).wk (fun _ _ _ h=>h.mono (by have:=hW.size;omega)))
 refine qZ ?_;refine aq ?_;intro w5 hI;have hE:=he0.out.trans hI.ext;have G20:=gT (hI.facts 1);have G21:=gT (hI.facts 8);have G22:=gT (hI.facts 9);have G23:=gT (hI.facts 10);clear hI he0 hz0 hc0 hf0;refine mV3 hE ?_ HX HG HC;clear HX HG HC;intro HX HG HC;have hs_w5:=hE.size;simp only [pD];clear hc1 hc2 hc3;go_wp2
 go_ret
 exact ⟨x23,rfl,HX.out,by rw [HV.out];exact G23.out⟩
def ChR(w:World)(v:SH)(ms:List (List Rat)):Prop:=v.n=ms.length∧∀ k,k<ms.length→∃ L a n c,v.a=some ⟨L,0,none⟩∧L<w.heap.size∧w.cell? ⟨L,k,none⟩=some (.slice a n c)∧bw w ⟨a,n,c⟩ (ms.getD k [])
theorem ChR.ext{w w':World}{v:SH}{ms:List (List Rat)}(h:ChR w v ms)(he:Ext w w'):ChR w' v ms :=
 ⟨h.1,fun k hk=>let ⟨L,a,n,c,h1,h2,h3,h4⟩:=h.2 k hk;⟨L,a,n,c,h1,nXn h2 he.size,he.cell h3,h4.ext he⟩⟩
instance {w w':World} {v:SH} {ms:List (List Rat)}:Go.Front.Mv w w' (ChR w v ms) (ChR w' v ms):=⟨fun e h=>ChR.ext h e⟩

theorem ChM.r{w:World}{lo B:Nat}{va:Option Addr}{vn vc m:Nat}{ms:List (List Rat)}(h:ChM w lo B (.slice va vn vc) ms)(hm:m≤ms.length):ChR w ⟨va,m,vc⟩ (ms.take m):=by
 have h1:=(ChM.at (va:=va) (vn:=vn) (vc:=vc) h).2;refine ⟨by rw [nXk];show m=_;omega,fun k hk=>?_⟩;rw [nXk] at hk;obtain ⟨L,a,n,c,e1,e2,e3,e4⟩:=h1 k zo;refine ⟨L,a,n,c,e1,e2,e3,?_⟩;rw [show (ms.take m).getD k []=ms.getD k [] by rw [nXd,nXd,List.getElem?_take_of_lt zo]];exact e4
theorem ChM.le{w:World}{lo B n c:Nat}{va:Option Addr}{ms:List (List Rat)}(h:ChM w lo B (.slice va n c) ms):ms.length≤c:=by
 obtain ⟨xs,h1,h2,-⟩:=h;rcases h1 with ⟨e,rfl⟩|⟨L,cap,re,e,-,-,h3,-⟩
 ·rw [←h2];exact Nat.zero_le _
 ·simp only [Value.slice.injEq] at e;omega
theorem ChM.max{w:World}{lo B n c L:Nat}{ms:List (List Rat)}(h:ChM w lo B (.slice (some ⟨L,0,none⟩) n c) ms):c≤9223372036854775807:=by
 obtain ⟨xs,h1,h2,-⟩:=h;rcases h1 with ⟨e,rfl⟩|⟨L,cap,re,e,-,-,-,h3,-⟩
 ·simp at e
 ·simp only [Value.slice.injEq] at e;omega
theorem AW{w:World}{lo B:Nat}{xa xb:SH}{a b:List Rat}{ba bb:Nat}(hB:w.heap[B]?=some (.cells #[.slice xa.a xa.n xa.c,.slice xb.a xb.n xb.c] 24 (0,0)))(ha:LIn w xa a ba (ba+1))(hb:LIn w xb b bb (bb+1))(h1:ba≠B)(h2:bb≠B)(h3:lo≤ba)(h4:lo≤bb) :
  ChM w lo B (.slice (some ⟨B,0,none⟩) 2 2) [a,b]:=by
 refine ⟨[xa,xb],Or.inr ⟨B,2,#[],rfl,rfl,?_,nXe 2,dZ,rfl,rfl⟩,rfl,fun k hk=>?_⟩
 ·unfold SBk;rw [hB];rfl
 ·match k,hk with
  | 0,_=>exact ⟨ba,h1,h3,ha⟩
  | 1,_=>exact ⟨bb,h2,h4,hb⟩
def yI:Rat:=((-1:Int):Rat)
def UEq(p q:List Rat):Prop:=Unit→bC p=bC q
def QrP(p q:List Rat)(x:SH×SH)(w:World):Prop:=bw w x.1 (bD p q)∧bw w x.2 (bB p q)
theorem QrP.ext{p q:List Rat}{x:SH×SH}{w w':World}(h:QrP p q x w)(he:Ext w w'):QrP p q x w':=⟨h.1.ext he,h.2.ext he⟩
instance {p q:List Rat} {x:SH×SH} {w w':World}:Go.Front.Mv w w' (QrP p q x w) (QrP p q x w'):=⟨fun e h=>QrP.ext h e⟩

def CnI(w wr:World)(K:Nat)(q:List Rat)(v:Value)(g:Nat):Prop:=∃ (N cap L fuel X:Nat) (ps:List (List Rat)) (a b:List Rat),v=.slice (some ⟨L,0,none⟩) (N+1+1:Nat) cap∧b.length=g∧w.heap.size≤L∧ChM wr w.heap.size L (.slice (some ⟨L,0,none⟩) (N+1+1:Nat) cap) (ps++[bC a,bC b])∧ps.length=N∧N+b.length≤1000∧RmI K a b X∧a≠[]∧a.length<fuel∧(ps++(chn fuel a b).map bC)=(remsV q).map bC∧cap≤9223372036854775807
theorem su(pa:Option Addr)(P pc:Nat)(p:List Rat)(S D K:Nat)(w:World)(h:bw w ⟨pa,P,pc⟩ p)(hP:P≤500)(h0:tz p≠[])(hS:1≤S)(hD:0<D)(hD2:D<W32 ^ S)(hf:∀ x ∈ p,Fr S D x)(hK:KZ K S P)(hK2:K≤7000000) :
  au 75 [.slice pa P pc] w SH.v (fun x w'=>ChR w' x (lz p)):=by
 have LP:=Hi h.lin;have HX:=Hi (Ext.refl w);have HPl:Hid (p.length=P):=Hi h.len;have HF:=Hi hf;obtain ⟨X0,hSX,hI0⟩:=jA hS hD hf (by have:=h.len;simp only at this;omega) h0 (by have:=h.len;simp only at this;rw [this];exact hK);have HI0:=Hi hI0;clear hI0;have H0:=Hi h0;have hSK:S+2≤K:=by have:=HI0.out.small;omega
 have HSz:Hid (SzL S p):=Hi (bV hS hD hD2 hf);have HDF:Hid (∀ x ∈ tz (derL p),Fr (S+1) D x):=Hi (fu hf (by have:=h.len;simp only at this;omega));have hD3:D<W32 ^ (S+1):=nXn hD2 (nXp ay zo);have HDZ:Hid (SzL (S+1) (tz (derL p))):=Hi (bV zo hD hD3 HDF.out);have HDl:Hid ((tz (derL p)).length≤P):=Hi (by
  have h1:=HI0.out.2.2.2.2.2.2.1;rw [aC,aC,aM] at h1;have h2:=ah p;have h3:=HPl.out;rcases h1 with h1|h1
  ·exact absurd (bH.1 h1) h0
  ·omega)
 have HUD:Hid (bC (tz (derL p))=bC (ar (derL p))):=Hi (by rw [jY];unfold bC;rw [aM]);have HUP:Hid (bC p=bC (ar p)):=Hi (jY p).symm;clear h hf h0;unfold au;go_enter Tryz.func75,Tryz.ntmps75
 go_wp2_with fail
 refine cM (kp pa P pc p S _ LP.out.can zo zo HSz.out) fun x8 w8 hE G8=>?_
 refine mV2 hE ?_ LP HX;clear LP HX;intro LP HX;have hs_w8:=hE.size
 go_wp2_with fail
 refine cM (q9 pa P pc p _ LP.out.can zo (HSz.out.mono zo)) fun x10 w10 hE G10=>?_
 refine mV3 hE ?_ G8 LP HX;clear G8 LP HX;intro G8 LP HX;have hs_w10:=hE.size;obtain ⟨da,dn,dc⟩:=x10;have hdn:dn≤P:=by have h1:=G10.out.len;have h2:=HDl.out;simp only at h1;omega
 simp only [SH.v]
 go_wp2_with fail
 refine cM (kp da dn dc (tz (derL p)) (S+1) _ G10.out.can zo zo HDZ.out) fun x11 w11 hE G11=>?_
 refine mV4 hE ?_ G10 G8 LP HX;clear G10 G8 LP HX;intro G10 G8 LP HX;have hs_w11:=hE.size;rw [HUD.out] at G11;rw [HUP.out] at G8;obtain ⟨ba,hba,hba2,hla⟩:=LIn.oneb (B:=w11.heap.size) G8.out (nXe _);obtain ⟨bb,hbb,hbb2,hlb⟩:=LIn.oneb (B:=w11.heap.size) G11.out (nXe _);have LA:=Hi hla;have LB:=Hi hlb;have hs11:=HX.out.size;have hbb3:w.heap.size≤bb:=by have:=hs_w10;have:=hs_w8;omega
 clear hla hlb;clear G8;clear G10;clear G11;clear LP;obtain ⟨aa,an,ac⟩:=x8;obtain ⟨bao,bn,bc⟩:=x11;simp only [SH.v]
 go_upto_region 2 with fail
 refine nmA ?_;intro w12 hE BL hz_w12 hr_w12;refine mV3 hE ?_ HX LA LB;clear HX LA LB;intro HX LA LB;have hs_w12:=hE.size;replace b_BL:=bX3 BL;obtain ⟨L,hL⟩:∃ L,L=w11.heap.size:=⟨_,rfl⟩;rw [←hL] at BL hba hbb ⊢;have hLw:w.heap.size≤L:=zo;have HC:Hid (ChM w12 w.heap.size L (.slice (some ⟨L,0,none⟩) 2 2) [bC (ar p),bC (ar (derL p))]):=Hi (AW (xa:=⟨aa,an,ac⟩) (xb:=⟨bao,bn,bc⟩) BL.out LA.out LB.out hba hbb hba2 hbb3);have HLb:Hid ((ar (derL p)).length≤900):=Hi (by rw [aC];have h2:=HDl.out;omega);clear b_BL hL;clear LA;clear LB
 (try clear b_BL);clear BL
 go_wp2
 go_loopg [3] (ar (derL p)).length (fun g v wr=>Ext w wr∧CnI w wr K p v g)
 case atStart=>exact ⟨HX.out,0,2,L,p.length+1,X0,[],ar p,ar (derL p),rfl,rfl,hLw,HC.out,rfl,by have:=HLb.out;omega,by have h:=HI0.out;rwa [mA] at h,fun k=>H0.out (bH.1 k),by rw [aC];have:=ah p;omega,rfl,dZ⟩
 case round =>
  obtain ⟨g1,N,cap,L,fuel,X,ps,a,b,rfl,hbg,hLw,g2,hps,hNb,g3,ha0,hfu,g4,hcap⟩:=hrel;clear HX HC;have HX:=Hi g1;have HC:=Hi g2;have HI:=Hi g3;have HE:=Hi g4;have Ha:=Hi ha0;have hat:=(ChM.at (va:=some ⟨L,0,none⟩) (vn:=N+1+1) (vc:=cap) g2).2;obtain ⟨L1,aa,an,ac,e1,hl1,hcell1,hcan1⟩:=hat N (by simp;omega);obtain ⟨L2,bao,bn,bc,e2,hl2,hcell2,hcan2⟩:=hat (N+1) (by simp;omega);obtain rfl:L=L1:=by simpa using e1
  obtain rfl:L=L2:=by simpa using e2
  rw [show (ps++[bC a,bC b]).getD N []=bC a by rw [←hps];simp] at hcan1;rw [show (ps++[bC a,bC b]).getD (N+1) []=bC b by rw [←hps];simp] at hcan2;have LA:=Hi hcan1;have LB:=Hi hcan2;have hbl:b.length=bn:=by have h1:=hcan2.len;rw [kq,g3.2.1] at h1;exact h1
  have hal:a.length=an:=by have h1:=hcan1.len;rw [kq,g3.1] at h1;exact h1
  have hN2:((N:Int)+1+1)-2=(N:Int):=zo;have hN3:(N:Int)+1<(N:Int)+1+1:=zo;have hN4:(N:Int)<(N:Int)+1+1:=zo;have hNc:N+1+1≤cap:=by have h1:=ChM.le g2;simp at h1;omega
  have hNc1:(0:Int)≤(N:Int)+1∧(N:Int)+1≤(cap:Int):=zo;clear g1 g2 g3 g4 ha0 hat e1 e2 hcan1 hcan2;by_cases h0:bn=0
  case pos =>
   subst h0;have hb:b=[]:=nXj.1 hbl;have HV:Hid ((ps++[bC a,bC b]).take (N+1)=lz p):=Hi (by
    rw [pL,←HE.out,hb];obtain ⟨f2,rfl⟩:∃ f2,fuel=f2+1:=⟨fuel-1,zo⟩;rw [cX Ha.out,←hps];rw [List.take_append,nXm (Nat.le_succ _),show ps.length+1-ps.length=1 by omega];rfl)
   go_wp2
   go_ret
   exact ⟨⟨some ⟨L,0,none⟩,N+1,cap⟩,rfl,HX.out,by rw [←HV.out];exact ChM.r HC.out (by simp;omega)⟩
  have hbp:(0:Int)<(bn:Int):=zo;have Hb0:Hid (b≠[]):=Hi (by intro h;rw [h] at hbl;simp at hbl;omega);obtain ⟨e1,e2,e3,e4,e5,e6,e7,e8,e9⟩:=HI.out;obtain ⟨Da,u1,u2,u3⟩:=oP e3 e1 e5;obtain ⟨Db,v1,v2,v3⟩:=oP e4 e2 e5;have HT:Hid (tz a≠[]∧tz b≠[]):=Hi ⟨by rw [e1];exact Ha.out,by rw [e2];exact Hb0.out⟩;have HM0:Hid (tz (bC b)≠[]):=Hi (by rw [gX];exact fun h=>HT.out.2 (fL.1 h));have hdz:=HI.out.dsz;obtain ⟨s,r,f,hf,hdv⟩:=uM (uN e3 e4 e1 e2 Hb0.out);obtain ⟨hN,X2,hI2⟩:=HI.out.next Hb0.out hf hdv;rw [hN] at hI2;obtain ⟨c,hc⟩:∃ c,c=ar ((bB a b).map (·*-1)):=⟨_,rfl⟩;rw [←hc] at hI2;have HNX:=Hi hI2;have HCc:=Hi hc;have hml:(bC a).length=an:=by rw [kq,e1];exact hal
  have HRS:Hid (SzL 7000000 (bB (bC a) (bC b))):=Hi ((qp u3 v3 HM0.out e5 e5 u1 u2 v1).mono (by rw [hml,←hal];omega));have HSS:Hid (SzL 7000001 (bS (bB (bC a) (bC b)) yI)):=Hi ((tj HRS.out (show Sz 1 yI from ph)).mono zo);have HUC:Hid (UEq (bS (bB (bC a) (bC b)) yI) c):=Hi (fun _=>by rw [hc];exact wS HT.out.1 HT.out.2);have HRl:Hid ((bB (bC a) (bC b)).length≤1000):=Hi (by
   have h1:=(cd (bC a) HM0.out).1;rw [gX,kq,e2] at h1;omega)
  have hcb:c.length<b.length:=by
   rcases hI2.2.2.2.2.2.2.1 with h|h
   ·exact absurd h Hb0.out
   ·exact h
  have HD3:Hid (X+(an+1)*(X+1)≤7000000):=Hi (by rw [←hal];omega);have han:an≤100000:=by rw [←hal];exact e8
  have hbn:bn≤1000:=zo;have HU3:=Hi u3;have HV3:=Hi v3;obtain ⟨qs,hqs⟩:∃ qs,qs=ps++[bC a,bC b]:=⟨_,rfl⟩;have hql:qs.length=N+1+1:=by rw [hqs];simp;omega
  rw [←hqs] at HC;have HQS:=Hi hqs;have HQL:=Hi hql;have Hps:=Hi hps;have Hbg:=Hi hbg;have Hbl:=Hi hbl;have hcg:c.length<gk:=zo;have hcN:N+1+c.length≤1000:=zo;have HLc:Hid (c.length<a.length∧b.length<fuel-1):=Hi (by
   have h1:=e7;rcases h1 with h|h
   ·exact absurd h Ha.out
   ·omega)
  clear hps hbg hbl hal hml hcb hNb;clear hc hqs hdv hN hI2 e1 e2 e3 e4 e6 e7 e8 e9 u3 v3 hdz hql h0 hf
  go_upto_region 3 with fail
  refine bG [(17,15),(17,16)] _ (by simp only [fx,gR,List.push_toArray,List.cons_append,List.nil_append];exact rfl) (by intro c a d v w h;cases d <;> exact h) 17 (fun opIx=>match opIx with
   | 12=>.spec (SH×SH) ((default,default)) (QT) (fun x w'=>QrP (bC a) (bC b) x w')
   | _=>.quiet) (fun _=>[]) kZ kZ kZ (fun w0 he0 hz0 hc0 hf0=>?_)
  replace he0:=Hi he0;simp only [pT];refine qQ ?_;refine wps he0 (fun w1 hW hG=>?_) fun x40=>?_
  ·exact spc [.slice aa an ac,.slice bao bn bc] Tryz.func134 (pE aa bao an ac bn bc (bC a) (bC b) X X Da Db _ (LA.out.ext hW) (LB.out.ext hW) zo zo e5 e5 u1 u2 v1 v2 HU3.out HV3.out HM0.out (by have:=HD3.out;omega))
  refine qZ ?_;refine aq ?_;intro w14 hI;have hE:=he0.out.trans hI.ext;have G40:=gT (hI.facts 12);clear hI he0 hz0 hc0 hf0;refine mV4 hE ?_ HX HC LA LB;clear HX HC LA LB;intro HX HC LA LB;have hs_w14:=hE.size;simp only [pD];obtain ⟨xq,⟨ra,rn,rc⟩⟩:=x40;have HR1:=Hi G40.out.2.lin;have hrl:=G40.out.2.len;have hrn:rn≤1000:=by have:=HRl.out;simp only at hrl;omega
  clear G40 hrl;simp only [QT] at *
  go_wp2_with fail
  refine cM (aO (-1) _ dZ dZ) fun x50 w50 hE G50=>?_
  refine mV5 hE ?_ HX HC LA LB HR1;clear HX HC LA LB HR1;intro HX HC LA LB HR1;have hs_w50:=hE.size
  go_wp2_with fail
  refine cM (gy ra rn rc (bB (bC a) (bC b)) x50 yI _ (HR1.out.can.raw HRS.out zo) (show aS _ x50 yI from G50.out.raw ph dZ) zo (HRS.out.mono zo) ((show Sz 1 yI from ph).mono zo)) fun x51 w51 hE G51=>?_
  refine mV6 hE ?_ G50 HX HC LA LB HR1;clear G50 HX HC LA LB HR1;intro G50 HX HC LA LB HR1;have hs_w51:=hE.size;obtain ⟨sa,sn,sc⟩:=x51;have hsn:sn≤1000:=by
   have h1:=G51.out.len;have h2:=rP (bB (bC a) (bC b)) yI;have h3:=HRl.out;simp only at h1;omega
  simp only [SH.v]
  go_wp2_with fail
  refine cM (kp sa sn sc (bS (bB (bC a) (bC b)) yI) 7000001 _ G51.out.can zo zo HSS.out) fun x52 w52 hE G52=>?_
  refine mV7 hE ?_ G51 G50 HX HC LA LB HR1;clear G51 G50 HX HC LA LB HR1;intro G51 G50 HX HC LA LB HR1;have hs_w52:=hE.size;rw [HUC.out ()] at G52;have hLr:L<wr.heap.size:=hl1;obtain ⟨bm,hbm,hbm2,hlm⟩:=LIn.oneb (B:=w52.heap.size) G52.out (nXe _);have LM:=Hi hlm;clear hlm;obtain ⟨ma,mn,mc⟩:=x52;simp only [SH.v];clear G51;clear G52;clear G50;clear HR1;clear LA;clear LB
  go_wp2_with (at_builtin;refine fy rfl (.tmp 38) (.tmp 43) 93 Tryz.underlying93 rfl w.heap.size L (.slice (some ⟨L,0,none⟩) (N+1+1:Nat) cap) qs ⟨ma,mn,mc⟩ (bC c) bm rfl HC.out LM.out zo zo rfl (by rw [HQL.out];omega) ?_;intro L2 cap2 y1 q1 q2 q3 q4)
  have HX2:=Hi (q2.ext HX.out zo);have HC2:=Hi q1;have hL2:w.heap.size≤L2:=zo;clear q1 q2 q3 q4 HX HC;obtain ⟨f2,rfl⟩:∃ f2,fuel=f2+1:=⟨fuel-1,zo⟩;go_wp2
  go_roundg c.length
  case measure=>exact hcg
  case rel =>
   have hl:qs.length+1=N+1+1+1:=by rw [HQL.out]
   refine ⟨HX2.out,N+1,cap2,L2,f2,X2,ps++[bC a],b,c,?_,rfl,hL2,?_,?_,hcN,HNX.out,Hb0.out,?_,?_,?_⟩
   ·first|(rw [←hl];rfl)|simp [HQL.out]
   ·have h:=HC2.out;rw [hl,HQS.out] at h;rw [List.append_assoc] at h ⊢;exact h
   ·rw [nXi,Hps.out];rfl
   ·have:=HLc.out.2;omega
   ·have h:=HE.out;rw [dS Ha.out Hb0.out,←HCc.out,List.map_cons] at h;rw [List.append_assoc];exact h
   ·exact ChM.max HC2.out
end Go.Proofs.YtafgmcimcbhhjaaGreat
