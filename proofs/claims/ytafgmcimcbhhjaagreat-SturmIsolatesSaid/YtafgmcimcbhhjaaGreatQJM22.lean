import Derived.Test.YtafgmcimcbhhjaaGreatQJK1
set_option linter.unusedVariables false
namespace Go.Proofs.YtafgmcimcbhhjaaGreat
open Go.RowKit Go.Front Go.Num
theorem au.wk{f:FuncId}{args:List Value}{w:World}{α:Type}{mk:α→Value}{φ ψ:α→World→Prop}(h:au f args w mk φ)(hi:∀ x w',Ext w w'→φ x w'→ψ x w'):au f args w mk ψ:=by
 refine Calls.mono h ?_;rintro e w' ⟨x,rfl,h1,h2⟩;exact ⟨x,rfl,h1,hi x w' h1 h2⟩
open Stab
def Bd(n:Nat)(s:Nat→Rat):Prop:=∀ i,n≤i→s i=0
theorem bh{l:List Rat}{i:Nat}(h:l.length≤i):l.getD i 0=0:=by
 rw [nXd,List.getElem?_eq_none h];rfl
theorem Bd.seq(l:List Rat):Bd l.length (seq l):=fun i h=>bh h
theorem Bd.mono{n m:Nat}{s:Nat→Rat}(h:Bd n s)(hm:n≤m):Bd m s:=fun i hi=>h i zo
theorem nS{n k:Nat}{f:Nat→Rat}(hk:k<n)(h:∀ i,i<n→i≠k→f i=0):sm n f=f k:=by
 induction n with
 | zero=>omega
 | succ n ih =>
  show sm n f+f n=_;by_cases hkn:k=n
  ·subst hkn;rw [sm_congr (g:=fun _=>0) (fun i hi=>h i zo zo),sm_zero];grind
  ·rw [ih zo (fun i hi hne=>h i zo hne),h n zo (Ne.symm hkn)];grind
theorem oF{a b:Nat}{s u:Nat→Rat}(hs:Bd (a+1) s)(hu:Bd (b+1) u):cv s u (a+b)=s a*u b:=by
 unfold cv;rw [nS (k:=a) zo,show a+b-a=b by omega];intro i hi hne;rcases Nat.lt_or_ge i a with h|h
 ·rw [hu (a+b-i) zo];grind
 ·rw [hs i zo];grind
theorem DX{a b:Nat}{s u:Nat→Rat}(hs:Bd a s)(hu:Bd b u):Bd (a+b) (cv s u):=by
 intro n hn;unfold cv;rw [sm_congr (g:=fun _=>0),sm_zero];intro i hi;rcases Nat.lt_or_ge i a with h|h
 ·rw [hu (n-i) zo];grind
 ·rw [hs i h];grind
theorem nf(u:Nat→Rat)(n:Nat):cv (fun _=>0) u n=0:=by
 unfold cv;rw [sm_congr (g:=fun _=>0) (fun i _=>by grind),sm_zero]
theorem xO{q:List Rat}{m:Nat}(hq:q.length=m+1)(h0:q.getD m 0≠0){r:Nat→Rat}(hr:Bd m r):∀ (N:Nat) (d:Nat→Rat),Bd N d→(∀ n,cv d (seq q) n+r n=0)→(∀ n,d n=0)∧∀ n,r n=0:=by
 intro N;induction N with
 | zero =>
  intro d hd h;have hd0:d=fun _=>0:=funext fun n=>hd n (Nat.zero_le _)
  refine ⟨fun n=>by rw [hd0],fun n=>?_⟩;have:=h n;rw [hd0,nf] at this;grind
 | succ N ih =>
  intro d hd h;have h1:=h (N+m);rw [oF hd (by rw [←hq];exact Bd.seq q),hr (N+m) zo] at h1;have h2:d N=0:=by
   have h3:d N*q.getD m 0=0:=by
    show d N*seq q m=0;grind
   rcases nXr.1 h3 with h4|h4
   ·exact h4
   ·exact absurd h4 h0
  exact ih d (fun i hi=>by
   rcases Nat.eq_or_lt_of_le hi with h3|h3
   ·rw [←h3];exact h2
   ·exact hd i h3) h
def aJ(q:List Rat):Rat:=q.getD (q.length-1) 0
def dC(p q:List Rat):List Rat:=tz ((List.range (p.length-1)).map fun i=>p.getD i 0-if p.length-q.length≤i then aJ p / aJ q*q.getD (i-(p.length-q.length)) 0 else 0)
theorem fT(p q:List Rat):(dC p q).length≤p.length-1:=by
 unfold dC;refine nXf (ah _) ?_;simp
theorem mI(p q:List Rat):tz (dC p q)=dC p q:=aM _
theorem cG(n i:Nat)(f:Nat→Rat):((List.range n).map f).getD i 0=if i<n then f i else 0:=by
 by_cases h:i<n
 ·rw [if_pos h];simp [h]
 ·rw [if_neg h];simp [show n≤i by omega]
theorem cm{a b:Rat}(h:b≠0):a / b*b=a:=Rat.div_mul_cancel h
theorem wB{p q:List Rat}(hq:0<q.length)(hpq:q.length≤p.length)(h0:aJ q≠0)(i:Nat):seq (dC p q) i=seq p i-aJ p / aJ q*shn (p.length-q.length) (seq q) i:=by
 unfold dC seq shn;rw [bp,cG];by_cases h1:i<p.length-1
 ·rw [if_pos h1];split
  ·rfl
  ·grind
 ·rw [if_neg h1];by_cases h2:i=p.length-1
  ·rw [h2,if_pos zo,show p.length-1-(p.length-q.length)=q.length-1 by omega];have:=cm (a:=aJ p) h0;unfold aJ at *
   grind
  ·rw [bh (l:=p) zo];split
   ·show (0:Rat)=0-aJ p / aJ q*q.getD (i-(p.length-q.length)) 0;rw [bh zo];grind
   ·omega
theorem vh(k:Nat)(c:Rat)(u:Nat→Rat)(n:Nat):cv (fun i=>if i=k then c else 0) u n=c*shn k u n:=by
 unfold cv shn;by_cases h:k≤n
 ·rw [nS (k:=k) zo (fun i _ hi=>by show (if i=k then c else 0)*_=0;rw [if_neg hi];grind),if_pos h];show (if k=k then c else 0)*_=_;rw [if_pos rfl]
 ·rw [if_neg h,sm_congr (g:=fun _=>0) (fun i hi=>by show (if i=k then c else 0)*_=0;rw [if_neg zo];grind),sm_zero];grind
def jL(q:List Rat):Nat→List Rat→List Rat→List Rat×List Rat
 | 0,u,p=>(u,p)
 | f+1,u,p=>if q.length≤p.length then jL q f (u.set (p.length-q.length) (aJ p / aJ q)) (dC p q) else (u,p)
theorem yD{l:List Rat}{k:Nat}{x:Rat}(h:k<l.length)(h0:l.getD k 0=0):seq (l.set k x)=fun n=>seq l n+(if n=k then x else 0):=by
 funext n
 unfold seq;by_cases hn:n=k
 ·subst hn;rw [if_pos rfl,show (l.set n x).getD n 0=x by simp [h],h0];grind
 ·rw [if_neg hn,show (l.set k x).getD n 0=l.getD n 0 by simp [Ne.symm hn]];grind
theorem uT{q:List Rat}(hq:0<q.length)(h0:aJ q≠0):∀ (f:Nat) (u p:List Rat),p.length≤f→p.length≤u.length+q.length-1→(∀ i,i+q.length≤p.length→u.getD i 0=0)→tz p=p →
  (jL q f u p).2.length<q.length∧tz (jL q f u p).2=(jL q f u p).2∧(jL q f u p).1.length=u.length∧∀ n,cv (seq u) (seq q) n+seq p n=cv (seq (jL q f u p).1) (seq q) n+seq (jL q f u p).2 n:=by
 intro f;induction f with
 | zero =>
  intro u p hf hu hz ht;exact ⟨by show p.length<_;omega,ht,rfl,fun n=>rfl⟩
 | succ f ih =>
  intro u p hf hu hz ht;rw [show jL q (f+1) u p=if q.length≤p.length then jL q f (u.set (p.length-q.length) (aJ p / aJ q)) (dC p q) else (u,p) from rfl];by_cases h:q.length≤p.length
  ·rw [if_pos h];have hl:=fT p q;obtain ⟨g1,g2,g3,g4⟩:=ih (u.set (p.length-q.length) (aJ p / aJ q)) (dC p q) zo (by rw [nXo];omega) (fun i hi=>by
    rw [show (u.set (p.length-q.length) (aJ p / aJ q)).getD i 0=u.getD i 0 by simp [show p.length-q.length≠i by omega]];exact hz i zo) (mI p q)
   refine ⟨g1,g2,by rw [g3,nXo],fun n=>?_⟩;rw [←g4 n,yD zo (hz _ zo),oG];show _=cv (seq u) (seq q) n+cv (fun n=>if n=p.length-q.length then aJ p / aJ q else 0) (seq q) n+seq (dC p q) n;rw [vh,wB hq h h0];grind
  ·rw [if_neg h];exact ⟨by show p.length<_;omega,ht,rfl,fun n=>rfl⟩
def bD(p q:List Rat):List Rat:=tz (jL (tz q) (tz p).length (List.replicate ((tz p).length+1-(tz q).length) 0) (tz p)).1
def bB(p q:List Rat):List Rat:=(jL (tz q) (tz p).length (List.replicate ((tz p).length+1-(tz q).length) 0) (tz p)).2
theorem iM{l:List Rat}{n:Nat}(h:(tz l).length=n+1):l.getD n 0≠0:=by
 intro h0;have h3:(tz l).getD n 0=0:=by rw [bp,h0]
 have h4:tz ((tz l).take (n+1))=tz ((tz l).take n):=ju zo h3;rw [←h,List.take_length,aM] at h4;have h5:=ah ((tz l).take n);rw [←h4,nXk] at h5;omega
theorem bT{q:List Rat}(h:tz q≠[]):aJ (tz q)≠0:=by
 obtain ⟨n,hn⟩:∃ n,(tz q).length=n+1:=⟨(tz q).length-1,by have:=nYg.2 h;omega⟩;unfold aJ;rw [hn,Nat.add_sub_cancel,bp];exact iM hn
theorem aT(l:List Rat):seq (tz l)=seq l:=funext fun n=>bp l n
theorem mK(n i:Nat):(List.replicate n (0:Rat)).getD i 0=0:=by
 rcases Nat.lt_or_ge i n with h|h
 ·simp [h]
 ·rw [bh (by simp;omega)]
theorem ti(n:Nat):seq (List.replicate n (0:Rat))=fun _=>0:=funext fun i=>mK n i
theorem cd(p:List Rat){q:List Rat}(h:tz q≠[]):(bB p q).length<(tz q).length∧tz (bB p q)=bB p q∧tz (bD p q)=bD p q∧∀ n,seq p n=cv (seq (bD p q)) (seq q) n+seq (bB p q) n:=by
 have hq:=nYg.2 h;obtain ⟨g1,g2,g3,g4⟩:=uT hq (bT h) (tz p).length (List.replicate ((tz p).length+1-(tz q).length) 0) (tz p) (nXe _) (by rw [nXw];omega) (fun i _=>mK _ _) (aM p);refine ⟨g1,g2,aM _,fun n=>?_⟩;have:=g4 n;rw [ti,nf,aT,aT] at this;unfold bD bB;rw [aT,←this];grind
theorem gK{p q:List Rat}(h:tz q≠[]){s r:Nat→Rat}{F:Rat}{N:Nat}(hs:Bd N s)(hr:Bd ((tz q).length-1) r)(he:∀ n,F*seq p n=cv s (seq q) n+r n) :
  (∀ n,s n=F*seq (bD p q) n)∧∀ n,r n=F*seq (bB p q) n:=by
 obtain ⟨g1,g2,g3,g4⟩:=cd p h;have hq:=nYg.2 h;have h1:=xO (q:=tz q) (m:=(tz q).length-1) zo (bT h) (r:=fun n=>r n+(-F)*seq (bB p q) n)
  (fun i hi=>by show r i+(-F)*seq (bB p q) i=0;rw [hr i hi,Bd.seq (bB p q) i zo];grind) (max N (bD p q).length) (fun n=>s n+(-F)*seq (bD p q) n)
  (fun i hi=>by show s i+(-F)*seq (bD p q) i=0;rw [hs i zo,Bd.seq (bD p q) i zo];grind) (fun n=>by
   rw [oG,fF,aT];have e1:=he n;have e2:=g4 n;rw [e2] at e1;grind)
 exact ⟨fun n=>by have:=h1.1 n;grind,fun n=>by have:=h1.2 n;grind⟩
theorem jR{a b:List Rat}(h:∀ i,seq a i=seq b i):tz a=tz b:=by
 have hl:∀ a b:List Rat,(∀ i,a.getD i 0=b.getD i 0)→(tz a).length≤(tz b).length:=by
  intro a b h;rcases Nat.lt_or_ge (tz b).length (tz a).length with h1|h1
  ·exfalso;obtain ⟨n,hn⟩:∃ n,(tz a).length=n+1:=⟨(tz a).length-1,zo⟩;have h2:(tz a).getD n 0=0:=by
    rw [oT zo,h n,sN zo]
   have h3:=aM a;have h4:tz ((tz a).take (n+1))=tz ((tz a).take n):=ju zo h2;rw [←hn,List.take_length,h3] at h4;have h5:=ah ((tz a).take n);rw [←h4,nXk] at h5;omega
  ·exact h1
 apply getD_ext
 ·exact Nat.le_antisymm (hl a b h) (hl b a (fun i=>(h i).symm))
 ·intro i _;rw [bp,bp];exact h i
def bq(p:List Rat):List Rat:=if tz p=[] then [] else tz ((tz p).map (·*(((1:Int):Rat) / aJ (tz p))))
def Pr(a p:List Rat):Prop:=∃ c:Rat,c≠0∧∀ n,seq a n=c*seq p n
theorem Pr.refl(p:List Rat):Pr p p:=⟨1,dZ,fun n=>by grind⟩
theorem Pr.symm{a p:List Rat}(h:Pr a p):Pr p a:=by
 obtain ⟨c,h1,h2⟩:=h;refine ⟨c⁻¹,fun h=>h1 (by rw [←Rat.inv_inv c,h,Rat.inv_zero]),fun n=>?_⟩;have:=nYj c h1;rw [h2 n];grind
theorem Pr.trans{a b c:List Rat}(h:Pr a b)(k:Pr b c):Pr a c:=by
 obtain ⟨x,h1,h2⟩:=h;obtain ⟨y,k1,k2⟩:=k;refine ⟨x*y,fun h=>?_,fun n=>by rw [h2,k2];grind⟩;rcases nXr.1 h with h3|h3
 ·exact h1 h3
 ·exact k1 h3
theorem kN{c:Rat}(hc:c≠0)(l:List Rat):tz (l.map (·*c))=(tz l).map (·*c):=by
 induction l using snoc_ind with
 | h0=>rfl
 | h1 l r ih =>
  by_cases hr:r=0
  ·subst hr;rw [List.map_append,List.map_cons,List.map_nil,nYa,ez,ez,ih]
  ·have h2:r*c≠0:=fun h=>by
    rcases nXr.1 h with h3|h3
    ·exact hr h3
    ·exact hc h3
   rw [List.map_append,List.map_cons,List.map_nil,fM _ h2,fM _ hr,List.map_append,List.map_cons,List.map_nil]
theorem aQ(l:List Rat)(c:Rat)(n:Nat):seq (l.map (·*c)) n=seq l n*c:=by
 unfold seq;rcases Nat.lt_or_ge n l.length with h|h
 ·simp [h]
 ·rw [bh (by simpa using h),bh h];grind
theorem Pr.eq{a p:List Rat}(h:Pr a p):∃ c:Rat,c≠0∧tz a=(tz p).map (·*c):=by
 obtain ⟨c,h1,h2⟩:=h;refine ⟨c,h1,?_⟩;rw [←kN h1];exact jR fun n=>by rw [aQ,h2 n];grind
theorem Pr.len{a p:List Rat}(h:Pr a p):(tz a).length=(tz p).length:=by
 obtain ⟨c,h1,h2⟩:=h.eq;rw [h2,nXl]
theorem Pr.nil{a p:List Rat}(h:Pr a p):tz a=[]↔tz p=[]:=by
 rw [←nXj,←nXj,h.len]
theorem yM{c:Rat}(h:c≠0):((1:Int):Rat) / c≠0:=by
 rw [Rat.div_def,show ((1:Int):Rat)=1 from rfl,Rat.one_mul];intro h1;exact h (by rw [←Rat.inv_inv c,h1,Rat.inv_zero])
theorem jH{p:List Rat}(h:tz p≠[]):bq p=(tz p).map (·*(((1:Int):Rat) / aJ (tz p))):=by
 unfold bq;rw [if_neg h,kN (yM (bT h)),aM]
theorem eI(p:List Rat):Pr (bq p) p:=by
 by_cases h:tz p=[]
 ·refine ⟨1,dZ,fun n=>?_⟩;unfold bq;rw [if_pos h,←aT p,h];grind
 ·rw [jH h];exact ⟨_,yM (bT h),fun n=>by rw [aQ,aT];grind⟩
theorem Pr.mon{a p:List Rat}(h:Pr a p):bq a=bq p:=by
 by_cases h0:tz p=[]
 ·unfold bq;rw [if_pos h0,if_pos (h.nil.2 h0)]
 ·have h1:tz a≠[]:=fun h2=>h0 (h.nil.1 h2)
  rw [jH h0,jH h1];obtain ⟨c,hc,he⟩:=h.eq;have hp:=nYg.2 h0;have hl:aJ (tz a)=aJ (tz p)*c:=by
   unfold aJ;rw [he,nXl];exact aQ (tz p) c ((tz p).length-1)
  have hlp:=bT h0;rw [hl,he,List.map_map];apply List.map_congr_left;intro x _;show x*c*(((1:Int):Rat) / (aJ (tz p)*c))=x*(((1:Int):Rat) / aJ (tz p));have e1:=nYj _ hlp;have e2:=nYj _ hc;rw [Rat.div_def,Rat.div_def,Rat.inv_mul_rev];grind
theorem j7(p:List Rat):bq (bq p)=bq p:=(eI p).mon
theorem dI(p:List Rat):tz (bq p)=bq p:=by
 unfold bq;split
 ·rfl
 ·exact aM _
theorem cH(p:List Rat):(bq p).length=(tz p).length:=by rw [←dI,(eI p).len]
theorem kF{a b p q:List Rat}(h:Pr a p)(k:Pr b q)(h0:tz q≠[]):Pr (bB a b) (bB p q):=by
 obtain ⟨x,h1,h2⟩:=h;obtain ⟨y,k1,k2⟩:=id k;have hb:tz b≠[]:=fun h3=>h0 (k.nil.1 h3)
 obtain ⟨g1,g2,g3,g4⟩:=cd a hb;have h3:=gK (p:=p) h0 (s:=fun n=>y*seq (bD a b) n) (r:=seq (bB a b)) (F:=x) (N:=(bD a b).length)
  (fun i hi=>by show y*seq (bD a b) i=0;rw [Bd.seq _ i hi];grind) (fun i hi=>Bd.seq _ i (by rw [k.len] at g1;omega)) (fun n=>by
   rw [←h2 n,g4 n,fF,show seq b=fun n=>y*seq q n from funext k2,gi (seq (bD a b)),fF,gi])
 exact ⟨x,h1,h3.2⟩
theorem mJ{p q:List Rat}(h0:tz q≠[]){s:Nat→Rat}{R:List Rat}{F:Rat}{N:Nat}(hF:F≠0)(hs:Bd N s)(hr:R.length<(tz q).length)(he:∀ n,F*seq p n=cv s (seq q) n+seq R n):Pr R (bB p q) :=
 ⟨F,hF,(gK h0 hs (fun i hi=>Bd.seq R i zo) he).2⟩
def ov:Nat→List Rat→List Rat→List Rat
 | 0,p,_=>p
 | f+1,p,q=>if q=[] then p else ov f q (bq (bB p q))
def bN(p q:List Rat):List Rat:=ov (tz q).length (bq p) (bq q)
theorem gI(f:Nat)(p:List Rat):ov f p []=p:=by cases f <;> simp [ov]
theorem f4{f:Nat}{p q:List Rat}(h:q≠[]):ov (f+1) p q=ov f q (bq (bB p q)):=by
 show (if q=[] then p else ov f q (bq (bB p q)))=_;rw [if_neg h]
theorem uF:∀ (f g:Nat) (p q:List Rat),tz q=q→q.length≤f→q.length≤g→ov f p q=ov g p q:=by
 intro f;induction f with
 | zero =>
  intro g p q _ h _;obtain rfl:q=[]:=nXj.1 zo;rw [gI,gI]
 | succ f ih =>
  intro g p q ht h hg;by_cases h0:q=[]
  ·subst h0;rw [gI,gI]
  ·have hq:=nYg.2 h0;obtain ⟨g',rfl⟩:∃ g',g=g'+1:=⟨g-1,zo⟩;have h1:=(cd p (q:=q) (by rw [ht];exact h0)).1;rw [ht] at h1;have h2:=cH (bB p q);have h3:=ah (bB p q);rw [f4 h0,f4 h0];exact ih g' q _ (dI _) zo zo
def Wh(q:Rat):Prop:=q.den=1
theorem Wh.eq{q:Rat}(h:Wh q):q=(q.num:Rat):=by
 apply Rat.ext
 ·rw [Rat.num_intCast]
 ·rw [Rat.den_intCast];exact h
theorem Wh.int(z:Int):Wh (z:Rat):=Rat.den_intCast z
theorem Wh.iff{q:Rat}:Wh q↔∃ z:Int,q=(z:Rat):=⟨fun h=>⟨_,h.eq⟩,fun ⟨z,h⟩=>h ▸ Wh.int z⟩
theorem Wh.add{a b:Rat}(h:Wh a)(k:Wh b):Wh (a+b):=by rw [h.eq,k.eq,←Rat.intCast_add];exact Wh.int _
theorem Wh.mul{a b:Rat}(h:Wh a)(k:Wh b):Wh (a*b):=by rw [h.eq,k.eq,←Rat.intCast_mul];exact Wh.int _
theorem Wh.neg{a:Rat}(h:Wh a):Wh (-a):=by rw [h.eq,←Rat.intCast_neg];exact Wh.int _
theorem Wh.zero:Wh 0:=rfl
theorem low(q:Rat):q*(q.den:Rat)=(q.num:Rat):=by
 have h:((q.den:Nat):Rat)≠0:=by
  intro h;have:=Rat.natCast_eq_zero_iff.1 h;exact q.den_nz this
 have e:q=(q.num:Rat) / ((q.den:Nat):Rat):=by
  rw [show ((q.num:Rat) / ((q.den:Nat):Rat))=mkRat q.num q.den by rw [Rat.mkRat_eq_div],Rat.mkRat_self]
 have:=cm (a:=(q.num:Rat)) h;rw [←e] at this;exact this
theorem lX{q:Rat}(h:q≠0):(q.num:Rat)≠0:=by
 intro h1;exact h (Rat.num_eq_zero.1 (Rat.intCast_eq_zero_iff.1 h1))
def fH(a b:Rat):Rat:=if a=0 then b.abs else if b=0 then a else (a / ((a / b).num:Rat)).abs
theorem A2{q:Rat}(h:q≠0):q.abs≠0:=by
 unfold Rat.abs;split
 ·exact h
 ·intro h1;exact h (by rw [←Rat.neg_neg (a:=q),h1];rfl)
theorem vD{q:Rat}(h:q≠0):0<q.abs:=by
 have h1:=A2 h;have h2:0≤q.abs:=by
  unfold Rat.abs;split
  ·assumption
  ·grind
 exact Rat.lt_of_le_of_ne h2 (Ne.symm h1)
theorem vF(q:Rat):q.abs=q∨q.abs=-q:=by
 unfold Rat.abs;split
 ·exact Or.inl rfl
 ·exact Or.inr rfl
def Mu(g b:Rat):Prop:=∃ z:Rat,Wh z∧b=z*g
theorem Mu.trans{g h b:Rat}(x:Mu g h)(y:Mu h b):Mu g b:=by
 obtain ⟨z,h1,rfl⟩:=x;obtain ⟨t,h2,rfl⟩:=y;exact ⟨t*z,h2.mul h1,by grind⟩
theorem Mu.abs{g b:Rat}(h:Mu g b):Mu g.abs b:=by
 obtain ⟨z,h1,h2⟩:=h;rcases vF g with e|e
 ·exact ⟨z,h1,by rw [e];exact h2⟩
 ·exact ⟨-z,h1.neg,by rw [e,h2];grind⟩
theorem Mu.self(g:Rat):Mu g g:=⟨1,rfl,by grind⟩
theorem Mu.zero(g:Rat):Mu g 0:=⟨0,rfl,by grind⟩
theorem Mu.div{g b:Rat}(h:Mu g b)(h0:g≠0):Wh (b / g):=by
 obtain ⟨z,h1,rfl⟩:=h;have:=nYj _ h0;rw [Rat.div_def,nYd,this,Rat.mul_one];exact h1
theorem CD(a b:Rat):Mu (fH a b) a∧Mu (fH a b) b:=by
 unfold fH;by_cases ha:a=0
 ·rw [if_pos ha];exact ⟨by rw [ha];exact Mu.zero _,(Mu.self b).abs⟩
 ·rw [if_neg ha];by_cases hb:b=0
  ·rw [if_pos hb];exact ⟨Mu.self a,by rw [hb];exact Mu.zero _⟩
  ·rw [if_neg hb];have hq:a / b≠0:=by
    intro h;have:=cm (a:=a) hb;rw [h] at this;exact ha (by rw [←this];grind)
   have hN:=lX hq;have e1:=low (a / b);have e2:=cm (a:=a) hb;have e3:=cm (a:=a) hN;refine ⟨Mu.abs ⟨_,Wh.int (a / b).num,?_⟩,Mu.abs ⟨_,Wh.int ((a / b).den:Int),?_⟩⟩
   ·rw [nYc];exact e3.symm
   ·have e4:(((a / b).den:Int):Rat)=((a / b).den:Rat):=rfl;rw [e4];have h5:((a / b).num:Rat)*(((a / b).den:Rat)*(a / ((a / b).num:Rat)))=((a / b).num:Rat)*b:=by
     have:((a / b).num:Rat)*b=a*((a / b).den:Rat):=by
      rw [←e1];have:a / b*((a / b).den:Rat)*b=(a / b*b)*((a / b).den:Rat):=by grind
      rw [this,e2]
     rw [this];have:((a / b).num:Rat)*(((a / b).den:Rat)*(a / ((a / b).num:Rat)))=(a / ((a / b).num:Rat)*((a / b).num:Rat))*((a / b).den:Rat):=by grind
     rw [this,e3]
    have h6:=nYj _ hN;have h7:∀ x:Rat,x=((a / b).num:Rat)⁻¹*(((a / b).num:Rat)*x):=fun x=>by
     rw [←nYd,nYc _ ((a / b).num:Rat),h6,Rat.one_mul]
    exact (h7 b).trans (by rw [←h5,←h7])
theorem AK{a b:Rat}(ha:0≤a)(h:a≠0∨b≠0):0<fH a b:=by
 unfold fH;by_cases h0:a=0
 ·rw [if_pos h0];exact vD (h.resolve_left (fun h1=>h1 h0))
 ·rw [if_neg h0];by_cases hb:b=0
  ·rw [if_pos hb];exact Rat.lt_of_le_of_ne ha (Ne.symm h0)
  ·rw [if_neg hb];apply vD;intro h1;have hq:a / b≠0:=by
    intro h;have:=cm (a:=a) hb;rw [h] at this;exact h0 (by rw [←this];grind)
   have e3:=cm (a:=a) (lX hq);rw [h1] at e3;exact h0 (by rw [←e3];grind)
theorem rk:fH 0 0=0:=by unfold fH;rw [if_pos rfl];rfl
def bj(l:List Rat):Rat:=l.foldl fH 0
theorem ep(l:List Rat)(x:Rat):bj (l++[x])=fH (bj l) x:=by
 unfold bj;rw [List.foldl_append];rfl
theorem nY(l:List Rat):(0≤bj l)∧(∀ x ∈ l,Mu (bj l) x)∧((∃ x ∈ l,x≠0)→0<bj l):=by
 induction l using snoc_ind with
 | h0=>exact ⟨Rat.le_refl,fun x hx=>by simp at hx,fun ⟨x,hx,_⟩=>by simp at hx⟩
 | h1 l r ih =>
  obtain ⟨h1,h2,h3⟩:=ih;rw [ep];obtain ⟨m1,m2⟩:=CD (bj l) r;have hp:(bj l≠0∨r≠0)→0<fH (bj l) r:=AK h1;refine ⟨?_,fun x hx=>?_,fun ⟨x,hx,hx0⟩=>?_⟩
  ·by_cases h:bj l≠0∨r≠0
   ·exact Rat.le_of_lt (hp h)
   ·have e1:bj l=0:=Decidable.byContradiction fun h4=>h (Or.inl h4)
    have e2:r=0:=Decidable.byContradiction fun h4=>h (Or.inr h4)
    rw [e1,e2,rk];exact Rat.le_refl
  ·rcases List.mem_append.1 hx with hx|hx
   ·exact m1.trans (h2 x hx)
   ·obtain rfl:x=r:=by simpa using hx
    exact m2
  ·refine hp ?_;rcases List.mem_append.1 hx with hx|hx
   ·left
    have:=h3 ⟨x,hx,hx0⟩;exact fun h=>by rw [h] at this;exact absurd this (Rat.lt_irrefl)
   ·obtain rfl:x=r:=by simpa using hx
    exact Or.inr hx0
def aK(p:List Rat):Rat:=bj (tz p)
def ar(p:List Rat):List Rat:=(tz p).map (· / aK p)
theorem oW{p:List Rat}(h:tz p=[]):aK p=0∧ar p=[]:=by
 unfold ar aK;rw [h];exact ⟨rfl,rfl⟩
theorem aZ{p:List Rat}(h:tz p≠[]):0<aK p:=by
 refine (nY (tz p)).2.2 ⟨aJ (tz p),?_,bT h⟩;have:=nYg.2 h;unfold aJ;rw [show (tz p).getD ((tz p).length-1) 0=(tz p)[(tz p).length-1] by simp [show (tz p).length-1<(tz p).length by omega]];exact List.getElem_mem _
theorem aC(p:List Rat):(ar p).length=(tz p).length:=by unfold ar;rw [nXl]
theorem yq(p:List Rat):∀ x ∈ ar p,Wh x:=by
 intro x hx;obtain ⟨y,hy,rfl⟩:=nYf.1 hx;have h:tz p≠[]:=fun h=>by rw [h] at hy;simp at hy
 have hp:=aZ h;exact ((nY (tz p)).2.1 y hy).div (fun h0=>by unfold aK at hp;rw [h0] at hp;exact absurd hp Rat.lt_irrefl)
theorem cS(p:List Rat)(n:Nat):seq p n=aK p*seq (ar p) n:=by
 by_cases h:tz p=[]
 ·rw [(oW h).1,←aT p,h];show (0:Rat)=0*_;grind
 ·have hp:=aZ h;have h0:aK p≠0:=fun h0=>by rw [h0] at hp;exact absurd hp Rat.lt_irrefl
  have e:ar p=(tz p).map (·*(aK p)⁻¹):=by
   unfold ar;apply List.map_congr_left;intro x _;rw [Rat.div_def]
  rw [e,aQ,aT];have:=nYj _ h0;grind
theorem aX(p:List Rat):tz (ar p)=ar p:=by
 by_cases h:tz p=[]
 ·rw [(oW h).2];rfl
 ·have hp:=aZ h;have h0:aK p≠0:=fun h0=>by rw [h0] at hp;exact absurd hp Rat.lt_irrefl
  have e:ar p=(tz p).map (·*(aK p)⁻¹):=by
   unfold ar;apply List.map_congr_left;intro x _;rw [Rat.div_def]
  rw [e,kN (fun h1=>h0 (by rw [←Rat.inv_inv (aK p),h1,Rat.inv_zero])),aM]
theorem iT(p:List Rat):Pr (ar p) p:=by
 by_cases h:tz p=[]
 ·rw [(oW h).2];exact ⟨1,dZ,fun n=>by rw [←aT p,h];grind⟩
 ·have hp:=aZ h;have h0:aK p≠0:=fun h0=>by rw [h0] at hp;exact absurd hp Rat.lt_irrefl
  exact Pr.symm ⟨_,h0,cS p⟩
theorem Wh.castdiv{q:Rat}{D:Nat}(hD:0<D)(h:Wh (q*(D:Rat))):q=mkRat (q*(D:Rat)).num D:=by
 have h0:(D:Rat)≠0:=fun h=>by
  have:D=0:=by exact_mod_cast h
  omega
 have h1:=h.eq;have h2:=nYj _ h0;rw [Rat.mkRat_eq_div,←h1,Rat.div_def,nYd];exact (by rw [h2,Rat.mul_one]:q=q*((D:Rat)*(D:Rat)⁻¹))
def Fr(S D:Nat)(q:Rat):Prop:=Wh (q*(D:Rat))∧(q*(D:Rat)).num.natAbs<W32 ^ S
theorem Fr.sz{S D:Nat}{q:Rat}(h:Fr S D q)(hS:1≤S)(hD:0<D)(hl:D<W32 ^ S):Sz S q:=by
 rw [h.1.castdiv hD];exact Sz.mk hS h.2 hl
theorem Fr.neg{S D:Nat}{q:Rat}(h:Fr S D q):Fr S D (-q):=by
 unfold Fr;rw [Rat.neg_mul,Rat.neg_num,Int.natAbs_neg];exact ⟨h.1.neg,h.2⟩
theorem Fr.abs{S D:Nat}{q:Rat}(h:Fr S D q):Fr S D q.abs:=by
 rcases vF q with e|e <;> rw [e]
 ·exact h
 ·exact h.neg
theorem Fr.zero(S D:Nat):Fr S D 0:=by
 unfold Fr;rw [nYa];exact ⟨rfl,nYm ay⟩
theorem Fr.int{S:Nat}{z:Int}(h:z.natAbs<W32 ^ S){q:Rat}{D:Nat}(hq:q*(D:Rat)=(z:Rat)):Fr S D q:=by
 unfold Fr;rw [hq,Rat.num_intCast];exact ⟨Wh.int z,h⟩
theorem tP{a b:Rat}(hb:b≠0){A B:Int}{D:Rat}(hA:a*D=(A:Rat))(hB:b*D=(B:Rat)):∃ t:Int,A=(a / b).num*t:=by
 have e1:=low (a / b);have e2:=cm (a:=a) hb;have e3:A*((a / b).den:Int)=(a / b).num*B:=by
  have:((A*((a / b).den:Int):Int):Rat)=(((a / b).num*B:Int):Rat):=by
   rw [Rat.intCast_mul,Rat.intCast_mul,←hA,←hB,←e1,show (((a / b).den:Int):Rat)=((a / b).den:Rat) from rfl];have:a / b*((a / b).den:Rat)*(b*D)=(a / b*b)*D*((a / b).den:Rat):=by grind
   rw [this,e2]
  exact Rat.intCast_inj.1 this
 have hc:(a / b).num.natAbs.Coprime (a / b).den:=(a / b).reduced;have h4:(a / b).num.natAbs ∣ A.natAbs*(a / b).den:=by
  have:=congrArg Int.natAbs e3;rw [Int.natAbs_mul,Int.natAbs_mul,nYh] at this;rw [this];exact Nat.dvd_mul_right _ _
 have h5:=hc.dvd_of_dvd_mul_right h4;obtain ⟨t,ht⟩:=Int.natAbs_dvd_natAbs.1 h5;exact ⟨t,ht⟩
theorem fk{x t:Int}(h:x*t≠0):t.natAbs≤(x*t).natAbs∧x.natAbs≤(x*t).natAbs:=by
 rw [Int.natAbs_mul];have hx:0<x.natAbs:=Nat.pos_of_ne_zero fun h1=>h (by rw [Int.natAbs_eq_zero.1 h1,Int.zero_mul])
 have ht:0<t.natAbs:=Nat.pos_of_ne_zero fun h1=>h (by rw [Int.natAbs_eq_zero.1 h1,Int.mul_zero])
 exact ⟨Nat.le_mul_of_pos_left _ hx,Nat.le_mul_of_pos_right _ ht⟩
theorem CE{S D:Nat}{a b:Rat}(ha:Fr S D a)(hb:Fr S D b):Fr S D (fH a b):=by
 unfold fH;by_cases h0:a=0
 ·rw [if_pos h0];exact hb.abs
 ·rw [if_neg h0];by_cases h1:b=0
  ·rw [if_pos h1];exact ha
  ·rw [if_neg h1];apply Fr.abs;have hq:a / b≠0:=by
    intro h;have:=cm (a:=a) h1;rw [h] at this;exact h0 (by rw [←this];grind)
   have hN:=lX hq;obtain ⟨t,ht⟩:=tP h1 ha.1.eq hb.1.eq;have e3:=cm (a:=a) hN;have e4:=ha.1.eq;have h6:=nYj _ hN;have e5:a / ((a / b).num:Rat)*(D:Rat)=(t:Rat):=by
    have h8:a*(D:Rat)=((a / b).num:Rat)*(t:Rat):=by rw [e4,ht,Rat.intCast_mul]
    have h9:a / ((a / b).num:Rat)*(D:Rat)=((a / b).num:Rat)⁻¹*(a*(D:Rat)):=by rw [Rat.div_def];grind
    rw [h9,h8,←nYd,nYc _ ((a / b).num:Rat),h6,Rat.one_mul]
   refine Fr.int ?_ e5;by_cases hA:(a / b).num*t=0
   ·rcases Int.mul_eq_zero.1 hA with h|h
    ·rw [h] at hN;exact absurd rfl hN
    ·rw [h];exact nYm ay
   ·have:=(fk hA).1;rw [←ht] at this;exact nYk this ha.2
theorem ir{S D:Nat}{l:List Rat}(h:∀ x ∈ l,Fr S D x):Fr S D (bj l):=by
 induction l using snoc_ind with
 | h0=>exact Fr.zero S D
 | h1 l r ih =>
  rw [ep];exact CE (ih fun x hx=>h x (List.mem_append_left _ hx)) (h r (List.mem_append_right _ (List.mem_singleton_self r)))
def Wz(S:Nat)(q:Rat):Prop:=Wh q∧q.num.natAbs<W32 ^ S
theorem Wz.sz{S:Nat}{q:Rat}(h:Wz S q)(hS:1≤S):Sz S q:=⟨h.2,by rw [h.1];exact Nat.one_lt_pow zo dZ⟩
theorem Wz.mono{S S':Nat}{q:Rat}(h:Wz S q)(hS:S≤S'):Wz S' q:=⟨h.1,nXn h.2 (nXp ay hS)⟩
theorem Wz.int{S:Nat}{z:Int}(h:z.natAbs<W32 ^ S):Wz S (z:Rat):=⟨Wh.int z,by rw [Rat.num_intCast];exact h⟩
theorem Wz.zero(S:Nat):Wz S 0:=Wz.int (z:=0) (nYm ay)
theorem Wz.one:Wz 1 1:=Wz.int (z:=1) dZ
theorem Wz.neg{S:Nat}{a:Rat}(h:Wz S a):Wz S (-a):=⟨h.1.neg,by rw [Rat.neg_num,Int.natAbs_neg];exact h.2⟩
theorem Wz.mul{S U:Nat}{a b:Rat}(ha:Wz S a)(hb:Wz U b):Wz (S+U) (a*b):=by
 rw [ha.1.eq,hb.1.eq,←Rat.intCast_mul];refine Wz.int ?_;rw [Int.natAbs_mul,Nat.pow_add];exact Nat.mul_lt_mul_of_lt_of_lt ha.2 hb.2
theorem Wz.add{S:Nat}{a b:Rat}(ha:Wz S a)(hb:Wz S b):Wz (S+1) (a+b):=by
 rw [ha.1.eq,hb.1.eq,←Rat.intCast_add];refine Wz.int ?_;have:=Int.natAbs_add_le a.num b.num;have h5:W32 ^ S*2≤W32 ^ (S+1):=by rw [nXt];exact nXg _ dZ
 have:=ha.2;have:=hb.2;omega
theorem Wz.sub{S:Nat}{a b:Rat}(ha:Wz S a)(hb:Wz S b):Wz (S+1) (a-b):=by
 rw [Rat.sub_eq_add_neg];exact ha.add hb.neg
theorem Wz.parts{S U:Nat}{a b:Rat}(ha:Wz S a)(hb:Wz U b)(h0:b≠0):Wz S ((a / b).num:Rat)∧Wz U (((a / b).den:Int):Rat):=by
 have hA:a*1=(a.num:Rat):=by rw [Rat.mul_one];exact ha.1.eq
 have hB:b*1=(b.num:Rat):=by rw [Rat.mul_one];exact hb.1.eq
 obtain ⟨t,ht⟩:=tP h0 hA hB;have e1:=low (a / b);have e2:=cm (a:=a) h0;have e3:a.num*((a / b).den:Int)=(a / b).num*b.num:=by
  have:((a.num*((a / b).den:Int):Int):Rat)=(((a / b).num*b.num:Int):Rat):=by
   rw [Rat.intCast_mul,Rat.intCast_mul,←hA,←hB,←e1,show (((a / b).den:Int):Rat)=((a / b).den:Rat) from rfl];have:a / b*((a / b).den:Rat)*(b*1)=(a / b*b)*1*((a / b).den:Rat):=by grind
   rw [this,e2]
  exact Rat.intCast_inj.1 this
 have hbn:b.num≠0:=fun h=>h0 (Rat.num_eq_zero.1 h)
 constructor
 ·refine Wz.int ?_;by_cases hA0:(a / b).num*t=0
  ·rcases Int.mul_eq_zero.1 hA0 with h|h
   ·rw [h];exact nYm ay
   ·have hz:a.num=0:=by rw [ht,h,Int.mul_zero]
    have:a=0:=Rat.num_eq_zero.1 hz;rw [this,Rat.div_def,nYa];exact nYm ay
  ·have:=(fk hA0).2;rw [←ht] at this;exact nYk this ha.2
 ·refine Wz.int ?_;rw [nYh];have hc:(a / b).num.natAbs.Coprime (a / b).den:=(a / b).reduced;have h4:(a / b).den ∣ (a / b).num.natAbs*b.num.natAbs:=by
   have:=congrArg Int.natAbs e3;rw [Int.natAbs_mul,Int.natAbs_mul,nYh] at this;rw [←this];exact Nat.dvd_mul_left _ _
  have h5:=hc.symm.dvd_of_dvd_mul_left h4;exact nYk (Nat.le_of_dvd (Nat.pos_of_ne_zero fun h=>hbn (Int.natAbs_eq_zero.1 h)) h5) hb.2
theorem cY{S D:Nat}{p:List Rat}(hp:∀ x ∈ tz p,Fr S D x)(hD:0<D):∀ x ∈ ar p,Wz S x:=by
 intro x hx;have hw:=yq p x hx;refine ⟨hw,?_⟩;unfold ar at hx;obtain ⟨c,hc,rfl⟩:=nYf.1 hx;have hne:tz p≠[]:=fun h=>by rw [h] at hc;simp at hc
 have hpos:=aZ hne;have hm0:aK p≠0:=fun h=>by rw [h] at hpos;exact absurd hpos Rat.lt_irrefl
 have hm:Fr S D (aK p):=ir hp;have hD0:(D:Rat)≠0:=fun h=>by
  have:D=0:=by exact_mod_cast h
  omega
 have h1:=(hp c hc).1.eq;have h2:=hm.1.eq;have h3:=cm (a:=c) hm0;have h4:(c*(D:Rat)).num=(c / aK p).num*(aK p*(D:Rat)).num:=by
  have:(((c*(D:Rat)).num:Int):Rat)=(((c / aK p).num*(aK p*(D:Rat)).num:Int):Rat):=by
   rw [Rat.intCast_mul,←h1,←h2,←hw.eq,←nYd,h3]
  exact Rat.intCast_inj.1 this
 by_cases h0:(c / aK p).num*(aK p*(D:Rat)).num=0
 ·rcases Int.mul_eq_zero.1 h0 with h|h
  ·rw [h];exact nYm ay
  ·exfalso;rw [h] at h2;rcases nXr.1 h2 with h5|h5
   ·exact hm0 h5
   ·exact hD0 h5
 ·have:=(fk h0).2;rw [←h4] at this;exact nYk this (hp c hc).2
theorem yO{k:Nat}:∀ (p:List Rat),(∀ x ∈ p,Sz k x)→∃ D:Nat,0<D∧D<W32 ^ (k*p.length+1)∧∀ x ∈ p,Fr (k*(p.length+1)+1) D x
 | [],_=>⟨1,dZ,by simp [W32],fun x hx=>by simp at hx⟩
 | q :: p,h=>by
  obtain ⟨D,h1,h2,h3⟩:=yO p fun x hx=>h x (List.mem_cons_of_mem _ hx)
  have hq:=h q (List.mem_cons_self ..);have hk:=hq.one_le;have e1:k*((q :: p).length)+1=(k*p.length+1)+k:=by rw [List.length_cons,Nat.mul_add];omega
  have e2:k*((q :: p).length+1)+1=(k*(p.length+1)+1)+k:=by rw [List.length_cons,Nat.mul_add,Nat.mul_add];omega
  refine ⟨D*q.den,Nat.mul_pos h1 q.den_pos,?_,fun x hx=>?_⟩
  ·rw [e1,Nat.pow_add];exact Nat.mul_lt_mul_of_lt_of_lt h2 hq.2
  ·rw [e2];rcases List.mem_cons.1 hx with rfl|hx
   ·refine Fr.int (z:=x.num*D) ?_ ?_
    ·have e3:k*(p.length+1)+1+k=k+(k*p.length+1)+k:=by rw [Nat.mul_add];omega
     rw [Int.natAbs_mul,nYh,e3,Nat.pow_add];refine nXn (m:=W32 ^ (k+(k*p.length+1))) ?_ (Nat.le_mul_of_pos_right _ (nYm ay));rw [Nat.pow_add];exact Nat.mul_lt_mul_of_lt_of_lt hq.1 h2
    ·have:=low x;have e4:(((D*x.den:Nat)):Rat)=(D:Rat)*(x.den:Rat):=by push_cast;rfl
     rw [e4,Rat.intCast_mul,←this];have:(((D:Nat):Int):Rat)=(D:Rat):=rfl;rw [this];grind
   ·obtain ⟨f1,f2⟩:=h3 x hx;refine Fr.int (z:=(x*(D:Rat)).num*q.den) ?_ ?_
    ·rw [Int.natAbs_mul,nYh,Nat.pow_add];exact Nat.mul_lt_mul_of_lt_of_lt f2 hq.2
    ·have e4:(((D*q.den:Nat)):Rat)=(D:Rat)*(q.den:Rat):=by push_cast;rfl
     rw [e4,Rat.intCast_mul,←f1.eq];have:(((q.den:Nat):Int):Rat)=(q.den:Rat):=rfl;rw [this];grind
theorem pt{l:List Rat}{k:Nat}{x:Rat}(h:k<l.length):(l.set k x).getD k 0=x:=by simp [h]
theorem jS{l:List Rat}{k i:Nat}{x:Rat}(h:k≠i):(l.set k x).getD i 0=l.getD i 0:=by simp [h]
theorem fZ(l:List Rat)(c:Rat)(n:Nat):(l.map (·*c)).getD n 0=l.getD n 0*c:=aQ l c n
def cu(os:List Rat)(n:Nat)(q:Rat):List Rat:=(os.take n).map (·*q)++os.drop n
theorem aE(os:List Rat)(n:Nat)(q:Rat):(cu os n q).length=os.length:=by
 unfold cu;rw [nXi,nXl,nXk,nXz];omega
theorem nW{os:List Rat}{n:Nat}(q:Rat)(h:n≤os.length):(cu os n q).take n=(os.take n).map (·*q):=by
 unfold cu;rw [List.take_append_of_le_length (by rw [nXl,nXk];omega),nXm (by rw [nXl,nXk];omega)]
theorem mW(os:List Rat)(n:Nat):cu os n 1=os:=by
 unfold cu;rw [show (fun x:Rat=>x*1)=id from funext fun x=>Rat.mul_one x,List.map_id,List.take_append_drop]
theorem bU{os:List Rat}{n i:Nat}(h:i<n):(os.take n).getD i 0=os.getD i 0:=by
 rw [nXd,nXd,List.getElem?_take_of_lt h]
theorem kX{os:List Rat}{n i:Nat}(q:Rat)(h:n≤os.length)(hi:i<n):(cu os n q).getD i 0=os.getD i 0*q:=by
 rw [←bU hi,nW q h,fZ,bU hi]
def eX(os:List Rat)(a:Nat)(q:List Rat)(c:Rat):Nat→List Rat
 | 0=>os
 | k+1=>(eX os a q c k).set (a+k) ((eX os a q c k).getD (a+k) 0-c*q.getD k 0)
theorem aN(os:List Rat)(a:Nat)(q:List Rat)(c:Rat)(k:Nat):(eX os a q c k).length=os.length:=by
 induction k with
 | zero=>rfl
 | succ k ih=>unfold eX;rw [nXo,ih]
theorem fO(os:List Rat)(a:Nat)(q:List Rat)(c:Rat)(k:Nat)(h:a+k≤os.length)(i:Nat):(eX os a q c k).getD i 0=os.getD i 0-if a≤i∧i<a+k then c*q.getD (i-a) 0 else 0:=by
 induction k with
 | zero=>rw [if_neg zo];show os.getD i 0=_;grind
 | succ k ih =>
  have ih:=ih zo;have hl:=aN os a q c k;unfold eX;by_cases hi:a+k=i
  ·subst hi;rw [pt zo,ih,if_neg zo,if_pos zo,Nat.add_sub_cancel_left];grind
  ·rw [jS hi,ih]
   congr 1
   by_cases h2:a≤i∧i<a+k
   ·rw [if_pos h2,if_pos zo]
   ·rw [if_neg h2,if_neg zo]
structure DvI (p q:List Rat) (S U j:Nat) (sl r:List Rat) (f:Rat):Prop where
 fne:f≠0
 fw:Wz (1+j*U) f
 sw:∀ x ∈ sl,Wz (S+j*(U+1)) x
 rz:∀ x ∈ r,Wz (S+j*(U+1)) x
 tzr:tz r=r
 eq:∀ n,f*seq p n=cv (seq sl) (seq q) n+seq r n
 lo:∀ i,i+q.length≤r.length→sl.getD i 0=0
 sl:sl.length+q.length=p.length+1
 rl:r.length+j≤p.length
 jl:j+q.length≤p.length+1
theorem DvI.start{p q:List Rat}{S U:Nat}(hp:∀ x ∈ p,Wz S x)(ht:tz p=p)(hl:q.length≤p.length):DvI p q S U 0 (List.replicate (p.length-q.length+1) 0) p 1:=by
 refine ⟨dZ,Wz.one.mono zo,fun x hx=>?_,fun x hx=>(hp x hx).mono zo,ht,fun n=>?_,fun i _=>mK _ _,by rw [nXw];omega,zo,zo⟩
 ·rw [List.eq_of_mem_replicate hx];exact Wz.zero _
 ·rw [ti,nf];grind
theorem cT{l:List Rat}{x:Rat}(h:x ∈ l):∃ i,i<l.length∧l.getD i 0=x:=by
 obtain ⟨i,hi,rfl⟩:=List.getElem_of_mem h;exact ⟨i,hi,by rw [nXd,List.getElem?_eq_getElem hi];rfl⟩
theorem bK{l:List Rat}{i:Nat}(h:i<l.length):l.getD i 0 ∈ l:=by
 rw [nXd,List.getElem?_eq_getElem h];exact List.getElem_mem h
theorem DvI.step{p q:List Rat}{S U j:Nat}{sl r:List Rat}{f:Rat}(h:DvI p q S U j sl r f)(hq:0<q.length)(h0:aJ q≠0)(hw:∀ x ∈ q,Wz U x)(hle:q.length≤r.length){c:Rat}(hc:c=aJ r / aJ q)
 {r2:List Rat}(hl2:r2.length=r.length)(hr2:∀ i,i<r.length→r2.getD i 0=r.getD i 0*((c.den:Int):Rat)-if r.length-q.length≤i then (c.num:Rat)*q.getD (i-(r.length-q.length)) 0 else 0) :
  DvI p q S U (j+1) ((sl.map (·*((c.den:Int):Rat))).set (r.length-q.length) (c.num:Rat)) (tz r2) (f*((c.den:Int):Rat)):=by
 have hlw:Wz (S+j*(U+1)) (aJ r):=h.rz _ (bK zo);have hqw:Wz U (aJ q):=hw _ (bK zo);obtain ⟨wn,wd⟩:=hlw.parts hqw h0;rw [←hc] at wn wd;have hcd:=low c;have hcq:c*aJ q=aJ r:=by rw [hc];exact cm h0
 have hd0:((c.den:Int):Rat)≠0:=fun h1=>by
  have:c.den=0:=by exact_mod_cast h1
  exact c.den_nz this
 have hdd:((c.den:Int):Rat)=(c.den:Rat):=rfl;have e1:S+(j+1)*(U+1)=(S+j*(U+1)+U)+1:=by rw [Nat.add_mul];omega
 have hsl:sl.length+q.length=p.length+1:=h.sl;have hrl:=h.rl;have hseq2:∀ i,seq r2 i=seq r i*((c.den:Int):Rat)-(c.num:Rat)*shn (r.length-q.length) (seq q) i:=by
  intro i;unfold shn seq;rcases Nat.lt_or_ge i r.length with hi|hi
  ·rw [hr2 i hi]
   congr 1
   by_cases h2:r.length-q.length≤i
   ·rw [if_pos h2,if_pos h2]
   ·rw [if_neg h2,if_neg h2];grind
  ·rw [bh (l:=r2) zo,bh hi,if_pos zo,bh (l:=q) zo];grind
 have htop:r2.getD (r.length-1) 0=0:=by
  rw [hr2 _ zo,if_pos zo,show r.length-1-(r.length-q.length)=q.length-1 by omega];show aJ r*_-_*aJ q=0;rw [←hcq,←hcd,hdd];grind
 have hlt:(tz r2).length+1≤r.length:=by
  have h3:=ah r2;rcases Nat.lt_or_ge (tz r2).length r.length with h4|h4
  ·exact h4
  ·exact absurd htop (iM zo)
 refine ⟨?_,?_,?_,?_,aM _,fun n=>?_,fun i hi=>?_,by rw [nXo,nXl];exact h.sl,zo,zo⟩
 ·intro h1;rcases nXr.1 h1 with h2|h2
  ·exact h.fne h2
  ·exact hd0 h2
 ·exact (h.fw.mul wd).mono (by rw [Nat.add_mul];omega)
 ·intro x hx;rcases List.mem_or_eq_of_mem_set hx with hx|rfl
  ·obtain ⟨y,hy,rfl⟩:=nYf.1 hx;exact ((h.sw y hy).mul wd).mono zo
  ·exact wn.mono zo
 ·intro x hx;obtain ⟨i,hi,rfl⟩:=cT hx;rw [bp,hr2 i zo,e1];refine Wz.sub ((h.rz _ (bK zo)).mul wd) ?_;by_cases h2:r.length-q.length≤i
  ·rw [if_pos h2];exact wn.mul (hw _ (bK zo))
  ·rw [if_neg h2];exact Wz.zero _
 ·rw [yD (by rw [nXl];omega) (by rw [fZ,h.lo _ zo];grind),oG];show _=cv (seq (sl.map _)) (seq q) n+cv (fun n=>if n=r.length-q.length then (c.num:Rat) else 0) (seq q) n+_;have e2:seq (sl.map (·*((c.den:Int):Rat)))=fun n=>((c.den:Int):Rat)*seq sl n:=funext fun n=>by rw [aQ];grind
  rw [vh,aT,hseq2,e2,fF];have e3:=h.eq n;show f*_*seq p n=((c.den:Int):Rat)*cv (seq sl) (seq q) n+_+_;grind
 ·rw [jS zo,fZ,h.lo i zo];grind
theorem wU{os:List Rat}{n:Nat}(q:Rat)(h:os.length=n):cu os n q=os.map (·*q):=by
 unfold cu;rw [nXm zo,List.drop_of_length_le zo,List.append_nil]
theorem DvI.row{p q:List Rat}{S U j M m t:Nat}{sl ros:List Rat}{f:Rat}(h:DvI p q S U j sl (ros.take (t+m+1)) f)(hql:q.length=m+1)(hrl:t+m+1≤ros.length)(hsl:sl.length=M)(h0:aJ q≠0)(hw:∀ x ∈ q,Wz U x)
 {cq num den:Rat}(hc:cq=aJ (ros.take (t+m+1)) / aJ q)(hn:num=((cq.num:Int):Rat))(hd:den=(((cq.den:Nat):Int):Rat)) :
  DvI p q S U (j+1) ((cu sl M den).set t num) (tz ((eX (cu ros (t+m+1) den) t q num (m+1)).take (t+m+1))) (f*den)∧(∀ x ∈ (eX (cu ros (t+m+1) den) t q num (m+1)).take (t+m+1),Wz (S+j*(U+1)+U+1) x):=by
 have hrt:(ros.take (t+m+1)).length=t+m+1:=by rw [nXk];omega
 have hl2:((eX (cu ros (t+m+1) den) t q num (m+1)).take (t+m+1)).length=(ros.take (t+m+1)).length:=by rw [nXk,aN,aE,hrt];omega
 have hlw:Wz (S+j*(U+1)) (aJ (ros.take (t+m+1))):=h.rz _ (bK zo);have hqw:Wz U (aJ q):=hw _ (bK zo);obtain ⟨wn,wd⟩:=hlw.parts hqw h0;rw [←hc] at wn wd;have hr2:∀ i,i<(ros.take (t+m+1)).length→((eX (cu ros (t+m+1) den) t q num (m+1)).take (t+m+1)).getD i 0=(ros.take (t+m+1)).getD i 0*(((cq.den:Nat):Int):Rat)-if (ros.take (t+m+1)).length-q.length≤i then ((cq.num:Int):Rat)*q.getD (i-((ros.take (t+m+1)).length-q.length)) 0 else 0:=by
  intro i hi;rw [hrt] at hi;rw [hrt,hql,bU hi,bU hi,fO _ _ _ _ _ (by rw [aE];omega),kX _ zo hi,←hd,←hn,show t+m+1-(m+1)=t by omega]
  congr 1
  by_cases h2:t≤i
  ·rw [if_pos h2,if_pos zo]
  ·rw [if_neg h2,if_neg zo]
 have h1:=h.step zo h0 hw zo hc hl2 hr2;rw [hrt,hql,show t+m+1-(m+1)=t by omega,←hd,←hn,←wU _ hsl] at h1;refine ⟨h1,fun x hx=>?_⟩;obtain ⟨i,hi,rfl⟩:=cT hx;rw [hr2 i zo];refine Wz.sub ((h.rz _ (bK zo)).mul wd) ?_;by_cases h2:(ros.take (t+m+1)).length-q.length≤i
 ·rw [if_pos h2];exact wn.mul (hw _ (bK zo))
 ·rw [if_neg h2];exact Wz.zero _
theorem oX{q:List Rat}(h:tz q≠[]):aK q≠0:=fun h1=>by
 have:=aZ h;rw [h1] at this;exact absurd this Rat.lt_irrefl
theorem xN{p q s r:List Rat}{f:Rat}(hq:tz q≠[])(hf:f≠0)(hr:r.length<(ar q).length)(he:∀ n,f*seq (ar p) n=cv (seq s) (seq (ar q)) n+seq r n) :
  tz (s.map (·*(aK p / f / aK q)))=bD p q∧tz (r.map (·*(aK p / f)))=bB p q:=by
 have hm:=oX hq;have e0:∀ x:Rat,x / f*f=x:=fun x=>cm hf
 have e1:∀ x:Rat,x / aK q*aK q=x:=fun x=>cm hm
 have hsq:seq q=fun n=>aK q*seq (ar q) n:=funext fun n=>cS q n
 obtain ⟨h1,h2⟩:=gK (p:=p) (q:=q) hq (s:=fun n=>aK p / aK q*seq s n) (r:=fun n=>aK p*seq r n) (F:=f) (N:=s.length)
  (fun i hi=>by show _*seq s i=0;rw [Bd.seq s i hi];grind) (fun i hi=>by show _*seq r i=0;rw [Bd.seq r i (by rw [aC] at hr;omega)];grind) (fun n=>by
   rw [fF,gi,hsq,fF,gi,cS p n];have:=he n;have e2:=e1 (aK p);show f*(aK p*seq (ar p) n)=aK p / aK q*(aK q*cv (seq s) (seq (ar q)) n)+aK p*seq r n;have e3:aK p / aK q*(aK q*cv (seq s) (seq (ar q)) n)=aK p / aK q*aK q*cv (seq s) (seq (ar q)) n:=by grind
   rw [e3,e2];have e4:f*(aK p*seq (ar p) n)=aK p*(f*seq (ar p) n):=by grind
   rw [e4,this];grind)
 obtain ⟨-,g2,g3,-⟩:=cd p hq;have cancel:∀ a b:Rat,a*f=b*f→a=b:=fun a b h=>by
  have h5:=nYj _ hf;have h6:a*f*f⁻¹=b*f*f⁻¹:=by rw [h]
  rwa [nYd,nYd,h5,Rat.mul_one,Rat.mul_one] at h6
 constructor
 ·rw [←g3];refine jR fun n=>?_
  rw [aQ];apply cancel;have:=h1 n;have e5:aK p / f / aK q*f=aK p / aK q:=by
   rw [Rat.div_def,Rat.div_def,Rat.div_def];have h5:=nYj _ hf;have:aK p*f⁻¹*(aK q)⁻¹*f=aK p*(aK q)⁻¹*(f*f⁻¹):=by grind
   rw [this,h5,Rat.mul_one]
  have e6:seq s n*(aK p / f / aK q)*f=aK p / f / aK q*f*seq s n:=by grind
  rw [e6,e5,nYc _ f];exact this
 ·rw [←g2];refine jR fun n=>?_
  rw [aQ];apply cancel;have:=h2 n;have e6:seq r n*(aK p / f)*f=aK p / f*f*seq r n:=by grind
  rw [e6,e0,nYc _ f];exact this
theorem uB{a b s r:List Rat}{f:Rat}(hb:tz b=b)(hb0:b≠[])(hf:f≠0)(hr:r.length<b.length)(he:∀ n,f*seq a n=cv (seq s) (seq b) n+seq r n) :
  ov b.length (bq a) (bq b)=ov (ar r).length (bq b) (bq (ar r)):=by
 have hbt:tz b≠[]:=by rw [hb];exact hb0
 have hbl:=nYg.2 hb0;obtain ⟨k,hk⟩:∃ k,b.length=k+1:=⟨b.length-1,zo⟩;have hmb:(bq b).length=b.length:=by rw [cH,hb]
 have hm0:bq b≠[]:=fun h=>by rw [h] at hmb;simp at hmb;omega
 rw [hk,f4 hm0];have h1:Pr (bB (bq a) (bq b)) (bB a b):=kF (eI a) (eI b) hbt;have h2:Pr r (bB a b):=mJ hbt hf (Bd.seq s) (by rw [hb];exact hr) he;have h3:bq (bB (bq a) (bq b))=bq (ar r):=by rw [h1.mon,←h2.mon,(iT r).mon]
 rw [h3];have hl:(bq (ar r)).length=(ar r).length:=by rw [cH,aX]
 have hr2:=ah r;exact uF _ _ _ _ (dI _) (by rw [hl,aC];omega) (by rw [hl];exact nXe _)
theorem uC(p q:List Rat):ov (ar q).length (bq (ar p)) (bq (ar q))=bN p q:=by
 unfold bN;rw [aC,(iT p).mon,(iT q).mon]
end Go.Proofs.YtafgmcimcbhhjaaGreat
