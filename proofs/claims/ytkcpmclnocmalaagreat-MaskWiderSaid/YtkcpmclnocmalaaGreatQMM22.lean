import Derived.Test.YtkcpmclnocmalaaGreatQMM11
set_option linter.unusedVariables false
namespace Go.Proofs.YtkcpmclnocmalaaGreat
open Go.RowKit Go.Front Go.Num
theorem ar.wk{f:FuncId}{args:List Value}{w:World}{α:Type}{mk:α→Value}{φ ψ:α→World→Prop}(h:ar f args w mk φ)(hi:∀ x w',Ext w w'→φ x w'→ψ x w'):ar f args w mk ψ:=by
 refine Calls.mono h ?_;rintro e w' ⟨x,rfl,h1,h2⟩;exact ⟨x,rfl,h1,hi x w' h1 h2⟩
open Stab
def Bd(n:Nat)(s:Nat→Rat):Prop:=∀ i,n≤i→s i=0
theorem bu{l:List Rat}{i:Nat}(h:l.length≤i):l.getD i 0=0:=by
 rw [nXd,List.getElem?_eq_none h];rfl
theorem Bd.seq(l:List Rat):Bd l.length (seq l):=fun i h=>bu h
theorem Bd.mono{n m:Nat}{s:Nat→Rat}(h:Bd n s)(hm:n≤m):Bd m s:=fun i hi=>h i zo
theorem n9{n k:Nat}{f:Nat→Rat}(hk:k<n)(h:∀ i,i<n→i≠k→f i=0):sm n f=f k:=by
 induction n with
 | zero=>omega
 | succ n ih =>
  show sm n f+f n=_;by_cases hkn:k=n
  ·subst hkn;rw [sm_congr (g:=fun _=>0) (fun i hi=>h i zo zo),sm_zero];grind
  ·rw [ih zo (fun i hi hne=>h i zo hne),h n zo (Ne.symm hkn)];grind
theorem oP{a b:Nat}{s u:Nat→Rat}(hs:Bd (a+1) s)(hu:Bd (b+1) u):cv s u (a+b)=s a*u b:=by
 unfold cv;rw [n9 (k:=a) zo,show a+b-a=b by omega];intro i hi hne;rcases Nat.lt_or_ge i a with h|h
 ·rw [hu (a+b-i) zo];grind
 ·rw [hs i zo];grind
theorem FW{a b:Nat}{s u:Nat→Rat}(hs:Bd a s)(hu:Bd b u):Bd (a+b) (cv s u):=by
 intro n hn;unfold cv;rw [sm_congr (g:=fun _=>0),sm_zero];intro i hi;rcases Nat.lt_or_ge i a with h|h
 ·rw [hu (n-i) zo];grind
 ·rw [hs i h];grind
theorem nm(u:Nat→Rat)(n:Nat):cv (fun _=>0) u n=0:=by
 unfold cv;rw [sm_congr (g:=fun _=>0) (fun i _=>by grind),sm_zero]
theorem zv{q:List Rat}{m:Nat}(hq:q.length=m+1)(h0:q.getD m 0≠0){r:Nat→Rat}(hr:Bd m r):∀ (N:Nat) (d:Nat→Rat),Bd N d→(∀ n,cv d (seq q) n+r n=0)→(∀ n,d n=0)∧∀ n,r n=0:=by
 intro N;induction N with
 | zero =>
  intro d hd h;have hd0:d=fun _=>0:=funext fun n=>hd n (Nat.zero_le _)
  refine ⟨fun n=>by rw [hd0],fun n=>?_⟩;have:=h n;rw [hd0,nm] at this;grind
 | succ N ih =>
  intro d hd h;have h1:=h (N+m);rw [oP hd (by rw [←hq];exact Bd.seq q),hr (N+m) zo] at h1;have h2:d N=0:=by
   have h3:d N*q.getD m 0=0:=by
    show d N*seq q m=0;grind
   rcases nXr.1 h3 with h4|h4
   ·exact h4
   ·exact absurd h4 h0
  exact ih d (fun i hi=>by
   rcases Nat.eq_or_lt_of_le hi with h3|h3
   ·rw [←h3];exact h2
   ·exact hd i h3) h
def bL(q:List Rat):Rat:=q.getD (q.length-1) 0
def lF(p q:List Rat):List Rat:=tz ((List.range (p.length-1)).map fun i=>p.getD i 0-if p.length-q.length≤i then bL p / bL q*q.getD (i-(p.length-q.length)) 0 else 0)
theorem uo(p q:List Rat):(lF p q).length≤p.length-1:=by
 unfold lF;refine nXf (aj _) ?_;simp
theorem xW(p q:List Rat):tz (lF p q)=lF p q:=bQ _
theorem dB(n i:Nat)(f:Nat→Rat):((List.range n).map f).getD i 0=if i<n then f i else 0:=by
 by_cases h:i<n
 ·rw [if_pos h];simp [h]
 ·rw [if_neg h];simp [show n≤i by omega]
theorem cQ{a b:Rat}(h:b≠0):a / b*b=a:=Rat.div_mul_cancel h
theorem xX{p q:List Rat}(hq:0<q.length)(hpq:q.length≤p.length)(h0:bL q≠0)(i:Nat):seq (lF p q) i=seq p i-bL p / bL q*shn (p.length-q.length) (seq q) i:=by
 unfold lF seq shn;rw [bC,dB];by_cases h1:i<p.length-1
 ·rw [if_pos h1];split
  ·rfl
  ·grind
 ·rw [if_neg h1];by_cases h2:i=p.length-1
  ·rw [h2,if_pos zo,show p.length-1-(p.length-q.length)=q.length-1 by omega];have:=cQ (a:=bL p) h0;unfold bL at *
   grind
  ·rw [bu (l:=p) zo];split
   ·show (0:Rat)=0-bL p / bL q*q.getD (i-(p.length-q.length)) 0;rw [bu zo];grind
   ·omega
theorem wB(k:Nat)(c:Rat)(u:Nat→Rat)(n:Nat):cv (fun i=>if i=k then c else 0) u n=c*shn k u n:=by
 unfold cv shn;by_cases h:k≤n
 ·rw [n9 (k:=k) zo (fun i _ hi=>by show (if i=k then c else 0)*_=0;rw [if_neg hi];grind),if_pos h];show (if k=k then c else 0)*_=_;rw [if_pos rfl]
 ·rw [if_neg h,sm_congr (g:=fun _=>0) (fun i hi=>by show (if i=k then c else 0)*_=0;rw [if_neg zo];grind),sm_zero];grind
def wo(q:List Rat):Nat→List Rat→List Rat→List Rat×List Rat
 | 0,u,p=>(u,p)
 | f+1,u,p=>if q.length≤p.length then wo q f (u.set (p.length-q.length) (bL p / bL q)) (lF p q) else (u,p)
theorem As{l:List Rat}{k:Nat}{x:Rat}(h:k<l.length)(h0:l.getD k 0=0):seq (l.set k x)=fun n=>seq l n+(if n=k then x else 0):=by
 funext n
 unfold seq;by_cases hn:n=k
 ·subst hn;rw [if_pos rfl,show (l.set n x).getD n 0=x by simp [h],h0];grind
 ·rw [if_neg hn,show (l.set k x).getD n 0=l.getD n 0 by simp [Ne.symm hn]];grind
theorem wg{q:List Rat}(hq:0<q.length)(h0:bL q≠0):∀ (f:Nat) (u p:List Rat),p.length≤f→p.length≤u.length+q.length-1→(∀ i,i+q.length≤p.length→u.getD i 0=0)→tz p=p →
  (wo q f u p).2.length<q.length∧tz (wo q f u p).2=(wo q f u p).2∧(wo q f u p).1.length=u.length∧∀ n,cv (seq u) (seq q) n+seq p n=cv (seq (wo q f u p).1) (seq q) n+seq (wo q f u p).2 n:=by
 intro f;induction f with
 | zero =>
  intro u p hf hu hz ht;exact ⟨by show p.length<_;omega,ht,rfl,fun n=>rfl⟩
 | succ f ih =>
  intro u p hf hu hz ht;rw [show wo q (f+1) u p=if q.length≤p.length then wo q f (u.set (p.length-q.length) (bL p / bL q)) (lF p q) else (u,p) from rfl];by_cases h:q.length≤p.length
  ·rw [if_pos h];have hl:=uo p q;obtain ⟨g1,g2,g3,g4⟩:=ih (u.set (p.length-q.length) (bL p / bL q)) (lF p q) zo (by rw [nXo];omega) (fun i hi=>by
    rw [show (u.set (p.length-q.length) (bL p / bL q)).getD i 0=u.getD i 0 by simp [show p.length-q.length≠i by omega]];exact hz i zo) (xW p q)
   refine ⟨g1,g2,by rw [g3,nXo],fun n=>?_⟩;rw [←g4 n,As zo (hz _ zo),oQ];show _=cv (seq u) (seq q) n+cv (fun n=>if n=p.length-q.length then bL p / bL q else 0) (seq q) n+seq (lF p q) n;rw [wB,xX hq h h0];grind
  ·rw [if_neg h];exact ⟨by show p.length<_;omega,ht,rfl,fun n=>rfl⟩
def bK(p q:List Rat):List Rat:=tz (wo (tz q) (tz p).length (List.replicate ((tz p).length+1-(tz q).length) 0) (tz p)).1
def bX(p q:List Rat):List Rat:=(wo (tz q) (tz p).length (List.replicate ((tz p).length+1-(tz q).length) 0) (tz p)).2
theorem jT{l:List Rat}{n:Nat}(h:(tz l).length=n+1):l.getD n 0≠0:=by
 intro h0;have h3:(tz l).getD n 0=0:=by rw [bC,h0]
 have h4:tz ((tz l).take (n+1))=tz ((tz l).take n):=ju zo h3;rw [←h,List.take_length,bQ] at h4;have h5:=aj ((tz l).take n);rw [←h4,nXk] at h5;omega
theorem ci{q:List Rat}(h:tz q≠[]):bL (tz q)≠0:=by
 obtain ⟨n,hn⟩:∃ n,(tz q).length=n+1:=⟨(tz q).length-1,by have:=nYh.2 h;omega⟩;unfold bL;rw [hn,Nat.add_sub_cancel,bC];exact jT hn
theorem bA(l:List Rat):seq (tz l)=seq l:=funext fun n=>bC l n
theorem mM(n i:Nat):(List.replicate n (0:Rat)).getD i 0=0:=by
 rcases Nat.lt_or_ge i n with h|h
 ·simp [h]
 ·rw [bu (by simp;omega)]
theorem uk(n:Nat):seq (List.replicate n (0:Rat))=fun _=>0:=funext fun i=>mM n i
theorem dz(p:List Rat){q:List Rat}(h:tz q≠[]):(bX p q).length<(tz q).length∧tz (bX p q)=bX p q∧tz (bK p q)=bK p q∧∀ n,seq p n=cv (seq (bK p q)) (seq q) n+seq (bX p q) n:=by
 have hq:=nYh.2 h;obtain ⟨g1,g2,g3,g4⟩:=wg hq (ci h) (tz p).length (List.replicate ((tz p).length+1-(tz q).length) 0) (tz p) (nXe _) (by rw [nXx];omega) (fun i _=>mM _ _) (bQ p);refine ⟨g1,g2,bQ _,fun n=>?_⟩;have:=g4 n;rw [uk,nm,bA,bA] at this;unfold bK bX;rw [bA,←this];grind
theorem jk{p q:List Rat}(h:tz q≠[]){s r:Nat→Rat}{F:Rat}{N:Nat}(hs:Bd N s)(hr:Bd ((tz q).length-1) r)(he:∀ n,F*seq p n=cv s (seq q) n+r n) :
  (∀ n,s n=F*seq (bK p q) n)∧∀ n,r n=F*seq (bX p q) n:=by
 obtain ⟨g1,g2,g3,g4⟩:=dz p h;have hq:=nYh.2 h;have h1:=zv (q:=tz q) (m:=(tz q).length-1) zo (ci h) (r:=fun n=>r n+(-F)*seq (bX p q) n)
  (fun i hi=>by show r i+(-F)*seq (bX p q) i=0;rw [hr i hi,Bd.seq (bX p q) i zo];grind) (max N (bK p q).length) (fun n=>s n+(-F)*seq (bK p q) n)
  (fun i hi=>by show s i+(-F)*seq (bK p q) i=0;rw [hs i zo,Bd.seq (bK p q) i zo];grind) (fun n=>by
   rw [oQ,jN,bA];have e1:=he n;have e2:=g4 n;rw [e2] at e1;grind)
 exact ⟨fun n=>by have:=h1.1 n;grind,fun n=>by have:=h1.2 n;grind⟩
theorem lZ{a b:List Rat}(h:∀ i,seq a i=seq b i):tz a=tz b:=by
 have hl:∀ a b:List Rat,(∀ i,a.getD i 0=b.getD i 0)→(tz a).length≤(tz b).length:=by
  intro a b h;rcases Nat.lt_or_ge (tz b).length (tz a).length with h1|h1
  ·exfalso;obtain ⟨n,hn⟩:∃ n,(tz a).length=n+1:=⟨(tz a).length-1,zo⟩;have h2:(tz a).getD n 0=0:=by
    rw [o4 zo,h n,tK zo]
   have h3:=bQ a;have h4:tz ((tz a).take (n+1))=tz ((tz a).take n):=ju zo h2;rw [←hn,List.take_length,h3] at h4;have h5:=aj ((tz a).take n);rw [←h4,nXk] at h5;omega
  ·exact h1
 apply getD_ext
 ·exact Nat.le_antisymm (hl a b h) (hl b a (fun i=>(h i).symm))
 ·intro i _;rw [bC,bC];exact h i
def cI(p:List Rat):List Rat:=if tz p=[] then [] else tz ((tz p).map (·*(((1:Int):Rat) / bL (tz p))))
def Pr(a p:List Rat):Prop:=∃ c:Rat,c≠0∧∀ n,seq a n=c*seq p n
theorem Pr.refl(p:List Rat):Pr p p:=⟨1,dZ,fun n=>by grind⟩
theorem Pr.symm{a p:List Rat}(h:Pr a p):Pr p a:=by
 obtain ⟨c,h1,h2⟩:=h;refine ⟨c⁻¹,fun h=>h1 (by rw [←Rat.inv_inv c,h,Rat.inv_zero]),fun n=>?_⟩;have:=nYk c h1;rw [h2 n];grind
theorem Pr.trans{a b c:List Rat}(h:Pr a b)(k:Pr b c):Pr a c:=by
 obtain ⟨x,h1,h2⟩:=h;obtain ⟨y,k1,k2⟩:=k;refine ⟨x*y,fun h=>?_,fun n=>by rw [h2,k2];grind⟩;rcases nXr.1 h with h3|h3
 ·exact h1 h3
 ·exact k1 h3
theorem kF{c:Rat}(hc:c≠0)(l:List Rat):tz (l.map (·*c))=(tz l).map (·*c):=by
 induction l using snoc_ind with
 | h0=>rfl
 | h1 l r ih =>
  by_cases hr:r=0
  ·subst hr;rw [List.map_append,List.map_cons,List.map_nil,nYb,eU,eU,ih]
  ·have h2:r*c≠0:=fun h=>by
    rcases nXr.1 h with h3|h3
    ·exact hr h3
    ·exact hc h3
   rw [List.map_append,List.map_cons,List.map_nil,fZ _ h2,fZ _ hr,List.map_append,List.map_cons,List.map_nil]
theorem bB(l:List Rat)(c:Rat)(n:Nat):seq (l.map (·*c)) n=seq l n*c:=by
 unfold seq;rcases Nat.lt_or_ge n l.length with h|h
 ·simp [h]
 ·rw [bu (by simpa using h),bu h];grind
theorem Pr.eq{a p:List Rat}(h:Pr a p):∃ c:Rat,c≠0∧tz a=(tz p).map (·*c):=by
 obtain ⟨c,h1,h2⟩:=h;refine ⟨c,h1,?_⟩;rw [←kF h1];exact lZ fun n=>by rw [bB,h2 n];grind
theorem Pr.len{a p:List Rat}(h:Pr a p):(tz a).length=(tz p).length:=by
 obtain ⟨c,h1,h2⟩:=h.eq;rw [h2,nXl]
theorem Pr.nil{a p:List Rat}(h:Pr a p):tz a=[]↔tz p=[]:=by
 rw [←nXj,←nXj,h.len]
theorem AF{c:Rat}(h:c≠0):((1:Int):Rat) / c≠0:=by
 rw [Rat.div_def,show ((1:Int):Rat)=1 from rfl,Rat.one_mul];intro h1;exact h (by rw [←Rat.inv_inv c,h1,Rat.inv_zero])
theorem kP{p:List Rat}(h:tz p≠[]):cI p=(tz p).map (·*(((1:Int):Rat) / bL (tz p))):=by
 unfold cI;rw [if_neg h,kF (AF (ci h)),bQ]
theorem gv(p:List Rat):Pr (cI p) p:=by
 by_cases h:tz p=[]
 ·refine ⟨1,dZ,fun n=>?_⟩;unfold cI;rw [if_pos h,←bA p,h];grind
 ·rw [kP h];exact ⟨_,AF (ci h),fun n=>by rw [bB,bA];grind⟩
theorem Pr.mon{a p:List Rat}(h:Pr a p):cI a=cI p:=by
 by_cases h0:tz p=[]
 ·unfold cI;rw [if_pos h0,if_pos (h.nil.2 h0)]
 ·have h1:tz a≠[]:=fun h2=>h0 (h.nil.1 h2)
  rw [kP h0,kP h1];obtain ⟨c,hc,he⟩:=h.eq;have hp:=nYh.2 h0;have hl:bL (tz a)=bL (tz p)*c:=by
   unfold bL;rw [he,nXl];exact bB (tz p) c ((tz p).length-1)
  have hlp:=ci h0;rw [hl,he,List.map_map];apply List.map_congr_left;intro x _;show x*c*(((1:Int):Rat) / (bL (tz p)*c))=x*(((1:Int):Rat) / bL (tz p));have e1:=nYk _ hlp;have e2:=nYk _ hc;rw [Rat.div_def,Rat.div_def,Rat.inv_mul_rev];grind
theorem jY(p:List Rat):cI (cI p)=cI p:=(gv p).mon
theorem gu(p:List Rat):tz (cI p)=cI p:=by
 unfold cI;split
 ·rfl
 ·exact bQ _
theorem fL(p:List Rat):(cI p).length=(tz p).length:=by rw [←gu,(gv p).len]
theorem mO{a b p q:List Rat}(h:Pr a p)(k:Pr b q)(h0:tz q≠[]):Pr (bX a b) (bX p q):=by
 obtain ⟨x,h1,h2⟩:=h;obtain ⟨y,k1,k2⟩:=id k;have hb:tz b≠[]:=fun h3=>h0 (k.nil.1 h3)
 obtain ⟨g1,g2,g3,g4⟩:=dz a hb;have h3:=jk (p:=p) h0 (s:=fun n=>y*seq (bK a b) n) (r:=seq (bX a b)) (F:=x) (N:=(bK a b).length)
  (fun i hi=>by show y*seq (bK a b) i=0;rw [Bd.seq _ i hi];grind) (fun i hi=>Bd.seq _ i (by rw [k.len] at g1;omega)) (fun n=>by
   rw [←h2 n,g4 n,jN,show seq b=fun n=>y*seq q n from funext k2,np (seq (bK a b)),jN,np])
 exact ⟨x,h1,h3.2⟩
theorem pq{p q:List Rat}(h0:tz q≠[]){s:Nat→Rat}{R:List Rat}{F:Rat}{N:Nat}(hF:F≠0)(hs:Bd N s)(hr:R.length<(tz q).length)(he:∀ n,F*seq p n=cv s (seq q) n+seq R n):Pr R (bX p q) :=
 ⟨F,hF,(jk h0 hs (fun i hi=>Bd.seq R i zo) he).2⟩
def oH:Nat→List Rat→List Rat→List Rat
 | 0,p,_=>p
 | f+1,p,q=>if q=[] then p else oH f q (cI (bX p q))
def aV(p q:List Rat):List Rat:=oH (tz q).length (cI p) (cI q)
theorem gY(f:Nat)(p:List Rat):oH f p []=p:=by cases f <;> simp [oH]
theorem gC{f:Nat}{p q:List Rat}(h:q≠[]):oH (f+1) p q=oH f q (cI (bX p q)):=by
 show (if q=[] then p else oH f q (cI (bX p q)))=_;rw [if_neg h]
theorem vP:∀ (f g:Nat) (p q:List Rat),tz q=q→q.length≤f→q.length≤g→oH f p q=oH g p q:=by
 intro f;induction f with
 | zero =>
  intro g p q _ h _;obtain rfl:q=[]:=nXj.1 zo;rw [gY,gY]
 | succ f ih =>
  intro g p q ht h hg;by_cases h0:q=[]
  ·subst h0;rw [gY,gY]
  ·have hq:=nYh.2 h0;obtain ⟨g',rfl⟩:∃ g',g=g'+1:=⟨g-1,zo⟩;have h1:=(dz p (q:=q) (by rw [ht];exact h0)).1;rw [ht] at h1;have h2:=fL (bX p q);have h3:=aj (bX p q);rw [gC h0,gC h0];exact ih g' q _ (gu _) zo zo
def Wh(q:Rat):Prop:=q.den=1
theorem Wh.eq{q:Rat}(h:Wh q):q=(q.num:Rat):=by
 apply Rat.ext
 ·rw [Rat.num_intCast]
 ·rw [Rat.den_intCast];exact h
theorem Wh.int(z:Int):Wh (z:Rat):=Rat.den_intCast z
theorem Wh.iff{q:Rat}:Wh q↔∃ z:Int,q=(z:Rat):=⟨fun h=>⟨_,h.eq⟩,fun ⟨z,h⟩=>h ▸ Wh.int z⟩
theorem Wh.add{a b:Rat}(h:Wh a)(k:Wh b):Wh (a+b):=by rw [h.eq,k.eq,←Rat.intCast_add];exact Wh.int _
theorem Wh.mul{a b:Rat}(h:Wh a)(k:Wh b):Wh (a*b):=by rw [h.eq,k.eq,←Rat.intCast_mul];exact Wh.int _
theorem Wh.neg{a:Rat}(h:Wh a):Wh (-a):=by rw [h.eq,←Rat.intCast_neg];exact Wh.int _
theorem Wh.zero:Wh 0:=rfl
theorem low(q:Rat):q*(q.den:Rat)=(q.num:Rat):=by
 have h:((q.den:Nat):Rat)≠0:=by
  intro h;have:=Rat.natCast_eq_zero_iff.1 h;exact q.den_nz this
 have e:q=(q.num:Rat) / ((q.den:Nat):Rat):=by
  rw [show ((q.num:Rat) / ((q.den:Nat):Rat))=mkRat q.num q.den by rw [Rat.mkRat_eq_div],Rat.mkRat_self]
 have:=cQ (a:=(q.num:Rat)) h;rw [←e] at this;exact this
theorem me{q:Rat}(h:q≠0):(q.num:Rat)≠0:=by
 intro h1;exact h (Rat.num_eq_zero.1 (Rat.intCast_eq_zero_iff.1 h1))
def iB(a b:Rat):Rat:=if a=0 then b.abs else if b=0 then a else (a / ((a / b).num:Rat)).abs
theorem CO{q:Rat}(h:q≠0):q.abs≠0:=by
 unfold Rat.abs;split
 ·exact h
 ·intro h1;exact h (by rw [←Rat.neg_neg (a:=q),h1];rfl)
theorem wZ{q:Rat}(h:q≠0):0<q.abs:=by
 have h1:=CO h;have h2:0≤q.abs:=by
  unfold Rat.abs;split
  ·assumption
  ·grind
 exact Rat.lt_of_le_of_ne h2 (Ne.symm h1)
theorem oV(q:Rat):q.abs=q∨q.abs=-q:=by
 unfold Rat.abs;split
 ·exact Or.inl rfl
 ·exact Or.inr rfl
def Mu(g b:Rat):Prop:=∃ z:Rat,Wh z∧b=z*g
theorem Mu.trans{g h b:Rat}(x:Mu g h)(y:Mu h b):Mu g b:=by
 obtain ⟨z,h1,rfl⟩:=x;obtain ⟨t,h2,rfl⟩:=y;exact ⟨t*z,h2.mul h1,by grind⟩
theorem Mu.abs{g b:Rat}(h:Mu g b):Mu g.abs b:=by
 obtain ⟨z,h1,h2⟩:=h;rcases oV g with e|e
 ·exact ⟨z,h1,by rw [e];exact h2⟩
 ·exact ⟨-z,h1.neg,by rw [e,h2];grind⟩
theorem Mu.self(g:Rat):Mu g g:=⟨1,rfl,by grind⟩
theorem Mu.zero(g:Rat):Mu g 0:=⟨0,rfl,by grind⟩
theorem Mu.div{g b:Rat}(h:Mu g b)(h0:g≠0):Wh (b / g):=by
 obtain ⟨z,h1,rfl⟩:=h;have:=nYk _ h0;rw [Rat.div_def,nYe,this,Rat.mul_one];exact h1
theorem Ei(a b:Rat):Mu (iB a b) a∧Mu (iB a b) b:=by
 unfold iB;by_cases ha:a=0
 ·rw [if_pos ha];exact ⟨by rw [ha];exact Mu.zero _,(Mu.self b).abs⟩
 ·rw [if_neg ha];by_cases hb:b=0
  ·rw [if_pos hb];exact ⟨Mu.self a,by rw [hb];exact Mu.zero _⟩
  ·rw [if_neg hb];have hq:a / b≠0:=by
    intro h;have:=cQ (a:=a) hb;rw [h] at this;exact ha (by rw [←this];grind)
   have hN:=me hq;have e1:=low (a / b);have e2:=cQ (a:=a) hb;have e3:=cQ (a:=a) hN;refine ⟨Mu.abs ⟨_,Wh.int (a / b).num,?_⟩,Mu.abs ⟨_,Wh.int ((a / b).den:Int),?_⟩⟩
   ·rw [nYd];exact e3.symm
   ·have e4:(((a / b).den:Int):Rat)=((a / b).den:Rat):=rfl;rw [e4];have h5:((a / b).num:Rat)*(((a / b).den:Rat)*(a / ((a / b).num:Rat)))=((a / b).num:Rat)*b:=by
     have:((a / b).num:Rat)*b=a*((a / b).den:Rat):=by
      rw [←e1];have:a / b*((a / b).den:Rat)*b=(a / b*b)*((a / b).den:Rat):=by grind
      rw [this,e2]
     rw [this];have:((a / b).num:Rat)*(((a / b).den:Rat)*(a / ((a / b).num:Rat)))=(a / ((a / b).num:Rat)*((a / b).num:Rat))*((a / b).den:Rat):=by grind
     rw [this,e3]
    have h6:=nYk _ hN;have h7:∀ x:Rat,x=((a / b).num:Rat)⁻¹*(((a / b).num:Rat)*x):=fun x=>by
     rw [←nYe,nYd _ ((a / b).num:Rat),h6,Rat.one_mul]
    exact (h7 b).trans (by rw [←h5,←h7])
theorem Cy{a b:Rat}(ha:0≤a)(h:a≠0∨b≠0):0<iB a b:=by
 unfold iB;by_cases h0:a=0
 ·rw [if_pos h0];exact wZ (h.resolve_left (fun h1=>h1 h0))
 ·rw [if_neg h0];by_cases hb:b=0
  ·rw [if_pos hb];exact Rat.lt_of_le_of_ne ha (Ne.symm h0)
  ·rw [if_neg hb];apply wZ;intro h1;have hq:a / b≠0:=by
    intro h;have:=cQ (a:=a) hb;rw [h] at this;exact h0 (by rw [←this];grind)
   have e3:=cQ (a:=a) (me hq);rw [h1] at e3;exact h0 (by rw [←e3];grind)
theorem rU:iB 0 0=0:=by unfold iB;rw [if_pos rfl];rfl
def bj(l:List Rat):Rat:=l.foldl iB 0
theorem eN(l:List Rat)(x:Rat):bj (l++[x])=iB (bj l) x:=by
 unfold bj;rw [List.foldl_append];rfl
theorem oh(l:List Rat):(0≤bj l)∧(∀ x ∈ l,Mu (bj l) x)∧((∃ x ∈ l,x≠0)→0<bj l):=by
 induction l using snoc_ind with
 | h0=>exact ⟨Rat.le_refl,fun x hx=>by simp at hx,fun ⟨x,hx,_⟩=>by simp at hx⟩
 | h1 l r ih =>
  obtain ⟨h1,h2,h3⟩:=ih;rw [eN];obtain ⟨m1,m2⟩:=Ei (bj l) r;have hp:(bj l≠0∨r≠0)→0<iB (bj l) r:=Cy h1;refine ⟨?_,fun x hx=>?_,fun ⟨x,hx,hx0⟩=>?_⟩
  ·by_cases h:bj l≠0∨r≠0
   ·exact Rat.le_of_lt (hp h)
   ·have e1:bj l=0:=Decidable.byContradiction fun h4=>h (Or.inl h4)
    have e2:r=0:=Decidable.byContradiction fun h4=>h (Or.inr h4)
    rw [e1,e2,rU];exact Rat.le_refl
  ·rcases List.mem_append.1 hx with hx|hx
   ·exact m1.trans (h2 x hx)
   ·obtain rfl:x=r:=by simpa using hx
    exact m2
  ·refine hp ?_;rcases List.mem_append.1 hx with hx|hx
   ·left
    have:=h3 ⟨x,hx,hx0⟩;exact fun h=>by rw [h] at this;exact absurd this (Rat.lt_irrefl)
   ·obtain rfl:x=r:=by simpa using hx
    exact Or.inr hx0
def aR(p:List Rat):Rat:=bj (tz p)
def ay(p:List Rat):List Rat:=(tz p).map (· / aR p)
theorem o7{p:List Rat}(h:tz p=[]):aR p=0∧ay p=[]:=by
 unfold ay aR;rw [h];exact ⟨rfl,rfl⟩
theorem bs{p:List Rat}(h:tz p≠[]):0<aR p:=by
 refine (oh (tz p)).2.2 ⟨bL (tz p),?_,ci h⟩;have:=nYh.2 h;unfold bL;rw [show (tz p).getD ((tz p).length-1) 0=(tz p)[(tz p).length-1] by simp [show (tz p).length-1<(tz p).length by omega]];exact List.getElem_mem _
theorem aG(p:List Rat):(ay p).length=(tz p).length:=by unfold ay;rw [nXl]
theorem Aj(p:List Rat):∀ x ∈ ay p,Wh x:=by
 intro x hx;obtain ⟨y,hy,rfl⟩:=nYg.1 hx;have h:tz p≠[]:=fun h=>by rw [h] at hy;simp at hy
 have hp:=bs h;exact ((oh (tz p)).2.1 y hy).div (fun h0=>by unfold aR at hp;rw [h0] at hp;exact absurd hp Rat.lt_irrefl)
theorem fh(p:List Rat)(n:Nat):seq p n=aR p*seq (ay p) n:=by
 by_cases h:tz p=[]
 ·rw [(o7 h).1,←bA p,h];show (0:Rat)=0*_;grind
 ·have hp:=bs h;have h0:aR p≠0:=fun h0=>by rw [h0] at hp;exact absurd hp Rat.lt_irrefl
  have e:ay p=(tz p).map (·*(aR p)⁻¹):=by
   unfold ay;apply List.map_congr_left;intro x _;rw [Rat.div_def]
  rw [e,bB,bA];have:=nYk _ h0;grind
theorem bq(p:List Rat):tz (ay p)=ay p:=by
 by_cases h:tz p=[]
 ·rw [(o7 h).2];rfl
 ·have hp:=bs h;have h0:aR p≠0:=fun h0=>by rw [h0] at hp;exact absurd hp Rat.lt_irrefl
  have e:ay p=(tz p).map (·*(aR p)⁻¹):=by
   unfold ay;apply List.map_congr_left;intro x _;rw [Rat.div_def]
  rw [e,kF (fun h1=>h0 (by rw [←Rat.inv_inv (aR p),h1,Rat.inv_zero])),bQ]
theorem lR(p:List Rat):Pr (ay p) p:=by
 by_cases h:tz p=[]
 ·rw [(o7 h).2];exact ⟨1,dZ,fun n=>by rw [←bA p,h];grind⟩
 ·have hp:=bs h;have h0:aR p≠0:=fun h0=>by rw [h0] at hp;exact absurd hp Rat.lt_irrefl
  exact Pr.symm ⟨_,h0,fh p⟩
theorem Wh.castdiv{q:Rat}{D:Nat}(hD:0<D)(h:Wh (q*(D:Rat))):q=mkRat (q*(D:Rat)).num D:=by
 have h0:(D:Rat)≠0:=fun h=>by
  have:D=0:=by exact_mod_cast h
  omega
 have h1:=h.eq;have h2:=nYk _ h0;rw [Rat.mkRat_eq_div,←h1,Rat.div_def,nYe];exact (by rw [h2,Rat.mul_one]:q=q*((D:Rat)*(D:Rat)⁻¹))
def Fr(S D:Nat)(q:Rat):Prop:=Wh (q*(D:Rat))∧(q*(D:Rat)).num.natAbs<W32 ^ S
theorem Fr.sz{S D:Nat}{q:Rat}(h:Fr S D q)(hS:1≤S)(hD:0<D)(hl:D<W32 ^ S):Sz S q:=by
 rw [h.1.castdiv hD];exact Sz.mk hS h.2 hl
theorem Fr.neg{S D:Nat}{q:Rat}(h:Fr S D q):Fr S D (-q):=by
 unfold Fr;rw [Rat.neg_mul,Rat.neg_num,Int.natAbs_neg];exact ⟨h.1.neg,h.2⟩
theorem Fr.abs{S D:Nat}{q:Rat}(h:Fr S D q):Fr S D q.abs:=by
 rcases oV q with e|e <;> rw [e]
 ·exact h
 ·exact h.neg
theorem Fr.zero(S D:Nat):Fr S D 0:=by
 unfold Fr;rw [nYb];exact ⟨rfl,nYn aI⟩
theorem Fr.int{S:Nat}{z:Int}(h:z.natAbs<W32 ^ S){q:Rat}{D:Nat}(hq:q*(D:Rat)=(z:Rat)):Fr S D q:=by
 unfold Fr;rw [hq,Rat.num_intCast];exact ⟨Wh.int z,h⟩
theorem uI{a b:Rat}(hb:b≠0){A B:Int}{D:Rat}(hA:a*D=(A:Rat))(hB:b*D=(B:Rat)):∃ t:Int,A=(a / b).num*t:=by
 have e1:=low (a / b);have e2:=cQ (a:=a) hb;have e3:A*((a / b).den:Int)=(a / b).num*B:=by
  have:((A*((a / b).den:Int):Int):Rat)=(((a / b).num*B:Int):Rat):=by
   rw [Rat.intCast_mul,Rat.intCast_mul,←hA,←hB,←e1,show (((a / b).den:Int):Rat)=((a / b).den:Rat) from rfl];have:a / b*((a / b).den:Rat)*(b*D)=(a / b*b)*D*((a / b).den:Rat):=by grind
   rw [this,e2]
  exact Rat.intCast_inj.1 this
 have hc:(a / b).num.natAbs.Coprime (a / b).den:=(a / b).reduced;have h4:(a / b).num.natAbs ∣ A.natAbs*(a / b).den:=by
  have:=congrArg Int.natAbs e3;rw [Int.natAbs_mul,Int.natAbs_mul,nYi] at this;rw [this];exact Nat.dvd_mul_right _ _
 have h5:=hc.dvd_of_dvd_mul_right h4;obtain ⟨t,ht⟩:=Int.natAbs_dvd_natAbs.1 h5;exact ⟨t,ht⟩
theorem fK{x t:Int}(h:x*t≠0):t.natAbs≤(x*t).natAbs∧x.natAbs≤(x*t).natAbs:=by
 rw [Int.natAbs_mul];have hx:0<x.natAbs:=Nat.pos_of_ne_zero fun h1=>h (by rw [Int.natAbs_eq_zero.1 h1,Int.zero_mul])
 have ht:0<t.natAbs:=Nat.pos_of_ne_zero fun h1=>h (by rw [Int.natAbs_eq_zero.1 h1,Int.mul_zero])
 exact ⟨Nat.le_mul_of_pos_left _ hx,Nat.le_mul_of_pos_right _ ht⟩
theorem Ej{S D:Nat}{a b:Rat}(ha:Fr S D a)(hb:Fr S D b):Fr S D (iB a b):=by
 unfold iB;by_cases h0:a=0
 ·rw [if_pos h0];exact hb.abs
 ·rw [if_neg h0];by_cases h1:b=0
  ·rw [if_pos h1];exact ha
  ·rw [if_neg h1];apply Fr.abs;have hq:a / b≠0:=by
    intro h;have:=cQ (a:=a) h1;rw [h] at this;exact h0 (by rw [←this];grind)
   have hN:=me hq;obtain ⟨t,ht⟩:=uI h1 ha.1.eq hb.1.eq;have e3:=cQ (a:=a) hN;have e4:=ha.1.eq;have h6:=nYk _ hN;have e5:a / ((a / b).num:Rat)*(D:Rat)=(t:Rat):=by
    have h8:a*(D:Rat)=((a / b).num:Rat)*(t:Rat):=by rw [e4,ht,Rat.intCast_mul]
    have h9:a / ((a / b).num:Rat)*(D:Rat)=((a / b).num:Rat)⁻¹*(a*(D:Rat)):=by rw [Rat.div_def];grind
    rw [h9,h8,←nYe,nYd _ ((a / b).num:Rat),h6,Rat.one_mul]
   refine Fr.int ?_ e5;by_cases hA:(a / b).num*t=0
   ·rcases Int.mul_eq_zero.1 hA with h|h
    ·rw [h] at hN;exact absurd rfl hN
    ·rw [h];exact nYn aI
   ·have:=(fK hA).1;rw [←ht] at this;exact nYl this ha.2
theorem iE{S D:Nat}{l:List Rat}(h:∀ x ∈ l,Fr S D x):Fr S D (bj l):=by
 induction l using snoc_ind with
 | h0=>exact Fr.zero S D
 | h1 l r ih =>
  rw [eN];exact Ej (ih fun x hx=>h x (List.mem_append_left _ hx)) (h r (List.mem_append_right _ (List.mem_singleton_self r)))
def Wz(S:Nat)(q:Rat):Prop:=Wh q∧q.num.natAbs<W32 ^ S
theorem Wz.sz{S:Nat}{q:Rat}(h:Wz S q)(hS:1≤S):Sz S q:=⟨h.2,by rw [h.1];exact Nat.one_lt_pow zo dZ⟩
theorem Wz.mono{S S':Nat}{q:Rat}(h:Wz S q)(hS:S≤S'):Wz S' q:=⟨h.1,nXn h.2 (nXp aI hS)⟩
theorem Wz.int{S:Nat}{z:Int}(h:z.natAbs<W32 ^ S):Wz S (z:Rat):=⟨Wh.int z,by rw [Rat.num_intCast];exact h⟩
theorem Wz.zero(S:Nat):Wz S 0:=Wz.int (z:=0) (nYn aI)
theorem Wz.one:Wz 1 1:=Wz.int (z:=1) dZ
theorem Wz.neg{S:Nat}{a:Rat}(h:Wz S a):Wz S (-a):=⟨h.1.neg,by rw [Rat.neg_num,Int.natAbs_neg];exact h.2⟩
theorem Wz.mul{S U:Nat}{a b:Rat}(ha:Wz S a)(hb:Wz U b):Wz (S+U) (a*b):=by
 rw [ha.1.eq,hb.1.eq,←Rat.intCast_mul];refine Wz.int ?_;rw [Int.natAbs_mul,Nat.pow_add];exact Nat.mul_lt_mul_of_lt_of_lt ha.2 hb.2
theorem Wz.add{S:Nat}{a b:Rat}(ha:Wz S a)(hb:Wz S b):Wz (S+1) (a+b):=by
 rw [ha.1.eq,hb.1.eq,←Rat.intCast_add];refine Wz.int ?_;have:=Int.natAbs_add_le a.num b.num;have h5:W32 ^ S*2≤W32 ^ (S+1):=by rw [nXu];exact nXg _ dZ
 have:=ha.2;have:=hb.2;omega
theorem Wz.sub{S:Nat}{a b:Rat}(ha:Wz S a)(hb:Wz S b):Wz (S+1) (a-b):=by
 rw [Rat.sub_eq_add_neg];exact ha.add hb.neg
theorem Wz.parts{S U:Nat}{a b:Rat}(ha:Wz S a)(hb:Wz U b)(h0:b≠0):Wz S ((a / b).num:Rat)∧Wz U (((a / b).den:Int):Rat):=by
 have hA:a*1=(a.num:Rat):=by rw [Rat.mul_one];exact ha.1.eq
 have hB:b*1=(b.num:Rat):=by rw [Rat.mul_one];exact hb.1.eq
 obtain ⟨t,ht⟩:=uI h0 hA hB;have e1:=low (a / b);have e2:=cQ (a:=a) h0;have e3:a.num*((a / b).den:Int)=(a / b).num*b.num:=by
  have:((a.num*((a / b).den:Int):Int):Rat)=(((a / b).num*b.num:Int):Rat):=by
   rw [Rat.intCast_mul,Rat.intCast_mul,←hA,←hB,←e1,show (((a / b).den:Int):Rat)=((a / b).den:Rat) from rfl];have:a / b*((a / b).den:Rat)*(b*1)=(a / b*b)*1*((a / b).den:Rat):=by grind
   rw [this,e2]
  exact Rat.intCast_inj.1 this
 have hbn:b.num≠0:=fun h=>h0 (Rat.num_eq_zero.1 h)
 constructor
 ·refine Wz.int ?_;by_cases hA0:(a / b).num*t=0
  ·rcases Int.mul_eq_zero.1 hA0 with h|h
   ·rw [h];exact nYn aI
   ·have hz:a.num=0:=by rw [ht,h,Int.mul_zero]
    have:a=0:=Rat.num_eq_zero.1 hz;rw [this,Rat.div_def,nYb];exact nYn aI
  ·have:=(fK hA0).2;rw [←ht] at this;exact nYl this ha.2
 ·refine Wz.int ?_;rw [nYi];have hc:(a / b).num.natAbs.Coprime (a / b).den:=(a / b).reduced;have h4:(a / b).den ∣ (a / b).num.natAbs*b.num.natAbs:=by
   have:=congrArg Int.natAbs e3;rw [Int.natAbs_mul,Int.natAbs_mul,nYi] at this;rw [←this];exact Nat.dvd_mul_left _ _
  have h5:=hc.symm.dvd_of_dvd_mul_left h4;exact nYl (Nat.le_of_dvd (Nat.pos_of_ne_zero fun h=>hbn (Int.natAbs_eq_zero.1 h)) h5) hb.2
theorem d9{S D:Nat}{p:List Rat}(hp:∀ x ∈ tz p,Fr S D x)(hD:0<D):∀ x ∈ ay p,Wz S x:=by
 intro x hx;have hw:=Aj p x hx;refine ⟨hw,?_⟩;unfold ay at hx;obtain ⟨c,hc,rfl⟩:=nYg.1 hx;have hne:tz p≠[]:=fun h=>by rw [h] at hc;simp at hc
 have hpos:=bs hne;have hm0:aR p≠0:=fun h=>by rw [h] at hpos;exact absurd hpos Rat.lt_irrefl
 have hm:Fr S D (aR p):=iE hp;have hD0:(D:Rat)≠0:=fun h=>by
  have:D=0:=by exact_mod_cast h
  omega
 have h1:=(hp c hc).1.eq;have h2:=hm.1.eq;have h3:=cQ (a:=c) hm0;have h4:(c*(D:Rat)).num=(c / aR p).num*(aR p*(D:Rat)).num:=by
  have:(((c*(D:Rat)).num:Int):Rat)=(((c / aR p).num*(aR p*(D:Rat)).num:Int):Rat):=by
   rw [Rat.intCast_mul,←h1,←h2,←hw.eq,←nYe,h3]
  exact Rat.intCast_inj.1 this
 by_cases h0:(c / aR p).num*(aR p*(D:Rat)).num=0
 ·rcases Int.mul_eq_zero.1 h0 with h|h
  ·rw [h];exact nYn aI
  ·exfalso;rw [h] at h2;rcases nXr.1 h2 with h5|h5
   ·exact hm0 h5
   ·exact hD0 h5
 ·have:=(fK h0).2;rw [←h4] at this;exact nYl this (hp c hc).2
theorem AI{k:Nat}:∀ (p:List Rat),(∀ x ∈ p,Sz k x)→∃ D:Nat,0<D∧D<W32 ^ (k*p.length+1)∧∀ x ∈ p,Fr (k*(p.length+1)+1) D x
 | [],_=>⟨1,dZ,by simp [W32],fun x hx=>by simp at hx⟩
 | q :: p,h=>by
  obtain ⟨D,h1,h2,h3⟩:=AI p fun x hx=>h x (List.mem_cons_of_mem _ hx)
  have hq:=h q (List.mem_cons_self ..);have hk:=hq.one_le;have e1:k*((q :: p).length)+1=(k*p.length+1)+k:=by rw [List.length_cons,Nat.mul_add];omega
  have e2:k*((q :: p).length+1)+1=(k*(p.length+1)+1)+k:=by rw [List.length_cons,Nat.mul_add,Nat.mul_add];omega
  refine ⟨D*q.den,Nat.mul_pos h1 q.den_pos,?_,fun x hx=>?_⟩
  ·rw [e1,Nat.pow_add];exact Nat.mul_lt_mul_of_lt_of_lt h2 hq.2
  ·rw [e2];rcases List.mem_cons.1 hx with rfl|hx
   ·refine Fr.int (z:=x.num*D) ?_ ?_
    ·have e3:k*(p.length+1)+1+k=k+(k*p.length+1)+k:=by rw [Nat.mul_add];omega
     rw [Int.natAbs_mul,nYi,e3,Nat.pow_add];refine nXn (m:=W32 ^ (k+(k*p.length+1))) ?_ (Nat.le_mul_of_pos_right _ (nYn aI));rw [Nat.pow_add];exact Nat.mul_lt_mul_of_lt_of_lt hq.1 h2
    ·have:=low x;have e4:(((D*x.den:Nat)):Rat)=(D:Rat)*(x.den:Rat):=by push_cast;rfl
     rw [e4,Rat.intCast_mul,←this];have:(((D:Nat):Int):Rat)=(D:Rat):=rfl;rw [this];grind
   ·obtain ⟨f1,f2⟩:=h3 x hx;refine Fr.int (z:=(x*(D:Rat)).num*q.den) ?_ ?_
    ·rw [Int.natAbs_mul,nYi,Nat.pow_add];exact Nat.mul_lt_mul_of_lt_of_lt f2 hq.2
    ·have e4:(((D*q.den:Nat)):Rat)=(D:Rat)*(q.den:Rat):=by push_cast;rfl
     rw [e4,Rat.intCast_mul,←f1.eq];have:(((q.den:Nat):Int):Rat)=(q.den:Rat):=rfl;rw [this];grind
theorem pO{l:List Rat}{k:Nat}{x:Rat}(h:k<l.length):(l.set k x).getD k 0=x:=by simp [h]
theorem jL{l:List Rat}{k i:Nat}{x:Rat}(h:k≠i):(l.set k x).getD i 0=l.getD i 0:=by simp [h]
theorem gB(l:List Rat)(c:Rat)(n:Nat):(l.map (·*c)).getD n 0=l.getD n 0*c:=bB l c n
def cL(os:List Rat)(n:Nat)(q:Rat):List Rat:=(os.take n).map (·*q)++os.drop n
theorem aF(os:List Rat)(n:Nat)(q:Rat):(cL os n q).length=os.length:=by
 unfold cL;rw [nXi,nXl,nXk,nYa];omega
theorem oe{os:List Rat}{n:Nat}(q:Rat)(h:n≤os.length):(cL os n q).take n=(os.take n).map (·*q):=by
 unfold cL;rw [List.take_append_of_le_length (by rw [nXl,nXk];omega),nXm (by rw [nXl,nXk];omega)]
theorem mY(os:List Rat)(n:Nat):cL os n 1=os:=by
 unfold cL;rw [show (fun x:Rat=>x*1)=id from funext fun x=>Rat.mul_one x,List.map_id,List.take_append_drop]
theorem cS{os:List Rat}{n i:Nat}(h:i<n):(os.take n).getD i 0=os.getD i 0:=by
 rw [nXd,nXd,List.getElem?_take_of_lt h]
theorem kN{os:List Rat}{n i:Nat}(q:Rat)(h:n≤os.length)(hi:i<n):(cL os n q).getD i 0=os.getD i 0*q:=by
 rw [←cS hi,oe q h,gB,cS hi]
def gH(os:List Rat)(a:Nat)(q:List Rat)(c:Rat):Nat→List Rat
 | 0=>os
 | k+1=>(gH os a q c k).set (a+k) ((gH os a q c k).getD (a+k) 0-c*q.getD k 0)
theorem aY(os:List Rat)(a:Nat)(q:List Rat)(c:Rat)(k:Nat):(gH os a q c k).length=os.length:=by
 induction k with
 | zero=>rfl
 | succ k ih=>unfold gH;rw [nXo,ih]
theorem kf(os:List Rat)(a:Nat)(q:List Rat)(c:Rat)(k:Nat)(h:a+k≤os.length)(i:Nat):(gH os a q c k).getD i 0=os.getD i 0-if a≤i∧i<a+k then c*q.getD (i-a) 0 else 0:=by
 induction k with
 | zero=>rw [if_neg zo];show os.getD i 0=_;grind
 | succ k ih =>
  have ih:=ih zo;have hl:=aY os a q c k;unfold gH;by_cases hi:a+k=i
  ·subst hi;rw [pO zo,ih,if_neg zo,if_pos zo,Nat.add_sub_cancel_left];grind
  ·rw [jL hi,ih]
   congr 1
   by_cases h2:a≤i∧i<a+k
   ·rw [if_pos h2,if_pos zo]
   ·rw [if_neg h2,if_neg zo]
structure DvI (p q:List Rat) (S U j:Nat) (sl r:List Rat) (f:Rat):Prop where
 fne:f≠0
 fw:Wz (1+j*U) f
 sw:∀ x ∈ sl,Wz (S+j*(U+1)) x
 rz:∀ x ∈ r,Wz (S+j*(U+1)) x
 tzr:tz r=r
 eq:∀ n,f*seq p n=cv (seq sl) (seq q) n+seq r n
 lo:∀ i,i+q.length≤r.length→sl.getD i 0=0
 sl:sl.length+q.length=p.length+1
 rl:r.length+j≤p.length
 jl:j+q.length≤p.length+1
theorem DvI.start{p q:List Rat}{S U:Nat}(hp:∀ x ∈ p,Wz S x)(ht:tz p=p)(hl:q.length≤p.length):DvI p q S U 0 (List.replicate (p.length-q.length+1) 0) p 1:=by
 refine ⟨dZ,Wz.one.mono zo,fun x hx=>?_,fun x hx=>(hp x hx).mono zo,ht,fun n=>?_,fun i _=>mM _ _,by rw [nXx];omega,zo,zo⟩
 ·rw [List.eq_of_mem_replicate hx];exact Wz.zero _
 ·rw [uk,nm];grind
theorem ep{l:List Rat}{x:Rat}(h:x ∈ l):∃ i,i<l.length∧l.getD i 0=x:=by
 obtain ⟨i,hi,rfl⟩:=List.getElem_of_mem h;exact ⟨i,hi,by rw [nXd,List.getElem?_eq_getElem hi];rfl⟩
theorem bH{l:List Rat}{i:Nat}(h:i<l.length):l.getD i 0 ∈ l:=by
 rw [nXd,List.getElem?_eq_getElem h];exact List.getElem_mem h
theorem DvI.step{p q:List Rat}{S U j:Nat}{sl r:List Rat}{f:Rat}(h:DvI p q S U j sl r f)(hq:0<q.length)(h0:bL q≠0)(hw:∀ x ∈ q,Wz U x)(hle:q.length≤r.length){c:Rat}(hc:c=bL r / bL q)
 {r2:List Rat}(hl2:r2.length=r.length)(hr2:∀ i,i<r.length→r2.getD i 0=r.getD i 0*((c.den:Int):Rat)-if r.length-q.length≤i then (c.num:Rat)*q.getD (i-(r.length-q.length)) 0 else 0) :
  DvI p q S U (j+1) ((sl.map (·*((c.den:Int):Rat))).set (r.length-q.length) (c.num:Rat)) (tz r2) (f*((c.den:Int):Rat)):=by
 have hlw:Wz (S+j*(U+1)) (bL r):=h.rz _ (bH zo);have hqw:Wz U (bL q):=hw _ (bH zo);obtain ⟨wn,wd⟩:=hlw.parts hqw h0;rw [←hc] at wn wd;have hcd:=low c;have hcq:c*bL q=bL r:=by rw [hc];exact cQ h0
 have hd0:((c.den:Int):Rat)≠0:=fun h1=>by
  have:c.den=0:=by exact_mod_cast h1
  exact c.den_nz this
 have hdd:((c.den:Int):Rat)=(c.den:Rat):=rfl;have e1:S+(j+1)*(U+1)=(S+j*(U+1)+U)+1:=by rw [Nat.add_mul];omega
 have hsl:sl.length+q.length=p.length+1:=h.sl;have hrl:=h.rl;have hseq2:∀ i,seq r2 i=seq r i*((c.den:Int):Rat)-(c.num:Rat)*shn (r.length-q.length) (seq q) i:=by
  intro i;unfold shn seq;rcases Nat.lt_or_ge i r.length with hi|hi
  ·rw [hr2 i hi]
   congr 1
   by_cases h2:r.length-q.length≤i
   ·rw [if_pos h2,if_pos h2]
   ·rw [if_neg h2,if_neg h2];grind
  ·rw [bu (l:=r2) zo,bu hi,if_pos zo,bu (l:=q) zo];grind
 have htop:r2.getD (r.length-1) 0=0:=by
  rw [hr2 _ zo,if_pos zo,show r.length-1-(r.length-q.length)=q.length-1 by omega];show bL r*_-_*bL q=0;rw [←hcq,←hcd,hdd];grind
 have hlt:(tz r2).length+1≤r.length:=by
  have h3:=aj r2;rcases Nat.lt_or_ge (tz r2).length r.length with h4|h4
  ·exact h4
  ·exact absurd htop (jT zo)
 refine ⟨?_,?_,?_,?_,bQ _,fun n=>?_,fun i hi=>?_,by rw [nXo,nXl];exact h.sl,zo,zo⟩
 ·intro h1;rcases nXr.1 h1 with h2|h2
  ·exact h.fne h2
  ·exact hd0 h2
 ·exact (h.fw.mul wd).mono (by rw [Nat.add_mul];omega)
 ·intro x hx;rcases List.mem_or_eq_of_mem_set hx with hx|rfl
  ·obtain ⟨y,hy,rfl⟩:=nYg.1 hx;exact ((h.sw y hy).mul wd).mono zo
  ·exact wn.mono zo
 ·intro x hx;obtain ⟨i,hi,rfl⟩:=ep hx;rw [bC,hr2 i zo,e1];refine Wz.sub ((h.rz _ (bH zo)).mul wd) ?_;by_cases h2:r.length-q.length≤i
  ·rw [if_pos h2];exact wn.mul (hw _ (bH zo))
  ·rw [if_neg h2];exact Wz.zero _
 ·rw [As (by rw [nXl];omega) (by rw [gB,h.lo _ zo];grind),oQ];show _=cv (seq (sl.map _)) (seq q) n+cv (fun n=>if n=r.length-q.length then (c.num:Rat) else 0) (seq q) n+_;have e2:seq (sl.map (·*((c.den:Int):Rat)))=fun n=>((c.den:Int):Rat)*seq sl n:=funext fun n=>by rw [bB];grind
  rw [wB,bA,hseq2,e2,jN];have e3:=h.eq n;show f*_*seq p n=((c.den:Int):Rat)*cv (seq sl) (seq q) n+_+_;grind
 ·rw [jL zo,gB,h.lo i zo];grind
theorem yz{os:List Rat}{n:Nat}(q:Rat)(h:os.length=n):cL os n q=os.map (·*q):=by
 unfold cL;rw [nXm zo,List.drop_of_length_le zo,List.append_nil]
theorem DvI.row{p q:List Rat}{S U j M m t:Nat}{sl ros:List Rat}{f:Rat}(h:DvI p q S U j sl (ros.take (t+m+1)) f)(hql:q.length=m+1)(hrl:t+m+1≤ros.length)(hsl:sl.length=M)(h0:bL q≠0)(hw:∀ x ∈ q,Wz U x)
 {cq num den:Rat}(hc:cq=bL (ros.take (t+m+1)) / bL q)(hn:num=((cq.num:Int):Rat))(hd:den=(((cq.den:Nat):Int):Rat)) :
  DvI p q S U (j+1) ((cL sl M den).set t num) (tz ((gH (cL ros (t+m+1) den) t q num (m+1)).take (t+m+1))) (f*den)∧(∀ x ∈ (gH (cL ros (t+m+1) den) t q num (m+1)).take (t+m+1),Wz (S+j*(U+1)+U+1) x):=by
 have hrt:(ros.take (t+m+1)).length=t+m+1:=by rw [nXk];omega
 have hl2:((gH (cL ros (t+m+1) den) t q num (m+1)).take (t+m+1)).length=(ros.take (t+m+1)).length:=by rw [nXk,aY,aF,hrt];omega
 have hlw:Wz (S+j*(U+1)) (bL (ros.take (t+m+1))):=h.rz _ (bH zo);have hqw:Wz U (bL q):=hw _ (bH zo);obtain ⟨wn,wd⟩:=hlw.parts hqw h0;rw [←hc] at wn wd;have hr2:∀ i,i<(ros.take (t+m+1)).length→((gH (cL ros (t+m+1) den) t q num (m+1)).take (t+m+1)).getD i 0=(ros.take (t+m+1)).getD i 0*(((cq.den:Nat):Int):Rat)-if (ros.take (t+m+1)).length-q.length≤i then ((cq.num:Int):Rat)*q.getD (i-((ros.take (t+m+1)).length-q.length)) 0 else 0:=by
  intro i hi;rw [hrt] at hi;rw [hrt,hql,cS hi,cS hi,kf _ _ _ _ _ (by rw [aF];omega),kN _ zo hi,←hd,←hn,show t+m+1-(m+1)=t by omega]
  congr 1
  by_cases h2:t≤i
  ·rw [if_pos h2,if_pos zo]
  ·rw [if_neg h2,if_neg zo]
 have h1:=h.step zo h0 hw zo hc hl2 hr2;rw [hrt,hql,show t+m+1-(m+1)=t by omega,←hd,←hn,←yz _ hsl] at h1;refine ⟨h1,fun x hx=>?_⟩;obtain ⟨i,hi,rfl⟩:=ep hx;rw [hr2 i zo];refine Wz.sub ((h.rz _ (bH zo)).mul wd) ?_;by_cases h2:(ros.take (t+m+1)).length-q.length≤i
 ·rw [if_pos h2];exact wn.mul (hw _ (bH zo))
 ·rw [if_neg h2];exact Wz.zero _
theorem o8{q:List Rat}(h:tz q≠[]):aR q≠0:=fun h1=>by
 have:=bs h;rw [h1] at this;exact absurd this Rat.lt_irrefl
theorem zt{p q s r:List Rat}{f:Rat}(hq:tz q≠[])(hf:f≠0)(hr:r.length<(ay q).length)(he:∀ n,f*seq (ay p) n=cv (seq s) (seq (ay q)) n+seq r n) :
  tz (s.map (·*(aR p / f / aR q)))=bK p q∧tz (r.map (·*(aR p / f)))=bX p q:=by
 have hm:=o8 hq;have e0:∀ x:Rat,x / f*f=x:=fun x=>cQ hf
 have e1:∀ x:Rat,x / aR q*aR q=x:=fun x=>cQ hm
 have hsq:seq q=fun n=>aR q*seq (ay q) n:=funext fun n=>fh q n
 obtain ⟨h1,h2⟩:=jk (p:=p) (q:=q) hq (s:=fun n=>aR p / aR q*seq s n) (r:=fun n=>aR p*seq r n) (F:=f) (N:=s.length)
  (fun i hi=>by show _*seq s i=0;rw [Bd.seq s i hi];grind) (fun i hi=>by show _*seq r i=0;rw [Bd.seq r i (by rw [aG] at hr;omega)];grind) (fun n=>by
   rw [jN,np,hsq,jN,np,fh p n];have:=he n;have e2:=e1 (aR p);show f*(aR p*seq (ay p) n)=aR p / aR q*(aR q*cv (seq s) (seq (ay q)) n)+aR p*seq r n;have e3:aR p / aR q*(aR q*cv (seq s) (seq (ay q)) n)=aR p / aR q*aR q*cv (seq s) (seq (ay q)) n:=by grind
   rw [e3,e2];have e4:f*(aR p*seq (ay p) n)=aR p*(f*seq (ay p) n):=by grind
   rw [e4,this];grind)
 obtain ⟨-,g2,g3,-⟩:=dz p hq;have cancel:∀ a b:Rat,a*f=b*f→a=b:=fun a b h=>by
  have h5:=nYk _ hf;have h6:a*f*f⁻¹=b*f*f⁻¹:=by rw [h]
  rwa [nYe,nYe,h5,Rat.mul_one,Rat.mul_one] at h6
 constructor
 ·rw [←g3];refine lZ fun n=>?_
  rw [bB];apply cancel;have:=h1 n;have e5:aR p / f / aR q*f=aR p / aR q:=by
   rw [Rat.div_def,Rat.div_def,Rat.div_def];have h5:=nYk _ hf;have:aR p*f⁻¹*(aR q)⁻¹*f=aR p*(aR q)⁻¹*(f*f⁻¹):=by grind
   rw [this,h5,Rat.mul_one]
  have e6:seq s n*(aR p / f / aR q)*f=aR p / f / aR q*f*seq s n:=by grind
  rw [e6,e5,nYd _ f];exact this
 ·rw [←g2];refine lZ fun n=>?_
  rw [bB];apply cancel;have:=h2 n;have e6:seq r n*(aR p / f)*f=aR p / f*f*seq r n:=by grind
  rw [e6,e0,nYd _ f];exact this
theorem vM{a b s r:List Rat}{f:Rat}(hb:tz b=b)(hb0:b≠[])(hf:f≠0)(hr:r.length<b.length)(he:∀ n,f*seq a n=cv (seq s) (seq b) n+seq r n) :
  oH b.length (cI a) (cI b)=oH (ay r).length (cI b) (cI (ay r)):=by
 have hbt:tz b≠[]:=by rw [hb];exact hb0
 have hbl:=nYh.2 hb0;obtain ⟨k,hk⟩:∃ k,b.length=k+1:=⟨b.length-1,zo⟩;have hmb:(cI b).length=b.length:=by rw [fL,hb]
 have hm0:cI b≠[]:=fun h=>by rw [h] at hmb;simp at hmb;omega
 rw [hk,gC hm0];have h1:Pr (bX (cI a) (cI b)) (bX a b):=mO (gv a) (gv b) hbt;have h2:Pr r (bX a b):=pq hbt hf (Bd.seq s) (by rw [hb];exact hr) he;have h3:cI (bX (cI a) (cI b))=cI (ay r):=by rw [h1.mon,←h2.mon,(lR r).mon]
 rw [h3];have hl:(cI (ay r)).length=(ay r).length:=by rw [fL,bq]
 have hr2:=aj r;exact vP _ _ _ _ (gu _) (by rw [hl,aG];omega) (by rw [hl];exact nXe _)
theorem vN(p q:List Rat):oH (ay q).length (cI (ay p)) (cI (ay q))=aV p q:=by
 unfold aV;rw [aG,(lR p).mon,(lR q).mon]
end Go.Proofs.YtkcpmclnocmalaaGreat
