import Derived.Test.YtkcpmclnocmalaaGreatQMK14
set_option linter.unusedVariables false
set_option maxHeartbeats 4000000
set_option maxRecDepth 8000
namespace Go.Proofs.YtkcpmclnocmalaaGreat
open Go.RowKit Go.Front Go.Num Stab
attribute [local go_sem] XW.cell XW.frozen
def mdV(a b:Rat):Rat:=(a+b)*(((1:Int):Rat) / ((2:Int):Rat))
theorem vq(s t:RH)(a b:Rat)(T:Nat)(w:World)(hs:aX w s a)(ht:aX w t b)(za:Sz T a)(zb:Sz T b)(hT:T≤10000000):ar 242 [IvV (s,t)] w RH.v (fun x w'=>aA w' x (mdV a b)):=by
 unfold mdV;have HX:=Hi (Ext.refl w);have HS:=Hi hs;have HT:=Hi ht;have ZA:=Hi (za.add zb);have ZH:Hid (Sz 2 (((1:Int):Rat) / ((2:Int):Rat))):=Hi ((Sz.int dZ).div (Sz.int dZ));clear hs ht za zb;unfold ar;go_enter Tryz.func242,Tryz.ntmps242;obtain ⟨sn,sa,sl,sc,sb,sm,sd⟩:=s;obtain ⟨tn,ta,tl,tc,tb,tm,td⟩:=t
 go_upto_region 1 with fail
 refine eX ?_;intro w1 hE B1 B2 hz_w1 hr_w1;refine mV3 hE ?_ HX HS HT;clear HX HS HT;intro HX HS HT;have hs_w1:=hE.size;replace b_B1:=bX3 B1;replace b_B2:=bX3 B2
 go_wp2_with fail
 refine cM (dw ⟨sn,sa,sl,sc,sb,sm,sd⟩ ⟨tn,ta,tl,tc,tb,tm,td⟩ a b _ HS.out HT.out) fun x7 w7 hE G7=>?_
 refine mV5 hE ?_ B1 B2 HX HS HT;clear B1 B2 HX HS HT;intro B1 B2 HX HS HT;have hs_w7:=hE.size;replace b_B1:=bX3 B1;replace b_B2:=bX3 B2
 go_wp2_with fail
 refine cM (uv 1 2 _ dZ dZ dZ dZ dZ) fun x8 w8 hE G8=>?_
 refine mV6 hE ?_ G7 B1 B2 HX HS HT;clear G7 B1 B2 HX HS HT;intro G7 B1 B2 HX HS HT;have hs_w8:=hE.size;replace b_B1:=bX3 B1;replace b_B2:=bX3 B2
 go_wp2_with fail
 refine cM (aK x7 x8 _ _ _ (G7.out.raw ZA.out zo) (G8.out.raw ZH.out dZ)) fun x9 w9 hE G9=>?_
 refine mV7 hE ?_ G8 G7 B1 B2 HX HS HT;clear G8 G7 B1 B2 HX HS HT;intro G8 G7 B1 B2 HX HS HT;have hs_w9:=hE.size;replace b_B1:=bX3 B1;replace b_B2:=bX3 B2;go_wp2;refine aN (F:=fun W=>bodyPost _ _ _ _ _ W) B2.out rfl ?_;intro w10 T;replace HX:=Hi (T.ext HX.out zo);replace HS:=Hi (HS.out.keep T.keep);replace HT:=Hi (HT.out.keep T.keep);replace B1:=Hi (T.rest _ _ zo B1.out);replace B2:=Hi (T.bx);replace G7:=Hi (G7.out.keep T.keep);replace G8:=Hi (G8.out.keep T.keep);replace G9:=Hi (G9.out.keep T.keep);have hs_w10:=nle T.size;have hr_w10:=nle T.size.symm;clear T;replace b_B1:=bX3 B1;replace b_B2:=bX3 B2;exact nXa (v:=RH.v x9) (by simp [results,Tryz.results242,go_sem,b_B2.1]) rfl ⟨x9,rfl,HX.out,G9.out⟩
theorem kQ{E F:Nat→Prop}{w a b:World}(h:aL E w a)(m:aL F a b)(hs:∀ k,k<w.heap.size→F k→E k):aL E w b :=
 ⟨m.os.trans h.os,m.tape.trans h.tape,m.output.trans h.output,nXf h.size m.size,fun k hk he=>(m.block k (nXn hk h.size) (fun hf=>he (hs k hk hf))).trans (h.block k hk he)⟩
def fW(w:World)(p:Nat×(RH×RH))(a b:Rat):Prop:=IBk w p.1 [p.2.1,p.2.2] #[]∧IvC w p.2 a b
theorem fW.ext{w w':World}{p:Nat×(RH×RH)}{a b:Rat}(h:fW w p a b)(he:Ext w w'):fW w' p a b:=⟨h.1.ext he,h.2.ext he⟩
instance {w w':World} {p:Nat×(RH×RH)} {a b:Rat}:Go.Front.Mv w w' (fW w p a b) (fW w' p a b):=⟨fun e h=>fW.ext h e⟩

theorem BY{w:World}{N:Nat}{x:RH×RH}(h:w.heap[N]?=some (.cells #[.bool x.1.neg,.slice x.1.a x.1.n x.1.c,.slice x.1.b x.1.m x.1.d,.bool x.2.neg,.slice x.2.a x.2.n x.2.c,.slice x.2.b x.2.m x.2.d] 39 (0,0))):IBk w N [x.1,x.2] #[]:=by
 unfold IBk;rw [h];rfl
theorem o9{P:Program}{o:Oper}{a:Act}{w:World}{T:TypeId}(x:RH×RH)(p q:Rat)(hx:IvC w x p q)(hT:T=39)
 (hrun:(execOp a.eval o).run P w=.ok (.value (.slice (some ⟨w.heap.size,0,none⟩) 1 1)) (w.alloc (.cells #[.bool x.1.neg,.slice x.1.a x.1.n x.1.c,.slice x.1.b x.1.m x.1.d,.bool x.2.neg,.slice x.2.a x.2.n x.2.c,.slice x.2.b x.2.m x.2.d] T))) :
  bV P o a w (fun p:Nat×(RH×RH)=>.slice (some ⟨p.1,0,none⟩) 1 1) (fun y w'=>fW w' y p q):=by
 subst hT;unfold bV;rw [hrun];exact ⟨Ext.alloc _ _,(w.heap.size,x),rfl,BY (heap_alloc_new _ _),hx.ext (Ext.alloc _ _)⟩
theorem fW.at{w:World}{p:Nat×(RH×RH)}{a b:Rat}(h:fW w p a b):∀ k,k<1*2→RAt w p.1 (0+k*3) ([p.2.1,p.2.2].getD k default):=fun k hk=>by
 rw [Nat.zero_add];exact h.1.at hk
theorem fW.vals{w:World}{p:Nat×(RH×RH)}{a b:Rat}(h:fW w p a b):dk aA w [p.2.1,p.2.2] [a,b]:=⟨rfl,fun k hk=>by
 have hk:k<2:=hk;have:k=0∨k=1:=by omega
 rcases this with rfl|rfl
 ·exact h.2.1
 ·exact h.2.2⟩
def row(n:Nat)(f:Nat→Rat):List Rat:=(List.range n).map f
theorem aM(n:Nat)(f:Nat→Rat):(row n f).length=n:=by simp [row]
theorem bZ{n i:Nat}(f:Nat→Rat)(h:i<n):(row n f).getD i 0=f i:=by unfold row;rw [dB,if_pos h]
theorem bh{n:Nat}{f g:Nat→Rat}(h:∀ i,i<n→f i=g i):row n f=row n g:=List.map_congr_left (fun i hi=>h i (List.mem_range.1 hi))
theorem kx(n k:Nat)(f:Nat→Rat)(v:Rat):(row n f).set k v=row n (fun i=>if i=k then v else f i):=by
 apply List.ext_getElem
 ·rw [nXo,aM,aM]
 ·intro i h1 h2;simp only [row,List.getElem_set,List.getElem_map,List.getElem_range];by_cases h:k=i
  ·rw [if_pos h,if_pos h.symm]
  ·rw [if_neg h,if_neg (fun e=>h e.symm)]
theorem xY(n:Nat):row n (fun _=>0)=List.replicate n 0:=by
 apply List.ext_getElem
 ·simp [row]
 ·intro i h1 h2;simp [row]
theorem Bh{n:Nat}{l:List Rat}(h:l.length=n):row n (fun i=>l.getD i 0)=l:=by
 apply List.ext_getElem
 ·rw [aM,h]
 ·intro i h1 h2;simp only [row,List.getElem_map,List.getElem_range];rw [nXd,List.getElem?_eq_getElem h2];rfl
def cs(t:Rat)(b:Nat→Rat)(i:Nat):Rat:=(1-t)*b i+t*b (i+1)
def csn:Nat→Rat→(Nat→Rat)→Nat→Rat
 | 0,_,b=>b
 | n+1,t,b=>csn n t (cs t b)
theorem Cv(n:Nat)(s x y:Rat)(a b:Nat→Rat):csn n s (fun i=>x*a i+y*b i)=fun i=>x*csn n s a i+y*csn n s b i:=by
 induction n generalizing a b with
 | zero=>rfl
 | succ n ih =>
  show csn n s (cs s _)=_;rw [show cs s (fun i=>x*a i+y*b i)=fun i=>x*cs s a i+y*cs s b i from funext fun i=>by unfold cs;grind,ih];rfl
theorem Eh(n:Nat)(s t:Rat)(b:Nat→Rat):csn n s (cs t b)=cs t (csn n s b):=by
 rw [show cs t b=fun i=>(1-t)*b i+t*(fun i=>b (i+1)) i from rfl,Cv]
 funext i
 unfold cs
 congr 2
 induction n generalizing b with
 | zero=>rfl
 | succ n ih =>
  show csn n s (cs s (fun i=>b (i+1))) i=csn n s (cs s b) (i+1);exact ih (cs s b)
theorem zE(n:Nat)(s:Rat)(b:Nat→Rat):csn (n+1) s b=cs s (csn n s b):=Eh n s s b
def vl(n:Nat)(b:Nat→Rat)(t:Rat):Rat:=csn n t b 0
def hf:Rat:=((1:Int):Rat) / ((2:Int):Rat)
theorem hf2:hf+hf=1:=by decide +kernel
def lfb(b:Nat→Rat)(j:Nat):Rat:=csn j hf b 0
def rtb(n:Nat)(b:Nat→Rat)(i:Nat):Rat:=csn (n-i) hf b i
def up(c:Rat)(u:Nat→Rat)(k:Nat):Rat:=u k+c*u (k+1)
def upn:Nat→Rat→(Nat→Rat)→Nat→Rat
 | 0,_,u=>u
 | n+1,c,u=>upn n c (up c u)
def bt(u:Nat→Rat)(i:Nat):Rat:=upn i 1 u 0
theorem A3(n:Nat)(s x y:Rat)(a b:Nat→Rat):upn n s (fun i=>x*a i+y*b i)=fun i=>x*upn n s a i+y*upn n s b i:=by
 induction n generalizing a b with
 | zero=>rfl
 | succ n ih =>
  show upn n s (up s _)=_;rw [show up s (fun i=>x*a i+y*b i)=fun i=>x*up s a i+y*up s b i from funext fun i=>by unfold up;grind,ih];rfl
theorem Ft(t:Rat)(u:Nat→Rat):cs t (bt u)=bt (up t u):=by
 funext i
 unfold bt;rw [show up t u=fun i=>(1-t)*u i+t*up 1 u i from funext fun i=>by unfold up;grind,A3];rfl
theorem EN(n:Nat)(u:Nat→Rat)(t:Rat):vl n (bt u) t=upn n t u 0:=by
 unfold vl;have:∀ u,csn n t (bt u)=bt (upn n t u):=by
  induction n with
  | zero=>intro u;rfl
  | succ n ih =>
   intro u;show csn n t (cs t (bt u))=bt (upn n t (up t u));rw [Ft,ih]
 rw [this];rfl
def ch:Nat→Nat→Nat
 | _,0=>1
 | 0,_+1=>0
 | n+1,k+1=>ch n k+ch n (k+1)
theorem nz(n:Nat):ch n 0=1:=by cases n <;> rfl
theorem wM{n k:Nat}(h:n<k):ch n k=0:=by
 induction n generalizing k with
 | zero =>
  obtain ⟨k,rfl⟩:∃ j,k=j+1:=⟨k-1,zo⟩;rfl
 | succ n ih =>
  obtain ⟨k,rfl⟩:∃ j,k=j+1:=⟨k-1,zo⟩;show ch n k+ch n (k+1)=0;rw [ih zo,ih zo]
theorem wL{n k:Nat}(h:k≤n):0<ch n k:=by
 induction n generalizing k with
 | zero =>
  obtain rfl:k=0:=by omega
  decide
 | succ n ih =>
  rcases Nat.eq_zero_or_pos k with rfl|h0
  ·rw [nz];decide
  ·obtain ⟨k,rfl⟩:∃ j,k=j+1:=⟨k-1,zo⟩;show 0<ch n k+ch n (k+1);have:=ih (k:=k) zo;omega
theorem Af(n:Nat)(t:Rat)(u:Nat→Rat)(j:Nat):upn n t u j=sm (n+1) (fun k=>(ch n k:Rat)*t ^ k*u (j+k)):=by
 induction n generalizing u with
 | zero =>
  show u j=sm 0 _+((ch 0 0:Nat):Rat)*t ^ 0*u (j+0);rw [show ch 0 0=1 from rfl,Rat.pow_zero];show u j=0+((1:Nat):Rat)*1*u (j+0);rw [Nat.add_zero];grind
 | succ n ih =>
  show upn n t (up t u) j=_;rw [ih];have e1:sm (n+1) (fun k=>(ch n k:Rat)*t ^ k*up t u (j+k))=sm (n+1) (fun k=>(ch n k:Rat)*t ^ k*u (j+k))+sm (n+1) (fun k=>(ch n k:Rat)*t ^ (k+1)*u (j+(k+1))):=by
   rw [←nU];refine sm_congr (fun k _=>?_);unfold up;rw [Rat.pow_succ,Nat.add_assoc];grind
  have e2:sm (n+1) (fun k=>(ch n k:Rat)*t ^ k*u (j+k))=sm (n+2) (fun k=>(ch n k:Rat)*t ^ k*u (j+k)):=by
   show _=sm (n+1) _+(ch n (n+1):Rat)*t ^ (n+1)*u (j+(n+1));rw [wM (Nat.lt_succ_self n)];have:((0:Nat):Rat)=0:=rfl;rw [this];grind
  rw [e1,e2,ek (n+1),ek (n+1),nz,nz];have e3:sm (n+1) (fun i=>(ch (n+1) (i+1):Rat)*t ^ (i+1)*u (j+(i+1)))=sm (n+1) (fun i=>(ch n (i+1):Rat)*t ^ (i+1)*u (j+(i+1)))+sm (n+1) (fun k=>(ch n k:Rat)*t ^ (k+1)*u (j+(k+1))):=by
   rw [←nU];refine sm_congr (fun k _=>?_);show ((ch n k+ch n (k+1):Nat):Rat)*_*_=_;rw [Rat.natCast_add];grind
  rw [e3];grind
theorem A2(n:Nat)(u:Nat→Rat)(t:Rat):vl n (bt u) t=evV (row (n+1) (fun k=>(ch n k:Rat)*u k)) t:=by
 rw [EN,Af,zi,aM];refine sm_congr (fun k hk=>?_);rw [bZ _ hk,Nat.zero_add];grind
theorem zP(u:Nat→Rat)(i:Nat):bt u i=sm (i+1) (fun k=>(ch i k:Rat)*u k):=by
 unfold bt;rw [Af];refine sm_congr (fun k _=>?_);rw [show (1:Rat) ^ k=1 by induction k with
  | zero=>rfl
  | succ k ih=>rw [Rat.pow_succ,ih zo,Rat.one_mul],Nat.zero_add]
 grind
def df(b:Nat→Rat)(i:Nat):Rat:=b (i+1)-b i
def dfn:Nat→(Nat→Rat)→Nat→Rat
 | 0,b=>b
 | n+1,b=>df (dfn n b)
theorem zQ(b:Nat→Rat)(i:Nat):bt (fun k=>dfn k b 0) i=b i:=by
 have key:∀ (n j:Nat),upn n 1 (fun k=>dfn k b j)=fun k=>dfn k b (j+n):=by
  intro n;induction n with
  | zero=>intro j;rfl
  | succ n ih =>
   intro j;show upn n 1 (up 1 (fun k=>dfn k b j))=_;rw [show up 1 (fun k=>dfn k b j)=fun k=>dfn k b (j+1) from funext fun k=>by
    unfold up;show dfn k b j+1*(dfn k b (j+1)-dfn k b j)=_;grind,ih]
   funext k
   rw [show j+1+n=j+(n+1) by omega]
 unfold bt;rw [key i 0,Nat.zero_add];rfl
theorem zS{u v:Nat→Rat}{i:Nat}(h:∀ k,k≤i→u k=v k):bt u i=bt v i:=by
 rw [zP,zP];exact sm_congr (fun k hk=>by rw [h k zo])
theorem BI{n:Nat}(h:0<n):(n:Rat)≠0:=fun e=>by
 have:n=0:=by exact_mod_cast e
 omega
theorem C0{n:Nat}{a b:Nat→Rat}(h:∀ t,vl n a t=vl n b t):∀ i,i≤n→a i=b i:=by
 intro i hi;have e:∀ k,k≤n→dfn k a 0=dfn k b 0:=by
  have h2:∀ t,evV (row (n+1) (fun k=>(ch n k:Rat)*dfn k a 0)) t=evV (row (n+1) (fun k=>(ch n k:Rat)*dfn k b 0)) t:=fun t=>by
   rw [←A2,←A2,show bt (fun k=>dfn k a 0)=a from funext (zQ a),show bt (fun k=>dfn k b 0)=b from funext (zQ b)];exact h t
  intro k hk;have h3:=Sg.ev_inj h2 k;unfold seq at h3;rw [bZ _ zo,bZ _ zo] at h3;have h4:=BI (wL hk);have h5:=nYk _ h4;have h6:=congrArg (fun x=>((ch n k:Nat):Rat)⁻¹*x) h3;rw [←nYe,←nYe,nYd _ (ch n k:Rat),h5,Rat.one_mul,Rat.one_mul] at h6;exact h6
 rw [←zQ a i,←zQ b i];exact zS (fun k hk=>e k zo)
def hq(p:List Rat)(a w:Rat):Nat→Nat→Rat
 | 0,_=>0
 | j+1,0=>hq p a w j 0*a+p.getD (p.length-1-j) 0
 | j+1,k+1=>hq p a w j (k+1)*a+hq p a w j k*w
theorem vD{p:List Rat}{a w:Rat}{j k:Nat}(h:j≤k):hq p a w j k=0:=by
 induction j generalizing k with
 | zero=>rfl
 | succ j ih =>
  obtain ⟨k,rfl⟩:∃ i,k=i+1:=⟨k-1,zo⟩;show hq p a w j (k+1)*a+hq p a w j k*w=0;rw [ih zo,ih zo];grind
theorem Fh{p:List Rat}{a w:Rat}{j:Nat}(h:j≤p.length)(t:Rat):evV (row j (hq p a w j)) t=evV (p.drop (p.length-j)) (a+t*w):=by
 induction j with
 | zero=>rw [Nat.sub_zero,List.drop_eq_nil_of_le (nXe _)];rfl
 | succ j ih =>
  have ih:=ih zo;have e1:=vU (p:=p) (i:=p.length-1-j) zo (a+t*w);rw [show p.length-1-j+1=p.length-j by omega,←ih,show p.length-1-j=p.length-(j+1) by omega] at e1;rw [e1,zi,zi,aM,aM,ek];rw [bZ _ zo];show (hq p a w j 0*a+p.getD (p.length-1-j) 0)*t ^ 0+_=_;have e2:sm j (fun i=>(row (j+1) (hq p a w (j+1))).getD (i+1) 0*t ^ (i+1))=a*sm j (fun i=>hq p a w j (i+1)*t ^ (i+1))+(t*w)*sm j (fun i=>hq p a w j i*t ^ i):=by
   rw [←ik,←ik,←nU];refine sm_congr (fun i hi=>?_);rw [bZ _ zo];show (hq p a w j (i+1)*a+hq p a w j i*w)*t ^ (i+1)=_;rw [Rat.pow_succ];grind
  have e3:sm j (fun i=>(row j (hq p a w j)).getD i 0*t ^ i)=sm j (fun i=>hq p a w j i*t ^ i):=sm_congr (fun i hi=>by rw [bZ _ hi]);have e4:sm j (fun i=>hq p a w j i*t ^ i)=hq p a w j 0*t ^ 0+sm j (fun i=>hq p a w j (i+1)*t ^ (i+1)):=by
   rw [←ek j (fun i=>hq p a w j i*t ^ i)];show _=sm j _+hq p a w j j*t ^ j;rw [vD (nXe _)];grind
  rw [e2,e3,e4,Rat.pow_zero];rw [show p.length-1-j=p.length-(j+1) by omega];grind
def fc:Nat→Nat
 | 0=>1
 | n+1=>fc n*(n+1)
theorem DW(n:Nat):0<fc n:=by
 induction n with
 | zero=>decide
 | succ n ih=>exact Nat.mul_pos ih (Nat.succ_pos _)
theorem Fv{n k:Nat}(h:k≤n):ch n k*(fc k*fc (n-k))=fc n:=by
 induction n generalizing k with
 | zero =>
  obtain rfl:k=0:=by omega
  rfl
 | succ n ih =>
  rcases Nat.eq_zero_or_pos k with rfl|h0
  ·rw [nz,Nat.sub_zero];show 1*(1*fc (n+1))=_;omega
  ·obtain ⟨k,rfl⟩:∃ j,k=j+1:=⟨k-1,zo⟩;show (ch n k+ch n (k+1))*(fc k*(k+1)*fc (n+1-(k+1)))=fc n*(n+1);rw [show n+1-(k+1)=n-k by omega,Nat.add_mul];have e1:=ih (k:=k) zo;have e3:ch n k*(fc k*(k+1)*fc (n-k))=fc n*(k+1):=by
    rw [←e1]
    ac_rfl
   rw [e3];by_cases hk:k+1≤n
   ·have e2:=ih (k:=k+1) hk;obtain ⟨m,hm⟩:∃ m,n-k=m+1:=⟨n-k-1,zo⟩;have hm2:n-(k+1)=m:=by omega
    rw [hm2] at e2;have e4:ch n (k+1)*(fc k*(k+1)*fc (n-k))=fc n*(n-k):=by
     rw [hm,←e2];show ch n (k+1)*(fc k*(k+1)*(fc m*(m+1)))=ch n (k+1)*(fc k*(k+1)*fc m)*(m+1)
     ac_rfl
    rw [e4,←Nat.mul_add]
    congr 1
    omega
   ·rw [wM (n:=n) (k:=k+1) zo,Nat.zero_mul,Nat.add_zero]
    congr 1
    omega
def bcV(p:List Rat)(a w:Rat)(i:Nat):Rat:=bt (fun k=>hq p a w p.length k*((ch (p.length-1) k:Rat))⁻¹) i
theorem Fw{p:List Rat}(h:p≠[])(a w t:Rat):vl (p.length-1) (bcV p a w) t=evV p (a+t*w):=by
 have hl:0<p.length:=nYh.2 h;show vl (p.length-1) (bt _) t=_;rw [A2,show p.length-1+1=p.length by omega];have e:=Fh (p:=p) (a:=a) (w:=w) (j:=p.length) (nXe _) t;rw [Nat.sub_self,List.drop_zero] at e;rw [←e];refine congrArg (fun l=>evV l t) (bh (fun k hk=>?_));have h1:=nYk _ (BI (wL (n:=p.length-1) (k:=k) zo));rw [nYd (hq p a w p.length k),←nYe,h1,Rat.one_mul]
theorem Fx{p:List Rat}(h:p≠[]){a w:Rat}{b:Nat→Rat}(hb:∀ t,vl (p.length-1) b t=evV p (a+t*w)):∀ i,i<p.length→b i=bcV p a w i:=by
 intro i hi;exact C0 (n:=p.length-1) (fun t=>by rw [hb,Fw h]) i zo
def bsf(m:Nat)(v:Nat→Rat)(i:Nat):Rat:=upn (min m i) 1 v (i-min m i)
theorem C1(n:Nat)(c:Rat)(u:Nat→Rat):upn (n+1) c u=up c (upn n c u):=by
 induction n generalizing u with
 | zero=>rfl
 | succ n ih=>exact ih (up c u)
theorem r9(v:Nat→Rat)(i:Nat):bsf 0 v i=v i:=by unfold bsf;rw [Nat.zero_min];rfl
theorem nB{m:Nat}{v:Nat→Rat}{i:Nat}(h:i≤m):bsf m v i=bt v i:=by unfold bsf;rw [Nat.min_eq_right h,Nat.sub_self];rfl
theorem sf{m:Nat}{v:Nat→Rat}{i:Nat}(h:i≤m):bsf (m+1) v i=bsf m v i:=by rw [nB h,nB zo]
theorem se{m:Nat}{v:Nat→Rat}{i:Nat}(h:m<i):bsf (m+1) v i=bsf m v i+bsf m v (i-1):=by
 unfold bsf;rw [Nat.min_eq_left (show m+1≤i by omega),Nat.min_eq_left (show m≤i by omega),Nat.min_eq_left (show m≤i-1 by omega),C1];unfold up;rw [show i-(m+1)=i-1-m by omega,show i-m=i-1-m+1 by omega];grind
def bsv(n:Nat)(c:Nat→Rat)(k:Nat):Rat:=c k*(((fc k:Nat):Rat)*((fc (n-k):Nat):Rat))
theorem Er{n:Nat}{c q:Nat→Rat}{K:Rat}(h:∀ k,k≤n→c k=K*q k){i:Nat}(hi:i≤n):bt (bsv n c) i=K*(fc n:Rat)*bt (fun k=>q k*((ch n k:Rat))⁻¹) i:=by
 rw [zP,zP,←ik];refine sm_congr (fun k hk=>?_);unfold bsv;rw [h k zo,←Fv (n:=n) (k:=k) zo,Rat.natCast_mul,Rat.natCast_mul];have h1:=nYk _ (BI (wL (n:=n) (k:=k) zo));have e:((ch n k:Nat):Rat)*(((fc k:Nat):Rat)*((fc (n-k):Nat):Rat))*(q k*((ch n k:Nat):Rat)⁻¹)=(((ch n k:Nat):Rat)*((ch n k:Nat):Rat)⁻¹)*(q k*(((fc k:Nat):Rat)*((fc (n-k):Nat):Rat))):=by grind
 rw [show K*(((ch n k:Nat):Rat)*(((fc k:Nat):Rat)*((fc (n-k):Nat):Rat)))*(((ch i k:Nat):Rat)*(q k*((ch n k:Nat):Rat)⁻¹))=K*((ch i k:Nat):Rat)*(((ch n k:Nat):Rat)*(((fc k:Nat):Rat)*((fc (n-k):Nat):Rat))*(q k*((ch n k:Nat):Rat)⁻¹)) by grind,e,h1];grind
def hc(p:List Rat)(a w F G:Rat)(j k:Nat):Rat:=F*G ^ (j-1)*hq p a w j k
theorem vE(p:List Rat)(a w F G:Rat)(k:Nat):hc p a w F G 0 k=0:=by unfold hc;show _*(0:Rat)=0;grind
theorem vF{p:List Rat}{a w F G:Rat}{j k:Nat}(h:j≤k):hc p a w F G j k=0:=by unfold hc;rw [vD h];grind
theorem rG(p:List Rat)(a w F G:Rat)(j:Nat):hc p a w F G (j+1) 0=hc p a w F G j 0*(a*G)+p.getD (p.length-1-j) 0*F*G ^ j:=by
 unfold hc;rw [Nat.add_sub_cancel];show F*G ^ j*(hq p a w j 0*a+p.getD (p.length-1-j) 0)=_;rcases Nat.eq_zero_or_pos j with rfl|h0
 ·show F*G ^ 0*((0:Rat)*a+_)=_*(0:Rat)*_+_;grind
 ·obtain ⟨j,rfl⟩:∃ i,j=i+1:=⟨j-1,zo⟩;rw [Nat.add_sub_cancel,Rat.pow_succ];grind
theorem vG(p:List Rat)(a w F G:Rat)(j k:Nat):hc p a w F G (j+1) (k+1)=hc p a w F G j (k+1)*(a*G)+hc p a w F G j k*(w*G):=by
 unfold hc;rw [Nat.add_sub_cancel];show F*G ^ j*(hq p a w j (k+1)*a+hq p a w j k*w)=_;rcases Nat.eq_zero_or_pos j with rfl|h0
 ·show F*G ^ 0*((0:Rat)*a+(0:Rat)*w)=_*(0:Rat)*_+_*(0:Rat)*_;grind
 ·obtain ⟨j,rfl⟩:∃ i,j=i+1:=⟨j-1,zo⟩;rw [Nat.add_sub_cancel,Rat.pow_succ];grind
def grV(a b:Rat):Rat:=fX [a,(b-a).abs]
def lcK(p:List Rat)(a b:Rat):Rat:=fX p*grV a b ^ (p.length-1)*(fc (p.length-1):Rat)
def lcW(p:List Rat)(a b:Rat):List Rat:=row p.length (bt (bsv (p.length-1) (hc p a (b-a) (fX p) (grV a b) p.length)))
theorem Fe{p:List Rat}{a b:Rat}:lcW p a b=row p.length (fun i=>lcK p a b*bcV p a (b-a) i):=by
 unfold lcW;refine bh (fun i hi=>?_);rw [Er (n:=p.length-1) (c:=hc p a (b-a) (fX p) (grV a b) p.length) (K:=fX p*grV a b ^ (p.length-1)) (q:=hq p a (b-a) p.length) (fun k _=>rfl) zo];rfl
theorem AQ(l:List Rat):Wh (fX l)∧∀ x ∈ l,Wh (fX l*x):=by
 induction l using snoc_ind with
 | h0=>exact ⟨rfl,fun x hx=>by simp at hx⟩
 | h1 l r ih =>
  rw [jm];unfold CW;refine ⟨ih.1.mul (Wh.int _),fun x hx=>?_⟩;rcases List.mem_append.1 hx with h|h
  ·rw [show fX l*(((fX l*r).den:Int):Rat)*x=(fX l*x)*(((fX l*r).den:Int):Rat) by grind];exact (ih.2 x h).mul (Wh.int _)
  ·rw [nXv.1 h,show fX l*(((fX l*r).den:Int):Rat)*r=(fX l*r)*(((fX l*r).den:Nat):Rat) by
    rw [show (((fX l*r).den:Int):Rat)=(((fX l*r).den:Nat):Rat) from rfl];grind,low]
   exact Wh.int _
theorem rV(l:List Rat):0<fX l:=by
 induction l using snoc_ind with
 | h0=>decide
 | h1 l r ih =>
  rw [jm];unfold CW;refine Rat.mul_pos ih ?_;have:=(fX l*r).den_pos
  exact_mod_cast this
theorem qT{G:Rat}(h:0<G)(n:Nat):0<G ^ n:=by
 induction n with
 | zero=>rw [Rat.pow_zero];decide
 | succ n ih=>rw [Rat.pow_succ];exact Rat.mul_pos ih h
theorem yx{n:Nat}(h:0<n):0<(n:Rat):=by exact_mod_cast h
theorem vk(p:List Rat)(a b:Rat):0<lcK p a b:=Rat.mul_pos (Rat.mul_pos (rV _) (qT (rV _) _)) (yx (DW _))
theorem Wz.of{S:Nat}{q:Rat}(h:Wh q)(k:Sz S q):Wz S q:=⟨h,k.1⟩
theorem Wz.pow{S:Nat}{G:Rat}(h:Wz S G)(n:Nat):Wz (1+n*S) (G ^ n):=by
 induction n with
 | zero=>rw [Rat.pow_zero];exact Wz.one.mono zo
 | succ n ih=>rw [Rat.pow_succ,nXz];exact (ih.mul h).mono zo
theorem Fj{p:List Rat}{a w F G:Rat}{U V:Nat}(ha:Wz V (a*G))(hw:Wz V (w*G))(hp:∀ j k,j<p.length→Wz U (p.getD k 0*F*G ^ j))(j:Nat)(hj:j≤p.length):∀ k,Wz (U+j*(V+1)) (hc p a w F G j k):=by
 induction j with
 | zero=>intro k;rw [vE];exact Wz.zero _
 | succ j ih =>
  have ih:=ih zo;have hU:U≤U+j*(V+1):=zo;intro k;rcases Nat.eq_zero_or_pos k with rfl|h0
  ·rw [rG,nXz];exact (((ih 0).mul ha).add ((hp j _ zo).mono zo)).mono zo
  ·obtain ⟨k,rfl⟩:∃ i,k=i+1:=⟨k-1,zo⟩;rw [vG,nXz];exact (((ih (k+1)).mul ha).add ((ih k).mul hw)).mono zo
theorem Fl:∀ n:Nat,n≤8→fc n<W32:=by decide
theorem te{n:Nat}(h:n≤8):Wz 1 ((fc n:Nat):Rat):=Wz.int (z:=(fc n:Int)) (by rw [nYi,Nat.pow_one];exact Fl n h)
theorem AU{n S:Nat}{c:Nat→Rat}(hn:n≤8)(h:∀ k,Wz S (c k))(m:Nat):∀ i,i≤n→Wz (S+2+m) (bsf m (bsv n c) i):=by
 induction m with
 | zero =>
  intro i hi;rw [r9];unfold bsv;exact ((h i).mul ((te zo).mul (te zo))).mono zo
 | succ m ih =>
  intro i hi;by_cases hm:i≤m
  ·rw [sf hm];exact (ih i hi).mono zo
  ·rw [se zo];exact ((ih i hi).add (ih (i-1) zo)).mono zo
def suf(n:Nat)(c:Nat→Rat)(j i:Nat):Rat:=(2:Rat) ^ (min j (n-i))*csn (min j (n-i)) hf c i
theorem qw(n:Nat)(c:Nat→Rat)(i:Nat):suf n c 0 i=c i:=by
 unfold suf;rw [Nat.zero_min,Rat.pow_zero];show 1*c i=c i;grind
theorem qz{n j i:Nat}{c:Nat→Rat}(h:n-j≤i):suf n c (j+1) i=suf n c j i:=by
 unfold suf;rw [Nat.min_eq_right (show n-i≤j+1 by omega),Nat.min_eq_right (show n-i≤j by omega)]
theorem qx{n j i:Nat}{c:Nat→Rat}(h:i<n-j):suf n c (j+1) i=suf n c j i+suf n c j (i+1):=by
 unfold suf;rw [Nat.min_eq_left (show j+1≤n-i by omega),Nat.min_eq_left (show j≤n-i by omega),Nat.min_eq_left (show j≤n-(i+1) by omega),zE,Rat.pow_succ];unfold cs;have:=hf2;grind
theorem qU(a b:Nat):(2:Rat) ^ a*(2:Rat) ^ b=(2:Rat) ^ (a+b):=by
 induction b with
 | zero=>rw [Rat.pow_zero,Nat.add_zero];grind
 | succ b ih=>rw [←Nat.add_assoc,Rat.pow_succ,Rat.pow_succ,←ih];grind
theorem qy{n j:Nat}{c:Nat→Rat}(h:j≤n):suf n c j 0*(2:Rat) ^ (n-j)=(2:Rat) ^ n*lfb c j:=by
 unfold suf lfb;rw [Nat.min_eq_left (show j≤n-0 by omega),show (2:Rat) ^ n=(2:Rat) ^ (j+(n-j)) by rw [show j+(n-j)=n by omega],←qU];grind
theorem nP{n j:Nat}{c:Nat→Rat}(h:j≤n):suf n c j (n-j)*(2:Rat) ^ (n-j)=(2:Rat) ^ n*rtb n c (n-j):=by
 unfold suf rtb;rw [show n-(n-j)=j by omega,Nat.min_self,show (2:Rat) ^ n=(2:Rat) ^ (j+(n-j)) by rw [show j+(n-j)=n by omega],←qU];grind
theorem qv{k:Nat}(h:k≤8):Wz 1 ((2:Rat) ^ k):=by
 have:∀ k:Nat,k≤8→((2:Rat) ^ k).den=1∧((2:Rat) ^ k).num.natAbs<W32:=by decide +kernel
 exact ⟨(this k h).1,by rw [Nat.pow_one];exact (this k h).2⟩
theorem Ah{n S:Nat}{c:Nat→Rat}(h:∀ k,k≤n→Wz S (c k))(j:Nat):∀ i,i≤n→Wz (S+j) (suf n c j i):=by
 induction j with
 | zero=>intro i hi;rw [qw];exact h i hi
 | succ j ih =>
  intro i hi;by_cases hj:n-j≤i
  ·rw [qz hj];exact (ih i hi).mono zo
  ·rw [qx zo];exact ((ih i hi).add (ih (i+1) zo)).mono zo
def hlL(l:List Rat):List Rat:=row l.length (fun j=>(2:Rat) ^ (l.length-1)*lfb (fun i=>l.getD i 0) j)
def hlR(l:List Rat):List Rat:=row l.length (fun j=>(2:Rat) ^ (l.length-1)*rtb (l.length-1) (fun i=>l.getD i 0) j)
theorem Fi{l:List Rat}{S:Nat}(hl:l.length≤9)(h:∀ x ∈ l,Wz S x):(∀ x ∈ hlL l,Wz (S+9) x)∧(∀ x ∈ hlR l,Wz (S+9) x):=by
 have hc:∀ k,k≤l.length-1→Wz S (l.getD k 0):=fun k hk=>by
  by_cases h2:k<l.length
  ·rw [nXd,List.getElem?_eq_getElem h2];exact h _ (List.getElem_mem h2)
  ·rw [bu zo];exact Wz.zero _
 have h1:=Ah (c:=fun i=>l.getD i 0) hc;constructor
 ·intro x hx;obtain ⟨j,hj,rfl⟩:=nYg.1 hx;have hj:=List.mem_range.1 hj;rw [←qy zo];exact ((h1 j 0 zo).mul (qv (k:=l.length-1-j) zo)).mono zo
 ·intro x hx;obtain ⟨i,hi,rfl⟩:=nYg.1 hx;have hi:=List.mem_range.1 hi;have e:=nP (n:=l.length-1) (j:=l.length-1-i) (c:=fun i=>l.getD i 0) zo;rw [show l.length-1-(l.length-1-i)=i by omega] at e;rw [←e];exact ((h1 (l.length-1-i) i zo).mul (qv (k:=i) zo)).mono zo
def iN(l:List Rat):Bool:=l.all (fun x=>decide (0<x))
def cvV:Nat→Rat→Rat→List Rat→Option (List Rat)
 | 0,lo,hi,l=>if iN l then some [loV lo hi,hiV lo hi] else none
 | d+1,lo,hi,l=>if iN l then some [loV lo hi,hiV lo hi] else
  if iN [l.getD 0 0,l.getD (l.length-1) 0] then
   match cvV d lo (mdV lo hi) (hlL l) with
   | none=>none
   | some x=>match cvV d (mdV lo hi) hi (hlR l) with
    | none=>none
    | some y=>some (x++y)
  else none
theorem zV(t:RH)(q:Rat)(w:World)(h:aA w t q):ar 248 [t.v] w RH.v (fun x w'=>aA w' x ((q.den:Int):Rat)):=by
 obtain ⟨neg,a,n,c,b,m,d⟩:=t;have H:=Hi h;have HX:=Hi (Ext.refl w);clear h;unfold ar;go_enter Tryz.func248,Tryz.ntmps248
 go_upto_region 1 with fail
 refine eX ?_;intro w1 hE B1 B2 hz_w1 hr_w1;refine mV2 hE ?_ H HX;clear H HX;intro H HX;have hs_w1:=hE.size;replace b_B1:=bX3 B1;replace b_B2:=bX3 B2;go_wp2;refine aN (F:=fun W=>bodyPost _ _ _ _ _ (W.alloc _)) B2.out rfl ?_;intro w2 T;have hz2:=T.size;replace HX:=Hi (T.ext HX.out zo);replace H:=Hi (H.out.keep T.keep);replace B1:=Hi (T.rest _ _ zo B1.out);replace B2:=Hi (T.bx);have hs_w2:=nle T.size;have hr_w2:=nle T.size.symm;clear T;replace b_B1:=bX3 B1;replace b_B2:=bX3 B2;rw [←hz2];clear hz2;refine rj ?_;intro w3 hE hB0 hz;clear hz;have HO:=Hi (i7 hB0);clear hB0;refine mV4 hE ?_ HX H B1 B2;clear HX H B1 B2;intro HX H B1 B2;have hs_w3:=hE.size;replace b_B1:=bX3 B1;replace b_B2:=bX3 B2;exact nXa (v:=RH.v ⟨false,b,m,d,some ⟨w2.heap.size,0,none⟩,1,1⟩) (by simp [results,Tryz.results248,go_sem,ae B2.out]) rfl
  ⟨⟨false,b,m,d,some ⟨w2.heap.size,0,none⟩,1,1⟩,rfl,HX.out,
   ⟨by rw [Rat.num_intCast];exact (decide_eq_false zo).symm,by rw [Rat.num_intCast];exact H.out.2.2,by rw [Rat.den_intCast];exact HO.out⟩⟩
theorem ls(ao:Option Addr)(n cap:Nat)(l:List Rat)(s:Nat)(w:World)(h:bg w ⟨ao,n,cap⟩ l)(hn:n≤1000)(hz:SzL s l)(hs:s≤1000) :
  ar 244 [.slice ao n cap] w RH.v (fun x w'=>aA w' x (fX l)):=by
 have H:=Hi h;have HX:=Hi (Ext.refl w);have hle:=h.le;have hmx:=h.max;have Hlen:=Hi h.len;simp only at hle hmx Hlen;have HZ:=Hi hz;have hns:n*s≤1000*1000:=nXy hn hs;have HS:Hid (∀ j,j≤n→Sz 4194304 (fX (l.take j))):=Hi (fun j hj=>(wF hz j (by rw [Hlen.out];exact hj)).mono (nXf (CI hj) (by unfold cg;omega)));clear h hz;unfold ar;go_enter Tryz.func244,Tryz.ntmps244
 go_upto_region 1 with fail
 refine nmA ?_;intro w1 hE B2 hz_w1 hr_w1;replace HX:=hE.tr HX;have hs_w1:=hE.size;replace b_B2:=bX3 B2
 go_wp2_with fail
 refine cM (bO 1 _ dZ dZ) fun x2 w2 hE G2=>?_
 refine mV2 hE ?_ B2 HX;clear B2 HX;intro B2 HX;have hs_w2:=hE.size;replace b_B2:=bX3 B2
 go_upto_region 2 with fail
 refine nmA ?_;intro y3 hE B3 hz_y3 hr_y3;refine mV3 hE ?_ G2 B2 HX;clear G2 B2 HX;intro G2 B2 HX;have hs_y3:=hE.size;replace b_B2:=bX3 B2;replace b_B3:=bX3 B3;obtain ⟨b2,hb2⟩:∃ b2,b2=w.heap.size:=⟨_,rfl⟩;obtain ⟨b3,hb3⟩:∃ b3,b3=w2.heap.size:=⟨_,rfl⟩;have hw2:w.heap.size≤b2:=zo;have hw3:w.heap.size≤b3:=zo;have hne:b2≠b3:=zo;rw [←hb2] at B2 ⊢;rw [←hb3] at B3 ⊢;clear hb2 hb3 b_B2 b_B3;go_wp2
 go_loopg [9] n (fun g i wr=>∃ (j:Nat) (x:RH),j+g=n∧i=.int .i64 (j:Nat)∧Ext w wr∧wr.heap[b2]?=some (.cells #[.bool false,.slice none 0 0,.slice none 0 0] 37 (0,0))∧wr.heap[b3]?=some (.cells #[.bool x.neg,.slice x.a x.n x.c,.slice x.b x.m x.d] 37 (0,0))∧aA wr x (fX (l.take j)))
 case atStart=>exact ⟨0,x2,zo,rfl,HX.out,B2.out,B3.out,G2.out⟩
 case round =>
  obtain ⟨j,x,hj,rfl,g1,g2,g3,g4⟩:=hrel;clear HX B2 B3 G2;have HX:=Hi g1;have B2:=Hi g2;have B3:=Hi g3;have GM:=Hi g4;clear g1 g2 g3 g4;replace b_B2:=bX3 B2;replace b_B3:=bX3 B3;have hb2r:=b_B2.2.2;have hb3r:=b_B3.2.2;by_cases h0:gk=0
  ·subst h0;obtain rfl:j=n:=by omega
   have HE:Hid (l.take j=l):=Hi (nXm (by rw [Hlen.out];exact nXe _));rw [HE.out] at GM;go_wp2;have hF:=((((Fin.start (L:=b2) HX.out (ai B2.out rfl)).set zo (i:=0) (v:=.bool x.neg) rfl).set zo (i:=1) (v:=.slice x.a x.n x.c) rfl).set zo (i:=2) (v:=.slice x.b x.m x.d) rfl);exact nXa (v:=x.v) (by simp [results,Tryz.results244,go_sem,ae B2.out]) rfl ⟨x,rfl,hF.ext,GM.out.keep hF.keep⟩
  ·obtain ⟨b,off,r,hao,hbl,⟨hc1,hc2,hc3⟩,hP⟩:=(H.out.ext HX.out).lin.celx (k:=j) zo;obtain ⟨rneg,ra,rn,rc,rb,rm,rd⟩:=r;simp only at hc1 hc2 hc3;subst hao;have RP:=Hi hP;clear hP;have hjn:(j:Int)<n:=zo;have ZM:=Hi (HS.out j zo);have ZX:=Hi (HZ.out.at (i:=j) (by rw [Hlen.out];omega));obtain ⟨m,hm⟩:∃ m,m=fX (l.take j):=⟨_,rfl⟩;obtain ⟨v,hv⟩:∃ v,v=l.getD j 0:=⟨_,rfl⟩;rw [←hm] at GM ZM;rw [←hv] at RP ZX;have HMv:Hid (fX (l.take (j+1))=CW m v):=Hi (by rw [←cO (by rw [Hlen.out];omega),jm,hm,hv]);clear hm hv
   go_upto_region 5 with fail
   refine nmA ?_;intro y1 hE B5 hz_y1 hr_y1;refine mV5 hE ?_ HX B2 B3 GM RP;clear HX B2 B3 GM RP;intro HX B2 B3 GM RP;have hs_y1:=hE.size;replace b_B2:=bX3 B2;replace b_B3:=bX3 B3;replace b_B5:=bX3 B5;obtain ⟨xneg,xa,xn,xc,xb,xm,xd⟩:=x;refine wpG 6 (fun opIx=>match opIx with
    | 3=>sR (m*v)
    | 4=>sR ((((m*v).den:Int):Rat))
    | 5=>sR (m*(((m*v).den:Int):Rat))
    | _=>.quiet) (fun|4=>[3]|5=>[4]|_=>[]) fun w0 he0 hz0 hc0 hf0=>?_
   refine wps he0 (fun w1 hW hG=>?_) fun x16=>?_
   ·exact spc [RH.v ⟨xneg,xa,xn,xc,xb,xm,xd⟩,RH.v ⟨rneg,ra,rn,rc,rb,rm,rd⟩] Tryz.func108 (aK _ _ _ _ _ ((GM.out.ext hW).raw ZM.out zo) ((RP.out.ext hW).raw ZX.out zo))
   refine qZ ?_;refine wps he0 (fun w1 hW hG=>?_) fun x17=>?_
   ·have g16:=gS (hG 3 dZ);exact spc [x16.v] Tryz.func248 (zV x16 _ _ g16)
   refine qZ ?_;refine wps he0 (fun w1 hW hG=>?_) fun x18=>?_
   ·have g17:=gS (hG 4 dZ);exact spc [RH.v ⟨xneg,xa,xn,xc,xb,xm,xd⟩,x17.v] Tryz.func108 (aK _ x17 _ _ _ ((GM.out.ext hW).raw ZM.out zo) (g17.raw (ZM.out.mul ZX.out).denz zo))
   refine qZ ?_;refine aq ?_;intro y4 hI;have hE:=he0.out.trans hI.ext;have G16:=gT (hI.facts 3);have G17:=gT (hI.facts 4);have G18:=gT (hI.facts 5);clear hI he0 hz0 hc0 hf0;refine mV6 hE ?_ B5 HX B2 B3 RP GM;clear B5 HX B2 B3 RP GM;intro B5 HX B2 B3 RP GM;have hs_y4:=hE.size;replace b_B2:=bX3 B2;replace b_B3:=bX3 B3;replace b_B5:=bX3 B5;simp only [pD]
   go_upto_region 6 with fail
   refine aN B3.out rfl ?_;intro y8 T;replace HX:=Hi (T.ext HX.out zo);replace B2:=Hi (T.rest _ _ zo B2.out);replace B3:=Hi (T.bx);replace GM:=Hi (GM.out.keep T.keep);replace RP:=Hi (RP.out.keep T.keep);replace B5:=Hi (T.rest _ _ zo B5.out);replace G16:=Hi (G16.out.keep T.keep);replace G17:=Hi (G17.out.keep T.keep);replace G18:=Hi (G18.out.keep T.keep);have hs_y8:=nle T.size;have hr_y8:=nle T.size.symm;clear T;replace b_B2:=bX3 B2;replace b_B3:=bX3 B3;replace b_B5:=bX3 B5;go_wp2
   go_roundg (gk-1)
   case measure=>omega
   case rel=>exact ⟨j+1,x18,zo,by go_num,HX.out,B2.out,B3.out,by rw [HMv.out];exact G18.out⟩
theorem vp(s t:RH)(a b:Rat)(T:Nat)(w:World)(hs:aX w s a)(ht:aX w t b)(za:Sz T a)(zb:Sz T b)(hT:T≤10000000):ar 245 [IvV (s,t)] w RH.v (fun x w'=>aA w' x (b-a).abs):=by
 have HX:=Hi (Ext.refl w);have HS:=Hi hs;have HT:=Hi ht;have ZA:=Hi (zb.sub za);clear hs ht za zb;unfold ar;go_enter Tryz.func245,Tryz.ntmps245;obtain ⟨sn,sa,sl,sc,sb,sm,sd⟩:=s;obtain ⟨tn,ta,tl,tc,tb,tm,td⟩:=t
 go_upto_region 1 with fail
 refine eX ?_;intro w1 hE B1 B2 hz_w1 hr_w1;refine mV3 hE ?_ HX HS HT;clear HX HS HT;intro HX HS HT;have hs_w1:=hE.size;replace b_B1:=bX3 B1;replace b_B2:=bX3 B2
 go_wp2_with fail
 refine cM (i4 ⟨tn,ta,tl,tc,tb,tm,td⟩ ⟨sn,sa,sl,sc,sb,sm,sd⟩ b a _ HT.out HS.out) fun x7 w7 hE G7=>?_
 refine mV5 hE ?_ B1 B2 HX HS HT;clear B1 B2 HX HS HT;intro B1 B2 HX HS HT;have hs_w7:=hE.size;replace b_B1:=bX3 B1;replace b_B2:=bX3 B2
 go_wp2_with fail
 refine cM (i5 x7 _ _ (G7.out.raw ZA.out zo)) fun x8 w8 hE G8=>?_
 refine mV6 hE ?_ G7 B1 B2 HX HS HT;clear G7 B1 B2 HX HS HT;intro G7 B1 B2 HX HS HT;have hs_w8:=hE.size;replace b_B1:=bX3 B1;replace b_B2:=bX3 B2;go_wp2;refine aN (F:=fun W=>bodyPost _ _ _ _ _ W) B2.out rfl ?_;intro w10 T;replace HX:=Hi (T.ext HX.out zo);replace HS:=Hi (HS.out.keep T.keep);replace HT:=Hi (HT.out.keep T.keep);replace B1:=Hi (T.rest _ _ zo B1.out);replace B2:=Hi (T.bx);replace G7:=Hi (G7.out.keep T.keep);replace G8:=Hi (G8.out.keep T.keep);have hs_w10:=nle T.size;have hr_w10:=nle T.size.symm;clear T;replace b_B1:=bX3 B1;replace b_B2:=bX3 B2;exact nXa (v:=RH.v x8) (by simp [results,Tryz.results245,go_sem,b_B2.1]) rfl ⟨x8,rfl,HX.out,G8.out⟩
theorem uD{l:List Rat}{j:Nat}(h:j<l.length):iN (l.take (j+1))=(iN (l.take j) && decide (0<l.getD j 0)):=by
 rw [←cO h];unfold iN;rw [List.all_append];simp
theorem rW{q:Rat}:cG q 0≤0↔¬ 0<q:=by
 constructor
 ·intro h h1;rw [pX h1] at h;omega
 ·intro h;exact iI h
theorem nC(ao:Option Addr)(n cap:Nat)(l:List Rat)(s:Nat)(w:World)(h:bg w ⟨ao,n,cap⟩ l)(hn:n≤1000)(hz:SzL s l)(hs:s≤10000000) :
  ar 240 [.slice ao n cap] w (fun _:Unit=>.bool (iN l)) (fun _ _=>True):=by
 have H:=Hi h;have HX:=Hi (Ext.refl w);have hle:=h.le;have hmx:=h.max;have Hlen:=Hi h.len;simp only at hle hmx Hlen;have HZ:=Hi hz;clear h hz;unfold ar;go_enter Tryz.func240,Tryz.ntmps240;go_wp2
 go_loopg [7] n (fun g i wr=>∃ (j:Nat),j+g=n∧i=.int .i64 (j:Nat)∧Ext w wr∧Hid (iN (l.take j)=true))
 case atStart=>exact ⟨0,zo,rfl,HX.out,Hi rfl⟩
 case round =>
  obtain ⟨j,hj,rfl,g1,HP⟩:=hrel;clear HX;have HX:=Hi g1;clear g1;by_cases h0:gk=0
  ·subst h0;obtain rfl:j=n:=by omega
   have HE:Hid (l.take j=l):=Hi (nXm (by rw [Hlen.out];exact nXe _));rw [HE.out] at HP;go_wp2
   go_ret
   exact ⟨(),by rw [HP.out];rfl,HX.out,trivial⟩
  ·obtain ⟨b,off,r,hao,hbl,⟨hc1,hc2,hc3⟩,hP⟩:=(H.out.ext HX.out).lin.celx (k:=j) zo;obtain ⟨rneg,ra,rn,rc,rb,rm,rd⟩:=r;simp only at hc1 hc2 hc3;subst hao;have RP:=Hi hP;clear hP;have hjn:(j:Int)<n:=zo;have ZX:=Hi (HZ.out.at (i:=j) (by rw [Hlen.out];omega));have HMv:Hid (iN (l.take (j+1))=decide (0<l.getD j 0)):=Hi (by rw [uD (by rw [Hlen.out];omega),HP.out,Bool.true_and]);have HMw:Hid (¬ 0<l.getD j 0→iN l=false):=Hi (fun hh=>by
    cases e:iN l with
    | false=>rfl
    | true =>
     exfalso;unfold iN at e;rw [List.all_eq_true] at e;have hjl:j<l.length:=by rw [Hlen.out];omega
     have:=e (l.getD j 0) (by rw [nXd,List.getElem?_eq_getElem hjl];exact List.getElem_mem hjl);exact hh (of_decide_eq_true this))
   obtain ⟨v,hv⟩:∃ v,v=l.getD j 0:=⟨_,rfl⟩;rw [←hv] at RP ZX HMv HMw;clear hv
   go_upto_region 4 with fail
   refine nmA ?_;intro y1 hE B5 hz_y1 hr_y1;refine mV2 hE ?_ HX RP;clear HX RP;intro HX RP;have hs_y1:=hE.size;replace b_B5:=bX3 B5
   go_wp2_with fail
   refine cM (dV ⟨rneg,ra,rn,rc,rb,rm,rd⟩ v _ (RP.out.raw ZX.out zo)) fun x6 w6 hE _=>?_
   refine mV3 hE ?_ B5 HX RP;clear B5 HX RP;intro B5 HX RP;have hs_w6:=hE.size;replace b_B5:=bX3 B5;by_cases hv:0<v
   case pos =>
    have hc:¬ cG v 0≤0:=fun h=>rW.1 h hv
    rw [decide_eq_true hv] at HMv;obtain ⟨c,e⟩:∃ c,c=cG v 0:=⟨_,rfl⟩;rw [←e] at hc ⊢;clear e hv HMw;go_wp2
    go_roundg (gk-1)
    case measure=>omega
    case rel=>exact ⟨j+1,zo,by go_num,HX.out,HMv⟩
   have hc:cG v 0≤0:=rW.2 hv;have HMx:=Hi (HMw.out hv);obtain ⟨c,e⟩:∃ c,c=cG v 0:=⟨_,rfl⟩;rw [←e] at hc ⊢;clear e hv HMw HMv;go_wp2
   go_ret
   exact ⟨(),by rw [HMx.out];rfl,HX.out,trivial⟩
end Go.Proofs.YtkcpmclnocmalaaGreat
