import Derived.Test.YtafgmcimcbhhjaaGreatQCK1
set_option linter.unusedVariables false
set_option maxHeartbeats 2000000
set_option maxRecDepth 8000
namespace Go.Stab
def sm:Nat→(Nat→Rat)→Rat
 | 0,_=>0
 | n+1,f=>sm n f+f n
theorem sm_congr{n:Nat}{f g:Nat→Rat}(h:∀ i,i<n→f i=g i):sm n f=sm n g:=by
 induction n with
 | zero=>rfl
 | succ n ih=>simp only [sm];rw [ih (fun i hi=>h i zo),h n zo]
theorem Be(n:Nat)(f g:Nat→Rat):sm n (fun i=>f i+g i)=sm n f+sm n g:=by
 induction n with
 | zero=>simp only [sm];grind
 | succ n ih=>simp only [sm];rw [ih];grind
theorem lY(n:Nat)(c:Rat)(f:Nat→Rat):sm n (fun i=>c*f i)=c*sm n f:=by
 induction n with
 | zero=>simp [sm]
 | succ n ih=>simp only [sm];rw [ih];grind
theorem sm_zero(n:Nat):sm n (fun _=>0)=0:=by
 induction n with
 | zero=>rfl
 | succ n ih=>simp only [sm];rw [ih];grind
theorem EG{n:Nat}{f g:Nat→Rat}(h:∀ i,i<n→f i≤g i):sm n f≤sm n g:=by
 induction n with
 | zero=>exact Rat.le_refl
 | succ n ih =>
  simp only [sm];have h1:=ih (fun i hi=>h i zo);have h2:=h n zo;grind
theorem jQ(n:Nat)(f:Nat→Rat):sm (n+1) f=f 0+sm n (fun i=>f (i+1)):=by
 induction n with
 | zero=>simp [sm];grind
 | succ n ih=>rw [sm,ih];simp only [sm];grind
theorem sm_split(n m:Nat)(f:Nat→Rat):sm (n+m) f=sm n f+sm m (fun i=>f (n+i)):=by
 induction m with
 | zero=>simp [sm];grind
 | succ m ih=>rw [←Nat.add_assoc];simp only [sm];rw [ih];grind
theorem EE(n:Nat)(f:Nat→Rat):sm n f=sm n (fun i=>f (n-1-i)):=by
 induction n with
 | zero=>rfl
 | succ n ih =>
  rw [jQ n (fun i=>f (n+1-1-i))];simp only [sm];rw [ih];have:sm n (fun i=>f (n+1-1-(i+1)))=sm n (fun i=>f (n-1-i)):=sm_congr (fun i hi=>by congr 1;omega);rw [this];simp only [Nat.add_sub_cancel,Nat.sub_zero];grind
def sh(u:Nat→Rat):Nat→Rat
 | 0=>0
 | n+1=>u n
def ap:List Rat→(Nat→Rat)→Nat→Rat
 | [],_=>fun _=>0
 | a :: l,u=>fun n=>a*u n+sh (ap l u) n
def E(n:Nat)(u:Nat→Rat):Rat:=sm n (fun i=>u i*u i)
def Iv(a b:List Rat):List Rat:=List.zipWith (·+·) a b
def Iu(c:Rat)(a:List Rat):List Rat:=a.map (c*·)
def up(c:List Rat)(k:Rat):List Rat:=Iv (c++[0]) (Iu k (0 :: c.reverse))
def Inv(c:List Rat):Prop:=∃ C:Rat,0≤C∧∀ u N,E N u≤C*E N (ap c u)
def shn(i:Nat)(u:Nat→Rat)(n:Nat):Rat:=if i≤n then u (n-i) else 0
theorem zx(i:Nat)(u:Nat→Rat)(n:Nat):shn (i+1) u (n+1)=shn i u n:=by
 unfold shn;by_cases h:i≤n
 ·rw [if_pos h,if_pos zo];congr 1;omega
 ·rw [if_neg h,if_neg zo]
theorem ap_sum(c:List Rat)(u:Nat→Rat)(n:Nat):ap c u n=sm c.length (fun i=>c.getD i 0*shn i u n):=by
 induction c generalizing n with
 | nil=>rfl
 | cons a l ih =>
  simp only [ap,List.length_cons];rw [jQ];have e0:shn 0 u n=u n:=by unfold shn;simp
  have e1:sh (ap l u) n=sm l.length (fun i=>(a :: l).getD (i+1) 0*shn (i+1) u n):=by
   cases n with
   | zero =>
    simp only [sh];rw [sm_congr (g:=fun _=>0) (fun i _=>by simp [shn]),sm_zero]
   | succ n =>
    simp only [sh];rw [ih];exact sm_congr (fun i _=>by rw [zx];simp)
  rw [e1,e0];simp
def G(L:Nat)(u:Nat→Rat)(i j:Nat):Rat:=sm L (fun n=>shn i u n*shn j u n)
theorem lt_or_le(a b:Rat):a<b∨b≤a:=by
 rcases Rat.le_total (a:=b) (b:=a) with h|h
 ·exact Or.inr h
 ·by_cases h1:a=b
  ·right;rw [h1];exact Rat.le_refl
  ·left;exact Rat.lt_of_le_of_ne h h1
theorem zv(n:Nat)(c:Rat):sm n (fun _=>c)=(n:Rat)*c:=by
 induction n with
 | zero=>simp only [sm];grind
 | succ n ih=>simp only [sm];rw [ih,Rat.natCast_add];grind
theorem Bl{J:Nat}{f:Nat→Rat}{S:Rat}(hJ:1≤J)(h:sm J f≤S):∃ j,j<J∧(J:Rat)*f j≤S:=by
 apply Classical.byContradiction;intro hn;have hall:∀ j,j<J→S<(J:Rat)*f j:=by
  intro j hj;rcases lt_or_le (S) ((J:Rat)*f j) with h1|h1
  ·exact h1
  ·exact absurd ⟨j,hj,h1⟩ hn
 have h1:sm J (fun _=>S)≤sm J (fun j=>(J:Rat)*f j):=EG (fun j hj=>Rat.le_of_lt (hall j hj));have h2:sm J (fun _=>S)<sm J (fun j=>(J:Rat)*f j):=by
  obtain ⟨J',rfl⟩:∃ J',J=J'+1:=⟨J-1,zo⟩;simp only [sm];have a1:=hall J' zo;have a2:sm J' (fun _=>S)≤sm J' (fun j=>((J'+1:Nat):Rat)*f j):=EG (fun j hj=>Rat.le_of_lt (hall j zo));grind
 rw [zv,lY] at h2;have h3:=Rat.mul_le_mul_of_nonneg_left h (c:=(J:Rat)) (by exact Rat.natCast_nonneg);grind
def seq(c:List Rat)(n:Nat):Rat:=c.getD n 0
def cv(s u:Nat→Rat)(n:Nat):Rat:=sm (n+1) (fun i=>s i*u (n-i))
theorem fQ(s u:Nat→Rat):cv s u=cv u s:=by
 funext n
 unfold cv;rw [EE];exact sm_congr (fun i hi=>by rw [show n-(n+1-1-i)=i by omega,show n+1-1-i=n-i by omega];grind)
theorem FC(t u:Nat→Rat):cv (sh t) u=sh (cv t u):=by
 funext n
 cases n with
 | zero=>simp only [cv,sm,sh];grind
 | succ n =>
  simp only [sh];unfold cv;rw [jQ];simp only [sh];rw [sm_congr (f:=fun i=>t i*u (n+1-(i+1))) (g:=fun i=>t i*u (n-i)) (fun i hi=>by rw [show n+1-(i+1)=n-i by omega])];grind
theorem qF(s t u:Nat→Rat):cv (fun n=>s n+t n) u=fun n=>cv s u n+cv t u n:=by
 funext n
 unfold cv;rw [←Be];exact sm_congr (fun i _=>by grind)
theorem fG(c:Rat)(s u:Nat→Rat):cv (fun n=>c*s n) u=fun n=>c*cv s u n:=by
 funext n
 unfold cv;rw [←lY];exact sm_congr (fun i _=>by grind)
theorem IB(p:List Rat)(s u:Nat→Rat):cv (ap p s) u=ap p (cv s u):=by
 induction p with
 | nil=>funext n;unfold cv ap;rw [sm_congr (g:=fun _=>0) (fun i _=>by grind),sm_zero]
 | cons a l ih=>simp only [ap];rw [qF,fG,FC,ih]
theorem zz(a:Rat)(l:List Rat):seq (a :: l)=fun n=>a*(if n=0 then 1 else 0)+sh (seq l) n:=by
 funext n
 cases n with
 | zero=>simp only [seq,sh,List.getD_cons_zero,if_true];grind
 | succ n=>simp only [seq,sh,List.getD_cons_succ,if_neg (Nat.succ_ne_zero n)];grind
theorem FD(u:Nat→Rat):cv (fun n=>if n=0 then 1 else 0) u=u:=by
 funext n
 unfold cv;rw [jQ,sm_congr (f:=fun i=>(if i+1=0 then 1 else 0)*u (n-(i+1))) (g:=fun _=>0) (fun i _=>by rw [if_neg (Nat.succ_ne_zero i)];grind),sm_zero];simp only [if_true,Nat.sub_zero];grind
theorem iH(p:List Rat)(u:Nat→Rat):ap p u=cv (seq p) u:=by
 induction p with
 | nil=>funext n;unfold cv ap;rw [sm_congr (g:=fun _=>0) (fun i _=>by simp only [seq,List.getD_nil];grind),sm_zero]
 | cons a l ih=>rw [zz,qF,fG,FC,FD,←ih];rfl
theorem As{a b:List Rat}{i:Nat}(h:i<a.length):(a++b).getD i 0=a.getD i 0:=by
 rw [nXd,nXd,List.getElem?_append_left h]
theorem xk{a b:List Rat}{i:Nat}(h:a.length≤i):(a++b).getD i 0=b.getD (i-a.length) 0:=by
 rw [nXd,nXd,List.getElem?_append_right h]
theorem getD_ext{a b:List Rat}(hl:a.length=b.length)(h:∀ i,i<a.length→a.getD i 0=b.getD i 0):a=b:=by
 apply List.ext_getElem hl;intro i h1 h2;have:=h i h1;simpa [nXd,List.getElem?_eq_getElem h1,List.getElem?_eq_getElem h2] using this
theorem snoc0_getD(c:List Rat)(i:Nat):(c++[0]).getD i 0=c.getD i 0:=by
 rcases Nat.lt_or_ge i c.length with h|h
 ·exact As h
 ·rw [xk h,nXd,nXd,List.getElem?_eq_none (l:=c) h];cases h':i-c.length <;> simp
theorem snoc_ind{P:List Rat→Prop}(h0:P [])(h1:∀ l r,P l→P (l++[r]))(l:List Rat):P l:=by
 have:∀ l:List Rat,P l.reverse:=by
  intro l;induction l with
  | nil=>exact h0
  | cons a l ih=>rw [List.reverse_cons];exact h1 _ _ ih
 have:=this l.reverse
 rwa [List.reverse_reverse] at this
end Go.Stab
namespace Go.Proofs.YtafgmcimcbhhjaaGreat
open Go.RowKit Go.Front Go.Num
attribute [local go_sem] XW.cell XW.frozen
theorem Sz.abs{k:Nat}{q:Rat}(h:Sz k q):Sz k q.abs:=by
 unfold Rat.abs;split
 ·exact h
 ·exact h.neg
theorem RAt.lt{w:World}{b o:Nat}{r:RH}(h:RAt w b o r):b<w.heap.size:=nXq _ _ h.1
def Ip(r:RH):Array Value:=#[.bool r.neg,.slice r.a r.n r.c,.slice r.b r.m r.d]
def RF(x:SH×Int):Value:=.tuple #[x.1.v,.int .i64 x.2]
theorem fx(l:List Rat):tz (l++[0])=tz l:=by simp [tz]
theorem ie(l:List Rat){r:Rat}(h:r≠0):tz (l++[r])=l++[r]:=by simp [tz,h]
theorem jK(l:List Rat):tz l=l.take (tz l).length:=by
 induction l using Stab.snoc_ind with
 | h0=>rfl
 | h1 l r ih =>
  by_cases h:r=0
  ·subst h;rw [fx,List.take_append_of_le_length (ae l)];exact ih
  ·rw [ie l h,List.take_length]
theorem qS{l:List Rat}{i:Nat}(h:i<(tz l).length):(tz l).getD i 0=l.getD i 0:=by
 rw [jK l];simp [h]
theorem sE{l:List Rat}{i:Nat}(h:(tz l).length≤i):l.getD i 0=0:=by
 induction l using Stab.snoc_ind with
 | h0=>rfl
 | h1 l r ih =>
  by_cases hr:r=0
  ·subst hr;rw [fx] at h;rw [Stab.snoc0_getD];exact ih h
  ·rw [ie l hr] at h;rw [nXd,List.getElem?_eq_none h];rfl
theorem br(l:List Rat)(i:Nat):(tz l).getD i 0=l.getD i 0:=by
 rcases Nat.lt_or_ge i (tz l).length with h|h
 ·exact qS h
 ·rw [sE h,nXd,List.getElem?_eq_none h];rfl
theorem SzL.tz{k:Nat}{qs:List Rat}(h:SzL k qs):SzL k (tz qs):=by
 rw [jK];exact fun q hq=>h q (List.mem_of_mem_take hq)
def iJ(w:World)(p:Nat×RH)(q:Rat):Prop:=RBk w p.1 [p.2] #[]∧aB w p.2 q
theorem iJ.ext{w w':World}{p:Nat×RH}{q:Rat}(h:iJ w p q)(he:Ext w w'):iJ w' p q:=⟨h.1.ext he,h.2.ext he⟩
instance {w w':World} {p:Nat×RH} {q:Rat}:Go.Front.Mv w w' (iJ w p q) (iJ w' p q):=⟨fun e h=>iJ.ext h e⟩

theorem nq{P:Program}{o:Oper}{a:Act}{w:World}{T:TypeId}(x:RH)(q:Rat)(hx:aB w x q)(hT:T=34)
 (hrun:(execOp a.eval o).run P w=.ok (.value (.slice (some ⟨w.heap.size,0,none⟩) 1 1)) (w.alloc (.cells #[.bool x.neg,.slice x.a x.n x.c,.slice x.b x.m x.d] T))) :
  gO P o a w (fun p:Nat×RH=>.slice (some ⟨p.1,0,none⟩) 1 1) (fun p w'=>iJ w' p q):=by
 subst hT;unfold gO;rw [hrun];exact ⟨Ext.alloc _ _,(w.heap.size,x),rfl,vS (heap_alloc_new _ _) rfl,hx.ext (Ext.alloc _ _)⟩
theorem Sz.one:Sz 1 1:=Sz.int (z:=1) dZ
theorem Sz.pow{k:Nat}{q:Rat}(h:Sz k q)(i:Nat):Sz (k*i+1) (q ^ i):=by
 induction i with
 | zero=>rw [Rat.pow_zero];exact Sz.one.mono zo
 | succ i ih=>rw [Rat.pow_succ];exact (ih.mul h).mono (by rw [Nat.mul_succ];omega)
def FJ(b9:Nat)(v:Rat)(W:World)(i:Nat)(w:World):Prop:=bj (·=b9) W w∧gX W w∧∃ y:RH,w.heap[b9]?=some (.cells (Ip y) 34 (0,0))∧aB w y (v ^ i)
theorem Sz.zero{k:Nat}(hk:1≤k):Sz k 0:=(Sz.int (z:=0) dZ).mono hk
theorem SzL.getD{s:Nat}{c:List Rat}(h:SzL s c)(hs:1≤s)(i:Nat):Sz s (c.getD i 0):=by
 rcases Nat.lt_or_ge i c.length with hi|hi
 ·exact h.at hi
 ·rw [nXd,List.getElem?_eq_none hi];exact Sz.zero hs
def grow:Nat→Nat→Nat
 | 0,s=>s
 | m+1,s=>grow m (5*s+3)
theorem aJ(l:List Rat):tz (tz l)=tz l:=by
 induction l using Stab.snoc_ind with
 | h0=>rfl
 | h1 l r ih =>
  by_cases h:r=0
  ·subst h;rw [fx];exact ih
  ·rw [ie l h,ie l h]
theorem qI{w:World}{N:Nat}{x:RH}{p:Rat}(h:w.heap[N]?=some (.cells #[.bool x.neg,.slice x.a x.n x.c,.slice x.b x.m x.d] 34 (0,0)))(hx:aB w x p):aD w ⟨some ⟨N,0,none⟩,1,1⟩ [p] :=
 ⟨[x],RBk.rs (rs:=[x]) (re:=#[]) h rfl (nXe _) dZ,(fu.nil _ _).snoc hx⟩
theorem tT{w:World}{N:Nat}{x y:RH}{p q:Rat}(h:w.heap[N]?=some (.cells #[.bool x.neg,.slice x.a x.n x.c,.slice x.b x.m x.d,.bool y.neg,.slice y.a y.n y.c,.slice y.b y.m y.d] 34 (0,0)))(hx:aB w x p)(hy:aB w y q):aD w ⟨some ⟨N,0,none⟩,2,2⟩ [p,q] :=
 ⟨[x,y],RBk.rs (rs:=[x,y]) (re:=#[]) h rfl (nXe _) dZ,((fu.nil _ _).snoc hx).snoc hy⟩
def fr(a b:Int):Rat:=(a:Rat) / (b:Rat)
theorem zK{v K m:Nat}(hv:v<W32 ^ K)(hm:m≤64)(hK:1≤K):(digs (v ^ m)).length≤64*K:=by
 apply bS;rcases Nat.eq_zero_or_pos m with h0|h0
 ·subst h0;rw [Nat.pow_zero];exact nXn (by decide:1<2) (kL zo)
 ·have h1:v ^ m<(W32 ^ K) ^ m:=Nat.pow_lt_pow_left hv zo;rw [←Nat.pow_mul] at h1;exact nXn h1 (nXp aw (by rw [nYf 64];exact nXg _ hm))
theorem yZ{w:World}{L:Nat}{T:TypeId}(h:w.heap[L]?=some (.cells #[.int .u32 1] T (0,0))):U32 w (some ⟨L,0,none⟩) 1 1 (digs 1):=by
 rw [iW];refine ⟨rfl,nXe _,dZ,fun d hd=>?_,Or.inr ⟨L,0,rfl,fun k hk=>?_⟩⟩
 ·obtain rfl:d=1:=by simpa using hd
  decide
 ·obtain rfl:k=0:=by omega
  rw [ab h];rfl
theorem vX(ao:Option Addr)(n cap v K N:Nat)(w:World)(h:U32 w ao n cap (digs v))(hv:v<W32 ^ K)(hK:1≤K)(hK2:K≤1048576)(hN:N≤64) :
  Calls Tryz.prog 226 #[.slice ao n cap,.int .i64 (N:Nat)] w (i7 (digs (v ^ N)) w):=by
 have H:=Hi h;have HX:=Hi (Ext.refl w);have HL:Hid (∀ m,m≤64→(digs (v ^ m)).length≤67108864):=Hi (fun m hm=>nXf (zK hv hm hK) zo);clear h;go_enter Tryz.func226,Tryz.ntmps226
 go_upto_region 2 with fail
 refine nmA ?_;intro w1 hE B1 hz_w1 hr_w1;replace HX:=hE.tr HX;have HA:Hid (U32 w1 ao n cap (digs (v ^ 1))):=Hi (by rw [Nat.pow_one];exact H.out.ext HX.out);have HR:Hid (U32 w1 (some ⟨w.heap.size,0,none⟩) 1 1 (digs (v ^ 0))):=Hi (by rw [Nat.pow_zero];exact yZ B1.out)
 go_loopg [0,1,5] N (fun g a z r wr=>∃ (m j:Nat) (s t:SH),a=s.v∧z=.int .i64 (g:Nat)∧r=t.v∧1≤m∧j+m*g=N∧Ext w wr∧(m≤64∨g=0)∧U32 wr s.a s.n s.c (digs (v ^ m))∧U32 wr t.a t.n t.c (digs (v ^ j)))
 case atStart=>exact ⟨1,0,⟨ao,n,cap⟩,⟨some ⟨w.heap.size,0,none⟩,1,1⟩,rfl,rfl,rfl,dZ,zo,HX.out,Or.inl dZ,HA.out,HR.out⟩
 case round =>
  obtain ⟨m,j,⟨sa,sn,sc⟩,⟨ta,tn,tc⟩,rfl,rfl,rfl,hm1,hj,g1,hm,g2,g3⟩:=hrel;clear HX HA HR;have HX:=Hi g1;have HA:=Hi g2;have HR:=Hi g3;simp only at g2 g3;clear g1 g2 g3;simp only [SH.v];simp only at HA HR;by_cases h0:gk=0
  case pos =>
   subst h0;have HE:Hid (v ^ j=v ^ N):=Hi (by rw [←hj,Nat.mul_zero,Nat.add_zero]);rw [HE.out] at HR;clear hj hm;go_wp2
   go_ret
   exact ⟨ta,tn,tc,rfl,HR.out,HX.out⟩
  have hm64:m≤64:=zo;have hgi:(0:Int)<gk:=zo;have hmg:m≤m*gk:=Nat.le_mul_of_pos_right m zo;have hj64:j≤64:=zo;have hsl:sn≤67108864:=by have h1:=HA.out.len;have h2:=HL.out m hm64;rw [h1] at h2;exact h2
  have htl:tn≤67108864:=by have h1:=HR.out.len;have h2:=HL.out j hj64;rw [h1] at h2;exact h2
  obtain ⟨g2,hg2⟩:∃ g2,g2=gk / 2:=⟨_,rfl⟩;have hdI:(gk:Int).tdiv 2=g2:=by have h2:(gk:Int).tdiv 2=((gk / 2:Nat):Int):=rfl;omega
  have hdJ:(gk:Int) / 2=g2:=by omega
  have hlt:g2<gk:=zo;have hgk:gk≤64:=by have:=Nat.le_mul_of_pos_left gk hm1;omega
  have hg64:(g2:Int)≤64:=zo;have HSq:Hid (val (digs (v ^ m))*val (digs (v ^ m))=v ^ (2*m)):=Hi (by rw [af,←Nat.pow_add,Nat.two_mul]);have HMu:Hid (val (digs (v ^ j))*val (digs (v ^ m))=v ^ (j+m)):=Hi (by rw [af,af,←Nat.pow_add]);rcases Nat.mod_two_eq_zero_or_one gk with hpar|hpar
  ·have hmI:(gk:Int).tmod 2=0:=by have h2:(gk:Int).tmod 2=((gk % 2:Nat):Int):=rfl;omega
   have hmJ:(gk:Int) % 2=0:=by omega
   have hg:gk=2*g2:=by omega
   have hjn:j+2*m*g2=N:=by rw [←hj,hg,nYf 2 m,Nat.mul_assoc]
   have hm2:2*m≤64∨g2=0:=by
    left
    have:=Nat.le_mul_of_pos_right (2*m) (show 0<g2 by omega);omega
   clear hj hm hmg hpar hg2 hg
   go_wp2_with fail
   refine Calls.mono (oH sa sa sn sc sn sc _ _ _ HA.out HA.out zo zo) ?_;rintro e w3 ⟨a3,n3,c3,rfl,hU,hE⟩;rw [HSq.out] at hU;have HU:=Hi hU;clear hU;refine mV2 hE ?_ HX HR;clear HX HR;intro HX HR;clear hdI hdJ hmI hmJ;go_wp2
   go_roundg g2
   case measure=>omega
   case rel=>exact ⟨2*m,j,⟨a3,n3,c3⟩,⟨ta,tn,tc⟩,rfl,by go_num,rfl,zo,hjn,HX.out,hm2,HU.out,HR.out⟩
  ·have hmI:(gk:Int).tmod 2=1:=by have h2:(gk:Int).tmod 2=((gk % 2:Nat):Int):=rfl;omega
   have hmJ:(gk:Int) % 2=1:=by omega
   have hg:gk=2*g2+1:=by omega
   have hjn:j+m+2*m*g2=N:=by rw [←hj,hg,Nat.mul_add,Nat.mul_one,nYf 2 m,Nat.mul_assoc];omega
   have hm2:2*m≤64∨g2=0:=by
    rcases Nat.eq_zero_or_pos g2 with h1|h1
    ·exact Or.inr h1
    ·left
     have:=Nat.le_mul_of_pos_right (2*m) h1;omega
   clear hj hm hmg hpar hg2 hg
   go_wp2_with fail
   refine Calls.mono (oH ta sa tn tc sn sc _ _ _ HR.out HA.out zo zo) ?_;rintro e w3 ⟨a3,n3,c3,rfl,hU,hE⟩;rw [HMu.out] at hU;have HU:=Hi hU;clear hU;refine mV2 hE ?_ HA HX;clear HA HX;intro HA HX;by_cases hg0:g2=0
   case pos =>
    subst hg0;have hjn2:j+m+m*0=N:=by rw [Nat.mul_zero] at hjn ⊢;exact hjn
    go_wp2
    go_roundg 0
    case measure=>omega
    case rel=>exact ⟨m,j+m,⟨sa,sn,sc⟩,⟨a3,n3,c3⟩,rfl,rfl,rfl,hm1,hjn2,HX.out,Or.inr rfl,HA.out,HU.out⟩
   have hg2p:(0:Int)<g2:=zo
   go_wp2_with fail
   refine Calls.mono (oH sa sa sn sc sn sc _ _ _ HA.out HA.out zo zo) ?_;rintro e w4 ⟨a4,n4,c4,rfl,hU,hE⟩;rw [HSq.out] at hU;have HU4:=Hi hU;clear hU;refine mV2 hE ?_ HU HX;clear HU HX;intro HU HX;clear hdI hdJ hmI hmJ;go_wp2
   go_roundg g2
   case measure=>omega
   case rel=>exact ⟨2*m,j+m,⟨a4,n4,c4⟩,⟨a3,n3,c3⟩,rfl,by go_num,rfl,zo,hjn,HX.out,hm2,HU4.out,HU.out⟩
theorem s6(ao:Option Addr)(n cap v K N:Nat)(w:World)(h:U32 w ao n cap (digs v))(hv:v<W32 ^ K)(hK:1≤K)(hK2:K≤1048576)(hN:N≤64) :
  ak 214 [.slice ao n cap,.int .i64 (N:Nat)] w RF (fun x w'=>x.2=0∧x.1.U w' (digs (v ^ N))):=by
 have H:=Hi h;have HX:=Hi (Ext.refl w);have h1:¬ (N:Int)<0:=zo;have h2:¬ (64:Int)<N:=zo;clear h;unfold ak;go_enter Tryz.func214,Tryz.ntmps214
 go_wp2_with fail
 refine Calls.mono (vX ao n cap v K N _ H.out hv hK hK2 hN) ?_;rintro e w3 ⟨a3,n3,c3,rfl,hU,hE⟩;have HU:=Hi hU;clear hU;replace HX:=hE.tr HX;go_wp2;exact nXa (v:=RF (⟨a3,n3,c3⟩,0)) (by simp [results,Tryz.results214,go_sem,RF]) rfl ⟨(⟨a3,n3,c3⟩,0),rfl,HX.out,rfl,HU.out⟩
theorem zJ(n N:Nat):(-(n:Int)) ^ N=if N % 2=1 then -((n ^ N:Nat):Int) else ((n ^ N:Nat):Int):=by
 induction N with
 | zero=>simp
 | succ N ih =>
  rw [Int.pow_succ,ih,nXu];by_cases h:N % 2=1
  ·rw [if_pos h,if_neg zo,Int.neg_mul_neg,Int.natCast_mul]
  ·rw [if_neg h,if_pos zo,Int.mul_neg,Int.natCast_mul]
theorem Cz(z:Int)(N:Nat):decide (z ^ N<0)=(decide (z<0) && decide (N % 2=1)):=by
 rcases Int.lt_or_le z 0 with h|h
 ·obtain ⟨n,rfl⟩:∃ n:Nat,z=-(n:Int):=⟨z.natAbs,zo⟩;have hn:0<n:=zo;have hp:0<n ^ N:=nYn hn;rw [zJ,decide_eq_true h,Bool.true_and];apply decide_eq_decide.2;split
  ·rename_i h1
   exact ⟨fun _=>h1,fun _=>by omega⟩
  ·rename_i h1
   exact ⟨fun h2=>by omega,fun h2=>absurd h2 h1⟩
 ·obtain ⟨n,rfl⟩:∃ n:Nat,z=(n:Int):=⟨z.natAbs,zo⟩;rw [decide_eq_false (show ¬ ((n:Int)<0) by omega),Bool.false_and,←Int.natCast_pow];exact decide_eq_false zo
theorem zD(t:RH)(q:Rat)(K N:Nat)(w:World)(h:aQ w t q)(hz:Sz K q)(hK:1≤K)(hK2:K≤1048576)(hN:N≤64) :
  ak 197 [t.v,.int .i64 (N:Nat)] w (fun x:RH=>DV x 0) (fun x w'=>aB w' x (q ^ N)):=by
 obtain ⟨tneg,ta,tn,tc,tb,tm,td⟩:=t;have H:=Hi h;have HX:=Hi (Ext.refl w);have Hz:=Hi hz;have h1:¬ (N:Int)<0:=zo;have h2:¬ (64:Int)<N:=zo;clear h hz;unfold ak;go_enter Tryz.func197,Tryz.ntmps197
 go_upto_region 1 with fail
 refine kQ ?_;intro w1 hE B2 B4 hz_w1 hr_w1;replace HX:=hE.tr HX;replace b_B2:=bX3 B2
 go_wp2_with fail
 refine cM (cH ⟨tneg,ta,tn,tc,tb,tm,td⟩ q _ (H.out.ext HX.out)) fun x2 w2 hE G2=>?_
 refine mV2 hE ?_ B4 HX;clear B4 HX;intro B4 HX;obtain ⟨xn,xa,xl,xc,xb,xm,xd⟩:=x2
 go_upto_region 4 with fail
 refine nmA ?_;intro y3 hE B6 hz_y3 hr_y3;refine mV3 hE ?_ G2 B4 HX;clear G2 B4 HX;intro G2 B4 HX;replace b_B6:=bX3 B6;have U1:Hid (U32 y3 xa xl xc (digs q.num.natAbs)):=Hi G2.out.2.1;have U2:Hid (U32 y3 xb xm xd (digs q.den)):=Hi G2.out.2.2;have HN:Hid (xn=decide (q.num<0)):=Hi G2.out.1;clear G2
 go_wp2_with fail
 refine cM (s6 xa xl xc q.num.natAbs K N _ U1.out Hz.out.1 hK hK2 hN) fun x5 w5 hE G5=>?_
 refine mV4 hE ?_ B6 B4 HX U2;clear B6 B4 HX U2;intro B6 B4 HX U2;replace b_B6:=bX3 B6;obtain ⟨⟨a5,n5,c5⟩,e5⟩:=x5;obtain ⟨he5,hu5⟩:=G5.out;simp only at he5 hu5;subst he5;have U5:=Hi hu5;clear hu5 G5;simp only [RF,SH.v]
 go_wp2_with fail
 refine cM (s6 xb xm xd q.den K N _ U2.out Hz.out.2 hK hK2 hN) fun x6 w6 hE G6=>?_
 refine mV4 hE ?_ B6 B4 HX U5;clear B6 B4 HX U5;intro B6 B4 HX U5;replace b_B4:=bX3 B4;replace b_B6:=bX3 B6;obtain ⟨⟨a6,n6,c6⟩,e6⟩:=x6;obtain ⟨he6,hu6⟩:=G6.out;simp only at he6 hu6;subst he6;have U6:=Hi hu6;clear hu6 G6;simp only [RF,SH.v];have hmI:(N:Int).tmod 2=((N % 2:Nat):Int):=rfl;have hmJ:(N:Int) % 2=((N % 2:Nat):Int):=zo;have HS:Hid ((xn && decide (N % 2=1))=decide ((q ^ N).num<0)):=Hi (by rw [HN.out,Rat.num_pow,Cz]);have HD:Hid (digs (q ^ N).num.natAbs=digs (q.num.natAbs ^ N)):=Hi (by rw [Rat.num_pow,Int.natAbs_pow]);have HD2:Hid (digs (q ^ N).den=digs (q.den ^ N)):=Hi (by rw [Rat.den_pow]);clear HN;have hbx:(((N % 2:Nat):Int) == 1)=decide (N % 2=1):=by
  by_cases h:N % 2=1
  ·rw [h];rfl
  ·rw [decide_eq_false h,nXs];omega
 obtain ⟨r,hr⟩:∃ r,r=N % 2:=⟨_,rfl⟩;rw [←hr] at hmI hmJ HS hbx;clear hr;cases xn
 case false =>
  have HC:Hid (aB w6 ⟨false,a5,n5,c5,a6,n6,c6⟩ (q ^ N)):=Hi ⟨by rw [←HS.out];rfl,by rw [HD.out];exact U5.out,by rw [HD2.out];exact U6.out⟩;go_wp2;have hF:=(((Fin.start (L:=w.heap.size+1) HX.out (ai B4.out rfl)).set zo (i:=0) (v:=.bool false) rfl).set zo (i:=1) (v:=.slice a5 n5 c5) rfl).set zo (i:=2) (v:=.slice a6 n6 c6) rfl;exact nXa (v:=DV ⟨false,a5,n5,c5,a6,n6,c6⟩ 0) (by simp [results,Tryz.results197,go_sem,ab B4.out,DV]) rfl ⟨⟨false,a5,n5,c5,a6,n6,c6⟩,rfl,hF.ext,HC.out.keep hF.keep⟩
 case true =>
  by_cases hr1:r=1
  case pos =>
   subst hr1;have HC:Hid (aB w6 ⟨true,a5,n5,c5,a6,n6,c6⟩ (q ^ N)):=Hi ⟨by rw [←HS.out];rfl,by rw [HD.out];exact U5.out,by rw [HD2.out];exact U6.out⟩;go_wp2;have hF:=(((Fin.start (L:=w.heap.size+1) HX.out (ai B4.out rfl)).set zo (i:=0) (v:=.bool true) rfl).set zo (i:=1) (v:=.slice a5 n5 c5) rfl).set zo (i:=2) (v:=.slice a6 n6 c6) rfl;exact nXa (v:=DV ⟨true,a5,n5,c5,a6,n6,c6⟩ 0) (by simp [results,Tryz.results197,go_sem,ab B4.out,DV]) rfl ⟨⟨true,a5,n5,c5,a6,n6,c6⟩,rfl,hF.ext,HC.out.keep hF.keep⟩
  case neg =>
   have HC:Hid (aB w6 ⟨false,a5,n5,c5,a6,n6,c6⟩ (q ^ N)):=Hi ⟨by rw [←HS.out,decide_eq_false hr1];rfl,by rw [HD.out];exact U5.out,by rw [HD2.out];exact U6.out⟩;go_wp2;have hF:=(((Fin.start (L:=w.heap.size+1) HX.out (ai B4.out rfl)).set zo (i:=0) (v:=.bool false) rfl).set zo (i:=1) (v:=.slice a5 n5 c5) rfl).set zo (i:=2) (v:=.slice a6 n6 c6) rfl;exact nXa (v:=DV ⟨false,a5,n5,c5,a6,n6,c6⟩ 0) (by simp [results,Tryz.results197,go_sem,ab B4.out,DV]) rfl ⟨⟨false,a5,n5,c5,a6,n6,c6⟩,rfl,hF.ext,HC.out.keep hF.keep⟩
theorem dV{qs:List Rat}{i:Nat}(h:qs.length≤i):qs.getD i 0=0:=by
 rw [nXd,List.getElem?_eq_none h];rfl
theorem o8(ao:Option Addr)(n cap:Nat)(qs:List Rat)(i:Nat)(w:World)(h:cx w ⟨ao,n,cap⟩ qs)(hi:i≤1073741824) :
  ak 170 [.slice ao n cap,.int .i64 (i:Nat)] w RH.v (fun x w'=>aB w' x (qs.getD i 0)):=by
 have HX:=Hi (Ext.refl w);have hle:=h.le;have hmx:=h.max;have hlen:=h.len;simp only at hle hmx hlen;unfold ak;by_cases hin:i<n
 ·obtain ⟨b,off,r,hao,hbl,⟨hc1,hc2,hc3⟩,hP⟩:=h.cells' (k:=i) hin;subst hao;obtain ⟨rneg,ra,rn,rc,rb,rm,rd⟩:=r;simp only at hc1 hc2 hc3;have HP:=Hi hP;clear hP h hlen;go_enter Tryz.func170,Tryz.ntmps170
  go_wp2_with fail
  refine nmA (F:=fun W=>Calls _ _ _ W _) ?_;intro w1 hE B4 hz_w1 hr_w1;refine mV2 hE ?_ HX HP;clear HX HP;intro HX HP
  change Calls _ _ _ _ _
  refine cM (dA ⟨rneg,ra,rn,rc,rb,rm,rd⟩ (qs.getD i 0) _ HP.out) fun x2 w2 hE G2=>?_
  refine mV2 hE ?_ B4 HX;clear B4 HX;intro B4 HX;replace b_B4:=bX3 B4;go_wp2;have hF:=((((Fin.start (L:=w.heap.size) HX.out (ai B4.out rfl)).set zo (i:=0) (v:=.bool x2.neg) rfl).set zo (i:=1) (v:=.slice x2.a x2.n x2.c) rfl).set zo (i:=2) (v:=.slice x2.b x2.m x2.d) rfl);exact nXa (v:=x2.v) (by simp [results,Tryz.results170,go_sem,ab B4.out]) rfl ⟨x2,rfl,hF.ext,G2.out.keep hF.keep⟩
 ·have HZ:Hid (qs.getD i 0=((0:Int):Rat)):=Hi (dV zo);clear h hlen;go_enter Tryz.func170,Tryz.ntmps170
  go_wp2_with fail
  refine nmA (F:=fun W=>Calls _ _ _ W _) ?_;intro w1 hE B4 hz_w1 hr_w1;replace HX:=hE.tr HX
  change Calls _ _ _ _ _
  refine cM (ce 0 _ dZ dZ) fun x2 w2 hE G2=>?_
  refine mV2 hE ?_ B4 HX;clear B4 HX;intro B4 HX;replace b_B4:=bX3 B4;go_wp2;have hF:=((((Fin.start (L:=w.heap.size) HX.out (ai B4.out rfl)).set zo (i:=0) (v:=.bool x2.neg) rfl).set zo (i:=1) (v:=.slice x2.a x2.n x2.c) rfl).set zo (i:=2) (v:=.slice x2.b x2.m x2.d) rfl);exact nXa (v:=x2.v) (by simp [results,Tryz.results170,go_sem,ab B4.out]) rfl ⟨x2,rfl,hF.ext,(by rw [HZ.out];exact G2.out.keep hF.keep)⟩
theorem bG(g:Nat→Rat)(j:Nat):(List.range (j+1)).map g=(List.range j).map g++[g j]:=by rw [List.range_succ,List.map_append];rfl
def bA(ps qs:List Rat):List Rat:=tz ((List.range (max ps.length qs.length)).map (fun i=>ps.getD i 0+qs.getD i 0))
theorem AS(ao bo:Option Addr)(n c m d:Nat)(ps qs:List Rat)(w:World)(h:cx w ⟨ao,n,c⟩ ps)(k:cx w ⟨bo,m,d⟩ qs)(hn:n≤1073741823)(hm:m≤1073741823)(hz:SzL 8388608 ps)(kz:SzL 8388608 qs) :
  ak 107 [.slice ao n c,.slice bo m d] w SH.v (fun s w'=>bU w.heap.size w' s (bA ps qs)):=by
 have H:=Hi h;have K:=Hi k;have HX:=Hi (Ext.refl w);have h1:=h.le;have h2:=h.max;have k1:=k.le;have k2:=k.max;have Hn:=Hi h.len;have Hm:=Hi k.len;simp only at h1 h2 k1 k2 Hn Hm;have HZ:=Hi hz;have KZ:=Hi kz;clear h k hz kz;obtain ⟨M,hM⟩:∃ M,M=max n m:=⟨_,rfl⟩;have HM:=Hi hM;have hM1:n≤M:=zo;have hM2:m≤M:=zo;have hM3:M≤1073741823:=zo;have hM4:M=n∨M=m:=by omega
 clear hM;unfold ak;go_enter Tryz.func107,Tryz.ntmps107;go_wp2
 go_loopg [5,6] M (fun g v i wr=>∃ (j:Nat) (s:SH),v=s.v∧j+g=M∧i=.int .i64 (j:Nat)∧Ext w wr∧eA wr (w.heap.size≤·) s.v ((List.range j).map (fun i=>ps.getD i 0+qs.getD i 0)))
 case atStart=>exact ⟨0,⟨none,0,0⟩,rfl,zo,rfl,HX.out,eA.nil _ _⟩
 case round =>
  obtain ⟨j,s,rfl,hj,rfl,g1,g2⟩:=hrel;clear HX;have HX:=Hi g1;have HO:=Hi g2;have hsz:=g1.size;clear g1 g2;by_cases hP:j<n
  ·have hPi:(j:Int)<n:=zo
   go_wp2_with fail
   refine cM (o8 ao n c ps j _ (H.out.ext HX.out) zo) fun x1 w1 hE G1=>?_
   refine mV2 hE ?_ HX HO;clear HX HO;intro HX HO;have hs_w1:=hE.size
   go_wp2_with fail
   refine cM (o8 bo m d qs j _ (K.out.ext HX.out) zo) fun x2 w2 hE G2=>?_
   refine mV3 hE ?_ G1 HX HO;clear G1 HX HO;intro G1 HX HO;have hs_w2:=hE.size
   go_wp2_with fail
   refine cM (eV x1 x2 _ _ _ (G1.out.raw (HZ.out.getD dZ j) dZ) (G2.out.raw (KZ.out.getD dZ j) dZ)) fun x3 w3 hE G3=>?_
   refine mV2 hE ?_ HX HO;clear HX HO;intro HX HO;have hs_w3:=hE.size
   go_wp2_with (at_builtin;refine cE rfl (.tmp 19) (.tmp 27) 24 Tryz.underlying24 rfl (w.heap.size≤·) _ _ x3 _ rfl HO.out rfl G3.out (by simp;omega) (fun k hk=>by omega) ?_;intro s' y3 q1 q2 q3)
   have HX3:=Hi (Ext.mods HX.out q2 (fun k h=>h));have HO3:Hid (eA y3 (w.heap.size≤·) s'.v ((List.range (j+1)).map (fun i=>ps.getD i 0+qs.getD i 0))):=Hi (by rw [bG (fun i=>ps.getD i 0+qs.getD i 0)];exact q1);clear q1 q2 q3;go_wp2
   go_roundg (gk-1)
   case measure=>omega
   case rel=>exact ⟨j+1,s',rfl,zo,by go_num,HX3.out,HO3.out⟩
  ·have hPi:¬ (j:Int)<n:=zo;by_cases hQ:j<m
   ·have hQi:(j:Int)<m:=zo
    go_wp2_with fail
    refine cM (o8 ao n c ps j _ (H.out.ext HX.out) zo) fun x1 w1 hE G1=>?_
    refine mV2 hE ?_ HX HO;clear HX HO;intro HX HO;have hs_w1:=hE.size
    go_wp2_with fail
    refine cM (o8 bo m d qs j _ (K.out.ext HX.out) zo) fun x2 w2 hE G2=>?_
    refine mV3 hE ?_ G1 HX HO;clear G1 HX HO;intro G1 HX HO;have hs_w2:=hE.size
    go_wp2_with fail
    refine cM (eV x1 x2 _ _ _ (G1.out.raw (HZ.out.getD dZ j) dZ) (G2.out.raw (KZ.out.getD dZ j) dZ)) fun x3 w3 hE G3=>?_
    refine mV2 hE ?_ HX HO;clear HX HO;intro HX HO;have hs_w3:=hE.size
    go_wp2_with (at_builtin;refine cE rfl (.tmp 19) (.tmp 27) 24 Tryz.underlying24 rfl (w.heap.size≤·) _ _ x3 _ rfl HO.out rfl G3.out (by simp;omega) (fun k hk=>by omega) ?_;intro s' y3 q1 q2 q3)
    have HX3:=Hi (Ext.mods HX.out q2 (fun k h=>h));have HO3:Hid (eA y3 (w.heap.size≤·) s'.v ((List.range (j+1)).map (fun i=>ps.getD i 0+qs.getD i 0))):=Hi (by rw [bG (fun i=>ps.getD i 0+qs.getD i 0)];exact q1);clear q1 q2 q3;go_wp2
    go_roundg (gk-1)
    case measure=>omega
    case rel=>exact ⟨j+1,s',rfl,zo,by go_num,HX3.out,HO3.out⟩
   ·have hQi:¬ (j:Int)<m:=zo;obtain rfl:j=M:=by omega
    have hsn:=eA.len HO.out;rw [nXl,nXt] at hsn;obtain ⟨sa,sn,sc⟩:=s;simp only at hsn;subst hsn;have HSz:Hid (SzL 16777217 ((List.range j).map (fun i=>ps.getD i 0+qs.getD i 0))):=Hi (by
     intro q hq;obtain ⟨i,-,rfl⟩:=nYg.1 hq;exact ((HZ.out.getD dZ i).add (KZ.out.getD dZ i)).mono dZ)
    go_wp2_with fail
    refine cM (cg sa j sc _ _ ((eA.can (s:=⟨sa,j,sc⟩) HO.out).raw HSz.out dZ) zo) fun x1 w1 hE G1=>?_
    replace HX:=hE.tr HX;go_wp2
    go_ret
    refine ⟨x1,rfl,HX.out,?_⟩;unfold bA;rw [Hn.out,Hm.out,←HM.out];exact G1.out.mono hsz
def pmS(p q:List Rat)(i k n:Nat):Rat:=Stab.sm i (fun i'=>p.getD i' 0*Stab.shn i' (Stab.seq q) n)+if i≤n∧n<i+k then p.getD i 0*q.getD (n-i) 0 else 0
theorem zM(p q:List Rat)(n:Nat):pmS p q 0 0 n=0:=by
 unfold pmS;rw [if_neg zo];show (0:Rat)+0=0;grind
theorem zO(p q:List Rat)(i k:Nat):pmS p q i (k+1) (i+k)=pmS p q i k (i+k)+p.getD i 0*q.getD k 0:=by
 unfold pmS;rw [if_pos zo,if_neg zo,show i+k-i=k by omega];grind
theorem zP{p q:List Rat}{i k n:Nat}(h:n≠i+k):pmS p q i (k+1) n=pmS p q i k n:=by
 unfold pmS;by_cases h1:i≤n∧n<i+k
 ·rw [if_pos h1,if_pos zo]
 ·rw [if_neg h1,if_neg zo]
theorem zN{p q:List Rat}{i k:Nat}(hk:q.length=k)(n:Nat):pmS p q (i+1) 0 n=pmS p q i k n:=by
 unfold pmS;rw [if_neg zo];simp only [Stab.sm];have e:Stab.shn i (Stab.seq q) n=if i≤n∧n<i+k then q.getD (n-i) 0 else 0:=by
  unfold Stab.shn Stab.seq;by_cases h1:i≤n
  ·rw [if_pos h1];by_cases h2:n<i+k
   ·rw [if_pos ⟨h1,h2⟩]
   ·rw [if_neg zo,dV zo]
  ·rw [if_neg h1,if_neg zo]
 rw [e];split <;> grind
theorem CE(p q:List Rat)(n:Nat):pmS p q p.length 0 n=Stab.ap p (Stab.seq q) n:=by
 unfold pmS;rw [if_neg zo,Stab.ap_sum];grind
def Cb(w:World)(L:Nat)(os:List Rat)(b:Nat):Prop:=∃ rs,RBk w L rs #[]∧fu aQ w rs os∧SzL b os
theorem Cb.ext{w w':World}{L b:Nat}{os:List Rat}(h:Cb w L os b)(he:Ext w w'):Cb w' L os b:=let ⟨rs,h1,h2,h3⟩:=h;⟨rs,h1.ext he,h2.raw_ext he,h3⟩
instance {w w':World} {L b:Nat} {os:List Rat}:Go.Front.Mv w w' (Cb w L os b) (Cb w' L os b):=⟨fun e h=>Cb.ext h e⟩

theorem fu.rawkeep{w w':World}{rs:List RH}{qs:List Rat}(h:fu aQ w rs qs)(he:gX w w'):fu aQ w' rs qs:=⟨h.1,fun k hk=>(h.2 k hk).keep he⟩
theorem fu.set{P:World→RH→Rat→Prop}{w:World}{rs:List RH}{qs:List Rat}(h:fu P w rs qs){r:RH}{q:Rat}(hr:P w r q)(k:Nat):fu P w (rs.set k r) (qs.set k q):=by
 refine ⟨by simp [h.1],fun j hj=>?_⟩;simp only [nXo] at hj;by_cases hjk:k=j
 ·subst hjk;rw [show (rs.set k r).getD k default=r by simp [show k<rs.length by rw [h.1];exact hj],show (qs.set k q).getD k 0=q by simp [hj]];exact hr
 ·rw [show (rs.set k r).getD j default=rs.getD j default by rw [nXd,nXd,List.getElem?_set_ne hjk],show (qs.set k q).getD j 0=qs.getD j 0 by rw [nXd,nXd,List.getElem?_set_ne hjk]];exact h.2 j hj
def aq(ps qs:List Rat):List Rat:=tz ((List.range ((tz ps).length+(tz qs).length-1)).map (Stab.ap (tz ps) (Stab.seq (tz qs))))
theorem zf{l:List Rat}(h:∀ x ∈ l,x=0):tz l=[]:=by
 induction l using Stab.snoc_ind with
 | h0=>rfl
 | h1 l r ih =>
  obtain rfl:r=0:=h r (by simp);rw [fx];exact ih (fun x hx=>h x (by simp [hx]))
theorem FW(n:Nat)(p:List Rat):Stab.ap p (Stab.seq []) n=0:=by
 rw [Stab.ap_sum,Stab.sm_congr (g:=fun _=>0) (fun i _=>?_),Stab.sm_zero];have:Stab.shn i (Stab.seq []) n=0:=by unfold Stab.shn Stab.seq;split <;> rfl
 rw [this];grind
theorem Ae{ps qs:List Rat}(h:tz ps=[]∨tz qs=[]):aq ps qs=[]:=by
 unfold aq;apply zf;intro x hx;obtain ⟨n,-,rfl⟩:=nYg.1 hx;rcases h with h|h
 ·rw [h];rfl
 ·rw [h];exact FW n _
theorem Gq{os:List Rat}{M:Nat}{f:Nat→Rat}(hl:os.length=M)(h:∀ n,n<M→os.getD n 0=f n):os=(List.range M).map f:=by
 apply Stab.getD_ext
 ·simp [hl]
 ·intro i hi;rw [hl] at hi;rw [h i hi];simp [hi]
theorem zy{p q os:List Rat}{M i k:Nat}(hl:os.length=M)(h:∀ n,n<M→os.getD n 0=pmS p q i k n)(hj:i+k<M):∀ n,n<M→(os.set (i+k) (os.getD (i+k) 0+p.getD i 0*q.getD k 0)).getD n 0=pmS p q i (k+1) n:=by
 intro n hn;by_cases he:n=i+k
 ·subst he;rw [show (os.set (i+k) (os.getD (i+k) 0+p.getD i 0*q.getD k 0)).getD (i+k) 0=os.getD (i+k) 0+p.getD i 0*q.getD k 0 by simp [hl,hj],h _ hn,zO]
 ·rw [show (os.set (i+k) (os.getD (i+k) 0+p.getD i 0*q.getD k 0)).getD n 0=os.getD n 0 by rw [nXd,List.getElem?_set_ne (Ne.symm he),←nXd],h _ hn,zP he]
theorem DY{p q:List Rat}{n:Nat}(h:p.length+q.length≤n+1):Stab.ap p (Stab.seq q) n=0:=by
 rw [Stab.ap_sum,Stab.sm_congr (g:=fun _=>0) (fun i hi=>?_),Stab.sm_zero];have:Stab.shn i (Stab.seq q) n=0:=by
  unfold Stab.shn Stab.seq;split
  ·exact dV zo
  ·rfl
 rw [this];grind
theorem Ad(ps qs:List Rat):Stab.seq (aq ps qs)=Stab.ap (tz ps) (Stab.seq (tz qs)):=by
 funext n
 unfold Stab.seq aq;rw [br];rcases Nat.lt_or_ge n ((tz ps).length+(tz qs).length-1) with h|h
 ·rw [nXd,nXw,List.getElem?_range h];rfl
 ·rw [dV (by simpa using h)];exact (DY zo).symm
theorem CW(ps qs:List Rat):tz (aq ps qs)=aq ps qs:=by unfold aq;exact aJ _
end Go.Proofs.YtafgmcimcbhhjaaGreat
