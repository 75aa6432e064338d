import Derived.Test.YtafgmcimcbhhjaaGreatQCK5
set_option linter.unusedVariables false
namespace Go.Proofs.YtafgmcimcbhhjaaGreat.Sie
theorem Bl:∀ (L K:Nat) (f:Nat→Nat),L<K→(∀ i,i<K→f i<L)→∃ i j,i<j∧j<K∧f i=f j:=by
 intro L;induction L with
 | zero=>intro K f h hf;exact absurd (hf 0 h) (Nat.not_lt_zero _)
 | succ L ih =>
  intro K f h hf;obtain ⟨K',rfl⟩:∃ K',K=K'+1:=⟨K-1,zo⟩;by_cases h1:∃ i,i<K'∧f i=f K'
  ·obtain ⟨i,hi,he⟩:=h1;exact ⟨i,K',hi,Nat.lt_succ_self _,he⟩
  ·have hn:∀ i,i<K'→f i≠f K':=fun i hi he=>h1 ⟨i,hi,he⟩
   obtain ⟨i,j,h2,h3,h4⟩:=ih K' (fun i=>if f i=L then f K' else f i) zo (fun i hi=>by
    have a1:=hf i zo;have a2:=hf K' zo;have a3:=hn i hi;split <;> omega)
   refine ⟨i,j,h2,zo,?_⟩;have b1:=hn i zo;have b2:=hn j h3;by_cases e1:f i=L
   ·by_cases e2:f j=L
    ·rw [e1,e2]
    ·rw [if_pos e1,if_neg e2] at h4;exact absurd h4.symm b2
   ·by_cases e2:f j=L
    ·rw [if_neg e1,if_pos e2] at h4;exact absurd h4 b1
    ·rw [if_neg e1,if_neg e2] at h4;exact h4
def dgt(b i t:Nat):Nat:=t / b ^ i % b
theorem ye{b i t:Nat}(hb:0<b):dgt b i t<b:=Nat.mod_lt _ hb
theorem Dz{b:Nat}(hb:0<b):∀ (N t u:Nat),t<b ^ N→u<b ^ N→(∀ i,i<N→dgt b i t=dgt b i u)→t=u:=by
 intro N;induction N with
 | zero=>intro t u h1 h2 _;rw [Nat.pow_zero] at h1 h2;omega
 | succ N ih =>
  intro t u h1 h2 h;have e0:=h 0 (Nat.succ_pos _);unfold dgt at e0;rw [Nat.pow_zero,Nat.div_one,Nat.div_one] at e0;have e1:=ih (t / b) (u / b) ((Nat.div_lt_iff_lt_mul hb).2 (by rw [←nXu];exact h1)) ((Nat.div_lt_iff_lt_mul hb).2 (by rw [←nXu];exact h2)) (fun i hi=>by
   have:=h (i+1) zo;unfold dgt at this ⊢;rw [Nat.div_div_eq_div_mul,Nat.div_div_eq_div_mul,nYf b,←nXu];exact this)
  rw [←Nat.div_add_mod t b,←Nat.div_add_mod u b,e0,e1]
def cod(R:Nat):Nat→(Nat→Nat)→Nat
 | 0,_=>0
 | M+1,y=>y 0+R*cod R M (fun j=>y (j+1))
theorem FK{R:Nat}:∀ (M:Nat) (y:Nat→Nat),(∀ j,j<M→y j<R)→cod R M y<R ^ M:=by
 intro M;induction M with
 | zero=>intro y _;exact Nat.one_pos
 | succ M ih =>
  intro y h;have h1:=ih (fun j=>y (j+1)) (fun j hj=>h (j+1) zo);have h0:=h 0 (Nat.succ_pos _);have h2:R*(cod R M (fun j=>y (j+1))+1)≤R*R ^ M:=nXg _ h1;show y 0+R*cod R M (fun j=>y (j+1))<R ^ (M+1);rw [nXu,nYf (R ^ M)];rw [Nat.mul_succ] at h2;omega
theorem DG{R:Nat}:∀ (M:Nat) (y z:Nat→Nat),(∀ j,j<M→y j<R)→(∀ j,j<M→z j<R)→cod R M y=cod R M z→∀ j,j<M→y j=z j:=by
 intro M;induction M with
 | zero=>intro y z _ _ _ j hj;omega
 | succ M ih =>
  intro y z hy hz h;have y0:=hy 0 (Nat.succ_pos _);have z0:=hz 0 (Nat.succ_pos _);have h':y 0+R*cod R M (fun j=>y (j+1))=z 0+R*cod R M (fun j=>z (j+1)):=h;have e0:y 0=z 0:=by
   have:=congrArg (· % R) h';simp only [Nat.add_mul_mod_self_left] at this
   rwa [Nat.mod_eq_of_lt y0,Nat.mod_eq_of_lt z0] at this
  have e1:cod R M (fun j=>y (j+1))=cod R M (fun j=>z (j+1)):=by
   rw [e0] at h';exact Nat.eq_of_mul_eq_mul_left zo (Nat.add_left_cancel h')
  intro j hj;cases j with
  | zero=>exact e0
  | succ j=>exact ih _ _ (fun k hk=>hy (k+1) zo) (fun k hk=>hz (k+1) zo) e1 j zo
def jA:Nat→(Nat→Int)→Int
 | 0,_=>0
 | n+1,f=>jA n f+f n
theorem wS{n:Nat}{f:Nat→Int}{C:Nat}(h:∀ i,i<n→(f i).natAbs≤C):(jA n f).natAbs≤n*C:=by
 induction n with
 | zero=>simp [jA]
 | succ n ih =>
  have h1:=ih (fun i hi=>h i zo);have h2:=h n (Nat.lt_succ_self n);have h3:=Int.natAbs_add_le (jA n f) (f n);show (jA n f+f n).natAbs≤_;rw [nXz];omega
theorem Ak(n:Nat)(f g:Nat→Int):jA n (fun i=>f i-g i)=jA n f-jA n g:=by
 induction n with
 | zero=>rfl
 | succ n ih=>show jA n (fun i=>f i-g i)+(f n-g n)=(jA n f+f n)-(jA n g+g n);rw [ih];omega
theorem uA{n:Nat}{f g:Nat→Int}(h:∀ i,i<n→f i=g i):jA n f=jA n g:=by
 induction n with
 | zero=>rfl
 | succ n ih=>show jA n f+f n=jA n g+g n;rw [ih (fun i hi=>h i zo),h n (Nat.lt_succ_self n)]
theorem qg(n:Nat)(f:Nat→Int):((jA n f:Int):Rat)=Stab.sm n (fun i=>((f i:Int):Rat)):=by
 induction n with
 | zero=>rfl
 | succ n ih=>show ((jA n f+f n:Int):Rat)=Stab.sm n _+_;rw [Rat.intCast_add,ih]
theorem EH(M:Nat)(A:Nat→Nat→Int)(a:Nat)(ha:∀ j i,(A j i).natAbs≤a)(h1:1≤a) :
  ∃ x:Nat→Int,(∃ i,i<M+1∧x i≠0)∧(∀ i,(x i).natAbs≤(2*(M+1)*a) ^ M)∧∀ j,j<M→jA (M+1) (fun i=>A j i*x i)=0:=by
 obtain ⟨G,hG⟩:∃ G,G=2*(M+1)*a:=⟨_,rfl⟩;have hG1:1≤G:=by rw [hG];exact Nat.mul_pos zo h1
 obtain ⟨B,hB⟩:∃ B,B=G ^ M:=⟨_,rfl⟩;obtain ⟨C,hC⟩:∃ C,C=(M+1)*(a*B):=⟨_,rfl⟩;have hb:0<B+1:=Nat.succ_pos _;have hsum:∀ j t,(jA (M+1) (fun i=>A j i*(dgt (B+1) i t:Nat))).natAbs≤C:=fun j t=>by
  rw [hC];refine wS fun i _=>?_
  rw [Int.natAbs_mul,nYi];exact nXy (ha j i) (Nat.le_of_lt_succ (ye hb))
 have hR:(2*C+1)≤G*(B+1):=by
  have e:2*C=G*B:=by
   rw [hC,hG,Nat.mul_assoc 2,Nat.mul_assoc 2,Nat.mul_assoc]
  rw [e,Nat.mul_succ];omega
 have hlt:(2*C+1) ^ M<(B+1) ^ (M+1):=by
  refine nYl (Nat.pow_le_pow_left hR M) ?_;rw [Nat.mul_pow,←hB,nXu,nYf];exact Nat.mul_lt_mul_of_pos_left (Nat.lt_succ_self B) (nYn hb)
 have hy:∀ t j,j<M→(jA (M+1) (fun i=>A j i*(dgt (B+1) i t:Nat))+C).toNat<2*C+1:=fun t j _=>by
  have:=hsum j t;omega
 obtain ⟨t,u,h2,h3,h4⟩:=Bl _ _ (fun t=>cod (2*C+1) M (fun j=>(jA (M+1) (fun i=>A j i*(dgt (B+1) i t:Nat))+C).toNat)) hlt (fun t _=>FK M _ (hy t));have h5:=DG M _ _ (hy t) (hy u) h4;refine ⟨fun i=>(dgt (B+1) i t:Nat)-((dgt (B+1) i u:Nat):Int),?_,fun i=>?_,fun j hj=>?_⟩
 ·apply Classical.byContradiction;intro hn;have:=Dz hb (M+1) t u zo h3 (fun i hi=>by
   have h6:¬ (((dgt (B+1) i t:Nat):Int)-((dgt (B+1) i u:Nat):Int)≠0):=fun h6=>hn ⟨i,hi,h6⟩
   omega)
  omega
 ·have a1:=ye (i:=i) (t:=t) hb;have a2:=ye (i:=i) (t:=u) hb;rw [←hG,←hB];show (((dgt (B+1) i t:Nat):Int)-((dgt (B+1) i u:Nat):Int)).natAbs≤B;omega
 ·have h6:=h5 j hj;have b1:=hsum j t;have b2:=hsum j u;have e:=Ak (M+1) (fun i=>A j i*(dgt (B+1) i t:Nat)) (fun i=>A j i*(dgt (B+1) i u:Nat));rw [uA (g:=fun i=>A j i*(dgt (B+1) i t:Nat)-A j i*(dgt (B+1) i u:Nat)) (fun i _=>Int.mul_sub _ _ _),e];omega
end Go.Proofs.YtafgmcimcbhhjaaGreat.Sie
/- The chains of the program fit Sturm's theorem. Plain facts. -/
namespace Go.Proofs.YtafgmcimcbhhjaaGreat.Sg
open Go.RowKit Go.Front Go.Num Go.Stab Go.Proofs.YtafgmcimcbhhjaaGreat
def chn:Nat→List Rat→List Rat→List (List Rat)
 | 0,_,_=>[]
 | n+1,a,b=>if a=[] then [] else if b=[] then [a] else a :: chn n b (av ((bE a b).map (·*-1)))
theorem d8{n:Nat}{a:List Rat}(h:a≠[]):chn (n+1) a []=[a]:=by simp [chn,h]
theorem eM{n:Nat}{a b:List Rat}(h:a≠[])(k:b≠[]):chn (n+1) a b=a :: chn n b (av ((bE a b).map (·*-1))):=by simp [chn,h,k]
theorem dW(p:List Rat)(x:Rat):evV p x=aN p*evV (av p) x:=gU (cS p) x
theorem ct{p:List Rat}:av p=[]↔tz p=[]:=by rw [←nXj,←nXj,ay]
theorem wD(a b:List Rat)(hb:tz b≠[]):∃ d:Rat,0<d∧∀ x,evV a x+d*evV (av ((bE a b).map (·*-1))) x=evV (bH a b) x*evV b x:=by
 have h1:=kg a hb;by_cases h0:tz ((bE a b).map (·*-1))=[]
 ·refine ⟨1,dZ,fun x=>?_⟩;have h2:=ev_tznil.1 h0 x;rw [bN] at h2;rw [ct.2 h0,h1 x];show _+1*(0:Rat)=_;grind
 ·refine ⟨aN ((bE a b).map (·*-1)),bP h0,fun x=>?_⟩;have h2:=dW ((bE a b).map (·*-1)) x;rw [←h2,bN,h1 x];grind
theorem oz(a b:List Rat)(hb:tz b≠[]):(av ((bE a b).map (·*-1))).length<(tz b).length:=by
 have h1:=(cz a hb).1;have h2:=ae ((bE a b).map (·*-1));rw [nXl] at h2;rw [ay];omega
theorem EO{A B d:Rat}{f g h q:Rat→Rat}(hd:0<d)(hq:Pf q)(he:∀ x,f x+d*h x=q x*g x):Row A B f g h:=by
 obtain ⟨Q,hQ,h1⟩:=hq.on A B;exact ⟨1,d,Q,dZ,hd,hQ,q,h1,fun x=>by have:=he x;grind⟩
theorem BX{A B:Rat}{f u:Rat→Rat}(hu:Pf u)(h:∀ x,u x*f x=1):∃ r,0<r∧∀ x,A≤x→x≤B→Big r (f x):=by
 obtain ⟨M,hM,h1⟩:=hu.on A B;refine ⟨1 / (M+1),tJ dZ (by grind),fun x ha hb=>?_⟩;have h2:=h x;apply Classical.byContradiction;intro hn;obtain ⟨n1,n2⟩:=jp hn;have h3:=(h1 x ha hb).mul (show Bd (1 / (M+1)) (f x) from ⟨by grind,by grind⟩);rw [h2] at h3;have h4:=h3.2;have h5:=aK (a:=1) (b:=M+1) (by grind);grind
theorem FO{A B:Rat}:∀ (n:Nat) (a b:List Rat),b.length≤n→tz b=b→a≠[]→Cp (evV a) (evV b)→∃ l,chn (n+1) a b=a :: l∧Ch A B (evV a) (l.map evV)∧(b≠[]→∃ l',l=b :: l'):=by
 intro n;induction n with
 | zero =>
  intro a b h ht ha hc;obtain rfl:b=[]:=nXj.1 zo;refine ⟨[],d8 ha,?_,fun h=>absurd rfl h⟩;obtain ⟨u,v,hu,hv,h1⟩:=hc;exact BX hu (fun x=>by have:=h1 x;have e:evV [] x=0:=rfl;rw [e] at this;grind)
 | succ n ih =>
  intro a b h ht ha hc;by_cases hb:b=[]
  ·subst hb;refine ⟨[],d8 ha,?_,fun h=>absurd rfl h⟩;obtain ⟨u,v,hu,hv,h1⟩:=hc;exact BX hu (fun x=>by have:=h1 x;have e:evV [] x=0:=rfl;rw [e] at this;grind)
  ·have hbt:tz b≠[]:=by rw [ht];exact hb
   obtain ⟨d,hd,he⟩:=wD a b hbt;have hl:=oz a b hbt;rw [ht] at hl;obtain ⟨c,hcc⟩:∃ c,c=av ((bE a b).map (·*-1)):=⟨_,rfl⟩;have hct:tz c=c:=by rw [hcc,bs]
   rw [←hcc] at he hl;have hcp:Cp (evV b) (evV c):=by
    obtain ⟨u,v,hu,hv,h1⟩:=hc;refine ⟨_,_,(hu.mul (Pf.ev (bH a b))).add hv,hu.smul (-d),fun x=>?_⟩;have e1:=h1 x;have e2:=he x;have e3:evV a x=evV (bH a b) x*evV b x-d*evV c x:=by grind
    rw [e3] at e1;grind
   obtain ⟨l,h1,h2,h3⟩:=ih b c zo hct hb hcp;refine ⟨b :: l,by rw [eM ha hb,←hcc,h1],?_,fun _=>⟨l,rfl⟩⟩;cases l with
   | nil=>exact h2
   | cons e l =>
    have hce:e=c:=by
     by_cases h0:c=[]
     ·subst h0;rw [d8 hb] at h1;cases h1
     ·obtain ⟨l',h4⟩:=h3 h0;cases h4;rfl
    subst hce;exact ⟨EO hd (Pf.ev (bH a b)) he,h2⟩
theorem tQ:∀ (n:Nat) (a b:List Rat),b.length≤n→tz b=b→tz a=a→a≠[]→∃ e,(chn (n+1) a b).getLast?=some e∧e≠[]∧tz e=e∧IsG (evV e) (evV a) (evV b):=by
 have hbase:∀ p:List Rat,IsG (evV p) (evV p) (evV []):=fun p=>⟨⟨_,Pf.const 1,fun x=>by grind⟩,⟨_,Pf.const 0,fun x=>by show (0:Rat)=_*0;grind⟩,_,_,Pf.const 1,Pf.const 0,fun x=>by show _=1*_+0*(0:Rat);grind⟩
 intro n;induction n with
 | zero =>
  intro a b h ht hta ha;obtain rfl:b=[]:=nXj.1 zo;exact ⟨a,by rw [d8 ha];rfl,ha,hta,hbase a⟩
 | succ n ih =>
  intro a b h ht hta ha;by_cases hb:b=[]
  ·subst hb;exact ⟨a,by rw [d8 ha];rfl,ha,hta,hbase a⟩
  ·have hbt:tz b≠[]:=by rw [ht];exact hb
   obtain ⟨d,hd,he⟩:=wD a b hbt;have hl:=oz a b hbt;rw [ht] at hl;obtain ⟨c,hcc⟩:∃ c,c=av ((bE a b).map (·*-1)):=⟨_,rfl⟩;have hct:tz c=c:=by rw [hcc,bs]
   rw [←hcc] at he hl;obtain ⟨e,h1,h2,h3,h4,h5,u,v,hu,hv,h6⟩:=ih b c zo hct ht hb;have hne:chn (n+1) b c≠[]:=fun h=>by rw [h] at h1;cases h1
   refine ⟨e,?_,h2,h3,?_,h4,?_⟩
   ·rw [eM ha hb,←hcc];obtain ⟨x,y,hxy⟩:=List.exists_cons_of_ne_nil hne;rw [hxy] at h1 ⊢;rw [List.getLast?_cons_cons];exact h1
   ·obtain ⟨w,hw,k⟩:=(h4.mull (Pf.ev (bH a b))).sub (h5.mull (Pf.const d));exact ⟨w,hw,fun x=>by rw [←k x];have:=he x;grind⟩
   ·have hdi:=nYk d (by grind);have hce:∀ x,evV c x=d⁻¹*(evV (bH a b) x*evV b x-evV a x):=fun x=>by
     have:=he x;have e1:d*evV c x=evV (bH a b) x*evV b x-evV a x:=by grind
     rw [←e1,←nYe,nYd d⁻¹,hdi,Rat.one_mul]
    refine ⟨_,_,hv.smul (-d⁻¹),hu.add ((hv.smul d⁻¹).mul (Pf.ev (bH a b))),fun x=>?_⟩;rw [h6 x,hce x];grind
def remsV(p:List Rat):List (List Rat):=chn (p.length+1) (av p) (av (derL p))
theorem AH{p:List Rat}(h:tz p≠[])(x:Rat):evD (av p) x=aN (derL p) / aN p*evV (av (derL p)) x:=by
 have hm:=bP h;have h1:evD p x=aN p*evD (av p) x:=by
  rw [←dt,←dt];refine gU (fun i=>?_) x;rw [seq_derL,seq_derL,cS p];grind
 have h2:=dW (derL p) x;rw [dt,h1] at h2;have h4:=nYk (aN p) (by grind);have h5:(aN p)⁻¹*(aN p*evD (av p) x)=(aN p)⁻¹*(aN (derL p)*evV (av (derL p)) x):=by rw [h2]
 rw [←nYe,nYd _ (aN p),h4,Rat.one_mul] at h5;rw [h5,Rat.div_def];grind
theorem EB{p:List Rat}(h:tz p≠[])(hc:Cp (evV p) (evD p)):Cp (evV (av p)) (evV (av (derL p))):=by
 obtain ⟨u,v,hu,hv,h1⟩:=hc;refine ⟨_,_,hu.smul (aN p),hv.smul (aN (derL p)),fun x=>?_⟩;have e1:=h1 x;rw [dW p x,←dt,dW (derL p) x] at e1;grind
theorem sS{p:List Rat}(h:tz p≠[])(hc:Cp (evV p) (evD p))(A B:Rat):∃ l,remsV p=av p :: l∧Fit A B (evV (av p)) (l.map evV):=by
 have hlen:(av (derL p)).length≤p.length:=by
  rw [ay];obtain ⟨n,hn,-⟩:=fy h;have:=iG p n hn;have:=ae p;omega
 obtain ⟨l,h1,h2,h3⟩:=FO (A:=A) (B:=B) p.length (av p) (av (derL p)) hlen (bs _) (fun h0=>h (ct.1 h0)) (EB h hc);refine ⟨l,h1,h2,tE _ A B,?_,?_⟩
 ·intro g hg;obtain ⟨q,-,rfl⟩:=nYg.1 hg;exact tE q A B
 ·intro g l' hl;by_cases hb:av (derL p)=[]
  ·exfalso;have h4:remsV p=[av p]:=by unfold remsV;rw [hb,d8 (fun h0=>h (ct.1 h0))]
   have h5:remsV p=av p :: l:=h1;rw [h4] at h5;cases h5;cases hl
  ·obtain ⟨l2,hl2⟩:=h3 hb;subst hl2;rw [List.map_cons] at hl;cases hl;obtain ⟨K,hK,h6⟩:=tD (av p) A B;have hp1:=bP h;have hp2:=bP (p:=derL p) (fun h0=>hb (ct.2 h0));refine ⟨aN (derL p) / aN p,K,tJ hp2 hp1,hK,fun s t k1 k2 k3=>?_⟩;have h7:=h6 s t k1 k2 k3;rw [AH h] at h7;exact h7
def sqfV(p:List Rat):List Rat:=bI (bH p (cY p (derL p)))
def rootV(p:List Rat):List Rat:=if 2≤((remsV p).getLast?.getD []).length then sqfV p else p
structure Rt (p r:List Rat):Prop where
 ne:tz r≠[]
 cp:Cp (evV r) (evD r)
 dv:∃ g q1:Rat→Rat,Pf g∧Pf q1∧IsG g (evV p) (evD p)∧(∀ x,evV p x=g x*evV r x)∧(∀ x,evD p x=g x*q1 x)
theorem mo{p q:List Rat}(hq:tz q≠[])(h:Dv (evV q) (evV p)):∀ x,evV p x=evV q x*evV (bH p q) x:=by
 obtain ⟨c,⟨s,rfl⟩,h1⟩:=h;have h2:=jf (p:=p) (q:=aq s q) (fun x=>by rw [aH,h1 x];grind);have h3:=iU (p:=p) hq (s:=seq s) (r:=fun _=>0) (F:=1) (N:=s.length) (Bd.seq s) (fun i _=>rfl) (fun n=>by
  rw [Rat.one_mul,h2 n,eD,iH];grind)
 intro x;rw [h1 x]
 congr 1
 exact (gU (c:=1) (fun i=>h3.1 i) x).trans (Rat.one_mul _)
theorem Bz{p g:List Rat}(h:tz p≠[])(hG:IsG (evV g) (evV p) (evD p)):tz g≠[]:=fun h0=>h (ev_tznil.2 fun x=>by
 obtain ⟨c,-,h1⟩:=hG.1;rw [h1 x,ev_tznil.1 h0 x];grind)
theorem BQ{p g:List Rat}(hG:IsG (evV g) (evV p) (evV (derL p))):IsG (evV g) (evV p) (evD p):=by
 rw [show evD p=evV (derL p) from funext fun x=>(dt p x).symm];exact hG
theorem An{f g:Rat→Rat}(c:Rat)(h:IsD f g)(hf:Pf f)(hg:Pf g):IsD (fun x=>c*f x) (fun x=>c*g x):=by
 have h1:=IsD.mul (IsD.const c) h (Pf.const c) hf (Pf.const 0);have e:(fun x=>0*f x+c*g x)=fun x=>c*g x:=funext fun x=>by grind
 rw [e] at h1;exact h1
theorem kM{p:List Rat}(h:tz p≠[]):Rt p (sqfV p):=by
 have hG:=BQ (j9 p (derL p));have hg:=Bz h hG;have h1:=mo hg hG.1;obtain ⟨q1,hq1,h2⟩:=hG.2.1;obtain ⟨c,hc,h3⟩:=qx (fN (bH p (cY p (derL p))));have h3':∀ x,evV (sqfV p) x=c*evV (bH p (cY p (derL p))) x:=h3;have hci:=nYk c hc;have hmain:=zj (tz p).length p (nXe _) h _ _ (Pf.ev (cY p (derL p))) (Pf.ev (bH p (cY p (derL p)))) hG h1 _ (Pf.der _) (IsD.ev _);have hd:∀ x,evD (sqfV p) x=c*evD (bH p (cY p (derL p))) x:=fun x=>by
  have e:=An c (IsD.ev (bH p (cY p (derL p)))) (Pf.ev _) (Pf.der _);rw [←show evV (sqfV p)=fun x=>c*evV (bH p (cY p (derL p))) x from funext h3'] at e;exact (IsD.ev (sqfV p)).uniq e x
 refine ⟨fun h0=>h (ev_tznil.2 fun x=>?_),?_,?_⟩
 ·have h4:=ev_tznil.1 h0 x;rw [h3' x] at h4;rcases nXr.1 h4 with h5|h5
  ·exact absurd h5 hc
  ·rw [h1 x,h5];grind
 ·obtain ⟨u,v,hu,hv,h4⟩:=hmain;refine ⟨_,_,hu.smul c⁻¹,hv.smul c⁻¹,fun x=>?_⟩;have h5:=h4 x;rw [h3' x,hd x];grind
 ·refine ⟨fun x=>c⁻¹*evV (cY p (derL p)) x,fun x=>c*q1 x,(Pf.ev _).smul _,hq1.smul _,?_,fun x=>?_,fun x=>?_⟩
  ·obtain ⟨⟨a,ha,h4⟩,⟨b,hb,h5⟩,u,v,hu,hv,h6⟩:=hG;refine ⟨⟨_,ha.smul c,fun x=>by rw [h4 x];grind⟩,⟨_,hb.smul c,fun x=>by rw [h5 x];grind⟩,_,_,hu.smul c⁻¹,hv.smul c⁻¹,fun x=>by show c⁻¹*evV (cY p (derL p)) x=_;rw [h6 x];grind⟩
  ·rw [h3' x,h1 x];grind
  ·rw [h2 x];grind
theorem vI{p:List Rat}(h:tz p≠[]):Rt p (rootV p):=by
 unfold rootV;split
 ·exact kM h
 ·rename_i hl
  have hlen:(av (derL p)).length≤p.length:=by
   rw [ay];obtain ⟨n,hn,-⟩:=fy h;have:=iG p n hn;have:=ae p;omega
  obtain ⟨e,h1,h2,h3,h4,h5,u,v,hu,hv,h6⟩:=tQ p.length (av p) (av (derL p)) hlen (bs _) (bs _) (fun h0=>h (ct.1 h0));have h7:(remsV p).getLast?=some e:=h1;rw [h7,Option.getD_some] at hl;have h8:=jt (p:=e) (by rw [h3];omega);have h9:seq e 0≠0:=fun h0=>h2 (by rw [←h3];exact ev_tznil.2 fun x=>by rw [h8 x,h0])
  have h10:=nYk _ h9;have hm1:=bP h;have hcp:Cp (evV p) (evD p):=by
   by_cases h0:tz (derL p)=[]
   ·refine ⟨_,_,(hu.smul (aN p)⁻¹).smul (seq e 0)⁻¹,Pf.const 0,fun x=>?_⟩;have k:=h6 x;rw [h8 x,(ev_tznil (p:=av (derL p))).1 (by rw [bs];exact ct.2 h0) x] at k;have k2:=dW p x;have k3:=nYk (aN p) (by grind);have k4:(aN p)⁻¹*evV p x=evV (av p) x:=by rw [k2,←nYe,nYd _ (aN p),k3,Rat.one_mul]
    have k5:(seq e 0)⁻¹*(u x*evV (av p) x)=1:=by
     rw [show u x*evV (av p) x=seq e 0 by grind,nYd];exact h10
    rw [←k4] at k5;grind
   ·have hm2:=bP h0;refine ⟨_,_,(hu.smul (aN p)⁻¹).smul (seq e 0)⁻¹,(hv.smul (aN (derL p))⁻¹).smul (seq e 0)⁻¹,fun x=>?_⟩;have k:=h6 x;rw [h8 x] at k;have k2:=dW p x;have k3:=nYk (aN p) (by grind);have k4:(aN p)⁻¹*evV p x=evV (av p) x:=by rw [k2,←nYe,nYd _ (aN p),k3,Rat.one_mul]
    have j2:=dW (derL p) x;rw [dt] at j2;have j3:=nYk (aN (derL p)) (by grind);have j4:(aN (derL p))⁻¹*evD p x=evV (av (derL p)) x:=by rw [j2,←nYe,nYd _ (aN (derL p)),j3,Rat.one_mul]
    have k5:(seq e 0)⁻¹*(u x*evV (av p) x+v x*evV (av (derL p)) x)=1:=by
     rw [←k,nYd];exact h10
    rw [←k4,←j4] at k5;grind
  refine ⟨h,hcp,fun _=>1,evD p,Pf.const 1,Pf.der p,?_,fun x=>by grind,fun x=>by grind⟩;obtain ⟨a,b,ha,hb,h11⟩:=hcp;exact ⟨⟨_,Pf.ev p,fun x=>by grind⟩,⟨_,Pf.der p,fun x=>by grind⟩,a,b,ha,hb,fun x=>(h11 x).symm⟩
end Go.Proofs.YtafgmcimcbhhjaaGreat.Sg
/- The chain of remainders: plain facts for the walk of remainders. -/
namespace Go.Proofs.YtafgmcimcbhhjaaGreat
open Go.RowKit Go.Front Go.Num Stab
theorem fV{c:Rat}(hc:c≠0)(l:List Rat):tz (l.map (·*c))=(tz l).map (·*c):=by
 induction l using Stab.snoc_ind with
 | h0=>rfl
 | h1 l r ih =>
  by_cases hr:r=0
  ·subst hr;rw [List.map_append,List.map_cons,List.map_nil,nYb,fx,fx,ih]
  ·have h2:r*c≠0:=fun h=>by
    rcases nXr.1 h with h3|h3
    ·exact hr h3
    ·exact hc h3
   rw [List.map_append,List.map_cons,List.map_nil,ie _ h2,ie _ hr,List.map_append,List.map_cons,List.map_nil]
theorem o9{c:Rat}(hc:0<c)(a:Rat):(a*c).abs=a.abs*c:=by
 have hc2:=Rat.le_of_lt hc;unfold Rat.abs;by_cases h:0≤a
 ·rw [if_pos h,if_pos (Rat.mul_nonneg h hc2)]
 ·rw [if_neg h];have h1:0 < -a:=by grind
  have h2:=Rat.mul_pos h1 hc;rw [if_neg (by grind)];grind
theorem lF{c:Rat}(hc:c≠0)(a:Rat){b:Rat}(hb:b≠0):a*c / (b*c)=a / b:=by
 have hbc:b*c≠0:=fun h=>by rcases nXr.1 h with h|h <;> contradiction
 have h3:(a*c / (b*c)-a / b)*(b*c)=0:=by grind
 rcases nXr.1 h3 with h|h
 ·grind
 ·contradiction
theorem ws{c:Rat}(hc:0<c)(a b:Rat):gW (a*c) (b*c)=gW a b*c:=by
 have hc0:c≠0:=fun h=>by rw [h] at hc;exact absurd hc Rat.lt_irrefl
 have hz:∀ x:Rat,x*c=0↔x=0:=fun x=>⟨fun h=>(nXr.1 h).resolve_right hc0,fun h=>by rw [h,nYb]⟩
 unfold gW;by_cases ha:a=0
 ·rw [if_pos ((hz a).2 ha),if_pos ha,o9 hc]
 ·rw [if_neg (fun h=>ha ((hz a).1 h)),if_neg ha];by_cases hb:b=0
  ·rw [if_pos ((hz b).2 hb),if_pos hb]
  ·rw [if_neg (fun h=>hb ((hz b).1 h)),if_neg hb,lF hc0 a hb,←o9 hc]
   congr 1
   rw [Rat.div_def,Rat.div_def];grind
theorem ux{c:Rat}(hc:0<c)(l:List Rat):bC (l.map (·*c))=bC l*c:=by
 induction l using snoc_ind with
 | h0=>show (0:Rat)=0*c;rw [nYb]
 | h1 l r ih =>
  rw [List.map_append,List.map_cons,List.map_nil,fg,fg,ih,ws hc]
theorem cG{p q:List Rat}{c:Rat}(hc:0<c)(h:∀ n,seq p n=seq q n*c):av p=av q:=by
 have hc0:c≠0:=fun h=>by rw [h] at hc;exact absurd hc Rat.lt_irrefl
 have h1:tz p=(tz q).map (·*c):=by
  rw [←fV hc0];exact jZ fun n=>by rw [aY];exact h n
 by_cases h0:tz q=[]
 ·unfold av;rw [h1,h0];rfl
 ·have hm:bC (tz q)≠0:=qY h0;unfold av aN;rw [h1,ux hc,List.map_map];refine List.map_congr_left fun x hx=>?_
  exact lF hc0 x hm
theorem vQ{a b s r:List Rat}{f:Rat}(hb:tz b≠[])(hr:r.length<(tz b).length)(he:∀ n,f*seq a n=cv (seq s) (seq b) n+seq r n)(n:Nat):seq r n=f*seq (bE a b) n :=
 (iU (p:=a) (q:=b) hb (s:=seq s) (r:=seq r) (F:=f) (N:=s.length) (Bd.seq s) (fun i hi=>by rw [Bd.seq r i zo]) he).2 n
theorem nH{a b s r:List Rat}{f:Rat}(hb:tz b≠[])(hf:0<f)(hr:r.length<(tz b).length)(he:∀ n,f*seq a n=cv (seq s) (seq b) n+seq r n):av (r.map (·*-1))=av ((bE a b).map (·*-1)):=by
 refine cG hf fun n=>?_
 rw [aY,aY,vQ hb hr he n];grind
end Go.Proofs.YtafgmcimcbhhjaaGreat
/- Roots of a polynomial and of that with each root once; what a count says of two halves. Plain facts. -/
namespace Go.Proofs.YtafgmcimcbhhjaaGreat.Sg
open Go.RowKit Go.Front Go.Num Go.Stab Go.Proofs.YtafgmcimcbhhjaaGreat
theorem tk(a x:Rat):evV [-a,1] x=x-a:=by
 show (0*x+1)*x+-a=x-a;grind
theorem Pf.lin(a:Rat):Pf (fun x=>x-a):=⟨[-a,1],funext fun x=>(tk a x).symm⟩
theorem Bu(a:Rat):tz [-a,1]≠[]:=fun h=>by
 have h1:=ev_tznil.1 h (a+1);rw [tk] at h1;grind
theorem IsD.lin(a:Rat):IsD (fun x=>x-a) (fun _=>1):=fun A B=>⟨0,Rat.le_refl,fun s t _ _ _=>⟨by grind,by grind⟩⟩
theorem BE{f:Rat→Rat}(hf:Pf f){a:Rat}(h0:f a=0):∃ g,Pf g∧∀ x,f x=(x-a)*g x:=by
 obtain ⟨p,rfl⟩:=hf;have h1:=kg p (Bu a);have h2:=(cz p (Bu a)).1;have h3:(tz (bE p [-a,1])).length≤1:=by
  have k1:=ae (bE p [-a,1]);have k2:=ae [-a,1];simp only [List.length_cons,List.length_nil] at k2;omega
 have h4:=jt h3;have h5:seq (bE p [-a,1]) 0=0:=by
  have k:=h1 a;rw [h0,h4 a,tk] at k;grind
 exact ⟨_,Pf.ev (bH p [-a,1]),fun x=>by rw [h1 x,h4 x,h5,tk];grind⟩
theorem wM{p q:List Rat}{a:Rat}(h:∀ x,evV p x=(x-a)*evV q x)(i:Nat):seq p i=sh (seq q) i-a*seq q i:=by
 have h1:=jf (p:=p) (q:=bA (0 :: q) (q.map (·*(-a)))) (fun x=>by
  rw [ev_add5,bN,h x];show _=(evV q x*x+0)+_;grind) i
 rw [h1,gC,l8,aY];grind
theorem qe{p:List Rat}{i:Nat}(h:seq p i≠0):i<(tz p).length:=by
 apply Classical.byContradiction;intro hn;apply h;rw [←bf];exact bK zo
theorem rL{p q:List Rat}{a:Rat}(h:∀ x,evV p x=(x-a)*evV q x)(hq:tz q≠[]):(tz q).length<(tz p).length:=by
 obtain ⟨m,hm,h0⟩:=fy hq;have h1:=wM h (m+1);have h2:seq q (m+1)=0:=by rw [←bf];exact bK zo
 have h3:sh (seq q) (m+1)=seq q m:=rfl;rw [h2,h3] at h1;have:=qe (p:=p) (i:=m+1) (by rw [h1];grind);omega
theorem rI{p:List Rat}(h:tz p≠[]):∃ x,evV p x≠0:=Classical.byContradiction fun hn=>h (ev_tznil.2 fun x=>Classical.byContradiction fun h2=>hn ⟨x,h2⟩)
theorem Is(a:Rat):∀ (n:Nat) (p:List Rat),(tz p).length≤n→tz p≠[]→∃ (k:Nat) (g:Rat→Rat),Pf g∧g a≠0∧∀ x,evV p x=(x-a) ^ k*g x:=by
 intro n;induction n with
 | zero=>intro p h h0;exact absurd (nXj.1 zo) h0
 | succ n ih =>
  intro p hn h0;by_cases h1:evV p a=0
  ·obtain ⟨g,⟨q,rfl⟩,h2⟩:=BE (Pf.ev p) h1;have hq:tz q≠[]:=fun h=>by
    obtain ⟨y,hy⟩:=rI h0;exact hy (by rw [h2,ev_tznil.1 h y];grind)
   have hl:=rL h2 hq;obtain ⟨k,g,hg,hga,h3⟩:=ih q zo hq;exact ⟨k+1,g,hg,hga,fun x=>by rw [h2,h3,Rat.pow_succ];grind⟩
  ·exact ⟨0,evV p,Pf.ev p,h1,fun x=>by rw [Rat.pow_zero];grind⟩
theorem Pf.pow{f:Rat→Rat}(h:Pf f)(k:Nat):Pf (fun x=>f x ^ k):=by
 induction k with
 | zero =>
  have e:(fun x=>f x ^ 0)=fun _=>(1:Rat):=funext fun x=>Rat.pow_zero _
  rw [e];exact Pf.const 1
 | succ k ih =>
  have e:(fun x=>f x ^ (k+1))=fun x=>f x ^ k*f x:=funext fun x=>Rat.pow_succ _ _
  rw [e];exact ih.mul h
theorem IsD.pow(a:Rat)(k:Nat):IsD (fun x=>(x-a) ^ (k+1)) (fun x=>((k+1:Nat):Rat)*(x-a) ^ k):=by
 induction k with
 | zero =>
  have e:(fun x=>(x-a) ^ (0+1))=fun x:Rat=>x-a:=funext fun x=>by rw [Rat.pow_succ,Rat.pow_zero];grind
  have e2:(fun x=>((0+1:Nat):Rat)*(x-a) ^ 0)=fun _=>(1:Rat):=funext fun x=>by rw [Rat.pow_zero,Rat.mul_one];rfl
  rw [e,e2];exact IsD.lin a
 | succ k ih =>
  have h1:=IsD.mul (IsD.lin a) ih (Pf.lin a) ((Pf.lin a).pow (k+1)) (Pf.const 1);have e:(fun x=>(x-a) ^ (k+1+1))=fun x:Rat=>(x-a)*(x-a) ^ (k+1):=funext fun x=>by rw [Rat.pow_succ];grind
  have e2:(fun x=>((k+1+1:Nat):Rat)*(x-a) ^ (k+1))=fun x:Rat=>1*(x-a) ^ (k+1)+(x-a)*(((k+1:Nat):Rat)*(x-a) ^ k):=funext fun x=>by
   rw [Rat.pow_succ,show ((k+1+1:Nat):Rat)=((k+1:Nat):Rat)+1 by rw [Rat.natCast_add];rfl];grind
  rw [e,e2];exact h1
def eb(l:List (List Rat))(x:Rat):Nat:=vr 0 (l.map fun m=>sg (evV m x))
def rtV(l:List (List Rat))(x:Rat):Bool:=decide (sg (evV (l.getD 0 []) x)=0)
def cntV(p:List Rat)(lo hi:Rat):Int:=(eb (remsV (rootV p)) lo:Int)-eb (remsV (rootV p)) hi+(if rtV (remsV (rootV p)) lo=true then 1 else 0)
theorem mh{p:List Rat}(h:tz p≠[]):∃ l,remsV p=av p :: l:=by
 have h1:av p≠[]:=fun h0=>h (ct.1 h0)
 unfold remsV;by_cases h2:av (derL p)=[]
 ·rw [h2,d8 h1];exact ⟨_,rfl⟩
 ·rw [eM h1 h2];exact ⟨_,rfl⟩
open Sie
abbrev ln(p:List Rat):Nat:=(tz p).length
theorem C7{p:List Rat}{m:Nat}(h:∀ i,m≤i→seq p i=0):ln p≤m:=by
 by_cases h0:tz p=[]
 ·show (tz p).length≤m;rw [h0];exact Nat.zero_le _
 ·obtain ⟨n,hn,hn0⟩:=fy h0;rcases Nat.lt_or_ge n m with h1|h1
  ·show (tz p).length≤m;omega
  ·exact absurd (h n h1) hn0
theorem Ef{p:List Rat}{i:Nat}(h:ln p≤i):seq p i=0:=by rw [←bf];exact bK h
theorem gR{p:List Rat}(h:tz p≠[]):1≤ln p:=nYh.2 h
theorem gt(p q:List Rat):ln (aq p q)≤ln p+ln q-1:=by
 refine nXf (ae _) ?_;unfold aq;refine nXf (ae _) ?_;simp
theorem mH{p q:List Rat}(hp:tz p≠[])(hq:tz q≠[]):ln (aq p q)+1=ln p+ln q:=by
 obtain ⟨a,ha,ha0⟩:=fy hp;obtain ⟨b,hb,hb0⟩:=fy hq;have b1:Go.Proofs.YtafgmcimcbhhjaaGreat.Bd (a+1) (seq p):=by rw [←bf,←ha];exact Bd.seq _
 have b2:Go.Proofs.YtafgmcimcbhhjaaGreat.Bd (b+1) (seq q):=by rw [←bf,←hb];exact Bd.seq _
 have h1:seq (aq p q) (a+b)≠0:=by
  rw [eD,iH,qE b1 b2];intro h;rcases nXr.1 h with h|h
  ·exact ha0 h
  ·exact hb0 h
 have h2:=qe h1;have h3:=gt p q;have e1:ln p=a+1:=ha;have e2:ln q=b+1:=hb;have e3:a+b<ln (aq p q):=h2;omega
theorem p9(p q:List Rat):ln (bA p q)≤max (ln p) (ln q):=C7 fun i hi=>by
 rw [gC,Ef zo,Ef zo];exact Rat.add_zero 0
theorem dU{p:List Rat}{c:Rat}:ln (p.map (·*c))≤ln p:=C7 fun i hi=>by rw [aY,Ef hi,nYb]
def subV(p q:List Rat):List Rat:=bA p (q.map (·*-1))
theorem fo(p q:List Rat)(x:Rat):evV (subV p q) x=evV p x-evV q x:=by unfold subV;rw [ev_add5,bN];grind
theorem vE(p q:List Rat)(n:Nat):seq (subV p q) n=seq p n-seq q n:=by unfold subV;rw [gC,aY];grind
theorem j6(p q:List Rat):ln (subV p q)≤max (ln p) (ln q):=by
 have h1:=p9 p (q.map (·*-1));have h2:=dU (p:=q) (c:=-1);unfold subV;omega
theorem dL{p q:List Rat}(h:∀ x,evV p x=evV q x):ln p=ln q:=by
 show (tz p).length=(tz q).length;rw [jZ (fun n=>jf h n)]
theorem mG{p q:List Rat}(h:ln q<ln p):ln (subV p q)=ln p:=by
 have h1:=j6 p q;obtain ⟨n,hn,h0⟩:=fy (p:=p) (fun h0=>by have:ln p=0:=(by show (tz p).length=0;rw [h0];rfl);omega);have e:ln p=n+1:=hn;have h2:seq (subV p q) n≠0:=by rw [vE,Ef (p:=q) zo];grind
 have h3:n<ln (subV p q):=qe h2;omega
theorem Gg{p:List Rat}{x:Rat}(h:evV p x≠0):tz p≠[]:=fun h0=>h (ev_tznil.1 h0 x)
structure Eu (a b c e u v u' v':List Rat) (k:Rat):Prop where
 hc:∀ x,evV c x=evV u x*evV a x+evV v x*evV b x
 he:∀ x,evV e x=evV u' x*evV a x+evV v' x*evV b x
 det:∀ x,evV u x*evV v' x-evV v x*evV u' x=k
 k0:k≠0
 lv:ln v'+ln c=ln a+1
 lu:ln u'+ln c≤ln b+1
 lv0:ln v≤ln v'
 lu0:ln u+ln e≤ln b+1
 le:ln e<ln c
 lc:ln c≤ln b
 la:ln c≤ln a
theorem Bh{c e:List Rat}(he:tz e≠[])(hl:ln e≤ln c):ln (bH c e)+ln e=ln c+1:=by
 have h1:=kg c he;have h2:ln (bE c e)<ln e:=nYl (ae _) (cz c he).1;have hq:tz (bH c e)≠[]:=fun h0=>by
  have h3:ln c=ln (bE c e):=dL fun x=>by rw [h1 x,ev_tznil.1 h0 x];grind
  omega
 have h3:=mH hq he;have h4:ln c=ln (subV (aq (bH c e) e) ((bE c e).map (·*-1))):=dL fun x=>by rw [fo,aH,bN,h1 x];grind
 have h5:=dU (p:=bE c e) (c:=-1);have h6:=gR hq;rw [mG zo] at h4;omega
theorem Eu.next{a b c e u v u' v' r:List Rat}{k:Rat}(E:Eu a b c e u v u' v' k)(h0:tz e≠[])(hr:Pr r (bE c e)):∃ u'' v'' k',Eu a b e r u' v' u'' v'' k':=by
 obtain ⟨c0,hc0,hr⟩:=qx hr;have hq:=Bh h0 (nYm E.le);have h1:=kg c h0;have hlr:ln r<ln e:=by
  have h2:ln (bE c e)<ln e:=nYl (ae _) (cz c h0).1;have h3:ln r=ln ((bE c e).map (·*c0)):=dL fun x=>by rw [hr x,bN]
  have:=dU (p:=bE c e) (c:=c0);omega
 have hv':tz v'≠[]:=fun h=>by
  have h2:=E.lv;have h3:ln v'=0:=by show (tz v').length=0;rw [h];rfl
  have h4:=E.la;omega
 have hqn:tz (bH c e)≠[]:=fun h=>by
  have h3:ln (bH c e)=0:=by show (tz (bH c e)).length=0;rw [h];rfl
  have:=E.le;omega
 have hm:=mH hqn hv';have hle:=E.le;have hlv:=E.lv;have hlu:=E.lu;have hlv0:=E.lv0;have hlu0:=E.lu0;have hmu:=gt (bH c e) u';have s1:=j6 u (aq (bH c e) u');have s2:ln (subV v (aq (bH c e) v'))=ln (aq (bH c e) v'):=by
  have e1:ln (subV v (aq (bH c e) v'))=ln (subV ((aq (bH c e) v').map (·*-1)) (v.map (·*-1))):=dL fun x=>by rw [fo,fo,bN,bN];grind
  have e2:ln ((aq (bH c e) v').map (·*-1))=ln (aq (bH c e) v'):=by
   have a1:=dU (p:=aq (bH c e) v') (c:=-1);have a2:=dU (p:=(aq (bH c e) v').map (·*-1)) (c:=-1);have a3:ln (aq (bH c e) v')=ln (((aq (bH c e) v').map (·*-1)).map (·*-1)):=dL fun x=>by rw [bN,bN];grind
   omega
  have e3:=dU (p:=v) (c:=-1);rw [e1,mG zo,e2]
 have t1:=dU (p:=subV u (aq (bH c e) u')) (c:=c0);have t2:ln ((subV v (aq (bH c e) v')).map (·*c0))=ln (subV v (aq (bH c e) v')):=by
  have a1:=dU (p:=subV v (aq (bH c e) v')) (c:=c0);have a2:=dU (p:=(subV v (aq (bH c e) v')).map (·*c0)) (c:=c0⁻¹);have a3:ln (subV v (aq (bH c e) v'))=ln (((subV v (aq (bH c e) v')).map (·*c0)).map (·*c0⁻¹)):=dL fun x=>by
   rw [bN,bN,←nYe,nYd c0⁻¹,nYk c0 hc0,Rat.one_mul]
  omega
 refine ⟨(subV u (aq (bH c e) u')).map (·*c0),(subV v (aq (bH c e) v')).map (·*c0),-(c0*k),E.he,fun x=>?_,fun x=>?_,?_,zo,zo,zo,zo,hlr,by have:=E.lc;omega,by have:=E.la;omega⟩
 ·rw [bN,bN,fo,fo,aH,aH,hr x];have h2:=h1 x;rw [E.hc x,E.he x] at h2;have h3:evV (bE c e) x=(evV u x*evV a x+evV v x*evV b x)-evV (bH c e) x*(evV u' x*evV a x+evV v' x*evV b x):=by grind
  rw [h3];grind
 ·rw [bN,bN,fo,fo,aH,aH,←E.det x];grind
 ·intro h;have:c0*k=0:=by grind
  rcases nXr.1 this with h|h
  ·exact hc0 h
  ·exact E.k0 h
inductive Es (a b:List Rat):List Rat→List Rat→Prop
 | start {c e:List Rat} (hc:Pr c a) (he:Pr e b):Es a b c e
 | next {c e r:List Rat} (h:Es a b c e) (h0:tz e≠[]) (hr:Pr r (bE c e)):Es a b e r
theorem Es.shift{a b r c e:List Rat}(hb:tz b≠[])(hr:Pr r (bE a b))(h:Es b r c e):Es a b c e:=by
 induction h with
 | start hc he =>
  refine Es.next (Es.start (Pr.refl a) hc) (fun h=>hb (hc.nil.1 h)) ?_;exact (he.trans hr).trans (mi (Pr.refl a) hc.symm (fun h=>hb (hc.nil.1 h)))
 | next h h0 hr ih=>exact Es.next ih h0 hr
theorem Es.eu{a b c e:List Rat}(hb:tz b≠[])(hl:ln b≤ln a)(h:Es a b c e):(Pr c a∧Pr e b)∨tz e=[]∨∃ u v u' v' k,Eu a b c e u v u' v' k:=by
 induction h with
 | start hc he=>exact Or.inl ⟨hc,he⟩
 | @next c e r h h0 hr ih =>
  rcases ih with ⟨hc,he⟩|h1|⟨u,v,u',v',k,E⟩
  ·right
   by_cases hrn:tz r=[]
   ·exact Or.inl hrn
   ·right
    have e1:ln c=ln a:=hc.len;have e2:ln e=ln b:=he.len;obtain ⟨c1,hc1,hc⟩:=qx hc;obtain ⟨c2,hc2,he⟩:=qx he;obtain ⟨c0,hc0,hr'⟩:=qx hr;have h1:=kg c h0;have hq:=Bh (c:=c) h0 zo;have hrl:ln r<ln e:=by rw [show ln r=ln (bE c e) from hr.len];exact nYl (ae _) (cz c h0).1
    have one:∀ t:Rat,∀ x,evV [t] x=t:=fun t x=>by show 0*x+t=t;grind
    have lone:∀ t:Rat,t≠0→ln [t]=1:=fun t ht=>by
     have h2:=Gg (p:=[t]) (x:=0) (by rw [one];exact ht);have h3:=gR h2;have h4:ln [t]≤1:=ae [t];omega
    have lnil:ln []=0:=rfl;have hc0c1:c0*c1≠0:=fun h=>by rcases nXr.1 h with h|h <;> contradiction
    have lq:ln ((bH c e).map (·*-(c0*c2)))=ln (bH c e):=by
     have a1:=dU (p:=bH c e) (c:=-(c0*c2));have a2:=dU (p:=(bH c e).map (·*-(c0*c2))) (c:=(-(c0*c2))⁻¹);have a3:ln (bH c e)=ln (((bH c e).map (·*-(c0*c2))).map (·*(-(c0*c2))⁻¹)):=dL fun x=>by
      rw [bN,bN,←nYe,nYd (-(c0*c2))⁻¹,nYk _ (by grind),Rat.one_mul]
     omega
    refine ⟨[],[c2],[c0*c1],(bH c e).map (·*-(c0*c2)),-(c2*(c0*c1)),fun x=>?_,fun x=>?_,fun x=>?_,?_,?_,?_,?_,?_,hrl,zo,zo⟩
    ·rw [one,he x];show _=0*_+_;grind
    ·rw [hr' x,one,bN];have h2:=h1 x;rw [hc x,he x] at h2;have h3:evV (bE c e) x=c1*evV a x-evV (bH c e) x*(c2*evV b x):=by grind
     rw [h3];grind
    ·rw [one,one];show 0*_-_=_;grind
    ·intro h;have:c2*(c0*c1)=0:=by grind
     rcases nXr.1 this with h|h
     ·exact hc2 h
     ·exact hc0c1 h
    ·rw [lq];omega
    ·rw [lone _ hc0c1];omega
    ·rw [lone _ hc2,lq];omega
    ·rw [lnil];omega
  ·exact absurd h1 h0
  ·obtain ⟨u'',v'',k',E'⟩:=E.next h0 hr;exact Or.inr (Or.inr ⟨_,_,_,_,_,E'⟩)
end Go.Proofs.YtafgmcimcbhhjaaGreat.Sg
