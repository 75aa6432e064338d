import Derived.Test.YtafgmcimcbhhjaaGreatQBK20
import Derived.Deep.DeepCutAuto
set_option linter.unusedVariables false
namespace Go.Proofs.YtafgmcimcbhhjaaGreat.Sg
open Go.RowKit Go.Front Go.Num Go.Stab Go.Proofs.YtafgmcimcbhhjaaGreat
def md6(a b:Rat):Rat:=(a+b)*(((1:Int):Rat) / ((2:Int):Rat))
theorem Fa:(((1:Int):Rat) / ((2:Int):Rat))*2=1:=by decide +kernel
theorem sW{a b:Rat}(h:a≤b):a≤md6 a b∧md6 a b≤b∧(md6 a b-a)*2=b-a∧(b-md6 a b)*2=b-a:=by
 have:=Fa;unfold md6;generalize ((1:Int):Rat) / ((2:Int):Rat)=c at *
 have e:(a+b)*c*2=a+b:=by grind
 exact ⟨by grind,by grind,by grind,by grind⟩
def v6(q:List Rat)(x:Rat):Nat:=d9 (jp q) x
def spV(q:List Rat)(wd:Rat):Nat→Rat→Rat→List Rat
 | 0,lo,hi=>if v6 q lo=v6 q hi then [] else [lo,hi]
 | d+1,lo,hi=>if v6 q lo=v6 q hi then [] else if v6 q lo=v6 q hi+1∧hi-lo≤wd∧evV q lo≠0 then [lo,hi] else spV q wd d lo (md6 lo hi)++spV q wd d (md6 lo hi) hi
theorem Et{q:List Rat}{wd lo hi:Rat}(d:Nat)(h:v6 q lo=v6 q hi):spV q wd d lo hi=[]:=by cases d <;> (unfold spV;rw [if_pos h])
theorem Er{q:List Rat}{wd lo hi:Rat}(d:Nat)(h:v6 q lo=v6 q hi+1)(h1:hi-lo≤wd)(h2:evV q lo≠0):spV q wd d lo hi=[lo,hi]:=by
 cases d with
 | zero=>unfold spV;rw [if_neg zo]
 | succ d=>unfold spV;rw [if_neg zo,if_pos ⟨h,h1,h2⟩]
theorem kf{q:List Rat}(hq:tz q≠[])(hc:Cp (evV q) (evD q)){lo hi:Rat}(h:lo≤hi):v6 q hi≤v6 q lo:=by
 obtain ⟨l,e,hfit⟩:=Gu hq hc;unfold v6;rw [fG,fG,mT e,mT e];rcases Rat.le_iff_lt_or_eq.1 h with h1|h1
 ·exact (hfit lo hi).mono lo hi Rat.le_refl h1 Rat.le_refl
 ·rw [h1];exact nXe _
theorem BX(q:List Rat)(x:Rat):v6 q x≤(jp q).length:=lk _ _
theorem ve{q:List Rat}(hq:tz q≠[])(hc:Cp (evV q) (evD q)){wd:Rat}:∀ (d:Nat) {lo hi:Rat},lo≤hi→(spV q wd d lo hi).length+2*v6 q hi≤2*v6 q lo:=by
 intro d;induction d with
 | zero =>
  intro lo hi h;have h1:=kf hq hc h;unfold spV;split
  ·simp only [List.length_nil];omega
  ·simp only [List.length_cons,List.length_nil];omega
 | succ d ih =>
  intro lo hi h;obtain ⟨m1,m2,-,-⟩:=sW h;unfold spV;split
  ·simp only [List.length_nil];omega
  ·split
   ·simp only [List.length_cons,List.length_nil];omega
   ·have a:=ih m1;have b:=ih m2;rw [nXi];omega
theorem Ge{q:List Rat}{wd:Rat}:∀ (d:Nat) {lo hi:Rat},lo≤hi→∀ y ∈ spV q wd d lo hi,lo≤y∧y≤hi:=by
 intro d;induction d with
 | zero =>
  intro lo hi h y hy;unfold spV at hy;split at hy
  ·simp at hy
  ·simp only [List.mem_cons,List.not_mem_nil,or_false] at hy;rcases hy with rfl|rfl
   ·exact ⟨Rat.le_refl,h⟩
   ·exact ⟨h,Rat.le_refl⟩
 | succ d ih =>
  intro lo hi h y hy;obtain ⟨m1,m2,-,-⟩:=sW h;unfold spV at hy;split at hy
  ·simp at hy
  ·split at hy
   ·simp only [List.mem_cons,List.not_mem_nil,or_false] at hy;rcases hy with rfl|rfl
    ·exact ⟨Rat.le_refl,h⟩
    ·exact ⟨h,Rat.le_refl⟩
   ·rcases List.mem_append.1 hy with k|k
    ·have:=ih m1 y k;exact ⟨this.1,by have:=this.2;grind⟩
    ·have:=ih m2 y k;exact ⟨by have:=this.1;grind,this.2⟩
def Dy(D R e:Nat)(x:Rat):Prop:=∃ z:Int,x*((D*2 ^ e:Nat):Rat)=(z:Rat)∧z.natAbs≤R*(D*2 ^ e)
theorem BC(D e:Nat):((D*2 ^ (e+1):Nat):Rat)=2*((D*2 ^ e:Nat):Rat):=by
 have:D*2 ^ (e+1)=2*(D*2 ^ e):=by rw [nXu,←Nat.mul_assoc,nYf]
 rw [this,Rat.natCast_mul];rfl
theorem Dy.up{D R e:Nat}{x:Rat}(h:Dy D R e x):Dy D R (e+1) x:=by
 obtain ⟨z,h1,h2⟩:=h;refine ⟨z*2,?_,?_⟩
 ·rw [BC,Rat.intCast_mul,←h1];show _=_*(2:Rat);grind
 ·rw [Int.natAbs_mul,nXu,←Nat.mul_assoc,←Nat.mul_assoc];rw [←Nat.mul_assoc] at h2;exact nXh 2 h2
theorem Dy.mid{D R e:Nat}{a b:Rat}(h:Dy D R e a)(k:Dy D R e b):Dy D R (e+1) (md6 a b):=by
 obtain ⟨z,h1,h2⟩:=h;obtain ⟨y,k1,k2⟩:=k;refine ⟨z+y,?_,?_⟩
 ·rw [BC,Rat.intCast_add,←h1,←k1];have hh:=Fa;unfold md6;generalize ((1:Int):Rat) / ((2:Int):Rat)=c at *
  grind
 ·have:=Int.natAbs_add_le z y;have e2:R*(D*2 ^ (e+1))=R*(D*2 ^ e)*2:=by rw [nXu,←Nat.mul_assoc,←Nat.mul_assoc,←Nat.mul_assoc]
  omega
theorem EM(m:Nat):2 ^ (32*m)=W32 ^ m:=by rw [Nat.pow_mul];rfl
theorem Dy.sz{D T m e:Nat}{x:Rat}(h:Dy D (W32 ^ T) e x)(hD:0<D)(hD2:D≤W32 ^ (2*T))(he:e≤32*m):Sz (3*T+m+1) x:=by
 obtain ⟨z,h1,h2⟩:=h;have h3:2 ^ e≤W32 ^ m:=by rw [←EM];exact nXp dZ he
 have h4:D*2 ^ e≤W32 ^ (2*T+m):=by rw [Nat.pow_add];exact nXy hD2 h3
 have h5:W32 ^ T*(D*2 ^ e)≤W32 ^ (3*T+m):=by rw [show 3*T+m=T+(2*T+m) by omega,Nat.pow_add];exact nXg _ h4
 have h6:W32 ^ (3*T+m)<W32 ^ (3*T+m+1):=Nat.pow_lt_pow_right dZ zo;have h7:W32 ^ (2*T+m)≤W32 ^ (3*T+m):=nXp aw zo;exact (Fr.int (S:=3*T+m+1) (D:=D*2 ^ e) (z:=z) zo h1).sz zo (Nat.mul_pos hD (Nat.two_pow_pos e)) zo
theorem Dy.bd{D R e:Nat}{x:Rat}(h:Dy D R e x)(hD:0<D):-((R:Nat):Rat)≤x∧x≤((R:Nat):Rat):=by
 obtain ⟨z,h1,h2⟩:=h;have hp:(0:Rat)<((D*2 ^ e:Nat):Rat):=by exact_mod_cast Nat.mul_pos hD (Nat.two_pow_pos e)
 have h3:z≤((R*(D*2 ^ e):Nat):Int):=zo;have h4:-((R*(D*2 ^ e):Nat):Int)≤z:=zo;have k3:=Rat.intCast_le_intCast.2 h3;have k4:=Rat.intCast_le_intCast.2 h4;rw [Rat.intCast_neg,Rat.intCast_natCast,Rat.natCast_mul,←h1] at k4;rw [Rat.intCast_natCast,Rat.natCast_mul,←h1] at k3;generalize ((D*2 ^ e:Nat):Rat)=P at *
 constructor
 ·refine Classical.byContradiction fun hn=>?_
  have:=f8 (show x < -(R:Rat) by grind) hp;grind
 ·refine Classical.byContradiction fun hn=>?_
  have:=f8 (show (R:Rat)<x by grind) hp;grind
theorem oK{T D:Nat}{x:Rat}(h:Sz T x)(hD:x.den ∣ D):Dy D (W32 ^ T) 0 x:=by
 obtain ⟨k,rfl⟩:=hD;refine ⟨x.num*(k:Int),?_,?_⟩
 ·rw [Nat.pow_zero,Nat.mul_one,Rat.natCast_mul,←nYe,low x,Rat.intCast_mul,Rat.intCast_natCast]
 ·rw [Int.natAbs_mul,nYi,Nat.pow_zero,Nat.mul_one];have h1:=h.1;have h2:k≤x.den*k:=Nat.le_mul_of_pos_left _ x.den_pos;exact nXy (nYm h1) h2
theorem Gd{q:List Rat}{wd:Rat}{D R:Nat}{P:Rat→Prop}{E:Nat}(hP:∀ e x,e≤E→Dy D R e x→P x):∀ (d:Nat) {e:Nat} {lo hi:Rat},d+e=E→Dy D R e lo→Dy D R e hi→∀ y ∈ spV q wd d lo hi,P y:=by
 intro d;induction d with
 | zero =>
  intro e lo hi he h1 h2 y hy;unfold spV at hy;split at hy
  ·simp at hy
  ·simp only [List.mem_cons,List.not_mem_nil,or_false] at hy;rcases hy with rfl|rfl
   ·exact hP e _ zo h1
   ·exact hP e _ zo h2
 | succ d ih =>
  intro e lo hi he h1 h2 y hy;unfold spV at hy;split at hy
  ·simp at hy
  ·split at hy
   ·simp only [List.mem_cons,List.not_mem_nil,or_false] at hy;rcases hy with rfl|rfl
    ·exact hP e _ zo h1
    ·exact hP e _ zo h2
   ·rcases List.mem_append.1 hy with k|k
    ·exact ih zo h1.up (h1.mid h2) y k
    ·exact ih zo (h1.mid h2) h2.up y k
structure Sp6 (q:List Rat) (wd:Rat) (D T m Y:Nat):Prop where
 ne:tz q≠[]
 cp:Cp (evV q) (evD q)
 dp:0<D
 dl:D≤W32 ^ (2*T)
 sep:∀ lo hi:Rat,-((W32 ^ T:Nat):Rat)≤lo→lo<hi→hi≤((W32 ^ T:Nat):Rat)→(hi-lo)*((W32 ^ Y:Nat):Rat)≤1→v6 q lo≤v6 q hi+1∧(evV q lo=0→v6 q lo=v6 q hi)
 wd:1≤wd*((W32 ^ Y:Nat):Rat)
theorem Sp6.base{q:List Rat}{wd lo hi:Rat}{D T m Y e:Nat}(h:Sp6 q wd D T m Y)(h1:Dy D (W32 ^ T) e lo)(h2:Dy D (W32 ^ T) e hi)(hlh:lo≤hi)(hd:(hi-lo)*((W32 ^ Y:Nat):Rat)≤1):v6 q lo=v6 q hi∨(v6 q lo=v6 q hi+1∧hi-lo≤wd∧evV q lo≠0):=by
 rcases Rat.le_iff_lt_or_eq.1 hlh with h3|h3
 ·obtain ⟨k1,k2⟩:=h.sep lo hi (h1.bd h.dp).1 h3 (h2.bd h.dp).2 hd;have k3:=kf h.ne h.cp hlh;by_cases h4:v6 q lo=v6 q hi
  ·exact Or.inl h4
  ·refine Or.inr ⟨zo,?_,fun h0=>h4 (k2 h0)⟩;have hY:(0:Rat)<((W32 ^ Y:Nat):Rat):=by exact_mod_cast nYn aw
   have h5:=h.wd;refine Classical.byContradiction fun hn=>?_
   have:=f8 (show wd<hi-lo by grind) hY;grind
 ·exact Or.inl (by rw [h3])
theorem Sp6.half{lo hi:Rat}{Y d:Nat}(hlh:lo≤hi)(hd:(hi-lo)*((W32 ^ Y:Nat):Rat)≤((2 ^ (d+1):Nat):Rat)):(md6 lo hi-lo)*((W32 ^ Y:Nat):Rat)≤((2 ^ d:Nat):Rat)∧(hi-md6 lo hi)*((W32 ^ Y:Nat):Rat)≤((2 ^ d:Nat):Rat):=by
 obtain ⟨-,-,h1,h2⟩:=sW hlh;rw [nXu,Rat.natCast_mul] at hd;have e:((2:Nat):Rat)=2:=rfl;rw [e] at hd;generalize ((W32 ^ Y:Nat):Rat)=W at *
 generalize ((2 ^ d:Nat):Rat)=P at *
 have k1:(md6 lo hi-lo)*W*2=(hi-lo)*W:=by rw [←h1];grind
 exact ⟨by grind,by grind⟩
def prp:List Rat→List (Rat×Rat)
 | a :: b :: l=>(a,b) :: prp l
 | _=>[]
def ok6(p:List Rat)(hi:Rat)(x:Rat×Rat):Bool:=!((decide (x.2<hi) && decide (kj (p.length+1) p x.2<0)) || decide (sg (evV p x.1)<0))
def ER(p:List Rat)(lo hi:Rat)(L:List Rat):Bool:=if p=[] then true else if sg (evV p lo)<0∨sg (evV p hi)<0 then false else if lo=hi then true else if kj (p.length+1) p lo<0 then false else (prp L).all (ok6 p hi)
theorem vL:∀ (L:List Rat) {x:Rat×Rat},x ∈ prp L→x.1 ∈ L∧x.2 ∈ L
 | [],_,h=>by simp [prp] at h
 | [_],_,h=>by simp [prp] at h
 | a :: b :: l,x,h=>by
  unfold prp at h;rcases List.mem_cons.1 h with rfl|h
  ·exact ⟨List.mem_cons_self,List.mem_cons_of_mem _ List.mem_cons_self⟩
  ·have:=vL l h;exact ⟨List.mem_cons_of_mem _ (List.mem_cons_of_mem _ this.1),List.mem_cons_of_mem _ (List.mem_cons_of_mem _ this.2)⟩
theorem zS{p:List Rat}{lo hi:Rat}{L:List Rat}(hp:tz p=p)(hlh:lo≤hi)(h:∀ x,lo≤x→x≤hi→0≤evV p x)(hL:∀ y ∈ L,lo≤y∧y≤hi):ER p lo hi L=true:=by
 have hs:∀ x,lo≤x→x≤hi→¬ sg (evV p x)<0:=fun x h1 h2 h3=>by
  have h4:=h x h1 h2;rcases cj (evV p x) with ⟨a,b⟩|⟨a,b⟩|⟨a,b⟩
  ·grind
  ·rw [b] at h3;exact absurd h3 dZ
  ·rw [b] at h3;exact absurd h3 dZ
 unfold ER;by_cases h0:p=[]
 ·rw [if_pos h0]
 ·have hf:∀ x,lo≤x→x<hi→¬ kj (p.length+1) p x<0:=fun x h1 h2 h3=>by
   obtain ⟨s,k1,k2,k3⟩:=EE (by rw [hp];exact h0) (by rw [hp];omega) h3 h2;have:=h s (by grind) (by grind);grind
  rw [if_neg h0,if_neg (fun k=>k.elim (hs lo Rat.le_refl hlh) (hs hi hlh Rat.le_refl))];by_cases h1:lo=hi
  ·rw [if_pos h1]
  ·rw [if_neg h1,if_neg (hf lo Rat.le_refl (by grind)),List.all_eq_true];intro x hx;obtain ⟨m1,m2⟩:=vL L hx;obtain ⟨a1,a2⟩:=hL _ m1;obtain ⟨b1,b2⟩:=hL _ m2;unfold ok6;rw [decide_eq_false (hs x.1 a1 a2),Bool.or_false];by_cases h2:x.2<hi
   ·rw [decide_eq_false (hf x.2 b1 h2),Bool.and_false];rfl
   ·rw [decide_eq_false h2,Bool.false_and];rfl
end Go.Proofs.YtafgmcimcbhhjaaGreat.Sg
/- A list of intervals of one's own that grows: an interval is two numbers of three cells. -/
namespace Go.Proofs.YtafgmcimcbhhjaaGreat
open Go.RowKit Go.Front Go.Num
theorem E7:(Tryz.prog.info? 38).map (fun i=>(i.zero,i.size,i.bytes))=some (some (IvV (default,default)),6,112):=by kernel_rfl
def IBk(w:World)(L:Nat)(rs:List RH)(re:Array Value):Prop:=w.heap[L]?=some (.cells ((ax rs).toArray++re) 38 (0,0))
theorem IBk.ext{w w':World}{L:Nat}{rs:List RH}{re:Array Value}(h:IBk w L rs re)(he:Ext w w'):IBk w' L rs re:=he.block h
instance {w w':World} {L:Nat} {rs:List RH} {re:Array Value}:Go.Front.Mv w w' (IBk w L rs re) (IBk w' L rs re):=⟨fun e h=>IBk.ext h e⟩

theorem IBk.lt{w:World}{L:Nat}{rs:List RH}{re:Array Value}(h:IBk w L rs re):L<w.heap.size:=(nXb.1 h).1
theorem IBk.noU{w:World}{L:Nat}{rs:List RH}{re:Array Value}(h:IBk w L rs re)(hre:re.toList.all gN=true):NoU w L :=
 ai h (by rw [Array.toList_append,List.all_append,hre,lU];rfl)
theorem IBk.cell{w:World}{L:Nat}{rs:List RH}{re:Array Value}(h:IBk w L rs re){k j:Nat}(hk:k<rs.length)(hj:j<3):w.cell? ⟨L,k*3+j,none⟩=(kK (rs.getD k default))[j]?:=by
 rw [ab h,←iN rs hk hj,Array.getElem?_append_left (by rw [List.size_toArray,aN];omega),List.getElem?_toArray]
theorem IBk.at{w:World}{L:Nat}{rs:List RH}{re:Array Value}(h:IBk w L rs re){k:Nat}(hk:k<rs.length):RAt w L (k*3) (rs.getD k default) :=
 ⟨h.cell (j:=0) hk dZ,h.cell (j:=1) hk dZ,h.cell (j:=2) hk dZ⟩
theorem mR(n:Nat):(Builtin.zeroCells (IvV (default,default)).cells n).toList.all gN=true:=by
 rw [List.all_eq_true];intro x hx;have h0:(IvV (default,default)).cells=#[.bool false,.slice none 0 0,.slice none 0 0,.bool false,.slice none 0 0,.slice none 0 0]:=by rfl
 rw [h0] at hx;simp [Builtin.zeroCells] at hx;obtain ⟨a,-,rfl⟩:=hx;have h7:a % 6=0∨a % 6=1∨a % 6=2∨a % 6=3∨a % 6=4∨a % 6=5:=by omega
 rcases h7 with h7|h7|h7|h7|h7|h7 <;> rw [h7] <;> rfl
def fP(w:World)(D:Nat→Prop)(v:Value)(n:Nat)(rs:List RH):Prop:=(v=.slice none 0 0∧rs=[]∧n=0)∨∃ L cap re,v=.slice (some ⟨L,0,none⟩) n cap∧D L∧IBk w L rs re∧rs.length=n*2∧n≤cap∧cap≤9223372036854775807∧rs.length*3+re.size=cap*6∧re.toList.all gN=true
theorem fP.nil(w:World)(D:Nat→Prop):fP w D (.slice none 0 0) 0 []:=Or.inl ⟨rfl,rfl,rfl⟩
theorem fP.ext{w w':World}{D:Nat→Prop}{v:Value}{n:Nat}{rs:List RH}(h:fP w D v n rs)(he:Ext w w'):fP w' D v n rs :=
 h.imp id fun ⟨L,cap,re,h1,h2,h3,h4⟩=>⟨L,cap,re,h1,h2,h3.ext he,h4⟩
instance {w w':World} {D:Nat→Prop} {v:Value} {n:Nat} {rs:List RH}:Go.Front.Mv w w' (fP w D v n rs) (fP w' D v n rs):=⟨fun e h=>fP.ext h e⟩

theorem fP.mono{w:World}{D D':Nat→Prop}{v:Value}{n:Nat}{rs:List RH}(h:fP w D v n rs)(hD:∀ k,k<w.heap.size→D k→D' k):fP w D' v n rs :=
 h.imp id fun ⟨L,cap,re,h1,h2,h3,h4⟩=>⟨L,cap,re,h1,hD _ h3.lt h2,h3,h4⟩
theorem fP.len{w:World}{D:Nat→Prop}{v:Value}{n:Nat}{rs:List RH}(h:fP w D v n rs):rs.length=n*2:=by
 rcases h with ⟨-,rfl,rfl⟩|⟨L,cap,re,-,-,-,h,-⟩
 ·rfl
 ·exact h
theorem jL(T ty:TypeId)(hT:Tryz.prog.underlying T=some (.slice 38))(w:World)(D:Nat→Prop)(v:Value)(n:Nat)(rs:List RH)(b off m c:Nat)(ns:List RH)(hown:fP w D v n rs)
   (hm:ns.length=m*2)(h0:0<m)(hN:∀ k,k<m*2→RAt w b (off+k*3) (ns.getD k default))(hl:n≤536870912)(hlm:m≤536870912)(hD:∀ k,w.heap.size≤k→D k) :
    ∃ L cap w',(Builtin.append_ #[T,T] ty #[v,.slice (some ⟨b,off,none⟩) m c]).run Tryz.prog w=.ok (.slice (some ⟨L,0,none⟩) (n+m) cap) w'∧fP w' D (.slice (some ⟨L,0,none⟩) (n+m) cap) (n+m) (rs++ns)∧bf D w w'∧gV w w':=by
  obtain ⟨i0,hi0,hz0,hz1,hz2⟩:=info_parts E7;have hnl:(ax ns).length=m*i0.size:=by rw [aN,hz1,hm];omega
  have hcs:=lR (w:=w) (b:=b) (off:=off) hm hN;have hgc:∀ need old,need≤9223372036854775807→need≤grownCap w need old 38∧grownCap w need old 38≤9223372036854775807:=fun need old h=>⟨grownCap_ge _ _ _ _,by have:=grownCap_le_maxLen w need old 38 (by simpa [maxLen] using h);simpa [maxLen] using this⟩
  have hzs:(IvV (default,default)).cells.size=6:=by rfl
  rcases hown with ⟨rfl,rfl,rfl⟩|⟨L,cap,re,rfl,h1,h2,hlen,h3,h4,h5,h6⟩
  · have hr:=run_append_nil (P:=Tryz.prog) w T ty _ i0 _ hT hi0 hz0 ⟨b,off,none⟩ m c (ax ns) hnl hcs h0 zo (by rw [hz2];omega)
    obtain ⟨g1,g2⟩:=hgc m 0 zo;have he:Ext w (w.drew.alloc (.cells ((ax ns).toArray++Builtin.zeroCells (IvV (default,default)).cells (grownCap w m 0 38-m)) 38)):=(Ext.drew w).trans (Ext.alloc _ _);rw [Nat.zero_add,List.nil_append];refine ⟨_,_,_,hr,Or.inr ⟨_,_,_,rfl,hD _ (nXe _),heap_alloc_new w.drew _,hm,g1,g2,?_,mR _⟩,bf.of_ext he,gE he⟩;rw [size_zeroCells,hzs,hm];omega
  · by_cases hroom:n+m≤cap
    · have hcz:((ax rs).toArray++re).size=cap*6:=by rw [Array.size_append,List.size_toArray,aN,h5]
      have hr:=run_append_room (P:=Tryz.prog) w T ty _ i0 hT hi0 L n cap _ h2 ⟨b,off,none⟩ m c (ax ns) hnl hcs (nd _) hroom (by rw [hcz,hz1,hnl,hz1];omega);have hnr:n*i0.size=(ax rs).length:=by rw [aN,hz1,hlen];omega
      have e:(((ax rs).toArray++re).toList.take (n*i0.size)++ax ns++((ax rs).toArray++re).toList.drop (n*i0.size+(ax ns).length)).toArray=(ax (rs++ns)).toArray++(re.toList.drop (ax ns).length).toArray:=by
        rw [hnr,Array.toList_append,eF,List.take_left,←List.drop_drop,List.drop_left];apply Array.ext';simp
      rw [e] at hr;refine ⟨_,_,_,hr,Or.inr ⟨L,cap,_,rfl,h1,setRow_heap w L _ _ _ _ h2,by rw [nXi,hlen,hm];omega,hroom,h4,?_,?_⟩,⟨rfl,rfl,rfl,by simp,fun k hk hnd=>setRow_other w L k _ (fun e=>hnd (e ▸ h1))⟩,kX (h2.noU h6) fun k _ hk=>setRow_other w L k _ hk⟩
      · simp only [nXi,List.size_toArray,nYa,Array.length_toList]
        rw [hnl,hz1,hlen,hm];rw [hlen] at h5;omega
      · rw [List.all_eq_true] at h6 ⊢
        intro x hx;exact h6 x (List.mem_of_mem_drop (by simpa using hx))
    · have hr := run_append_grow (P := Tryz.prog) w T ty _ i0 _ hT hi0 hz0 ⟨L, 0, none⟩ n cap (ax rs) (by rw [aN, hz1, hlen]; omega) (fun j u hj => by
          have hlt:j<(ax rs).length:=(List.getElem?_eq_some_iff.1 hj).1;rw [gj,ab h2,Array.getElem?_append_left (by rw [List.size_toArray];exact hlt),List.getElem?_toArray];exact hj) ⟨b,off,none⟩ m c (ax ns) hnl hcs zo zo (growslice_fits zo (by rw [hz2];omega))
      obtain ⟨g1,g2⟩:=hgc (n+m) cap zo;have he:Ext w (w.drew.alloc (.cells ((ax rs).toArray++(ax ns).toArray++Builtin.zeroCells (IvV (default,default)).cells (grownCap w (n+m) cap 38-(n+m))) 38)):=(Ext.drew w).trans (Ext.alloc _ _);refine ⟨_,_,_,hr,Or.inr ⟨w.heap.size,_,Builtin.zeroCells (IvV (default,default)).cells (grownCap w (n+m) cap 38-(n+m)),rfl,hD _ (nXe _),?_,by rw [nXi,hlen,hm];omega,g1,g2,?_,mR _⟩,bf.of_ext he,gE he⟩
      · unfold IBk
        rw [eF];have e2:(ax rs++ax ns).toArray=(ax rs).toArray++(ax ns).toArray:=by simp
        rw [e2];exact heap_alloc_new w.drew _
      · rw [size_zeroCells,hzs,nXi,hlen,hm]
        omega
def gR(w:World)(D:Nat→Prop)(v:Value)(n:Nat)(qs:List Rat):Prop:=∃ rs,fP w D v n rs∧fh aA w rs qs
theorem gR.nil(w:World)(D:Nat→Prop):gR w D (.slice none 0 0) 0 []:=⟨[],fP.nil _ _,fh.nil _ _⟩
theorem gR.ext{w w':World}{D:Nat→Prop}{v:Value}{n:Nat}{qs:List Rat}(h:gR w D v n qs)(he:Ext w w'):gR w' D v n qs:=let ⟨rs,h1,h2⟩:=h;⟨rs,h1.ext he,h2.can_ext he⟩
instance {w w':World} {D:Nat→Prop} {v:Value} {n:Nat} {qs:List Rat}:Go.Front.Mv w w' (gR w D v n qs) (gR w' D v n qs):=⟨fun e h=>gR.ext h e⟩

theorem gR.mono{w:World}{D D':Nat→Prop}{v:Value}{n:Nat}{qs:List Rat}(h:gR w D v n qs)(hD:∀ k,k<w.heap.size→D k→D' k):gR w D' v n qs:=let ⟨rs,h1,h2⟩:=h;⟨rs,h1.mono hD,h2⟩
theorem gR.len{w:World}{D:Nat→Prop}{v:Value}{n:Nat}{qs:List Rat}(h:gR w D v n qs):qs.length=n*2:=by
 obtain ⟨rs,h1,h2⟩:=h;rw [←h2.1,h1.len]
theorem fh.app{P:World→RH→Rat→Prop}{w:World}{rs ns:List RH}{qs ps:List Rat}(h:fh P w rs qs)(k:fh P w ns ps):fh P w (rs++ns) (qs++ps):=by
 refine ⟨by simp [h.1,k.1],fun i hi=>?_⟩;have h1:=h.1;by_cases hlt:i<qs.length
 ·rw [show (rs++ns).getD i default=rs.getD i default by rw [nXd,List.getElem?_append_left zo,←nXd],show (qs++ps).getD i 0=qs.getD i 0 by rw [nXd,List.getElem?_append_left hlt,←nXd]];exact h.2 i hlt
 ·rw [show (rs++ns).getD i default=ns.getD (i-qs.length) default by rw [nXd,List.getElem?_append_right zo,←nXd,h1],show (qs++ps).getD i 0=ps.getD (i-qs.length) 0 by rw [nXd,List.getElem?_append_right zo,←nXd]];exact k.2 _ (by rw [nXi] at hi;omega)
theorem lj{w:World}{ops:Array Oper}{rest:List Oper}{o:Oper}{a:Act}{Q:Exit→Act→World→Prop}(hgd:o.guard=none)(s x:Operand)(T:TypeId)(hT:Tryz.prog.underlying T=some (.slice 38))
 (ho:o.op=.call { callee:=.builtin .append,args:=#[s,x],argTypes:=#[T,T] })(D:Nat→Prop)(v:Value)(n:Nat)(qs:List Rat)(b off m c:Nat)(ns:List RH)(ps:List Rat)(hs:a.eval s=v)(hown:gR w D v n qs)
 (hx:a.eval x=.slice (some ⟨b,off,none⟩) m c)(hm:ns.length=m*2)(h0:0<m)(hN:∀ k,k<m*2→RAt w b (off+k*3) (ns.getD k default))(hr:fh aA w ns ps)(hl:n≤536870912)(hlm:m≤536870912)(hD:∀ k,w.heap.size≤k→D k)
 (h:∀ (s':SH) w',gR w' D s'.v (n+m) (qs++ps)→bf D w w'→gV w w'→wpList Tryz.prog ops Q rest (a.put o.dst s'.v) w'):wpList Tryz.prog ops Q (o :: rest) a w:=by
 obtain ⟨rs,h1,h2⟩:=hown;refine wpList_plain hgd fun K hK=>?_
 obtain ⟨L,cap,w',hrun,g1,g2,g3⟩:=jL T o.type hT w D v n rs b off m c ns h1 hm h0 hN hl hlm hD;unfold Oper.wp;simp [execOp,ho,resolve,invoke,builtin,hs,hx,hrun,Result.andThen];exact hK _ _ (h ⟨some ⟨L,0,none⟩,n+m,cap⟩ w' ⟨_,g1,(h2.app hr).keep g3⟩ g2 g3)
open Stab
attribute [local go_sem] XW.cell XW.frozen
structure IvS (w:World) (s:SH) (rs:List RH):Prop where
 len:rs.length=s.n*2
 le:s.n≤s.c
 max:s.c≤9223372036854775807
 at':s.n=0∨∃ b off,s.a=some ⟨b,off,none⟩∧∀ k,k<s.n*2→RAt w b (off+k*3) (rs.getD k default)
theorem IvS.ext{w w':World}{s:SH}{rs:List RH}(h:IvS w s rs)(he:Ext w w'):IvS w' s rs :=
 ⟨h.len,h.le,h.max,h.at'.imp id fun ⟨b,off,h1,h2⟩=>⟨b,off,h1,fun k hk=>(h2 k hk).ext he⟩⟩
instance {w w':World} {s:SH} {rs:List RH}:Go.Front.Mv w w' (IvS w s rs) (IvS w' s rs):=⟨fun e h=>IvS.ext h e⟩

theorem IvS.nil(w:World):IvS w ⟨none,0,0⟩ []:=⟨rfl,nXe _,dZ,Or.inl rfl⟩
def AP(w:World)(s:SH)(qs:List Rat):Prop:=∃ rs,IvS w s rs∧fh aP w rs qs
def kM(w:World)(s:SH)(qs:List Rat):Prop:=∃ rs,IvS w s rs∧fh aA w rs qs
theorem kM.ext{w w':World}{s:SH}{qs:List Rat}(h:kM w s qs)(he:Ext w w'):kM w' s qs:=let ⟨rs,h1,h2⟩:=h;⟨rs,h1.ext he,h2.can_ext he⟩
instance {w w':World} {s:SH} {qs:List Rat}:Go.Front.Mv w w' (kM w s qs) (kM w' s qs):=⟨fun e h=>kM.ext h e⟩

theorem AP.len{w:World}{s:SH}{qs:List Rat}(h:AP w s qs):qs.length=s.n*2:=let ⟨_,h1,h2⟩:=h;h2.1.symm.trans h1.len
theorem kM.len{w:World}{s:SH}{qs:List Rat}(h:kM w s qs):qs.length=s.n*2:=let ⟨_,h1,h2⟩:=h;h2.1.symm.trans h1.len
theorem gR.can{w:World}{D:Nat→Prop}{s:SH}{n:Nat}{qs:List Rat}(h:gR w D s.v n qs):s.n=n∧kM w s qs:=by
 obtain ⟨rs,h1,h2⟩:=h;rcases h1 with ⟨e,rfl,rfl⟩|⟨L,cap,re,e,h3,h4,h5,h6,h7,h8⟩
 ·obtain ⟨a,m,c⟩:=s;simp only [SH.v,Value.slice.injEq] at e;obtain ⟨rfl,rfl,rfl⟩:=e;exact ⟨rfl,[],IvS.nil _,h2⟩
 ·obtain ⟨a,m,c⟩:=s;simp only [SH.v,Value.slice.injEq] at e;obtain ⟨rfl,rfl,rfl⟩:=e;exact ⟨rfl,rs,⟨h5,h6,h7,Or.inr ⟨L,0,rfl,fun k hk=>by rw [Nat.zero_add];exact h4.at (by rw [h5];exact hk)⟩⟩,h2⟩
def IAt(w:World)(b o:Nat)(r t:RH):Prop:=w.cell? ⟨b,o,none⟩=some (.bool r.neg)∧w.cell? ⟨b,o+1,none⟩=some (.slice r.a r.n r.c)∧w.cell? ⟨b,o+2,none⟩=some (.slice r.b r.m r.d) ∧
 w.cell? ⟨b,o+3,none⟩=some (.bool t.neg)∧w.cell? ⟨b,o+4,none⟩=some (.slice t.a t.n t.c)∧w.cell? ⟨b,o+5,none⟩=some (.slice t.b t.m t.d)
theorem AP.at{w:World}{ao:Option Addr}{n c:Nat}{qs:List Rat}(h:AP w ⟨ao,n,c⟩ qs){k:Nat}(hk:k<n) :
  ∃ b off r t,ao=some ⟨b,off,none⟩∧b<w.heap.size∧IAt w b (off+k*6) r t∧aP w r (qs.getD (2*k) 0)∧aP w t (qs.getD (2*k+1) 0):=by
 have hl:=h.len;obtain ⟨rs,h1,h2⟩:=h;rcases h1.at' with h0|⟨b,off,h3,h4⟩
 ·simp only at h0;omega
 ·simp only at h3 h4 hl;have g1:=h4 (2*k) zo;have g2:=h4 (2*k+1) zo;rw [show off+2*k*3=off+k*6 by omega] at g1;rw [show off+(2*k+1)*3=off+k*6+3 by omega] at g2;exact ⟨b,off,_,_,h3,nXq _ _ g1.1,⟨g1.1,g1.2.1,g1.2.2,g2.1,g2.2.1,g2.2.2⟩,h2.2 (2*k) zo,h2.2 (2*k+1) zo⟩
theorem kM.at{w:World}{ao:Option Addr}{n c:Nat}{qs:List Rat}(h:kM w ⟨ao,n,c⟩ qs){k:Nat}(hk:k<n) :
  ∃ b off r t,ao=some ⟨b,off,none⟩∧b<w.heap.size∧IAt w b (off+k*6) r t∧aA w r (qs.getD (2*k) 0)∧aA w t (qs.getD (2*k+1) 0):=by
 have hl:=h.len;obtain ⟨rs,h1,h2⟩:=h;rcases h1.at' with h0|⟨b,off,h3,h4⟩
 ·simp only at h0;omega
 ·simp only at h3 h4 hl;have g1:=h4 (2*k) zo;have g2:=h4 (2*k+1) zo;rw [show off+2*k*3=off+k*6 by omega] at g1;rw [show off+(2*k+1)*3=off+k*6+3 by omega] at g2;exact ⟨b,off,_,_,h3,nXq _ _ g1.1,⟨g1.1,g1.2.1,g1.2.2,g2.1,g2.2.1,g2.2.2⟩,h2.2 (2*k) zo,h2.2 (2*k+1) zo⟩
theorem gR.block{w:World}{N:Nat}{x y:RH}{a b:Rat}{D:Nat→Prop}(h:w.heap[N]?=some (.cells #[.bool x.neg,.slice x.a x.n x.c,.slice x.b x.m x.d,.bool y.neg,.slice y.a y.n y.c,.slice y.b y.m y.d] 38 (0,0)))(hx:aA w x a)(hy:aA w y b)(hD:D N):gR w D (.slice (some ⟨N,0,none⟩) 1 1) 1 [a,b]:=by
 have hb:IBk w N [x,y] #[]:=by
  unfold IBk;rw [h];rfl
 refine ⟨[x,y],Or.inr ⟨N,1,#[],rfl,hD,hb,rfl,nXe _,dZ,rfl,rfl⟩,rfl,fun k hk=>?_⟩;have hk:k<2:=hk;have:k=0∨k=1:=by omega
 rcases this with rfl|rfl
 ·exact hx
 ·exact hy
theorem fP.shp{w:World}{D:Nat→Prop}{v:Value}{n:Nat}{rs:List RH}(h:fP w D v n rs):∃ a c,v=.slice a n c∧n≤c:=by
 rcases h with ⟨rfl,-,rfl⟩|⟨L,cap,re,rfl,-,-,-,h,-⟩
 ·exact ⟨none,0,rfl,nXe _⟩
 ·exact ⟨_,_,rfl,h⟩
theorem mJ(T ty:TypeId)(hT:Tryz.prog.underlying T=some (.slice 38))(w:World)(D:Nat→Prop)(v:Value)(n:Nat)(rs:List RH)(x:SH)(ns:List RH)(hown:fP w D v n rs)(hx:IvS w x ns)(hl:n≤536870912)(hlm:x.n≤536870912)(hD:∀ k,w.heap.size≤k→D k) :
  ∃ s' w',(Builtin.append_ #[T,T] ty #[v,x.v]).run Tryz.prog w=.ok (SH.v s') w'∧fP w' D s'.v (n+x.n) (rs++ns)∧bf D w w'∧gV w w':=by
 obtain ⟨xa,m,c⟩:=x;have hm:=hx.len;simp only at hm hlm;rcases Nat.eq_zero_or_pos m with h0|h0
 ·subst h0;obtain ⟨i0,hi0,hz0,hz1,hz2⟩:=info_parts E7;obtain ⟨a,cc,rfl,hac⟩:=hown.shp;have hns:ns=[]:=nXj.1 zo;subst hns;refine ⟨⟨a,n,cc⟩,w,ij hT hi0 a xa n cc c hac,?_,bf.refl _ _,gV.refl _⟩;rw [List.append_nil];exact hown
 ·rcases hx.at' with h1|⟨b,off,h1,h2⟩
  ·simp only at h1;omega
  ·simp only at h1 h2;subst h1;obtain ⟨L,cap,w',hr,g1,g2,g3⟩:=jL T ty hT w D v n rs b off m c ns hown hm h0 h2 hl hlm hD;exact ⟨⟨some ⟨L,0,none⟩,n+m,cap⟩,w',hr,g1,g2,g3⟩
theorem gJ{w:World}{ops:Array Oper}{rest:List Oper}{o:Oper}{a:Act}{Q:Exit→Act→World→Prop}(hgd:o.guard=none)(s x:Operand)(T:TypeId)(hT:Tryz.prog.underlying T=some (.slice 38))
 (ho:o.op=.call { callee:=.builtin .append,args:=#[s,x],argTypes:=#[T,T] })(D:Nat→Prop)(v:Value)(n:Nat)(qs:List Rat)(y:SH)(ps:List Rat)(hs:a.eval s=v)(hown:gR w D v n qs)
 (hx:a.eval x=y.v)(hy:kM w y ps)(hl:n≤536870912)(hlm:y.n≤536870912)(hD:∀ k,w.heap.size≤k→D k)
 (h:∀ (s':SH) w',gR w' D s'.v (n+y.n) (qs++ps)→bf D w w'→gV w w'→wpList Tryz.prog ops Q rest (a.put o.dst s'.v) w'):wpList Tryz.prog ops Q (o :: rest) a w:=by
 obtain ⟨rs,h1,h2⟩:=hown;obtain ⟨ns,h3,h4⟩:=hy;refine wpList_plain hgd fun K hK=>?_
 obtain ⟨s',w',hrun,g1,g2,g3⟩:=mJ T o.type hT w D v n rs y ns h1 h3 hl hlm hD;unfold Oper.wp;simp [execOp,ho,resolve,invoke,builtin,hs,hx,hrun,Result.andThen];exact hK _ _ (h s' w' ⟨_,g1,(h2.app h4).keep g3⟩ g2 g3)
open Sg
def SpP(q:List Rat)(wd:Rat)(D T m Y E d:Nat):Prop :=
 ∀ (e:Nat),d+e=E→∀ (v:SH) (s t u:RH) (lo hi:Rat) (z:Int) (w:World),ChR w v (jp q)→aA w s lo→aA w t hi→aA w u wd→Dy D (W32 ^ T) e lo→Dy D (W32 ^ T) e hi→lo≤hi→(hi-lo)*((W32 ^ Y:Nat):Rat)≤((2 ^ d:Nat):Rat)→z=(v6 q lo:Int)-(v6 q hi:Int) →
  ak 129 [v.v,s.v,t.v,u.v,.int .i64 z] w SH.v (fun x w'=>gR w' (w.heap.size≤·) x.v x.n (spV q wd d lo hi))
structure SpZ (q:List Rat) (wd:Rat) (T m E:Nat):Prop where
 e:E≤32*m
 t:3*T+m+1≤1000000
 wz:Sz 1000 wd
 mz:∀ x:Rat,Sz (3*T+m+1) x→Mz (jp q) x
def SpE(q:List Rat)(wd:Rat)(d:Nat)(lo hi:Rat)(l:List Rat):Prop:=Unit→spV q wd d lo hi=l
theorem xX{a b:Rat}:dq a b≤0↔a≤b:=by
 unfold dq;by_cases h:a<b
 ·rw [if_pos h];exact ⟨fun _=>Rat.le_of_lt h,fun _=>by decide⟩
 ·rw [if_neg h];by_cases h2:a=b
  ·rw [if_pos h2];exact ⟨fun _=>by rw [h2];exact Rat.le_refl,fun _=>by decide⟩
  ·rw [if_neg h2];exact ⟨fun k=>absurd k dZ,fun k=>by exfalso;grind⟩
theorem Al:Sz 1 (((1:Int):Rat) / ((2:Int):Rat)):=⟨by decide +kernel,by decide +kernel⟩
theorem yg{q:List Rat}(h:tz q≠[]):0<(jp q).length∧(jp q).getD 0 []=bg q:=by
 obtain ⟨l,e⟩:=lS h;rw [oR,e];refine ⟨by simp,?_⟩;show bg (av q)=bg q;exact jA q
theorem uL(q:List Rat)(x:Rat):Sg.sg (evV (bg q) x)=0↔evV q x=0:=by
 rw [←lI,gX,lI];exact lL
set_option maxRecDepth 8000 in
set_option maxHeartbeats 16000000 in
theorem mY{q:List Rat}{wd:Rat}{D T m Y E:Nat}(G:Sp6 q wd D T m Y)(Z:SpZ q wd T m E)(d:Nat)(ih:∀ d',d=d'+1→SpP q wd D T m Y E d'):SpP q wd D T m Y E d:=by
 intro e hde v s t u lo hi z w hc hs ht hu ha hb hlh hwd hz;have HX:=Hi (Ext.refl w);have HC:=Hi hc;have HS:=Hi hs;have HT:=Hi ht;have HU:=Hi hu;have DA:=Hi ha;have DB:=Hi hb;have HLH:=Hi hlh;have HWD:=Hi hwd;have HZ:=Hi hz;have IH:=Hi ih;have HG:=Hi G;have HZZ:=Hi Z;have hE:=Z.e;have hT2:=Z.t;have ZA:=Hi (ha.sz G.dp G.dl (show e≤32*m by omega));have ZB:=Hi (hb.sz G.dp G.dl (show e≤32*m by omega));have ZW:=Hi Z.wz;have MA:=Hi (Z.mz lo ZA.out);have hvm:=kf G.ne G.cp hlh;have hv1:=BX q lo;have hv2:=MA.out.ln;have hzr:0≤z∧z≤1000:=zo;obtain ⟨hl0,hu0⟩:=yg G.ne;have HL0:=Hi hl0;have HU0:=Hi hu0;have HM0:=Hi (by have h:=MA.out.mm 0 hl0;rw [hu0] at h;exact h);clear hc hs ht hu ha hb hlh hwd hz ih G Z hvm hv1 hv2 hl0 hu0;obtain ⟨va,vn,vc⟩:=v;obtain ⟨sn,sa,sl,sc,sb,sm,sd⟩:=s;obtain ⟨tn,ta,tl,tc,tb,tm,td⟩:=t;obtain ⟨un,ua,ul,uc,ub,um,ud⟩:=u;unfold ak;go_enter Tryz.func129,Tryz.ntmps129;simp only [SH.v]
 go_upto_region 1 with fail
 refine qz ?_;intro w1 hE B6 B7 B8 hz_w1 hr_w1;refine mV5 hE ?_ HX HC HS HT HU;clear HX HC HS HT HU;intro HX HC HS HT HU;replace b_B6:=bX3 B6;replace b_B7:=bX3 B7;replace b_B8:=bX3 B8;by_cases h0:z=0
 case pos =>
  have HV:Hid (SpE q wd d lo hi []):=Hi (fun _=>Et d (by have:=HZ.out;omega));subst h0;go_wp2
  go_ret
  exact ⟨⟨none,0,0⟩,rfl,HX.out,by rw [HV.out ()];exact gR.nil _ _⟩
 have h0b:(z == 0)=false:=by rw [nXs];exact h0
 have HNE:Hid (Fn (v6 q lo≠v6 q hi)):=Hi (fun _ h=>h0 (by have:=HZ.out;omega));obtain ⟨c,hc⟩:∃ c,c=dq (hi-lo) wd:=⟨_,rfl⟩;have HCC:=Hi hc;obtain ⟨y,hy⟩:∃ y,y=Sg.sg (evV (bg q) lo):=⟨_,rfl⟩;have HY:=Hi hy;obtain ⟨sg,hsg⟩:∃ b:Bool,b=decide (v6 q lo=v6 q hi+1∧hi-lo≤wd∧evV q lo≠0):=⟨_,rfl⟩;have HSG:=Hi hsg;have ZD:Hid (Sz (2*(3*T+m+1)+1) (hi-lo)):=Hi ((ZB.out.sub ZA.out).mono zo);have hyi:y=-1∨y=0∨y=1:=by rw [hy];exact o8 _
 clear h0 hc hy hsg
 go_upto_region 3 with fail
 have HW1:=Hi (Ext.refl w1)
 go_cut [33] (fun b wc=>b=.bool sg∧Ext w1 wc)
 case first =>
  obtain ⟨L,ca,cn,cc,e1,hLl,hc1,h4⟩:=HC.out.at HL0.out;subst e1;rw [HU0.out] at h4;have HCL:=Hi h4;have hcn:cn≤100:=by have h:=HCL.out.len;have h2:=HM0.out.1;simp only at h;omega
  have hvn:(0:Int)<(vn:Int):=by have h1:=HC.out.1;have h2:=HL0.out;simp only at h1;omega
  clear h4;by_cases hz1:z=1
  case neg =>
   have hz1b:(z == 1)=false:=by rw [nXs];exact hz1
   have HSF:Hid (sg=false):=Hi (by rw [HSG.out];exact decide_eq_false (fun h=>hz1 (by have:=HZ.out;have:=h.1;omega)));have hf:=HSF.out;subst hf;refine ag 19 (fun opIx=>match opIx with
    | _=>.quiet) (fun _=>[]) kZ kZ (fun w0 he0 hz0 hc0 hf0=>?_)
   replace he0:=Hi he0;simp only [pT]
   repeat (first|(refine wpq fun K h=>?_;go_big_quiet_op;refine h _ ?_;clear h K;(try simp only [hz1b]))|(refine cZ rfl ?_;simp only [pS]))
   refine aj ?_;intro w2 hI;have hE:=he0.out.trans hI.ext;clear hI he0 hz0 hc0 hf0;replace HW1:=hE.tr HW1;simp only [pD]
   go_wp2_with fail
   go_meet
   case rel=>exact ⟨rfl,HW1.out⟩
  case pos =>
   have HZ1:Hid (Fn (v6 q lo=v6 q hi+1)):=Hi (fun _=>by have:=HZ.out;omega);subst hz1;by_cases hw:hi-lo≤wd
   case neg =>
    have hd:decide (c≤0)=false:=decide_eq_false (fun h=>hw (by rw [HCC.out] at h;exact xX.1 h));have HSF:Hid (sg=false):=Hi (by rw [HSG.out];exact decide_eq_false (fun h=>hw h.2.1));have hf:=HSF.out;subst hf;clear hw;refine ag 19 (fun opIx=>match opIx with
     | 5=>sR (hi-lo)
     | 7=>sU (.int .i64 c)
     | _=>.quiet) (fun|7=>[5]|_=>[]) kZ kZ (fun w0 he0 hz0 hc0 hf0=>?_)
    replace he0:=Hi he0;simp only [pT]
    repeat (first|(refine wpq fun K h=>?_;go_big_quiet_op;refine h _ ?_;clear h K;(try simp only [hd]))|(refine cZ rfl ?_;simp only [pS]))
    refine wps he0 (fun w1 hW hG=>?_) fun x20=>?_
    ·exact spc [RH.v ⟨tn,ta,tl,tc,tb,tm,td⟩,RH.v ⟨sn,sa,sl,sc,sb,sm,sd⟩] Tryz.func94 (lQ ⟨tn,ta,tl,tc,tb,tm,td⟩ ⟨sn,sa,sl,sc,sb,sm,sd⟩ hi lo _ ((HT.out.ext hW).raw ZB.out zo) ((HS.out.ext hW).raw ZA.out zo))
    simp only [pS]
    repeat (first|(refine wpq fun K h=>?_;go_big_quiet_op;refine h _ ?_;clear h K;(try simp only [hd]))|(refine cZ rfl ?_;simp only [pS]))
    refine wps he0 (fun w1 hW hG=>?_) fun x21=>?_
    ·have g20:=gS (hG 5 dZ);exact spc [x20.v,RH.v ⟨un,ua,ul,uc,ub,um,ud⟩] Tryz.func49 ((by rw [HCC.out];exact jN x20 ⟨un,ua,ul,uc,ub,um,ud⟩ (hi-lo) wd _ (g20.raw ZD.out zo) ((HU.out.ext hW).raw ZW.out zo)))
    simp only [pS]
    repeat (first|(refine wpq fun K h=>?_;go_big_quiet_op;refine h _ ?_;clear h K;(try simp only [hd]))|(refine cZ rfl ?_;simp only [pS]))
    refine aj ?_;intro w2 hI;have hE:=he0.out.trans hI.ext;clear hI he0 hz0 hc0 hf0;replace HW1:=hE.tr HW1;simp only [pD]
    go_wp2_with fail
    go_meet
    case rel=>exact ⟨rfl,HW1.out⟩
   case pos =>
    have hd:decide (c≤0)=true:=decide_eq_true (by rw [HCC.out];exact xX.2 hw);have HSW:Hid (sg=(y != 0)):=Hi (by
     rw [HSG.out];by_cases hy:y=0
     ·subst hy;exact decide_eq_false (fun h=>h.2.2 ((uL q lo).1 HY.out.symm))
     ·rw [show (y != 0)=true by rw [bne,nXs.2 hy];rfl];exact decide_eq_true ⟨HZ1.out (),hw,fun h=>hy (HY.out.trans ((uL q lo).2 h))⟩)
    clear hw;refine ag 19 (fun opIx=>match opIx with
     | 5=>sR (hi-lo)
     | 7=>sU (.int .i64 c)
     | 15=>sR (evV (bg q) lo)
     | 16=>sU (.int .i64 y)
     | _=>.quiet) (fun|7=>[5]|16=>[15]|_=>[]) kZ kZ (fun w0 he0 hz0 hc0 hf0=>?_)
    replace he0:=Hi he0;simp only [pT]
    repeat (first|(refine wpq fun K h=>?_;go_big_quiet_op;refine h _ ?_;clear h K;(try simp only [hd]))|(refine cZ rfl ?_;simp only [pS]))
    refine wps he0 (fun w1 hW hG=>?_) fun x20=>?_
    ·exact spc [RH.v ⟨tn,ta,tl,tc,tb,tm,td⟩,RH.v ⟨sn,sa,sl,sc,sb,sm,sd⟩] Tryz.func94 (lQ ⟨tn,ta,tl,tc,tb,tm,td⟩ ⟨sn,sa,sl,sc,sb,sm,sd⟩ hi lo _ ((HT.out.ext hW).raw ZB.out zo) ((HS.out.ext hW).raw ZA.out zo))
    simp only [pS]
    repeat (first|(refine wpq fun K h=>?_;go_big_quiet_op;refine h _ ?_;clear h K;(try simp only [hd]))|(refine cZ rfl ?_;simp only [pS]))
    refine wps he0 (fun w1 hW hG=>?_) fun x21=>?_
    ·have g20:=gS (hG 5 dZ);exact spc [x20.v,RH.v ⟨un,ua,ul,uc,ub,um,ud⟩] Tryz.func49 ((by rw [HCC.out];exact jN x20 ⟨un,ua,ul,uc,ub,um,ud⟩ (hi-lo) wd _ (g20.raw ZD.out zo) ((HU.out.ext hW).raw ZW.out zo)))
    simp only [pS]
    repeat (first|(refine wpq fun K h=>?_;go_big_quiet_op;refine h _ ?_;clear h K;(try simp only [hd]))|(refine cZ rfl ?_;simp only [pS]))
    refine wps he0 (fun w1 hW hG=>?_) fun x22=>?_
    ·exact spc [.slice ca cn cc,RH.v ⟨sn,sa,sl,sc,sb,sm,sd⟩] Tryz.func50 (jZ ca cn cc (bg q) ⟨sn,sa,sl,sc,sb,sm,sd⟩ lo _ (HCL.out.ext hW) (HS.out.ext hW) hcn HM0.out.2.1 (ZA.out.mono zo) HM0.out.2.2)
    simp only [pS]
    repeat (first|(refine wpq fun K h=>?_;go_big_quiet_op;refine h _ ?_;clear h K;(try simp only [hd]))|(refine cZ rfl ?_;simp only [pS]))
    refine wps he0 (fun w1 hW hG=>?_) fun x23=>?_
    ·have g22:=gS (hG 15 dZ);exact spc [x22.v] Tryz.func61 ((by rw [HY.out,←iF];exact cf x22 (evV (bg q) lo) _ (g22.raw (HM0.out.2.2 0 (Nat.zero_le _)) dZ)))
    simp only [pS]
    repeat (first|(refine wpq fun K h=>?_;go_big_quiet_op;refine h _ ?_;clear h K;(try simp only [hd]))|(refine cZ rfl ?_;simp only [pS]))
    refine aj ?_;intro w2 hI;have hE:=he0.out.trans hI.ext;clear hI he0 hz0 hc0 hf0;replace HW1:=hE.tr HW1;simp only [pD];have hb:=HSW.out;subst hb
    go_wp2_with fail
    go_meet
    case rel=>exact ⟨rfl,HW1.out⟩
 case rest =>
  obtain ⟨rfl,hE⟩:=hcut;refine mV8 hE ?_ B6 B7 B8 HX HC HT HU HS;clear B6 B7 B8 HX HC HT HU HS;intro B6 B7 B8 HX HC HT HU HS;have hs_wc:=hE.size;replace b_B6:=bX3 B6;replace b_B7:=bX3 B7;cases sg
  case true =>
   have HSI:=Hi (of_decide_eq_true HSG.out.symm);have HV:Hid (SpE q wd d lo hi [lo,hi]):=Hi (fun _=>Er d HSI.out.1 HSI.out.2.1 HSI.out.2.2);go_wp2;exact nXa (v:=SH.v ⟨some ⟨wc.heap.size,0,none⟩,1,1⟩) (by simp [results,Tryz.results129,go_sem]) rfl
    ⟨⟨some ⟨wc.heap.size,0,none⟩,1,1⟩,rfl,HX.out.trans (Ext.alloc _ _),by
     rw [HV.out ()];exact gR.block (x:=⟨sn,sa,sl,sc,sb,sm,sd⟩) (y:=⟨tn,ta,tl,tc,tb,tm,td⟩) (heap_alloc_new _ _) (HS.out.ext (Ext.alloc _ _)) (HT.out.ext (Ext.alloc _ _)) (by show w.heap.size≤wc.heap.size;omega)⟩
  case false =>
  have HNS:=Hi (of_decide_eq_false HSG.out.symm);obtain ⟨d0,rfl⟩:∃ d0,d=d0+1:=by
   cases d with
   | zero =>
    exfalso;have h2:(hi-lo)*((W32 ^ Y:Nat):Rat)≤1:=by have h:=HWD.out;rw [Nat.pow_zero] at h;exact h
    rcases HG.out.base DA.out DB.out HLH.out h2 with h|h
    ·exact HNE.out () h
    ·exact HNS.out h
   | succ d0=>exact ⟨d0,rfl⟩
  obtain ⟨mid,hmid⟩:∃ mid,mid=md6 lo hi:=⟨_,rfl⟩;have HMID:Hid (mid=(lo+hi)*(((1:Int):Rat) / ((2:Int):Rat))):=Hi hmid;have HV:Hid (SpE q wd (d0+1) lo hi (spV q wd d0 lo mid++spV q wd d0 mid hi)):=Hi (fun _=>by
   rw [hmid];show (if v6 q lo=v6 q hi then [] else if v6 q lo=v6 q hi+1∧hi-lo≤wd∧evV q lo≠0 then [lo,hi] else spV q wd d0 lo (md6 lo hi)++spV q wd d0 (md6 lo hi) hi)=_;rw [if_neg (HNE.out ()),if_neg HNS.out])
  have DM:Hid (Dy D (W32 ^ T) (e+1) mid):=Hi (by rw [hmid];exact DA.out.mid DB.out);have ZM:Hid (Sz (3*T+m+1) mid):=Hi (DM.out.sz HG.out.dp HG.out.dl zo);have MM:=Hi (HZZ.out.mz mid ZM.out);have DA2:=Hi DA.out.up;have DB2:=Hi DB.out.up;obtain ⟨l1,l2,-,-⟩:=sW HLH.out;obtain ⟨l3,l4⟩:=Sp6.half HLH.out HWD.out;rw [←hmid] at l1 l2 l3 l4;have HL1:=Hi l1;have HL2:=Hi l2;have HL3:=Hi l3;have HL4:=Hi l4;have hvm1:=kf HG.out.ne HG.out.cp l1;have hvm2:=kf HG.out.ne HG.out.cp l2;have hv1:=BX q lo;have hv2:=MA.out.ln;obtain ⟨k,hk⟩:∃ k:Int,k=(v6 q lo:Int)-(v6 q mid:Int):=⟨_,rfl⟩;have hk1:0≤k∧k≤1000:=zo;have HK:=Hi hk;have HK2:Hid (z-k=(v6 q mid:Int)-(v6 q hi:Int)):=Hi (by have:=HZ.out;omega);have hzk:0≤z-k∧z-k≤1000:=by have:=HK2.out;omega
  have HS1:=Hi (ve HG.out.ne HG.out.cp (wd:=wd) d0 l1);have HS2:=Hi (ve HG.out.ne HG.out.cp (wd:=wd) d0 l2);have hvl:v6 q lo≤1000:=zo;have hvl2:v6 q mid≤1000:=zo;have HVL:=Hi hvl;have HVL2:=Hi hvl2;clear hmid l1 l2 l3 l4 hvm1 hvm2 hv1 hv2 hk hvl hvl2
  go_wp2_with fail
  refine cM (fY ⟨sn,sa,sl,sc,sb,sm,sd⟩ ⟨tn,ta,tl,tc,tb,tm,td⟩ lo hi _ (HS.out.raw ZA.out zo) (HT.out.raw ZB.out zo)) fun x40 w40 hE G40=>?_
  refine mV8 hE ?_ B6 B7 B8 HX HC HT HU HS;clear B6 B7 B8 HX HC HT HU HS;intro B6 B7 B8 HX HC HT HU HS;have hs_w40:=hE.size
  go_wp2_with fail
  refine cM (fW 1 2 _ dZ dZ dZ dZ) fun x41 w41 hE G41=>?_
  refine mV8 hE ?_ G40 B6 B7 B8 HX HC HT HU;clear G40 B6 B7 B8 HX HC HT HU;intro G40 B6 B7 B8 HX HC HT HU;replace HS:=mV hE HS;have hs_w41:=hE.size
  go_wp2_with fail
  refine cM (fV x40 x41 (lo+hi) (((1:Int):Rat) / ((2:Int):Rat)) _ (G40.out.raw ((ZA.out.add ZB.out).mono (nXe _)) zo) (G41.out.raw Al dZ)) fun x42 w42 hE G42=>?_
  refine mV8 hE ?_ B6 B7 B8 HX HC HT HU HS;clear B6 B7 B8 HX HC HT HU HS;intro B6 B7 B8 HX HC HT HU HS;have hs_w42:=hE.size;rw [←HMID.out] at G42;clear G40;clear G41;obtain ⟨mn,ma,ml,mc,mb,mm,md⟩:=x42;have GM:=Hi G42.out;clear G42
  go_upto_region 6 with fail
  refine nmA ?_;intro w43 hE B11 hz_w43 hr_w43;refine mV8 hE ?_ B6 B7 B8 HX HC HT HU HS;clear B6 B7 B8 HX HC HT HU HS;intro B6 B7 B8 HX HC HT HU HS;replace GM:=mV hE GM;replace b_B6:=bX3 B6;replace b_B11:=bX3 B11
  go_wp2_with fail
  refine cM (m9 ⟨va,vn,vc⟩ (jp q) ⟨sn,sa,sl,sc,sb,sm,sd⟩ ⟨mn,ma,ml,mc,mb,mm,md⟩ lo mid _ HC.out MA.out MM.out HS.out GM.out (ZA.out.mono zo) (ZM.out.mono zo)) fun x46 w46 hE _=>?_
  refine mV8 hE ?_ B11 B6 B7 B8 HX HC HT HU;clear B11 B6 B7 B8 HX HC HT HU;intro B11 B6 B7 B8 HX HC HT HU;refine mV2 hE ?_ HS GM;clear HS GM;intro HS GM;have hs_w46:=hE.size;replace b_B6:=bX3 B6;replace b_B7:=bX3 B7;replace b_B8:=bX3 B8;replace b_B11:=bX3 B11;rw [show ((d9 (jp q) lo:Int)-d9 (jp q) mid)=k from HK.out.symm]
  go_upto_region 7 with fail
  refine wpG 14 (fun opIx=>match opIx with
   | 5=>.spec (SH) (default) (SH.v) (fun x w'=>gR w' (w.heap.size≤·) x.v x.n (spV q wd d0 lo mid))
   | 13=>.spec (SH) (default) (SH.v) (fun x w'=>gR w' (w.heap.size≤·) x.v x.n (spV q wd d0 mid hi))
   | _=>.quiet) (fun _=>[]) fun w0 he0 hz0 hc0 hf0=>?_
  refine wps he0 (fun w1 hW hG=>?_) fun x50=>?_
  ·exact spc [.slice va vn vc,RH.v ⟨sn,sa,sl,sc,sb,sm,sd⟩,RH.v ⟨mn,ma,ml,mc,mb,mm,md⟩,RH.v ⟨un,ua,ul,uc,ub,um,ud⟩,.int .i64 k] Tryz.func129 ((IH.out d0 rfl (e+1) zo ⟨va,vn,vc⟩ ⟨sn,sa,sl,sc,sb,sm,sd⟩ ⟨mn,ma,ml,mc,mb,mm,md⟩ ⟨un,ua,ul,uc,ub,um,ud⟩ lo mid k _ (HC.out.ext hW) (HS.out.ext hW) (GM.out.ext hW) (HU.out.ext hW) DA2.out DM.out HL1.out HL3.out HK.out).weak (fun _ _ _ h=>h.mono (fun j _ hj=>by have h2:=hW.size;show w.heap.size≤j;have hj:_≤j:=hj;omega)))
  refine qZ ?_;refine wps he0 (fun w1 hW hG=>?_) fun x51=>?_
  ·exact spc [.slice va vn vc,RH.v ⟨mn,ma,ml,mc,mb,mm,md⟩,RH.v ⟨tn,ta,tl,tc,tb,tm,td⟩,RH.v ⟨un,ua,ul,uc,ub,um,ud⟩,.int .i64 (z-k)] Tryz.func129 ((IH.out d0 rfl (e+1) zo ⟨va,vn,vc⟩ ⟨mn,ma,ml,mc,mb,mm,md⟩ ⟨tn,ta,tl,tc,tb,tm,td⟩ ⟨un,ua,ul,uc,ub,um,ud⟩ mid hi (z-k) _ (HC.out.ext hW) (GM.out.ext hW) (HT.out.ext hW) (HU.out.ext hW) DM.out DB2.out HL2.out HL4.out HK2.out).weak (fun _ _ _ h=>h.mono (fun j _ hj=>by have h2:=hW.size;show w.heap.size≤j;have hj:_≤j:=hj;omega)))
  refine qZ ?_;refine aj ?_;intro w47 hI;have hE:=he0.out.trans hI.ext;have G50:=gT (hI.facts 5);have G51:=gT (hI.facts 13);clear hI he0 hz0 hc0 hf0;refine mV2 hE ?_ B11 HX;clear B11 HX;intro B11 HX;replace b_B11:=bX3 B11;simp only [pD];have hn1:=G50.out.len;have hn2:=G51.out.len;have hb1:x50.n≤100000:=by have:=HS1.out;have:=HVL.out;omega
  have hb2:x51.n≤100000:=by have:=HS2.out;have:=HVL2.out;omega
  clear hn1 hn2
  go_wp2_with (at_builtin;refine gJ rfl (.tmp 52) (.tmp 60) 54 Tryz.underlying54 rfl (w.heap.size≤·) _ x50.n _ x51 _ rfl G50.out rfl (gR.can G51.out).2 zo zo (fun j hj=>by show w.heap.size≤j;omega) ?_;intro s' y3 q1 q2 q3)
  have HX3:=Hi (Ext.mods HX.out q2 (fun k h=>h));have HO3:=Hi q1;clear q1 q2 q3;go_wp2;have hn':s'.n=x50.n+x51.n:=(gR.can HO3.out).1;exact nXa (v:=SH.v s') (by simp [results,Tryz.results129,go_sem]) rfl ⟨s',rfl,HX3.out,by rw [HV.out ()];have h:=HO3.out;rw [←hn'] at h;exact h⟩
theorem uW{q:List Rat}{wd:Rat}{D T m Y E:Nat}(G:Sp6 q wd D T m Y)(Z:SpZ q wd T m E)(d:Nat):SpP q wd D T m Y E d:=by
 induction d with
 | zero=>exact mY G Z 0 (fun d' h=>by omega)
 | succ d ih =>
  refine mY G Z (d+1) (fun d' h=>?_);obtain rfl:d=d':=by omega
  exact ih
end Go.Proofs.YtafgmcimcbhhjaaGreat
