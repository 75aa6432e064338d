/- split, Isolate and Nonnegative of package dspcompilerref06 in plain terms. -/
import Derived.Test.YtafgmcimcbhhjaaGreatQZK9
import Derived.Test.YtafgmcimcbhhjaaGreatQZM7
import Derived.Test.YtafgmcimcbhhjaaGreatQZK4
import Derived.Test.YtafgmcimcbhhjaaGreatQZK8
set_option linter.unusedVariables false
namespace Go.Proofs.YtafgmcimcbhhjaaGreat.Sg
open Go.RowKit Go.Front Go.Num Go.Stab Go.Proofs.YtafgmcimcbhhjaaGreat
def md6(a b:Rat):Rat:=(a+b)*(((1:Int):Rat) / ((2:Int):Rat))
theorem zk:(((1:Int):Rat) / ((2:Int):Rat))*2=1:=by decide +kernel
theorem oD{a b:Rat}(h:a≤b):a≤md6 a b∧md6 a b≤b∧(md6 a b-a)*2=b-a∧(b-md6 a b)*2=b-a:=by
 have:=zk;unfold md6;generalize ((1:Int):Rat) / ((2:Int):Rat)=c at *
 have e:(a+b)*c*2=a+b:=by grind
 exact ⟨by grind,by grind,by grind,by grind⟩
def v6(q:List Rat)(x:Rat):Nat:=eI (f9 q) x
def spV(q:List Rat)(wd:Rat):Nat→Rat→Rat→List Rat
 | 0,lo,hi=>if v6 q lo=v6 q hi then [] else [lo,hi]
 | d+1,lo,hi=>if v6 q lo=v6 q hi then [] else if v6 q lo=v6 q hi+1∧hi-lo≤wd∧evV q lo≠0 then [lo,hi] else spV q wd d lo (md6 lo hi)++spV q wd d (md6 lo hi) hi
theorem yG{q:List Rat}{wd lo hi:Rat}(d:Nat)(h:v6 q lo=v6 q hi):spV q wd d lo hi=[]:=by cases d <;> (unfold spV;rw [if_pos h])
theorem yF{q:List Rat}{wd lo hi:Rat}(d:Nat)(h:v6 q lo=v6 q hi+1)(h1:hi-lo≤wd)(h2:evV q lo≠0):spV q wd d lo hi=[lo,hi]:=by
 cases d with
 | zero=>unfold spV;rw [if_neg (by omega)]
 | succ d=>unfold spV;rw [if_neg (by omega),if_pos ⟨h,h1,h2⟩]
theorem fU{q:List Rat}(hq:tz q≠[])(hc:Cp (evV q) (evD q)){lo hi:Rat}(h:lo≤hi):v6 q hi≤v6 q lo:=by
 obtain ⟨l,e,hfit⟩:=AL hq hc;unfold v6;rw [iX,iX,nQ e,nQ e];rcases Rat.le_iff_lt_or_eq.1 h with h1|h1
 ·exact (hfit lo hi).mono lo hi Rat.le_refl h1 Rat.le_refl
 ·rw [h1];exact nXd _
theorem ws(q:List Rat)(x:Rat):v6 q x≤(f9 q).length:=lC _ _
theorem qC{q:List Rat}(hq:tz q≠[])(hc:Cp (evV q) (evD q)){wd:Rat}:∀ (d:Nat) {lo hi:Rat},lo≤hi→(spV q wd d lo hi).length+2*v6 q hi≤2*v6 q lo:=by
 intro d;induction d with
 | zero =>
  intro lo hi h;have h1:=fU hq hc h;unfold spV;split
  ·simp only [List.length_nil];omega
  ·simp only [List.length_cons,List.length_nil];omega
 | succ d ih =>
  intro lo hi h;have h1:=fU hq hc h;obtain ⟨m1,m2,-,-⟩:=oD h;unfold spV;split
  ·simp only [List.length_nil];omega
  ·split
   ·simp only [List.length_cons,List.length_nil];omega
   ·have a:=ih m1;have b:=ih m2;rw [nXh];omega
theorem Aj{q:List Rat}{wd:Rat}:∀ (d:Nat) {lo hi:Rat},lo≤hi→∀ y ∈ spV q wd d lo hi,lo≤y∧y≤hi:=by
 intro d;induction d with
 | zero =>
  intro lo hi h y hy;unfold spV at hy;split at hy
  ·simp at hy
  ·simp only [List.mem_cons,List.not_mem_nil,or_false] at hy;rcases hy with rfl|rfl
   ·exact ⟨Rat.le_refl,h⟩
   ·exact ⟨h,Rat.le_refl⟩
 | succ d ih =>
  intro lo hi h y hy;obtain ⟨m1,m2,-,-⟩:=oD h;unfold spV at hy;split at hy
  ·simp at hy
  ·split at hy
   ·simp only [List.mem_cons,List.not_mem_nil,or_false] at hy;rcases hy with rfl|rfl
    ·exact ⟨Rat.le_refl,h⟩
    ·exact ⟨h,Rat.le_refl⟩
   ·rcases List.mem_append.1 hy with k|k
    ·have:=ih m1 y k;exact ⟨this.1,by have:=this.2;grind⟩
    ·have:=ih m2 y k;exact ⟨by have:=this.1;grind,this.2⟩
def Dy(D R e:Nat)(x:Rat):Prop:=∃ z:Int,x*((D*2 ^ e:Nat):Rat)=(z:Rat)∧z.natAbs≤R*(D*2 ^ e)
theorem vU(D e:Nat):((D*2 ^ (e+1):Nat):Rat)=2*((D*2 ^ e:Nat):Rat):=by
 have:D*2 ^ (e+1)=2*(D*2 ^ e):=by rw [nXt,←Nat.mul_assoc,nYc]
 rw [this,Rat.natCast_mul];rfl
theorem Dy.up{D R e:Nat}{x:Rat}(h:Dy D R e x):Dy D R (e+1) x:=by
 obtain ⟨z,h1,h2⟩:=h;refine ⟨z*2,?_,?_⟩
 ·rw [vU,Rat.intCast_mul,←h1];show _=_*(2:Rat);grind
 ·rw [Int.natAbs_mul,nXt,←Nat.mul_assoc,←Nat.mul_assoc];rw [←Nat.mul_assoc] at h2;exact nXg 2 h2
theorem Dy.mid{D R e:Nat}{a b:Rat}(h:Dy D R e a)(k:Dy D R e b):Dy D R (e+1) (md6 a b):=by
 obtain ⟨z,h1,h2⟩:=h;obtain ⟨y,k1,k2⟩:=k;refine ⟨z+y,?_,?_⟩
 ·rw [vU,Rat.intCast_add,←h1,←k1];have hh:=zk;unfold md6;generalize ((1:Int):Rat) / ((2:Int):Rat)=c at *
  grind
 ·have:=Int.natAbs_add_le z y;have e2:R*(D*2 ^ (e+1))=R*(D*2 ^ e)*2:=by rw [nXt,←Nat.mul_assoc,←Nat.mul_assoc,←Nat.mul_assoc]
  omega
theorem yS(m:Nat):2 ^ (32*m)=W32 ^ m:=by rw [Nat.pow_mul];rfl
theorem Dy.sz{D T m e:Nat}{x:Rat}(h:Dy D (W32 ^ T) e x)(hD:0<D)(hD2:D≤W32 ^ (2*T))(he:e≤32*m):Sz (3*T+m+1) x:=by
 obtain ⟨z,h1,h2⟩:=h;have h3:2 ^ e≤W32 ^ m:=by rw [←yS];exact nXo (by decide) he
 have h4:D*2 ^ e≤W32 ^ (2*T+m):=by rw [Nat.pow_add];exact nXw hD2 h3
 have h5:W32 ^ T*(D*2 ^ e)≤W32 ^ (3*T+m):=by rw [show 3*T+m=T+(2*T+m) by omega,Nat.pow_add];exact nXf _ h4
 have h6:W32 ^ (3*T+m)<W32 ^ (3*T+m+1):=Nat.pow_lt_pow_right (by decide) (by omega);have h7:W32 ^ (2*T+m)≤W32 ^ (3*T+m):=nXo au (by omega);exact (Fr.int (S:=3*T+m+1) (D:=D*2 ^ e) (z:=z) (by omega) h1).sz (by omega) (Nat.mul_pos hD (Nat.two_pow_pos e)) (by omega)
theorem Dy.bd{D R e:Nat}{x:Rat}(h:Dy D R e x)(hD:0<D):-((R:Nat):Rat)≤x∧x≤((R:Nat):Rat):=by
 obtain ⟨z,h1,h2⟩:=h;have hp:(0:Rat)<((D*2 ^ e:Nat):Rat):=by exact_mod_cast Nat.mul_pos hD (Nat.two_pow_pos e)
 have h3:z≤((R*(D*2 ^ e):Nat):Int):=by omega
 have h4:-((R*(D*2 ^ e):Nat):Int)≤z:=by omega
 have k3:=Rat.intCast_le_intCast.2 h3;have k4:=Rat.intCast_le_intCast.2 h4;rw [Rat.intCast_neg,Rat.intCast_natCast,Rat.natCast_mul,←h1] at k4;rw [Rat.intCast_natCast,Rat.natCast_mul,←h1] at k3;generalize ((D*2 ^ e:Nat):Rat)=P at *
 constructor
 ·refine Classical.byContradiction fun hn=>?_
  have:=eK (show x < -(R:Rat) by grind) hp;grind
 ·refine Classical.byContradiction fun hn=>?_
  have:=eK (show (R:Rat)<x by grind) hp;grind
theorem k8{T D:Nat}{x:Rat}(h:Sz T x)(hD:x.den ∣ D):Dy D (W32 ^ T) 0 x:=by
 obtain ⟨k,rfl⟩:=hD;refine ⟨x.num*(k:Int),?_,?_⟩
 ·rw [Nat.pow_zero,Nat.mul_one,Rat.natCast_mul,←nYb,low x,Rat.intCast_mul,Rat.intCast_natCast]
 ·rw [Int.natAbs_mul,nYf,Nat.pow_zero,Nat.mul_one];have h1:=h.1;have h2:k≤x.den*k:=Nat.le_mul_of_pos_left _ x.den_pos;exact nXw (nYj h1) h2
theorem Ai{q:List Rat}{wd:Rat}{D R:Nat}{P:Rat→Prop}{E:Nat}(hP:∀ e x,e≤E→Dy D R e x→P x):∀ (d:Nat) {e:Nat} {lo hi:Rat},d+e=E→Dy D R e lo→Dy D R e hi→∀ y ∈ spV q wd d lo hi,P y:=by
 intro d;induction d with
 | zero =>
  intro e lo hi he h1 h2 y hy;unfold spV at hy;split at hy
  ·simp at hy
  ·simp only [List.mem_cons,List.not_mem_nil,or_false] at hy;rcases hy with rfl|rfl
   ·exact hP e _ (by omega) h1
   ·exact hP e _ (by omega) h2
 | succ d ih =>
  intro e lo hi he h1 h2 y hy;unfold spV at hy;split at hy
  ·simp at hy
  ·split at hy
   ·simp only [List.mem_cons,List.not_mem_nil,or_false] at hy;rcases hy with rfl|rfl
    ·exact hP e _ (by omega) h1
    ·exact hP e _ (by omega) h2
   ·rcases List.mem_append.1 hy with k|k
    ·exact ih (by omega) h1.up (h1.mid h2) y k
    ·exact ih (by omega) (h1.mid h2) h2.up y k
structure Sp6 (q:List Rat) (wd:Rat) (D T m Y:Nat):Prop where
 ne:tz q≠[]
 cp:Cp (evV q) (evD q)
 dp:0<D
 dl:D≤W32 ^ (2*T)
 sep:∀ lo hi:Rat,-((W32 ^ T:Nat):Rat)≤lo→lo<hi→hi≤((W32 ^ T:Nat):Rat)→(hi-lo)*((W32 ^ Y:Nat):Rat)≤1→v6 q lo≤v6 q hi+1∧(evV q lo=0→v6 q lo=v6 q hi)
 wd:1≤wd*((W32 ^ Y:Nat):Rat)
theorem Sp6.base{q:List Rat}{wd lo hi:Rat}{D T m Y e:Nat}(h:Sp6 q wd D T m Y)(h1:Dy D (W32 ^ T) e lo)(h2:Dy D (W32 ^ T) e hi)(hlh:lo≤hi)(hd:(hi-lo)*((W32 ^ Y:Nat):Rat)≤1):v6 q lo=v6 q hi∨(v6 q lo=v6 q hi+1∧hi-lo≤wd∧evV q lo≠0):=by
 rcases Rat.le_iff_lt_or_eq.1 hlh with h3|h3
 ·obtain ⟨k1,k2⟩:=h.sep lo hi (h1.bd h.dp).1 h3 (h2.bd h.dp).2 hd;have k3:=fU h.ne h.cp hlh;by_cases h4:v6 q lo=v6 q hi
  ·exact Or.inl h4
  ·refine Or.inr ⟨by omega,?_,fun h0=>h4 (k2 h0)⟩;have hY:(0:Rat)<((W32 ^ Y:Nat):Rat):=by exact_mod_cast nYk au
   have h5:=h.wd;refine Classical.byContradiction fun hn=>?_
   have:=eK (show wd<hi-lo by grind) hY;grind
 ·exact Or.inl (by rw [h3])
theorem Sp6.half{lo hi:Rat}{Y d:Nat}(hlh:lo≤hi)(hd:(hi-lo)*((W32 ^ Y:Nat):Rat)≤((2 ^ (d+1):Nat):Rat)):(md6 lo hi-lo)*((W32 ^ Y:Nat):Rat)≤((2 ^ d:Nat):Rat)∧(hi-md6 lo hi)*((W32 ^ Y:Nat):Rat)≤((2 ^ d:Nat):Rat):=by
 obtain ⟨-,-,h1,h2⟩:=oD hlh;rw [nXt,Rat.natCast_mul] at hd;have e:((2:Nat):Rat)=2:=rfl;rw [e] at hd;generalize ((W32 ^ Y:Nat):Rat)=W at *
 generalize ((2 ^ d:Nat):Rat)=P at *
 have k1:(md6 lo hi-lo)*W*2=(hi-lo)*W:=by rw [←h1];grind
 have k2:(hi-md6 lo hi)*W*2=(hi-lo)*W:=by rw [←h2];grind
 exact ⟨by grind,by grind⟩
def prp:List Rat→List (Rat×Rat)
 | a :: b :: l=>(a,b) :: prp l
 | _=>[]
def ok6(p:List Rat)(hi:Rat)(x:Rat×Rat):Bool:=!((decide (x.2<hi) && decide (ib (p.length+1) p x.2<0)) || decide (sg (evV p x.1)<0))
def yU(p:List Rat)(lo hi:Rat)(L:List Rat):Bool:=if p=[] then true else if sg (evV p lo)<0∨sg (evV p hi)<0 then false else if lo=hi then true else if ib (p.length+1) p lo<0 then false else (prp L).all (ok6 p hi)
theorem rh:∀ (L:List Rat) {x:Rat×Rat},x ∈ prp L→x.1 ∈ L∧x.2 ∈ L
 | [],_,h=>by simp [prp] at h
 | [_],_,h=>by simp [prp] at h
 | a :: b :: l,x,h=>by
  unfold prp at h;rcases List.mem_cons.1 h with rfl|h
  ·exact ⟨List.mem_cons_self,List.mem_cons_of_mem _ List.mem_cons_self⟩
  ·have:=rh l h;exact ⟨List.mem_cons_of_mem _ (List.mem_cons_of_mem _ this.1),List.mem_cons_of_mem _ (List.mem_cons_of_mem _ this.2)⟩
theorem uf{p:List Rat}{lo hi:Rat}{L:List Rat}(hp:tz p=p)(hlh:lo≤hi)(h:∀ x,lo≤x→x≤hi→0≤evV p x)(hL:∀ y ∈ L,lo≤y∧y≤hi):yU p lo hi L=true:=by
 have hs:∀ x,lo≤x→x≤hi→¬ sg (evV p x)<0:=fun x h1 h2 h3=>by
  have h4:=h x h1 h2;rcases bG (evV p x) with ⟨a,b⟩|⟨a,b⟩|⟨a,b⟩
  ·grind
  ·rw [b] at h3;exact absurd h3 (by decide)
  ·rw [b] at h3;exact absurd h3 (by decide)
 unfold yU;by_cases h0:p=[]
 ·rw [if_pos h0]
 ·have hf:∀ x,lo≤x→x<hi→¬ ib (p.length+1) p x<0:=fun x h1 h2 h3=>by
   obtain ⟨s,k1,k2,k3⟩:=yM (by rw [hp];exact h0) (by rw [hp];omega) h3 h2;have:=h s (by grind) (by grind);grind
  rw [if_neg h0,if_neg (fun k=>k.elim (hs lo Rat.le_refl hlh) (hs hi hlh Rat.le_refl))];by_cases h1:lo=hi
  ·rw [if_pos h1]
  ·rw [if_neg h1,if_neg (hf lo Rat.le_refl (by grind)),List.all_eq_true];intro x hx;obtain ⟨m1,m2⟩:=rh L hx;obtain ⟨a1,a2⟩:=hL _ m1;obtain ⟨b1,b2⟩:=hL _ m2;unfold ok6;rw [decide_eq_false (hs x.1 a1 a2),Bool.or_false];by_cases h2:x.2<hi
   ·rw [decide_eq_false (hf x.2 b1 h2),Bool.and_false];rfl
   ·rw [decide_eq_false h2,Bool.false_and];rfl
end Go.Proofs.YtafgmcimcbhhjaaGreat.Sg
/- A list of intervals of one's own that grows: an interval is two numbers of three cells. -/
namespace Go.Proofs.YtafgmcimcbhhjaaGreat
open Go.RowKit Go.Front Go.Num
theorem zi:(Tryz.prog.info? 38).map (fun i=>(i.zero,i.size,i.bytes))=some (some (IvV (default,default)),6,112):=by kernel_rfl
def IBk(w:World)(L:Nat)(rs:List RH)(re:Array Value):Prop:=w.heap[L]?=some (.cells ((av rs).toArray++re) 38 (0,0))
theorem IBk.ext{w w':World}{L:Nat}{rs:List RH}{re:Array Value}(h:IBk w L rs re)(he:Ext w w'):IBk w' L rs re:=he.block h
instance {w w':World} {L:Nat} {rs:List RH} {re:Array Value}:Go.Front.Mv w w' (IBk w L rs re) (IBk w' L rs re):=⟨fun e h=>IBk.ext h e⟩

theorem IBk.lt{w:World}{L:Nat}{rs:List RH}{re:Array Value}(h:IBk w L rs re):L<w.heap.size:=(nXa.1 h).1
theorem IBk.noU{w:World}{L:Nat}{rs:List RH}{re:Array Value}(h:IBk w L rs re)(hre:re.toList.all gW=true):NoU w L :=
 ai h (by rw [Array.toList_append,List.all_append,hre,jk];rfl)
theorem IBk.cell{w:World}{L:Nat}{rs:List RH}{re:Array Value}(h:IBk w L rs re){k j:Nat}(hk:k<rs.length)(hj:j<3):w.cell? ⟨L,k*3+j,none⟩=(iJ (rs.getD k default))[j]?:=by
 rw [ab h,←fv rs hk hj,Array.getElem?_append_left (by rw [List.size_toArray,aH];omega),List.getElem?_toArray]
theorem IBk.at{w:World}{L:Nat}{rs:List RH}{re:Array Value}(h:IBk w L rs re){k:Nat}(hk:k<rs.length):RAt w L (k*3) (rs.getD k default) :=
 ⟨h.cell (j:=0) hk (by decide),h.cell (j:=1) hk (by decide),h.cell (j:=2) hk (by decide)⟩
theorem jZ(n:Nat):(Builtin.zeroCells (IvV (default,default)).cells n).toList.all gW=true:=by
 rw [List.all_eq_true];intro x hx;have h0:(IvV (default,default)).cells=#[.bool false,.slice none 0 0,.slice none 0 0,.bool false,.slice none 0 0,.slice none 0 0]:=by rfl
 rw [h0] at hx;simp [Builtin.zeroCells] at hx;obtain ⟨a,-,rfl⟩:=hx;have h7:a % 6=0∨a % 6=1∨a % 6=2∨a % 6=3∨a % 6=4∨a % 6=5:=by omega
 rcases h7 with h7|h7|h7|h7|h7|h7 <;> rw [h7] <;> rfl
def d8(w:World)(D:Nat→Prop)(v:Value)(n:Nat)(rs:List RH):Prop:=(v=.slice none 0 0∧rs=[]∧n=0)∨∃ L cap re,v=.slice (some ⟨L,0,none⟩) n cap∧D L∧IBk w L rs re∧rs.length=n*2∧n≤cap∧cap≤9223372036854775807∧rs.length*3+re.size=cap*6∧re.toList.all gW=true
theorem d8.nil(w:World)(D:Nat→Prop):d8 w D (.slice none 0 0) 0 []:=Or.inl ⟨rfl,rfl,rfl⟩
theorem d8.ext{w w':World}{D:Nat→Prop}{v:Value}{n:Nat}{rs:List RH}(h:d8 w D v n rs)(he:Ext w w'):d8 w' D v n rs :=
 h.imp id fun ⟨L,cap,re,h1,h2,h3,h4⟩=>⟨L,cap,re,h1,h2,h3.ext he,h4⟩
instance {w w':World} {D:Nat→Prop} {v:Value} {n:Nat} {rs:List RH}:Go.Front.Mv w w' (d8 w D v n rs) (d8 w' D v n rs):=⟨fun e h=>d8.ext h e⟩

theorem d8.mono{w:World}{D D':Nat→Prop}{v:Value}{n:Nat}{rs:List RH}(h:d8 w D v n rs)(hD:∀ k,k<w.heap.size→D k→D' k):d8 w D' v n rs :=
 h.imp id fun ⟨L,cap,re,h1,h2,h3,h4⟩=>⟨L,cap,re,h1,hD _ h3.lt h2,h3,h4⟩
theorem d8.len{w:World}{D:Nat→Prop}{v:Value}{n:Nat}{rs:List RH}(h:d8 w D v n rs):rs.length=n*2:=by
 rcases h with ⟨-,rfl,rfl⟩|⟨L,cap,re,-,-,-,h,-⟩
 ·rfl
 ·exact h
theorem gD(T ty:TypeId)(hT:Tryz.prog.underlying T=some (.slice 38))(w:World)(D:Nat→Prop)(v:Value)(n:Nat)(rs:List RH)(b off m c:Nat)(ns:List RH)(hown:d8 w D v n rs)
   (hm:ns.length=m*2)(h0:0<m)(hN:∀ k,k<m*2→RAt w b (off+k*3) (ns.getD k default))(hl:n≤536870912)(hlm:m≤536870912)(hD:∀ k,w.heap.size≤k→D k) :
    ∃ L cap w',(Builtin.append_ #[T,T] ty #[v,.slice (some ⟨b,off,none⟩) m c]).run Tryz.prog w=.ok (.slice (some ⟨L,0,none⟩) (n+m) cap) w'∧d8 w' D (.slice (some ⟨L,0,none⟩) (n+m) cap) (n+m) (rs++ns)∧aY D w w'∧eO w w':=by
  obtain ⟨i0,hi0,hz0,hz1,hz2⟩:=info_parts zi;have hnl:(av ns).length=m*i0.size:=by rw [aH,hz1,hm];omega
  have hcs:=lS (w:=w) (b:=b) (off:=off) hm hN;have hgc:∀ need old,need≤9223372036854775807→need≤grownCap w need old 38∧grownCap w need old 38≤9223372036854775807:=fun need old h=>⟨grownCap_ge _ _ _ _,by have:=grownCap_le_maxLen w need old 38 (by simpa [maxLen] using h);simpa [maxLen] using this⟩
  have hzs:(IvV (default,default)).cells.size=6:=by rfl
  rcases hown with ⟨rfl,rfl,rfl⟩|⟨L,cap,re,rfl,h1,h2,hlen,h3,h4,h5,h6⟩
  · have hr:=run_append_nil (P:=Tryz.prog) w T ty _ i0 _ hT hi0 hz0 ⟨b,off,none⟩ m c (av ns) hnl hcs h0 (by omega) (by rw [hz2];omega)
    obtain ⟨g1,g2⟩:=hgc m 0 (by omega);have he:Ext w (w.drew.alloc (.cells ((av ns).toArray++Builtin.zeroCells (IvV (default,default)).cells (grownCap w m 0 38-m)) 38)):=(Ext.drew w).trans (Ext.alloc _ _);rw [Nat.zero_add,List.nil_append];refine ⟨_,_,_,hr,Or.inr ⟨_,_,_,rfl,hD _ (nXd _),heap_alloc_new w.drew _,hm,g1,g2,?_,jZ _⟩,aY.of_ext he,eB he⟩;rw [size_zeroCells,hzs,hm];omega
  · by_cases hroom:n+m≤cap
    · have hcz:((av rs).toArray++re).size=cap*6:=by rw [Array.size_append,List.size_toArray,aH,h5]
      have hr:=run_append_room (P:=Tryz.prog) w T ty _ i0 hT hi0 L n cap _ h2 ⟨b,off,none⟩ m c (av ns) hnl hcs (j9 _) hroom (by rw [hcz,hz1,hnl,hz1];omega);have hnr:n*i0.size=(av rs).length:=by rw [aH,hz1,hlen];omega
      have e:(((av rs).toArray++re).toList.take (n*i0.size)++av ns++((av rs).toArray++re).toList.drop (n*i0.size+(av ns).length)).toArray=(av (rs++ns)).toArray++(re.toList.drop (av ns).length).toArray:=by
        rw [hnr,Array.toList_append,dz,List.take_left,←List.drop_drop,List.drop_left];apply Array.ext';simp
      rw [e] at hr;refine ⟨_,_,_,hr,Or.inr ⟨L,cap,_,rfl,h1,setRow_heap w L _ _ _ _ h2,by rw [nXh,hlen,hm];omega,hroom,h4,?_,?_⟩,⟨rfl,rfl,rfl,by simp,fun k hk hnd=>setRow_other w L k _ (fun e=>hnd (e ▸ h1))⟩,iR (h2.noU h6) fun k _ hk=>setRow_other w L k _ hk⟩
      · simp only [nXh,List.size_toArray,List.length_drop,Array.length_toList]
        rw [hnl,hz1,hlen,hm];rw [hlen] at h5;omega
      · rw [List.all_eq_true] at h6 ⊢
        intro x hx;exact h6 x (List.mem_of_mem_drop (by simpa using hx))
    · have hr := run_append_grow (P := Tryz.prog) w T ty _ i0 _ hT hi0 hz0 ⟨L, 0, none⟩ n cap (av rs) (by rw [aH, hz1, hlen]; omega) (fun j u hj => by
          have hlt:j<(av rs).length:=(List.getElem?_eq_some_iff.1 hj).1;rw [eo,ab h2,Array.getElem?_append_left (by rw [List.size_toArray];exact hlt),List.getElem?_toArray];exact hj) ⟨b,off,none⟩ m c (av ns) hnl hcs (by omega) (by omega) (growslice_fits (by omega) (by rw [hz2];omega))
      obtain ⟨g1,g2⟩:=hgc (n+m) cap (by omega);have he:Ext w (w.drew.alloc (.cells ((av rs).toArray++(av ns).toArray++Builtin.zeroCells (IvV (default,default)).cells (grownCap w (n+m) cap 38-(n+m))) 38)):=(Ext.drew w).trans (Ext.alloc _ _);refine ⟨_,_,_,hr,Or.inr ⟨w.heap.size,_,Builtin.zeroCells (IvV (default,default)).cells (grownCap w (n+m) cap 38-(n+m)),rfl,hD _ (nXd _),?_,by rw [nXh,hlen,hm];omega,g1,g2,?_,jZ _⟩,aY.of_ext he,eB he⟩
      · unfold IBk
        rw [dz];have e2:(av rs++av ns).toArray=(av rs).toArray++(av ns).toArray:=by simp
        rw [e2];exact heap_alloc_new w.drew _
      · rw [size_zeroCells,hzs,nXh,hlen,hm]
        omega
def eN(w:World)(D:Nat→Prop)(v:Value)(n:Nat)(qs:List Rat):Prop:=∃ rs,d8 w D v n rs∧dk aB w rs qs
theorem eN.nil(w:World)(D:Nat→Prop):eN w D (.slice none 0 0) 0 []:=⟨[],d8.nil _ _,dk.nil _ _⟩
theorem eN.ext{w w':World}{D:Nat→Prop}{v:Value}{n:Nat}{qs:List Rat}(h:eN w D v n qs)(he:Ext w w'):eN w' D v n qs:=let ⟨rs,h1,h2⟩:=h;⟨rs,h1.ext he,h2.can_ext he⟩
instance {w w':World} {D:Nat→Prop} {v:Value} {n:Nat} {qs:List Rat}:Go.Front.Mv w w' (eN w D v n qs) (eN w' D v n qs):=⟨fun e h=>eN.ext h e⟩

theorem eN.mono{w:World}{D D':Nat→Prop}{v:Value}{n:Nat}{qs:List Rat}(h:eN w D v n qs)(hD:∀ k,k<w.heap.size→D k→D' k):eN w D' v n qs:=let ⟨rs,h1,h2⟩:=h;⟨rs,h1.mono hD,h2⟩
theorem eN.len{w:World}{D:Nat→Prop}{v:Value}{n:Nat}{qs:List Rat}(h:eN w D v n qs):qs.length=n*2:=by
 obtain ⟨rs,h1,h2⟩:=h;rw [←h2.1,h1.len]
theorem dk.app{P:World→RH→Rat→Prop}{w:World}{rs ns:List RH}{qs ps:List Rat}(h:dk P w rs qs)(k:dk P w ns ps):dk P w (rs++ns) (qs++ps):=by
 refine ⟨by simp [h.1,k.1],fun i hi=>?_⟩;have h1:=h.1;by_cases hlt:i<qs.length
 ·rw [show (rs++ns).getD i default=rs.getD i default by rw [nXc,List.getElem?_append_left (by omega),←nXc],show (qs++ps).getD i 0=qs.getD i 0 by rw [nXc,List.getElem?_append_left hlt,←nXc]];exact h.2 i hlt
 ·rw [show (rs++ns).getD i default=ns.getD (i-qs.length) default by rw [nXc,List.getElem?_append_right (by omega),←nXc,h1],show (qs++ps).getD i 0=ps.getD (i-qs.length) 0 by rw [nXc,List.getElem?_append_right (by omega),←nXc]];exact k.2 _ (by rw [nXh] at hi;omega)
theorem i6{w:World}{ops:Array Oper}{rest:List Oper}{o:Oper}{a:Act}{Q:Exit→Act→World→Prop}(hgd:o.guard=none)(s x:Operand)(T:TypeId)(hT:Tryz.prog.underlying T=some (.slice 38))
 (ho:o.op=.call { callee:=.builtin .append,args:=#[s,x],argTypes:=#[T,T] })(D:Nat→Prop)(v:Value)(n:Nat)(qs:List Rat)(b off m c:Nat)(ns:List RH)(ps:List Rat)(hs:a.eval s=v)(hown:eN w D v n qs)
 (hx:a.eval x=.slice (some ⟨b,off,none⟩) m c)(hm:ns.length=m*2)(h0:0<m)(hN:∀ k,k<m*2→RAt w b (off+k*3) (ns.getD k default))(hr:dk aB w ns ps)(hl:n≤536870912)(hlm:m≤536870912)(hD:∀ k,w.heap.size≤k→D k)
 (h:∀ (s':SH) w',eN w' D s'.v (n+m) (qs++ps)→aY D w w'→eO w w'→wpList Tryz.prog ops Q rest (a.put o.dst s'.v) w'):wpList Tryz.prog ops Q (o :: rest) a w:=by
 obtain ⟨rs,h1,h2⟩:=hown;refine wpList_plain hgd fun K hK=>?_
 obtain ⟨L,cap,w',hrun,g1,g2,g3⟩:=gD T o.type hT w D v n rs b off m c ns h1 hm h0 hN hl hlm hD;unfold Oper.wp;simp [execOp,ho,resolve,invoke,builtin,hs,hx,hrun,Result.andThen];exact hK _ _ (h ⟨some ⟨L,0,none⟩,n+m,cap⟩ w' ⟨_,g1,(h2.app hr).keep g3⟩ g2 g3)
end Go.Proofs.YtafgmcimcbhhjaaGreat
/- Lists of intervals in memory. -/
namespace Go.Proofs.YtafgmcimcbhhjaaGreat
open Go.RowKit Go.Front Go.Num Stab
attribute [local go_sem] XW.cell XW.frozen
structure IvS (w:World) (s:SH) (rs:List RH):Prop where
 len:rs.length=s.n*2
 le:s.n≤s.c
 max:s.c≤9223372036854775807
 at':s.n=0∨∃ b off,s.a=some ⟨b,off,none⟩∧∀ k,k<s.n*2→RAt w b (off+k*3) (rs.getD k default)
theorem IvS.ext{w w':World}{s:SH}{rs:List RH}(h:IvS w s rs)(he:Ext w w'):IvS w' s rs :=
 ⟨h.len,h.le,h.max,h.at'.imp id fun ⟨b,off,h1,h2⟩=>⟨b,off,h1,fun k hk=>(h2 k hk).ext he⟩⟩
instance {w w':World} {s:SH} {rs:List RH}:Go.Front.Mv w w' (IvS w s rs) (IvS w' s rs):=⟨fun e h=>IvS.ext h e⟩

theorem IvS.nil(w:World):IvS w ⟨none,0,0⟩ []:=⟨rfl,nXd _,by decide,Or.inl rfl⟩
def vk(w:World)(s:SH)(qs:List Rat):Prop:=∃ rs,IvS w s rs∧dk aX w rs qs
def iL(w:World)(s:SH)(qs:List Rat):Prop:=∃ rs,IvS w s rs∧dk aB w rs qs
theorem iL.ext{w w':World}{s:SH}{qs:List Rat}(h:iL w s qs)(he:Ext w w'):iL w' s qs:=let ⟨rs,h1,h2⟩:=h;⟨rs,h1.ext he,h2.can_ext he⟩
instance {w w':World} {s:SH} {qs:List Rat}:Go.Front.Mv w w' (iL w s qs) (iL w' s qs):=⟨fun e h=>iL.ext h e⟩

theorem vk.len{w:World}{s:SH}{qs:List Rat}(h:vk w s qs):qs.length=s.n*2:=let ⟨_,h1,h2⟩:=h;h2.1.symm.trans h1.len
theorem iL.len{w:World}{s:SH}{qs:List Rat}(h:iL w s qs):qs.length=s.n*2:=let ⟨_,h1,h2⟩:=h;h2.1.symm.trans h1.len
theorem eN.can{w:World}{D:Nat→Prop}{s:SH}{n:Nat}{qs:List Rat}(h:eN w D s.v n qs):s.n=n∧iL w s qs:=by
 obtain ⟨rs,h1,h2⟩:=h;rcases h1 with ⟨e,rfl,rfl⟩|⟨L,cap,re,e,h3,h4,h5,h6,h7,h8⟩
 ·obtain ⟨a,m,c⟩:=s;simp only [SH.v,Value.slice.injEq] at e;obtain ⟨rfl,rfl,rfl⟩:=e;exact ⟨rfl,[],IvS.nil _,h2⟩
 ·obtain ⟨a,m,c⟩:=s;simp only [SH.v,Value.slice.injEq] at e;obtain ⟨rfl,rfl,rfl⟩:=e;exact ⟨rfl,rs,⟨h5,h6,h7,Or.inr ⟨L,0,rfl,fun k hk=>by rw [Nat.zero_add];exact h4.at (by rw [h5];exact hk)⟩⟩,h2⟩
def IAt(w:World)(b o:Nat)(r t:RH):Prop:=w.cell? ⟨b,o,none⟩=some (.bool r.neg)∧w.cell? ⟨b,o+1,none⟩=some (.slice r.a r.n r.c)∧w.cell? ⟨b,o+2,none⟩=some (.slice r.b r.m r.d) ∧
 w.cell? ⟨b,o+3,none⟩=some (.bool t.neg)∧w.cell? ⟨b,o+4,none⟩=some (.slice t.a t.n t.c)∧w.cell? ⟨b,o+5,none⟩=some (.slice t.b t.m t.d)
theorem vk.at{w:World}{ao:Option Addr}{n c:Nat}{qs:List Rat}(h:vk w ⟨ao,n,c⟩ qs){k:Nat}(hk:k<n) :
  ∃ b off r t,ao=some ⟨b,off,none⟩∧b<w.heap.size∧IAt w b (off+k*6) r t∧aX w r (qs.getD (2*k) 0)∧aX w t (qs.getD (2*k+1) 0):=by
 have hl:=h.len;obtain ⟨rs,h1,h2⟩:=h;rcases h1.at' with h0|⟨b,off,h3,h4⟩
 ·simp only at h0;omega
 ·simp only at h3 h4 hl;have g1:=h4 (2*k) (by omega);have g2:=h4 (2*k+1) (by omega);rw [show off+2*k*3=off+k*6 by omega] at g1;rw [show off+(2*k+1)*3=off+k*6+3 by omega] at g2;exact ⟨b,off,_,_,h3,nXp _ _ g1.1,⟨g1.1,g1.2.1,g1.2.2,g2.1,g2.2.1,g2.2.2⟩,h2.2 (2*k) (by omega),h2.2 (2*k+1) (by omega)⟩
theorem iL.at{w:World}{ao:Option Addr}{n c:Nat}{qs:List Rat}(h:iL w ⟨ao,n,c⟩ qs){k:Nat}(hk:k<n) :
  ∃ b off r t,ao=some ⟨b,off,none⟩∧b<w.heap.size∧IAt w b (off+k*6) r t∧aB w r (qs.getD (2*k) 0)∧aB w t (qs.getD (2*k+1) 0):=by
 have hl:=h.len;obtain ⟨rs,h1,h2⟩:=h;rcases h1.at' with h0|⟨b,off,h3,h4⟩
 ·simp only at h0;omega
 ·simp only at h3 h4 hl;have g1:=h4 (2*k) (by omega);have g2:=h4 (2*k+1) (by omega);rw [show off+2*k*3=off+k*6 by omega] at g1;rw [show off+(2*k+1)*3=off+k*6+3 by omega] at g2;exact ⟨b,off,_,_,h3,nXp _ _ g1.1,⟨g1.1,g1.2.1,g1.2.2,g2.1,g2.2.1,g2.2.2⟩,h2.2 (2*k) (by omega),h2.2 (2*k+1) (by omega)⟩
theorem eN.block{w:World}{N:Nat}{x y:RH}{a b:Rat}{D:Nat→Prop}(h:w.heap[N]?=some (.cells #[.bool x.neg,.slice x.a x.n x.c,.slice x.b x.m x.d,.bool y.neg,.slice y.a y.n y.c,.slice y.b y.m y.d] 38 (0,0)))(hx:aB w x a)(hy:aB w y b)(hD:D N):eN w D (.slice (some ⟨N,0,none⟩) 1 1) 1 [a,b]:=by
 have hb:IBk w N [x,y] #[]:=by
  unfold IBk;rw [h];rfl
 refine ⟨[x,y],Or.inr ⟨N,1,#[],rfl,hD,hb,rfl,nXd _,by decide,rfl,rfl⟩,rfl,fun k hk=>?_⟩;have hk:k<2:=hk;have:k=0∨k=1:=by omega
 rcases this with rfl|rfl
 ·exact hx
 ·exact hy
theorem d8.shp{w:World}{D:Nat→Prop}{v:Value}{n:Nat}{rs:List RH}(h:d8 w D v n rs):∃ a c,v=.slice a n c∧n≤c:=by
 rcases h with ⟨rfl,-,rfl⟩|⟨L,cap,re,rfl,-,-,-,h,-⟩
 ·exact ⟨none,0,rfl,nXd _⟩
 ·exact ⟨_,_,rfl,h⟩
theorem jS(T ty:TypeId)(hT:Tryz.prog.underlying T=some (.slice 38))(w:World)(D:Nat→Prop)(v:Value)(n:Nat)(rs:List RH)(x:SH)(ns:List RH)(hown:d8 w D v n rs)(hx:IvS w x ns)(hl:n≤536870912)(hlm:x.n≤536870912)(hD:∀ k,w.heap.size≤k→D k) :
  ∃ s' w',(Builtin.append_ #[T,T] ty #[v,x.v]).run Tryz.prog w=.ok (SH.v s') w'∧d8 w' D s'.v (n+x.n) (rs++ns)∧aY D w w'∧eO w w':=by
 obtain ⟨xa,m,c⟩:=x;have hm:=hx.len;simp only at hm hlm;rcases Nat.eq_zero_or_pos m with h0|h0
 ·subst h0;obtain ⟨i0,hi0,hz0,hz1,hz2⟩:=info_parts zi;obtain ⟨a,cc,rfl,hac⟩:=hown.shp;have hns:ns=[]:=nXi.1 (by omega);subst hns;refine ⟨⟨a,n,cc⟩,w,fb hT hi0 a xa n cc c hac,?_,aY.refl _ _,eO.refl _⟩;rw [List.append_nil];exact hown
 ·rcases hx.at' with h1|⟨b,off,h1,h2⟩
  ·simp only at h1;omega
  ·simp only at h1 h2;subst h1;obtain ⟨L,cap,w',hr,g1,g2,g3⟩:=gD T ty hT w D v n rs b off m c ns hown hm h0 h2 hl hlm hD;exact ⟨⟨some ⟨L,0,none⟩,n+m,cap⟩,w',hr,g1,g2,g3⟩
theorem eH{w:World}{ops:Array Oper}{rest:List Oper}{o:Oper}{a:Act}{Q:Exit→Act→World→Prop}(hgd:o.guard=none)(s x:Operand)(T:TypeId)(hT:Tryz.prog.underlying T=some (.slice 38))
 (ho:o.op=.call { callee:=.builtin .append,args:=#[s,x],argTypes:=#[T,T] })(D:Nat→Prop)(v:Value)(n:Nat)(qs:List Rat)(y:SH)(ps:List Rat)(hs:a.eval s=v)(hown:eN w D v n qs)
 (hx:a.eval x=y.v)(hy:iL w y ps)(hl:n≤536870912)(hlm:y.n≤536870912)(hD:∀ k,w.heap.size≤k→D k)
 (h:∀ (s':SH) w',eN w' D s'.v (n+y.n) (qs++ps)→aY D w w'→eO w w'→wpList Tryz.prog ops Q rest (a.put o.dst s'.v) w'):wpList Tryz.prog ops Q (o :: rest) a w:=by
 obtain ⟨rs,h1,h2⟩:=hown;obtain ⟨ns,h3,h4⟩:=hy;refine wpList_plain hgd fun K hK=>?_
 obtain ⟨s',w',hrun,g1,g2,g3⟩:=jS T o.type hT w D v n rs y ns h1 h3 hl hlm hD;unfold Oper.wp;simp [execOp,ho,resolve,invoke,builtin,hs,hx,hrun,Result.andThen];exact hK _ _ (h s' w' ⟨_,g1,(h2.app h4).keep g3⟩ g2 g3)
end Go.Proofs.YtafgmcimcbhhjaaGreat
