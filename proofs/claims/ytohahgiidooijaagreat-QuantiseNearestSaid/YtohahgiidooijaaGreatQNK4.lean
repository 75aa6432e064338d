/- try, pairs of package quantise (from seat r1). -/
import Derived.Test.YtohahgiidooijaaGreatQNK2
import Derived.Laws.EntriesVeiled
set_option linter.unusedVariables false
set_option maxHeartbeats 2000000
set_option maxRecDepth 8000
namespace Go.Proofs.YtohahgiidooijaaGreat
open Go.RowKit Go.Front
attribute [local go_sem] XW.cell XW.frozen
def az(x:Wd)(xs:List Int):Bool:=xs.all x.fits
theorem kw{x:Wd}{xs:List Int}(h:∀ m,m<xs.length→x.fits (xs.getD m 0)=true):az x xs=true:=by
 simp only [az,List.all_eq_true];intro v hv;obtain ⟨m,hm,rfl⟩:=List.getElem_of_mem hv;have:=h m hm;simpa [hm] using this
theorem kx{x:Wd}{xs:List Int}{m:Nat}(hm:m<xs.length)(h:(!x.fits xs[m])=true):az x xs=false:=by
 simp only [az,List.all_eq_false];exact ⟨xs[m],List.getElem_mem hm,by simpa using h⟩
abbrev jR(x:Wd)(most:Int)(fv:Value)(t:Int)(fd:Bool):Array Value:=#[.int .i64 x.b,.int .i64 x.f,.int .i64 x.r,.int .i64 x.o,.int .i64 most,fv,.int .i64 t,.bool fd]
abbrev n7(Kb:Nat):Value:=.func (.func 97) #[] #[.pointer (some ⟨Kb,0,none⟩)]
def SB(w:World)(B Kb:Nat)(x:Wd)(most t:Int)(fd:Bool):Prop:=w.heap[B]?=some (.cells (jR x most (n7 Kb) t fd) 125 (0,0))
def ir(x:Wd)(most k t:Int)(fd:Bool)(B Kb:Nat)(xs:List Int)(w:World)(e:Ending)(w':World):Prop :=
 e=.returned (.bool (az x xs && t == k))∧aD (·=B) w w'∧SB w' B Kb x most (if az x xs then t+1 else t) (if az x xs then t == k else fd)
theorem m0{x:Wd}{most k t:Int}{fd:Bool}{B Kb:Nat}{xs:List Int}{w w':World}(h:az x xs=false)(hB:SB w B Kb x most t fd)(he:Ext w w') :
  ir x most k t fd B Kb xs w (.returned (.bool false)) w':=by
 refine ⟨by rw [h];rfl,aD.of_ext he,?_⟩;rw [h];exact he.block hB
theorem mZ{x:Wd}{most k t:Int}{fd:Bool}{B Kb:Nat}{xs:List Int}{w w':World}(h:az x xs=true)(hB:SB w B Kb x most t fd)(he:Ext w w') :
  ir x most k t fd B Kb xs w (.returned (.bool (t == k))) ((w'.setCell ⟨B,7,none⟩ (.bool (t == k))).setCell ⟨B,6,none⟩ (.int .i64 (t+1))):=by
 refine ⟨by rw [h];rfl,((aD.of_ext he).trans (aD.setCell _ ⟨B,7,none⟩ _)).trans (aD.setCell _ ⟨B,6,none⟩ _),?_⟩;rw [h];exact aJ (aJ (he.block hB) 7 _) 6 _
theorem na(v:Value)(n k:Int)(Kb:Nat)(w:World)(hK:w.cell? ⟨Kb,0,none⟩=some (.int .i64 k)) :
  Calls Tryz.prog 97 #[v,.int .i64 n,.pointer (some ⟨Kb,0,none⟩)] w fun e w'=>e=.returned (.bool (n == k))∧w=w':=by
 go_enter Tryz.func97,Tryz.ntmps97;go_wp2
 all_goals go_ret
 all_goals exact ⟨rfl,rfl⟩
theorem mj(x:Wd)(most k t:Int)(fd:Bool)(B Kb:Nat)(ao:Option Addr)(cap:Nat)(xs:List Int)(w:World)
 (hB:SB w B Kb x most t fd)
 (hK:w.cell? ⟨Kb,0,none⟩=some (.int .i64 k))(hl:aA w ao xs)(hlen:xs.length≤100)(ht:0≤t)(ht2:t<1000000)(hm:t<most) :
  Calls Tryz.prog 162 #[.pointer (some ⟨B,0,none⟩),.slice ao xs.length cap] w (ir x most k t fd B Kb xs w):=by
 have c0:=ab hB 0;have c1:=ab hB 1;have c2:=ab hB 2;have c3:=ab hB 3;have c4:=ab hB 4;have c5:=ab hB 5;have c6:=ab hB 6;have c7:=ab hB 7;have z6:=ae hB 6;have z7:=ae hB 7;simp only [jR,List.getElem?_toArray,List.getElem?_cons_zero,List.getElem?_cons_succ] at c0 c1 c2 c3 c4 c5 c6 c7;have hBs:B<w.heap.size:=(nXa.1 hB).1;have HB:=Hi hB;clear hB;have HK:=Hi hK;clear hK;have HL:=Hi hl;clear hl;go_enter Tryz.func162,Tryz.ntmps162;go_wp2
 go_loopw [9] (fun i wr=>∃ j:Nat,j≤xs.length∧i=.int .i64 j∧Ext w wr∧∀ m,m<j→x.fits (xs.getD m 0)=true) (fun i _=>xs.length-(intOf i).toNat)
 case atStart=>exact ⟨0,Nat.zero_le _,rfl,Ext.refl _,fun m hm=>by omega⟩
 case round =>
  obtain ⟨j,hj,rfl,hext,hfit⟩:=hrel;obtain ⟨hcE,hfE⟩:=ah hext;have Hfit:=Hi hfit;clear hfit;by_cases hlt:j<xs.length
  ·obtain ⟨b,off,hao,hc⟩:=HL.out.at hlt;subst hao;have hcj:=hext.cell hc;clear hc
   go_wp2_with (go_at_call 105;refine (fY _ _ _).mono ?_;rintro e w1 ⟨rfl,hb1⟩)
   ·go_ret
    exact m0 (kx hlt (by assumption)) HB.out (hext.trans hb1)
   ·go_roundw
    case rel =>
     refine ⟨j+1,by omega,by go_num,hext.trans hb1,fun m hm=>?_⟩;rcases Nat.lt_or_ge m j with h|h
     ·exact Hfit.out m h
     ·obtain rfl:m=j:=by omega
      have:(!x.fits xs[m])=false:=by assumption
      simpa [hlt] using this
    case measure=>simp [intOf];omega
  ·have hfa:az x xs=true:=kw (fun m hm=>Hfit.out m (by omega));have Hfa:=Hi hfa;clear hfa;have hne:((t:Int) == most)=false:=by simp;omega
   have hBr:B<wr.heap.size:=by have:=hext.size;omega
   have HKr:=Hi (hext.cell HK.out);go_wp2
   go_quiet (fail)
   go_wp2;refine ag 11 (fun i=>match i with
    | 10=>.spec Unit () (fun _=>.bool (t == k)) (fun _ _=>True)
    | _=>.quiet) (fun _=>[]) (by kernel_rfl) (by kernel_rfl) (fun w0 he0 hz0 hc0 hf0=>?_)
   simp only [pT]
   repeat (first
    | (refine fW rfl rfl rfl rfl ?_;simp only [pS])
    | (refine wpq fun K h=>?_;go_big_quiet_op;refine h _ ?_;clear h K))
   refine au rfl rfl (fun w1 hw1 _=>?_) (fun _=>?_)
   ·refine iZ #[.pointer (some ⟨Kb,0,none⟩)] [_,.int .i64 t,.pointer (some ⟨Kb,0,none⟩)] rfl rfl rfl Tryz.func97 (by kernel_rfl) (by kernel_rfl) ?_;refine (na _ t k Kb _ ?_).mono ?_
    ·exact hw1.cell (he0.cell (by simpa using HKr.out))
    rintro e w' ⟨rfl,rfl⟩;exact ⟨(),rfl,Ext.refl _,trivial⟩
   simp only [pS];refine am ?_;intro w' hI;have hall:Ext w w':=((hext.trans (Ext.drewN _ _)).trans he0).trans hI.ext;clear hI;have hB':=hall.block HB.out;have d6:=ab hB' 6;have d7:=ab hB' 7;have y6:=ae hB' 6;have y7:=ae hB' 7;simp only [jR,List.getElem?_toArray,List.getElem?_cons_zero,List.getElem?_cons_succ] at d6 d7;have Hall:=Hi hall;clear hB' hc0 hf0 hz0 he0 hcE hfE hext hall;simp only [pD];go_wp2
   go_ret
   exact mZ Hfa.out HB.out Hall.out
def cG(x:Wd)(k:Int):List (List Int)→Int→Int×Option (List Int)
 | [],t=>(t,none)
 | c :: cs,t=>if az x c=true then (if (t == k)=true then (t+1,some c) else cG x k cs (t+1)) else cG x k cs t
theorem mn{x:Wd}{k t:Int}{c:List Int}{cs:List (List Int)}(h:az x c=false):cG x k (c :: cs) t=cG x k cs t:=by
 rw [cG,if_neg (by rw [h];exact Bool.false_ne_true)]
theorem mo{x:Wd}{k t:Int}{c:List Int}{cs:List (List Int)}(h:az x c=true)(h2:(t == k)=false):cG x k (c :: cs) t=cG x k cs (t+1):=by
 rw [cG,if_pos h,if_neg (by rw [h2];exact Bool.false_ne_true)]
theorem lk{x:Wd}{k t:Int}{c:List Int}{cs:List (List Int)}(h:az x c=true)(h2:(t == k)=true):cG x k (c :: cs) t=(t+1,some c):=by
 rw [cG,if_pos h,if_pos h2]
def nxt(x:Wd)(c:List Int)(t:Int):Int:=if az x c then t+1 else t
theorem jH{x:Wd}{k t:Int}{c:List Int}{cs:List (List Int)}(h:(az x c && t == k)=false):cG x k (c :: cs) t=cG x k cs (nxt x c t):=by
 unfold nxt;cases hf:az x c with
 | false=>rw [mn hf];rfl
 | true=>rw [hf] at h;rw [mo hf (by simpa using h)];rfl
theorem lX(x:Wd)(c:List Int)(t:Int):t≤nxt x c t∧nxt x c t≤t+1:=by unfold nxt;split <;> omega

def Out(r:Int×Option (List Int))(t':Int)(fd':Bool)(ls':List Int):Prop:=t'=r.1∧match r.2 with|none=>fd'=false|some c=>fd'=true∧ls'=c

def chg(base:List Int)(i:Nat)(d:Int):List Int:=base.set i (wrap64 (base.getD i 0+d))
def la(base:List Int)(i j c:Nat):List Int:=(base.set i (wrap64 (wrap64 (base.getD i 0+1)-2*(c / 2:Nat)))).set j (wrap64 (wrap64 (base.getD j 0+1)-2*(c % 2:Nat)))
def lw(base:List Int)(i j:Nat):Nat→Nat→List (List Int)
 | 0,_=>[]
 | f+1,c=>la base i j c :: lw base i j f (c+1)
def cg(base:List Int)(i:Nat):Nat→Nat→List (List Int)
 | 0,_=>[]
 | f+1,j=>lw base i j 4 0++cg base i f (j+1)
def bg(base:List Int):Nat→Nat→List (List Int)
 | 0,_=>[]
 | f+1,i=>cg base i (base.length-(i+1)) (i+1)++bg base f (i+1)
def cd(base:List Int):Nat→Nat→List (List Int)
 | 0,_=>[]
 | f+1,i=>chg base i 1 :: chg base i (-1) :: cd base f (i+1)
def cz(base:List Int):List (List Int):=base :: (cd base base.length 0++bg base base.length 0)
theorem fr(base:List Int)(i j:Nat):∀ f c,(lw base i j f c).length=f
 | 0,_=>rfl
 | f+1,c=>by simp [lw,fr base i j f]
theorem eR(base:List Int)(i:Nat):∀ f j,(cg base i f j).length=4*f
 | 0,_=>rfl
 | f+1,j=>by simp [cg,eR base i f,fr];omega
theorem eT(base:List Int)(M:Nat)(hM:base.length≤M):∀ f i,(bg base f i).length≤4*M*f
 | 0,_=>by simp [bg]
 | f+1,i=>by
  have:=eT base M hM f (i+1);simp only [bg,nXh,eR];have:4*M*(f+1)=4*M*f+4*M:=by rw [Nat.mul_add,Nat.mul_one]
  omega
theorem cH(base:List Int):∀ f i,(cd base f i).length=2*f
 | 0,_=>rfl
 | f+1,i=>by simp [cd,cH base f];omega
theorem iD{base:List Int}(h:base.length≤49):(bg base base.length 0).length≤9604:=by
 have:=eT base 49 h base.length 0;omega

def LB(w:World)(L:Nat)(ls:List Int)(rest:Array Value):Prop:=w.heap[L]?=some (.cells ((ls.map (Value.int .i64)).toArray++rest) 3 (0,0))
theorem LB.ints{w:World}{L:Nat}{ls:List Int}{rest:Array Value}(h:LB w L ls rest):aA w (some ⟨L,0,none⟩) ls:=by
 refine Or.inr ⟨L,0,rfl,fun k hk=>?_⟩;rw [ab h,Nat.zero_add];have hk':k<(ls.map (Value.int .i64)).length:=by simpa using hk
 rw [Array.getElem?_append_left (by simpa using hk)];simp [hk]
theorem LB.cell{w:World}{L:Nat}{ls:List Int}{rest:Array Value}(h:LB w L ls rest){k:Nat}(hk:k<ls.length):w.cell? ⟨L,k,none⟩=some (.int .i64 (ls.getD k 0)):=by
 rcases h.ints with h|⟨b,off,h1,h2⟩
 ·subst h;simp at hk
 ·obtain ⟨rfl,rfl⟩:L=b∧0=off:=by simpa using h1
  simpa using h2 k hk
theorem LB.set{w:World}{L:Nat}{ls:List Int}{rest:Array Value}(h:LB w L ls rest){k:Nat}(hk:k<ls.length)(n:Int):LB (w.setCell ⟨L,k,none⟩ (.int .i64 n)) L (ls.set k n) rest:=by
 have:=aJ h k (.int .i64 n);unfold LB;rw [this]
 congr 2
 apply Array.ext';simp only [Array.setIfInBounds,Array.toList_append,List.map_set];simp [hk];rw [if_pos (by omega)];simp
structure QSt (x:Wd) (most k:Int) (B Kb L:Nat) (rest:Array Value) (R0:List (List Int)) (t0:Int) (w wr:World) (R:List (List Int)) (t:Int) (ls:List Int):Prop where
 mods:aD (fun b=>b=B∨b=L) w wr
 sb:SB wr B Kb x most t false
 lb:LB wr L ls rest
 eq:cG x k R0 t0=cG x k R t
 lo:0≤t
 hi:t+R.length≤t0+R0.length
def cn(x:Wd)(most k:Int)(B Kb L:Nat)(rest:Array Value)(R0:List (List Int))(t0:Int)(w:World)(e:Ending)(w':World):Prop :=
 e=.returned (.tuple #[])∧aD (fun b=>b=B∨b=L) w w'∧∃ t' fd' ls',SB w' B Kb x most t' fd'∧LB w' L ls' rest∧Out (cG x k R0 t0) t' fd' ls'
theorem gS{x:Wd}{k:Int}:∀ (R:List (List Int)) (t:Int),t≤(cG x k R t).1
 | [],t=>Int.le_refl _
 | c :: R,t=>by
  rw [cG];split
  ·split
   ·show t≤t+1;omega
   ·have:=gS (x:=x) (k:=k) R (t+1);omega
  ·exact gS R t
theorem gR(x:Wd)(k:Int):∀ (R:List (List Int)) (t:Int),(cG x k R t).1≤t+R.length
 | [],t=>by simp [cG]
 | c :: R,t=>by
  rw [cG];split
  ·split
   ·show t+1≤_;simp;omega
   ·have:=gR x k R (t+1);simp;omega
  ·have:=gR x k R t;simp;omega
def nH(x:Wd)(most k t:Int)(fd:Bool)(B Kb:Nat)(xs:List Int)(w w':World):Prop :=
 aD (·=B) w w'∧SB w' B Kb x most (if az x xs then t+1 else t) (if az x xs then t == k else fd)
theorem dE(b:Bool)(x:Wd)(most k t:Int)(fd:Bool)(B Kb:Nat)(ao:Option Addr)(n cap:Nat)(xs:List Int)(w:World)(hb:(az x xs && t == k)=b)(hn:xs.length=n)
 (hB:SB w B Kb x most t fd)(hK:w.cell? ⟨Kb,0,none⟩=some (.int .i64 k))(hl:aA w ao xs)(hlen:xs.length≤100)(ht:0≤t)(ht2:t<1000000)(hm:t<most) :
  Calls Tryz.prog 162 #[.pointer (some ⟨B,0,none⟩),.slice ao n cap] w (fun e w'=>e=.returned (.bool b)∧nH x most k t fd B Kb xs w w'):=by
 subst hn;exact (mj x most k t fd B Kb ao cap xs w hB hK hl hlen ht ht2 hm).mono (fun e w' h=>⟨by rw [h.1,hb],h.2⟩)
section
variable {x:Wd} {most k:Int} {B Kb L:Nat} {rest:Array Value} {R0 R:List (List Int)} {t0 t:Int} {w wr W2 w':World} {ls c:List Int}
theorem QSt.next(S:QSt x most k B Kb L rest R0 t0 w wr (c :: R) t ls)(hBL:B≠L)(m2:aD (fun b=>b=B∨b=L) wr W2)(l2:LB W2 L c rest)(T:nH x most k t false B Kb c W2 w')
 (hno:(az x c && t == k)=false):QSt x most k B Kb L rest R0 t0 w w' R (nxt x c t) c:=by
 obtain ⟨T1,T2⟩:=T;have e:(if az x c then t == k else false)=false:=by
  cases hf:az x c <;> simp [hf] at hno ⊢;exact hno
 rw [e] at T2;have hb:=lX x c t;have hl:=S.lo;have hh:=S.hi;refine ⟨(S.mods.trans m2).trans (T1.mono fun b hb=>Or.inl hb),T2,T1.blk (fun h=>hBL h.symm) l2,by rw [S.eq,jH hno],by omega,?_⟩;simp only [List.length_cons] at hh;omega
structure Fnd (x:Wd) (most k:Int) (B Kb L:Nat) (rest:Array Value) (R0:List (List Int)) (t0:Int) (w w':World) (t:Int) (c:List Int):Prop where
 mods:aD (fun b=>b=B∨b=L) w w'
 sb:SB w' B Kb x most t true
 lb:LB w' L c rest
 eq:cG x k R0 t0=(t,some c)
theorem QSt.fnd(S:QSt x most k B Kb L rest R0 t0 w wr (c :: R) t ls)(hBL:B≠L)(m2:aD (fun b=>b=B∨b=L) wr W2)(l2:LB W2 L c rest)(T:nH x most k t false B Kb c W2 w')
 (hyes:(az x c && t == k)=true):Fnd x most k B Kb L rest R0 t0 w w' (t+1) c:=by
 obtain ⟨T1,T2⟩:=T;have hf:az x c=true:=by simp at hyes;exact hyes.1
 have ht:(t == k)=true:=by simp at hyes;simp [hyes.2]
 rw [hf,if_pos rfl,if_pos rfl,ht] at T2;exact ⟨(S.mods.trans m2).trans (T1.mono fun b hb=>Or.inl hb),T2,T1.blk (fun h=>hBL h.symm) l2,by rw [S.eq,lk hf ht]⟩
theorem Fnd.post(h:Fnd x most k B Kb L rest R0 t0 w w' t c):cn x most k B Kb L rest R0 t0 w (.returned (.tuple #[])) w':=by
 refine ⟨rfl,h.mods,t,true,c,h.sb,h.lb,?_⟩;rw [h.eq];exact ⟨rfl,rfl,rfl⟩
theorem QSt.found(S:QSt x most k B Kb L rest R0 t0 w wr (c :: R) t ls)(hBL:B≠L)(m2:aD (fun b=>b=B∨b=L) wr W2)(l2:LB W2 L c rest)(T:nH x most k t false B Kb c W2 w')
 (hyes:(az x c && t == k)=true):cn x most k B Kb L rest R0 t0 w (.returned (.tuple #[])) w':=(S.fnd hBL m2 l2 T hyes).post
theorem QSt.pairs(S:QSt x most k B Kb L rest R0 t0 w wr R t ls)(P:cn x most k B Kb L rest R t wr (.returned (.tuple #[])) w') :
  (∃ t' c,Fnd x most k B Kb L rest R0 t0 w w' t' c)∨(∃ t' ls',QSt x most k B Kb L rest R0 t0 w w' [] t' ls'):=by
 obtain ⟨_,hm,t',fd',ls',hs,hl,h1,h2⟩:=P;cases hr:(cG x k R t).2 with
 | none =>
  simp only [hr] at h2;subst h2
  right
  refine ⟨t',ls',S.mods.trans hm,hs,hl,?_,?_,?_⟩
  ·rw [S.eq,h1,cG];exact Prod.ext rfl hr
  ·rw [h1];exact Int.le_trans S.lo (gS R t)
  ·have:=gR x k R t;have:=S.hi;rw [h1];simp;omega
 | some c =>
  simp only [hr] at h2;obtain ⟨rfl,rfl⟩:=h2
  left
  exact ⟨t',_,S.mods.trans hm,hs,hl,by rw [S.eq,h1];exact Prod.ext rfl hr⟩
theorem QSt.over(S:QSt x most k B Kb L rest R0 t0 w wr [] t ls):cn x most k B Kb L rest R0 t0 w (.returned (.tuple #[])) wr:=by
 refine ⟨rfl,S.mods,t,false,ls,S.sb,S.lb,?_⟩;rw [S.eq];exact ⟨rfl,rfl⟩
theorem QSt.store(S:QSt x most k B Kb L rest R0 t0 w wr R t ls)(hBL:B≠L){i:Nat}(hi:i<ls.length)(n:Int):QSt x most k B Kb L rest R0 t0 w (wr.setCell ⟨L,i,none⟩ (.int .i64 n)) R t (ls.set i n):=by
 refine ⟨S.mods.trans ((aD.setCell _ ⟨L,i,.none⟩ _).mono fun b hb=>Or.inr hb),(aD.setCell wr ⟨L,i,.none⟩ _).blk hBL S.sb,S.lb.set hi n,S.eq,S.lo,S.hi⟩
theorem QSt.keyCell(S:QSt x most k B Kb L rest R0 t0 w wr R t ls){p:Addr}{v:Value}(h1:p.block≠B)(h2:p.block≠L)(h:w.cell? p=some v):wr.cell? p=some v :=
 S.mods.cell (fun h=>h.elim h1 h2) h
end
theorem aD.set2{B:Nat}(w:World)(L i j:Nat)(u v:Value):aD (fun b=>b=B∨b=L) w ((w.setCell ⟨L,i,none⟩ u).setCell ⟨L,j,none⟩ v) :=
 ((aD.setCell w ⟨L,i,none⟩ u).mono fun _ h=>Or.inr h).trans ((aD.setCell _ ⟨L,j,none⟩ v).mono fun _ h=>Or.inr h)
theorem m6(base:List Int)(i j c:Nat)(u v:Int)(hi:i<base.length)(hj:j<base.length)(hij:i≠j) :
  (((base.set i u).set j v).set i (wrap64 (wrap64 (base[i]+1)-2*((c:Int) / 2)))).set j (wrap64 (wrap64 (base[j]+1)-2*((c:Int) % 2)))=la base i j c:=by
 unfold la;rw [List.set_comm _ _ hij,List.set_set,List.set_comm _ _ (Ne.symm hij),List.set_set];simp [hi,hj]
theorem jU(x:Wd)(most k t0:Int)(B Kb L:Nat)(lcap bcap:Nat)(rest:Array Value)(bo:Option Addr)(base:List Int)(w:World)
 (hB:SB w B Kb x most t0 false)(hL:LB w L base rest)(hBL:B≠L)(hKB:Kb≠B)(hKL:Kb≠L)
 (hK:w.cell? ⟨Kb,0,none⟩=some (.int .i64 k))(hl:aA w bo base)(hbo:base≠[]→∀ p,bo=some p→p.block≠B∧p.block≠L)(hlen:base.length≤49)(ht:0≤t0)(ht2:t0<1000)(hm:100000<most) :
  Calls Tryz.prog 163 #[.pointer (some ⟨B,0,none⟩),.slice (some ⟨L,0,none⟩) base.length lcap,.slice bo base.length bcap] w (cn x most k B Kb L rest (bg base base.length 0) t0 w):=by
 have hcnt:=iD hlen;have S0:QSt x most k B Kb L rest (bg base base.length 0) t0 w w (bg base base.length 0) t0 base:=⟨aD.refl _ _,hB,hL,rfl,ht,Int.le_refl _⟩;have HS0:=Hi S0;have HK:=Hi hK;have HL:=Hi hl;have Hbo:=Hi hbo;have hBL':=Hi hBL;have hKB':=Hi hKB;have hKL':=Hi hKL;clear S0 hK hl hbo hB hL hBL hKB hKL;go_enter Tryz.func163,Tryz.ntmps163;go_wp2
 go_step3
 go_wp2
 go_step3
 go_wp2
 go_loopg [11] base.length (fun g i wr=>∃ (ii:Nat) (t:Int),ii+g=base.length∧i=.int .i64 ii∧QSt x most k B Kb L rest (bg base base.length 0) t0 w wr (bg base g ii) t base)
 case atStart=>exact ⟨0,t0,by omega,rfl,HS0.out⟩
 case round =>
  obtain ⟨i,t,hig,rfl,S⟩:=hrel;by_cases hi:i<base.length
  ·obtain ⟨g1,rfl⟩:∃ g1,gk=g1+1:=⟨gk-1,by omega⟩;obtain ⟨bb,boff,hbo,hbi⟩:=HL.out.at hi;subst hbo;obtain ⟨hbB,hbL⟩:=Hbo.out (fun h=>by rw [h] at hi;simp at hi) _ rfl;simp only at hbB hbL;have HSt:=Hi S;have HE:=Hi hig;have HbB:=Hi hbB;clear S hig hbi hbB;go_wp2
   go_loopg [7] (base.length-(i+1)) (fun g j wr=>∃ (jj:Nat) (t:Int) (u:Int),jj+g=base.length∧j=.int .i64 jj∧i<jj∧QSt x most k B Kb L rest (bg base base.length 0) t0 w wr (cg base i g jj++bg base g1 (i+1)) t (base.set i u))
   case atStart =>
    refine ⟨i+1,t,base.getD i 0,by omega,by go_num,by omega,?_⟩;have:base.set i (base.getD i 0)=base:=by simp [hi]
    rw [this];exact HSt.out
   case round =>
    obtain ⟨j,t,u,hjg,rfl,hij,S⟩:=hrel;by_cases hj:j<base.length
    ·obtain ⟨g2,rfl⟩:∃ g2,gk=g2+1:=⟨gk-1,by omega⟩;have HSt:=Hi S;have HE2:=Hi hjg;clear S hjg;go_wp2
     go_loopg [22] 4 (fun g c wr=>∃ (cc:Nat) (t:Int) (u v:Int),cc+g=4∧c=.int .i64 cc∧QSt x most k B Kb L rest (bg base base.length 0) t0 w wr (lw base i j g cc++(cg base i g2 (j+1)++bg base g1 (i+1))) t ((base.set i u).set j v))
     case atStart =>
      refine ⟨0,t,u,base.getD j 0,rfl,rfl,?_⟩;have:(base.set i u).set j (base.getD j 0)=base.set i u:=by
       rw [List.set_comm _ _ (by omega)];have:base.set j (base.getD j 0)=base:=by simp [hj]
       rw [this]
      rw [this];have e:cg base i (g2+1) j++bg base g1 (i+1)=lw base i j 4 0++(cg base i g2 (j+1)++bg base g1 (i+1)):=by rw [cg,List.append_assoc]
      rw [←e];exact HSt.out
     case round =>
      obtain ⟨c,t,u,v,hcg,rfl,S⟩:=hrel;have hbi:wr.cell? ⟨bb,boff+i,none⟩=some (.int .i64 (base.getD i 0)):=by
       rcases HL.out with h|⟨b,off,h1,h2⟩
       ·rw [h] at hi;simp at hi
       ·obtain ⟨rfl,rfl⟩:bb=b∧boff=off:=by simpa using h1
        exact S.keyCell HbB.out hbL (h2 i hi)
      have hbj:wr.cell? ⟨bb,boff+j,none⟩=some (.int .i64 (base.getD j 0)):=by
       rcases HL.out with h|⟨b,off,h1,h2⟩
       ·rw [h] at hi;simp at hi
       ·obtain ⟨rfl,rfl⟩:bb=b∧boff=off:=by simpa using h1
        exact S.keyCell HbB.out hbL (h2 j hj)
      have hln:((base.set i u).set j v).length=base.length:=by simp
      have hli:=S.lb.cell (k:=i) (by omega);have hlj:=S.lb.cell (k:=j) (by omega);have hfi:=ae S.lb i;have hfj:=ae S.lb j;by_cases hc:c<4
      ·obtain ⟨g3,rfl⟩:∃ g3,gk=g3+1:=⟨gk-1,by omega⟩;have hst:=Hi S;have hcg':=Hi hcg;clear S hln hcg;obtain ⟨q1,hq1⟩:∃ q,q=(((base.set i u).set j v).getD i 0):=⟨_,rfl⟩;obtain ⟨q2,hq2⟩:∃ q,q=(((base.set i u).set j v).getD j 0):=⟨_,rfl⟩;rw [←hq1] at hli;rw [←hq2] at hlj;clear hq1 hq2;have hyes:=Hi (m6 base i j c u v hi hj (by omega));have hS2:=Hi ((hst.out.store hBL'.out (i:=i) (by simp;omega) (wrap64 (wrap64 (base[i]+1)-2*((c:Int) / 2)))).store hBL'.out (i:=j) (by simp;omega) (wrap64 (wrap64 (base[j]+1)-2*((c:Int) % 2))));have hK2:=Hi (hS2.out.keyCell (p:=⟨Kb,0,none⟩) hKB'.out hKL'.out HK.out);rw [hyes.out] at hS2;have hlo:=hst.out.lo;have hhi:=hst.out.hi;have hhi':t<20000:=by simp only [nXh,fr] at hhi;omega
       clear hhi;have hlc:(la base i j c).length=base.length:=by simp [la]
       have hlc':=Hi hlc;clear hlc;cases hb:(az x (la base i j c) && t == k) with
       | false =>
        have hb':=Hi hb;clear hb
        go_wp2_with (go_at_call 162;refine (dE false x most k t false B Kb _ _ _ (la base i j c) _ hb'.out hlc'.out hS2.out.sb hK2.out hS2.out.lb.ints (by rw [hlc'.out];omega) hlo (by omega) (by omega)).mono ?_;rintro e w1 ⟨rfl,T⟩)
        go_roundg g3
        case measure=>omega
        case rel =>
         refine ⟨c+1,nxt x (la base i j c) t,_,_,by have:=hcg'.out;omega,by go_num,hst.out.next hBL'.out (aD.set2 wr L i j _ _) hS2.out.lb T hb'.out⟩
       | true =>
        have hb':=Hi hb;clear hb
        go_wp2_with (go_at_call 162;refine (dE true x most k t false B Kb _ _ _ (la base i j c) _ hb'.out hlc'.out hS2.out.sb hK2.out hS2.out.lb.ints (by rw [hlc'.out];omega) hlo (by omega) (by omega)).mono ?_;rintro e w1 ⟨rfl,T⟩)
        try rw [Exit.noGoto_ret]
        go_end0
        exact hst.out.found hBL'.out (aD.set2 wr L i j _ _) hS2.out.lb T hb'.out
      ·obtain rfl:gk=0:=by omega
       have hst:=Hi S;clear S hln hcg;obtain ⟨q1,hq1⟩:∃ q,q=(((base.set i u).set j v).getD i 0):=⟨_,rfl⟩;obtain ⟨q2,hq2⟩:∃ q,q=(((base.set i u).set j v).getD j 0):=⟨_,rfl⟩;rw [←hq1] at hli;rw [←hq2] at hlj;clear hq1 hq2;go_wp2
       go_roundg g2
       case measure=>omega
       case rel =>
        refine ⟨j+1,t,u,by have:=HE2.out;omega,by go_num,by omega,?_⟩;have h2:=hst.out.store hBL'.out (i:=j) (by simp;omega) base[j];have e:((base.set i u).set j v).set j base[j]=base.set i u:=by
         rw [List.set_set,List.set_comm _ _ (by omega)];simp
        rw [e] at h2;exact h2
    ·obtain rfl:gk=0:=by omega
     have hli:=S.lb.cell (k:=i) (by simp;omega);have hfi:=ae S.lb i;have hbi:wr.cell? ⟨bb,boff+i,none⟩=some (.int .i64 (base.getD i 0)):=by
      rcases HL.out with h|⟨b,off,h1,h2⟩
      ·rw [h] at hi;simp at hi
      ·obtain ⟨rfl,rfl⟩:bb=b∧boff=off:=by simpa using h1
       exact S.keyCell HbB.out hbL (h2 i hi)
     have hst:=Hi S;clear S hjg;obtain ⟨q1,hq1⟩:∃ q,q=((base.set i u).getD i 0):=⟨_,rfl⟩;rw [←hq1] at hli;clear hq1;go_wp2
     go_roundg g1
     case measure=>omega
     case rel =>
      refine ⟨i+1,t,by have:=HE.out;omega,by go_num,?_⟩;have h2:=hst.out.store hBL'.out (i:=i) (by simp;omega) base[i];have e:(base.set i u).set i base[i]=base:=by rw [List.set_set];simp
      rw [e] at h2;exact h2
  ·obtain rfl:gk=0:=by omega
   have hst:=Hi S;clear S;go_wp2
   try rw [Exit.noGoto_ret]
   go_end0
   exact hst.out.over
theorem mz{P:Program}{w:World}{t ty e:TypeId}{i:TypeInfo}(ht:P.underlying t=some (.slice e))(hi:P.info? e=some i)(s ao:Option Addr)(n cap c:Nat)(hn:n≤cap) :
  (Builtin.append_ #[t,t] ty #[.slice s n cap,.slice ao 0 c]).run P w=.ok (.slice s n cap) w:=by
 have h0:∀ (a:Addr),(loadCells a 0).run P w=.ok #[] w:=fun a=>by simp [loadCells,loadCellsFrom]
 cases s <;> cases ao <;> simp [Builtin.append_,run_underlying ht,sizeOf,typeInfo,hi,Builtin.lenOf,Builtin.firstCells,hn,storeCells,h0]
theorem eO{P:Program}{w:World}{ops:Array Oper}{rest:List Oper}{o:Oper}{a:Act}{Q:Exit→Act→World→Prop}(hgd:o.guard=none)(s x:Operand)(t:TypeId)
 (ho:o.op=.call { callee:=.builtin .append,args:=#[s,x],argTypes:=#[t,t] })
 (e:TypeId)(i:TypeInfo)(ht:P.underlying t=some (.slice e))(hi:P.info? e=some i)(so ao:Option Addr)(n cap c:Nat)(hn:n≤cap)
 (hs:a.eval s=.slice so n cap)(hx:a.eval x=.slice ao 0 c)
 (h:wpList P ops Q rest (a.put o.dst (.slice so n cap)) w):wpList P ops Q (o :: rest) a w:=by
 refine wpList_plain hgd fun K hK=>?_
 have hrun:=mz (P:=P) (w:=w) (ty:=o.type) ht hi so ao n cap c hn;unfold Oper.wp;simp [execOp,ho,resolve,invoke,builtin,hs,hx,hrun,Result.andThen];exact hK _ _ h
theorem cQ{P:Program}{w:World}{ops:Array Oper}{rest:List Oper}{o:Oper}{a:Act}{Q:Exit→Act→World→Prop}(hgd:o.guard=none)(s x:Operand)(t:TypeId)
 (ho:o.op=.call { callee:=.builtin .append,args:=#[s,x],argTypes:=#[t,t] })(i:TypeInfo)
 (ht:P.underlying t=some (.slice 3))(hi:P.info? 3=some i)(hz:i.zero=some (.int .i64 0))(hsize:i.size=1)(hby:i.bytes=8)
 (N:Nat)(base:List Int)(bo:Option Addr)(n c:Nat)(hs:a.eval s=.slice (some ⟨N,0,none⟩) 0 0)(hN:w.heap[N]?=some (.cells #[] 3 (0,0)))(B0:Nat)(hB0:B0≤N)(hx:a.eval x=.slice bo n c)(hn:base.length=n)
 (hl:aA w bo base)(hlen:base.length≤100000)
 (h:∀ L lcap re w1,B0≤L→LB w1 L base re→Below B0 w w1→wpList P ops Q rest (a.put o.dst (.slice (some ⟨L,0,none⟩) n lcap)) w1):wpList P ops Q (o :: rest) a w:=by
 subst hn;have hNs:N<w.heap.size:=(nXa.1 hN).1;rcases hl with rfl|⟨b,off,rfl,hc⟩
 ·exact eO hgd s x t ho 3 i ht hi (some ⟨N,0,none⟩) bo 0 0 c (nXd _) hs hx (h N 0 #[] w hB0 (by unfold LB;rw [hN];rfl) (Below.refl _ _))
 ·by_cases hb:base=[]
  ·subst hb;exact eO hgd s x t ho 3 i ht hi (some ⟨N,0,none⟩) (some ⟨b,off,none⟩) 0 0 c (nXd _) hs hx (h N 0 #[] w hB0 (by unfold LB;rw [hN];rfl) (Below.refl _ _))
  ·have hpos:0<base.length:=List.length_pos_iff.2 hb;refine wpList_append_own w hgd s x t ho B0 3 i (.int .i64 0) 1 8 ht hi hz hsize hby rfl (by decide) (.slice (some ⟨N,0,none⟩) 0 0) 0 [] hs
    ⟨rfl,.inr ⟨N,0,#[],rfl,hB0,hN,nXd _,by simp [maxLen],rfl,rfl⟩⟩ ⟨b,off,none⟩ base.length c (base.map (Value.int .i64)) hx (by simp) ?_ ?_ (by simp [maxLen];omega) (by omega) (by omega) ?_
   ·intro j u hj;have hj':j<base.length:=by
     rcases Nat.lt_or_ge j base.length with h|h
     ·exact h
     ·simp [h] at hj
    have:=hc j hj';have e1:u=.int .i64 (base.getD j 0):=by simp [hj'] at hj;simp [hj',←hj]
    rw [e1,←this];unfold Addr.add;split
    ·simp [*]
    ·rfl
   ·intro u hu;simp at hu;obtain ⟨v,_,rfl⟩:=hu;rfl
   ·intro v' w' hown hgrow _;rcases hown.2 with ⟨rfl,hnil⟩|⟨g,cap,cur,rfl,hg,hgg,hle,hmx,hcs,htake⟩
    ·simp [hb] at hnil
    ·simp only [Nat.zero_add,List.nil_append,Nat.mul_one] at *
     refine h g cap (cur.extract base.length cur.size) w' hg ?_ (by
      refine (Below.refl _ _).grown hgrow (by omega) ?_;intro k hk;simp [Value.ownBlock] at hk;omega)
     unfold LB;rw [hgg]
     congr 2
     apply Array.ext';simp only [Array.toList_append,Array.toList_extract];have:cur.toList=cur.toList.take base.length++cur.toList.drop base.length:=(List.take_append_drop _ _).symm;rw [this,htake];simp;rw [nXl (by simp)]

def iu(x:Wd)(k:Int)(base:List Int)(B:Nat)(w:World)(e:Ending)(w':World):Prop :=
 Below B w w'∧match (cG x k (cz base) 0).2 with
  | none=>e=.returned (.tuple #[.slice none 0 0,.int .i64 0,.bool false])
  | some c=>∃ L lcap m,e=.returned (.tuple #[.slice (some ⟨L,0,none⟩) base.length lcap,.int .i64 m,.bool true])∧aA w' (some ⟨L,0,none⟩) c∧c.length=base.length
theorem fo{x:Wd}{k:Int}{n:Nat}:∀ (R:List (List Int)) (t:Int) (c:List Int),(∀ l ∈ R,l.length=n)→(cG x k R t).2=some c→c.length=n
 | [],_,_,_,h=>by simp [cG] at h
 | r :: R,t,c,hR,h=>by
  rw [cG] at h;split at h
  ·split at h
   ·simp at h;subst h;exact hR _ (by simp)
   ·exact fo R _ c (fun l hl=>hR l (by simp [hl])) h
  ·exact fo R _ c (fun l hl=>hR l (by simp [hl])) h
theorem iC(base:List Int)(i j:Nat):∀ f c,∀ l ∈ lw base i j f c,l.length=base.length
 | 0,_,l,h=>by simp [lw] at h
 | f+1,c,l,h=>by
  simp [lw] at h;rcases h with rfl|h
  ·simp [la]
  ·exact iC base i j f _ l h
theorem eQ(base:List Int)(i:Nat):∀ f j,∀ l ∈ cg base i f j,l.length=base.length
 | 0,_,l,h=>by simp [cg] at h
 | f+1,j,l,h=>by
  simp [cg] at h;rcases h with h|h
  ·exact iC _ _ _ _ _ l h
  ·exact eQ base i f _ l h
theorem eS(base:List Int):∀ f i,∀ l ∈ bg base f i,l.length=base.length
 | 0,_,l,h=>by simp [bg] at h
 | f+1,i,l,h=>by
  simp [bg] at h;rcases h with h|h
  ·exact eQ _ _ _ _ l h
  ·exact eS base f _ l h
theorem dY(base:List Int):∀ f i,∀ l ∈ cd base f i,l.length=base.length
 | 0,_,l,h=>by simp [cd] at h
 | f+1,i,l,h=>by
  simp [cd] at h;rcases h with rfl|rfl|h
  ·simp [chg]
  ·simp [chg]
  ·exact dY base f _ l h
theorem kN(base:List Int):∀ l ∈ cz base,l.length=base.length:=by
 intro l h;simp [cz] at h;rcases h with rfl|h|h
 ·rfl
 ·exact dY _ _ _ l h
 ·exact eS _ _ _ l h
theorem m5(base:List Int)(i:Nat)(hi:i<base.length):base.set i (wrap64 (base[i]+1))=chg base i 1:=by simp [chg,hi]
theorem m4(base:List Int)(i:Nat)(hi:i<base.length):(chg base i 1).set i (wrap64 (base[i] - 1))=chg base i (-1):=by simp [chg,hi,Int.sub_eq_add_neg]
theorem m3(base:List Int)(i:Nat)(hi:i<base.length):(chg base i (-1)).set i base[i]=base:=by simp [chg]
theorem kL(base:List Int)(i:Nat)(d:Int):(chg base i d).length=base.length:=by simp [chg]
section
variable {x:Wd} {most k:Int} {B Kb L lcap:Nat} {rest:Array Value} {base:List Int} {w w1 w':World}
theorem fq{t:Int}{c:List Int}(F:Fnd x most k B Kb L rest (cz base) 0 w1 w' t c)(hbel:Below B w w1)(hBL:B≤L)(hBw:B<w1.heap.size)(n:Int){w2:World}(h2:Ext w' w2) :
  iu x k base B w (.returned (.tuple #[.slice (some ⟨L,0,none⟩) base.length lcap,.int .i64 n,.bool true])) w2:=by
 have hB':B<w'.heap.size:=(nXa.1 F.sb).1;refine ⟨(hbel.trans (F.mods.below (by omega) (fun b hb=>by rcases hb with rfl|rfl <;> omega))).trans (Below.mono h2 (by omega)),?_⟩;rw [F.eq];exact ⟨L,lcap,n,rfl,F.lb.ints.ext h2,fo _ _ _ (kN base) (by rw [F.eq])⟩
theorem ni{t:Int}{ls:List Int}(S:QSt x most k B Kb L rest (cz base) 0 w1 w' [] t ls)(hbel:Below B w w1)(hBL:B≤L)(hBw:B<w1.heap.size) :
  iu x k base B w (.returned (.tuple #[.slice none 0 0,.int .i64 0,.bool false])) w':=by
 refine ⟨hbel.trans (S.mods.below (by omega) (fun b hb=>by rcases hb with rfl|rfl <;> omega)),?_⟩;rw [S.eq];rfl
end
theorem cY{x:Wd}{most t:Int}{B Kb:Nat}{fd:Bool}{w:World}(h:SB w B Kb x most t fd):w.cell? ⟨B,6,none⟩=some (.int .i64 t)∧w.cell? ⟨B,7,none⟩=some (.bool fd):=⟨ab h 6,ab h 7⟩
theorem mp(x:Wd)(most k:Int)(B Kb:Nat)(bcap:Nat)(bo:Option Addr)(base:List Int)(w:World)
 (hB:SB w B Kb x most 0 false)(hKB:Kb≠B)
 (hK:w.cell? ⟨Kb,0,none⟩=some (.int .i64 k))(hl:aA w bo base)(hbo:base≠[]→∀ p,bo=some p→p.block≠B∧p.block<w.heap.size)(hlen:base.length≤49)(hm:100000<most) :
  Calls Tryz.prog 98 #[.pointer (some ⟨B,0,none⟩),.slice bo base.length bcap] w (iu x k base B w):=by
 obtain ⟨i0,hi0,hz0,hz1,hz2⟩:=info_parts Tryz.info3;have HB:=Hi hB;have HK:=Hi hK;have HL:=Hi hl;have Hbo:=Hi hbo;have hKB':=Hi hKB;clear hB hK hl hbo hKB;go_enter Tryz.func98,Tryz.ntmps98
 go_wp2_with (first
  | (at_builtin;refine cQ rfl (.tmp 10) (.tmp 11) 25 rfl i0 Tryz.underlying25 hi0 hz0 hz1 hz2 w.heap.size base bo base.length bcap rfl (heap_alloc_new w _) w.heap.size (nXd _) rfl rfl (HL.out.ext (Ext.alloc _ _)) (by omega) ?_;intro L lcap re w1 hL1 hL2 hL3)
  | fail)
 have hE1:Ext w w1:=((Below.refl _ _).alloc (nXd _) _).trans hL3;have hBs:B<w.heap.size:=(nXa.1 HB.out).1;have hBL:B≠L:=by omega
 have hKs:Kb<w.heap.size:=by
  rcases Nat.lt_or_ge Kb w.heap.size with h|h
  ·exact h
  ·have:=HK.out;simp [World.cell?,Array.getElem?_eq_none h] at this
 have hKL:Kb≠L:=by omega
 have S0:QSt x most k B Kb L re (cz base) 0 w1 w1 (cz base) 0 base:=⟨aD.refl _ _,hE1.block HB.out,hL2,rfl,Int.le_refl _,Int.le_refl _⟩;have hcnt:(cz base).length≤10000:=by
  have:=iD hlen;simp only [cz,List.length_cons,nXh,cH];omega
 have hK1:=Hi (hE1.cell HK.out);have hbs:∀ i (hi:i<base.length),∃ bb boff,bo=some ⟨bb,boff,none⟩∧bb≠B∧bb≠L∧w1.cell? ⟨bb,boff+i,none⟩=some (.int .i64 base[i]):=by
  intro i hi;obtain ⟨bb,boff,h1,h2⟩:=HL.out.at hi;obtain ⟨h3,h4⟩:=Hbo.out (fun h=>by rw [h] at hi;simp at hi) _ h1;simp only at h3 h4;refine ⟨bb,boff,h1,h3,by omega,?_⟩;have:=hE1.cell h2;simpa [hi] using this
 have Hbs:=Hi hbs;have HS0:=Hi S0;have HE1:=Hi hE1;have hBL':=Hi hBL;have hKL':=Hi hKL;have hB1:B<w1.heap.size:=by have:=hE1.size;omega
 have hBle:B≤L:=by omega
 have Hbel:=Hi (Below.mono hE1 (show B≤w.heap.size by omega));clear hbs S0 hE1 hBL hKL hL3 hL2 HL HB HK hKs;have mm:aD (fun b=>b=B∨b=L) w1 w1:=aD.refl _ _;have hmm:=Hi mm;clear mm;cases hb:(az x base && (0:Int) == k) with
 | true =>
  have hb':=Hi hb;clear hb;refine (dE true x most k 0 false B Kb _ _ _ base _ hb'.out rfl HS0.out.sb hK1.out HS0.out.lb.ints (by omega) (by omega) (by omega) (by omega)).mono ?_;rintro e w2 ⟨rfl,T⟩;have F:=HS0.out.fnd hBL'.out hmm.out HS0.out.lb T hb'.out;obtain ⟨c6,c7⟩:=cY F.sb;have HF:=Hi F;clear F T;go_wp2
  go_loopg [8,9] 0 (fun g e i wr=>e=.bool true∧i=.int .i64 0∧wr=w2)
  case atStart=>exact ⟨rfl,rfl,rfl⟩
  case round =>
   obtain ⟨rfl,rfl,rfl⟩:=hrel;go_wp2
   all_goals
    go_quiet (fail)
    go_wp2
    go_ret3
    exact fq HF.out Hbel.out hBle hB1 _ (Ext.drewN _ _)
 | false =>
  have hb':=Hi hb;clear hb;refine (dE false x most k 0 false B Kb _ _ _ base _ hb'.out rfl HS0.out.sb hK1.out HS0.out.lb.ints (by omega) (by omega) (by omega) (by omega)).mono ?_;rintro e w2 ⟨rfl,T⟩;have S1:=HS0.out.next hBL'.out hmm.out HS0.out.lb T hb'.out;have HS1:=Hi S1;clear S1 T;go_wp2
  go_loopg [8,9] base.length (fun g e i wr=>∃ (ii:Nat) (t:Int),ii+g=base.length∧e=.bool false∧i=.int .i64 ii∧QSt x most k B Kb L re (cz base) 0 w1 wr (cd base g ii++bg base base.length 0) t base)
  case atStart=>exact ⟨0,_,by omega,rfl,rfl,HS1.out⟩
  case round =>
   obtain ⟨i,t,hig,rfl,rfl,S⟩:=hrel;have hlo:=S.lo;have hhi:t<20000:=by have:=S.hi;omega
   by_cases hi:i<base.length
   ·obtain ⟨g1,rfl⟩:∃ g1,gk=g1+1:=⟨gk-1,by omega⟩;obtain ⟨bb,boff,hbo,hbB,hbL,hcell⟩:=Hbs.out i hi;subst hbo;have hbi:=S.keyCell hbB hbL hcell;have hli:=S.lb.cell (k:=i) hi;have hfi:=ae S.lb i;have HE:=Hi hig;have HbB:=Hi hbB;have HC:=Hi hcell;have hS2:=S.store hBL'.out hi (wrap64 (base[i]+1));rw [m5 base i hi] at hS2;have hK2:=Hi (hS2.keyCell (p:=⟨Kb,0,none⟩) hKB'.out hKL'.out hK1.out);have HSa:=Hi S;have HS2:=Hi hS2;clear S hS2 hig hbB hcell;have hm2:=Hi ((aD.setCell wr ⟨L,i,none⟩ (.int .i64 (wrap64 (base[i]+1)))).mono (S':=fun b=>b=B∨b=L) fun _ h=>Or.inr h);have hlc:=Hi (kL base i 1);cases hb:(az x (chg base i 1) && t == k) with
    | true =>
     have hb':=Hi hb;clear hb
     go_wp2_with fail
     refine (dE true x most k t false B Kb _ _ _ (chg base i 1) _ hb'.out hlc.out HS2.out.sb hK2.out HS2.out.lb.ints (by rw [hlc.out];omega) hlo (by omega) (by omega)).mono ?_;rintro e w3 ⟨rfl,T⟩;have F:=HSa.out.fnd hBL'.out hm2.out HS2.out.lb T hb'.out;obtain ⟨c6,c7⟩:=cY F.sb;have HF:=Hi F;clear F T;go_wp2
     go_quiet (fail)
     go_wp2
     go_ret3
     exact fq HF.out Hbel.out hBle hB1 _ (Ext.drewN _ _)
    | false =>
     have hb':=Hi hb;clear hb
     go_wp2_with fail
     refine (dE false x most k t false B Kb _ _ _ (chg base i 1) _ hb'.out hlc.out HS2.out.sb hK2.out HS2.out.lb.ints (by rw [hlc.out];omega) hlo (by omega) (by omega)).mono ?_;rintro e w3 ⟨rfl,T⟩;have S3:=HSa.out.next hBL'.out hm2.out HS2.out.lb T hb'.out;have hnb:=lX x (chg base i 1) t;obtain ⟨t3,ht3⟩:∃ t3,t3=nxt x (chg base i 1) t:=⟨_,rfl⟩;rw [←ht3] at S3 hnb;clear ht3;have hbi3:=S3.keyCell HbB.out hbL HC.out;have hli3:=S3.lb.cell (k:=i) (by rw [hlc.out];exact hi);have hfi3:=ae S3.lb i;obtain ⟨q3,hq3⟩:∃ q,q=(chg base i 1).getD i 0:=⟨_,rfl⟩;rw [←hq3] at hli3;clear hq3;have hS4:=S3.store hBL'.out (i:=i) (by rw [hlc.out];exact hi) (wrap64 (base[i] - 1));rw [m4 base i hi] at hS4;have hK4:=Hi (hS4.keyCell (p:=⟨Kb,0,none⟩) hKB'.out hKL'.out hK1.out);have HS3:=Hi S3;have HS4:=Hi hS4;have hm4:=Hi ((aD.setCell w3 ⟨L,i,none⟩ (.int .i64 (wrap64 (base[i] - 1)))).mono (S':=fun b=>b=B∨b=L) fun _ h=>Or.inr h);have hlc4:=Hi (kL base i (-1));clear S3 hS4 T hbi hli hfi;cases hb:(az x (chg base i (-1)) && t3 == k) with
     | true =>
      have hb2:=Hi hb;clear hb
      go_wp2_with fail
      refine (dE true x most k t3 false B Kb _ _ _ (chg base i (-1)) _ hb2.out hlc4.out HS4.out.sb hK4.out HS4.out.lb.ints (by rw [hlc4.out];omega) (by omega) (by omega) (by omega)).mono ?_;rintro e w5 ⟨rfl,T⟩;have F:=HS3.out.fnd hBL'.out hm4.out HS4.out.lb T hb2.out;obtain ⟨c6,c7⟩:=cY F.sb;have HF:=Hi F;clear F T;go_wp2
      go_quiet (fail)
      go_wp2
      go_ret3
      exact fq HF.out Hbel.out hBle hB1 _ (Ext.drewN _ _)
     | false =>
      have hb2:=Hi hb;clear hb
      go_wp2_with fail
      refine (dE false x most k t3 false B Kb _ _ _ (chg base i (-1)) _ hb2.out hlc4.out HS4.out.sb hK4.out HS4.out.lb.ints (by rw [hlc4.out];omega) (by omega) (by omega) (by omega)).mono ?_;rintro e w5 ⟨rfl,T⟩;have S5:=HS3.out.next hBL'.out hm4.out HS4.out.lb T hb2.out;have hbi5:=S5.keyCell HbB.out hbL HC.out;have hli5:=S5.lb.cell (k:=i) (by rw [hlc4.out];exact hi);have hfi5:=ae S5.lb i;obtain ⟨q5,hq5⟩:∃ q,q=(chg base i (-1)).getD i 0:=⟨_,rfl⟩;rw [←hq5] at hli5;clear hq5;have HS5:=Hi S5;clear S5 T hbi3 hli3 hfi3;go_wp2
      go_roundg g1
      case measure=>omega
      case rel =>
       have h6:=HS5.out.store hBL'.out (i:=i) (by rw [hlc4.out];exact hi) base[i];rw [m3 base i hi] at h6;exact ⟨i+1,_,by have:=HE.out;omega,rfl,by go_num,h6⟩
   ·obtain rfl:gk=0:=by omega
    have hi':i=base.length:=by omega
    have HSa:=Hi S;have HKa:=Hi (S.keyCell (p:=⟨Kb,0,none⟩) hKB'.out hKL'.out hK1.out);have HLa:Hid (aA wr bo base):=by
     rcases Nat.eq_zero_or_pos base.length with h|h
     ·exact Or.inl (nXi.1 h)
     ·obtain ⟨bb,boff,h1,h2,h3,h4⟩:=Hbs.out 0 h;refine Or.inr ⟨bb,boff,h1,fun k hk=>?_⟩;obtain ⟨bb',boff',g1,g2,g3,g4⟩:=Hbs.out k hk;obtain ⟨rfl,rfl⟩:bb=bb'∧boff=boff':=by simpa [h1] using g1
      have:=S.keyCell g2 g3 g4;simpa [hk] using this
    have hbo':Hid (base≠[]→∀ p,bo=some p→p.block≠B∧p.block≠L):=fun hne p hp=>by
     have:=Hbo.out hne p hp;exact ⟨this.1,by omega⟩
    have ht1:t<1000:=by
     have h1:=S.hi;have h2:=S.eq;simp only [cd,List.nil_append] at h1;have h3:(cz base).length=1+2*base.length+(bg base base.length 0).length:=by
      simp only [cz,List.length_cons,nXh,cH];omega
     rw [h3] at h1;omega
    clear S hig hi'
    go_wp2_with fail
    refine (jU x most k t B Kb L _ _ re bo base wr HSa.out.sb HSa.out.lb hBL'.out hKB'.out hKL'.out HKa.out HLa.out hbo'.out hlen hlo ht1 hm).mono ?_;rintro e w6 PP;obtain rfl:=PP.1;rcases HSa.out.pairs PP with ⟨t',c,F⟩|⟨t',ls',S'⟩
    ·obtain ⟨c6,c7⟩:=cY F.sb;have HF:=Hi F;clear F PP;go_wp2
     go_quiet (fail)
     go_wp2
     go_ret3
     exact fq HF.out Hbel.out hBle hB1 _ (Ext.drewN _ _)
    ·obtain ⟨c6,c7⟩:=cY S'.sb;have HS':=Hi S';clear S' PP;go_wp2
     go_ret3
     exact ni HS'.out Hbel.out hBle hB1
def dH(x:Wd)(base:List Int)(k:Int):Bool:=x.valid && decide (base.length≤49) && decide (0≤k)
def bH(x:Wd)(base:List Int)(k:Int):Option (List Int):=if dH x base k then (cG x k (cz base) 0).2 else none
def dp(x:Wd)(base:List Int)(k:Int)(w:World)(e:Ending)(w':World):Prop :=
 Ext w w'∧match bH x base k with
  | none=>e=.returned (.tuple #[.slice none 0 0,.bool false])
  | some c=>∃ ao cap,e=.returned (.tuple #[.slice ao c.length cap,.bool true])∧aA w' ao c
theorem eG{x:Wd}{base c:List Int}{k:Int}{w w':World}{ao:Option Addr}{cap:Nat}(hok:dH x base k=true)(hr:(cG x k (cz base) 0).2=some c)(hcl:c.length=base.length)(he:Ext w w')(hI:aA w' ao c) :
  dp x base k w (.returned (.tuple #[.slice ao base.length cap,.bool true])) w':=by
 refine ⟨he,?_⟩;have:bH x base k=some c:=by simp [bH,hok,hr]
 rw [this];exact ⟨ao,cap,by rw [hcl],hI⟩
theorem ey{x:Wd}{base:List Int}{k:Int}{w w':World}(hok:dH x base k=true)(hr:(cG x k (cz base) 0).2=none)(he:Ext w w') :
  dp x base k w (.returned (.tuple #[.slice none 0 0,.bool false])) w':=by
 refine ⟨he,?_⟩;have:bH x base k=none:=by simp [bH,hok,hr]
 rw [this]
theorem fM{x:Wd}{base:List Int}{k:Int}{w w':World}(h:dH x base k=false)(he:Ext w w'):dp x base k w (.returned (.tuple #[.slice none 0 0,.bool false])) w':=by
 refine ⟨he,?_⟩;have:bH x base k=none:=by simp [bH,h]
 rw [this]
theorem lR(x:Wd)(k:Int)(bcap:Nat)(bo:Option Addr)(base:List Int)(w:World)(hl:aA w bo base)(hlen:base.length≤20000000000000) :
  Calls Tryz.prog 39 #[.slice bo base.length bcap,x.v,.int .i64 k] w (dp x base k w):=by
 have HL:=Hi hl;clear hl;by_cases hok:dH x base k=true
 ·have hok':=hok;simp only [dH,Bool.and_eq_true,decide_eq_true_eq] at hok';obtain ⟨⟨hv,h49⟩,hk⟩:=hok';have Hok:=Hi hok;clear hok;go_enter Tryz.func39,Tryz.ntmps39
  go_wp2_with (go_at_call 40;refine (bu _ _).mono ?_;rintro e w1 ⟨rfl,hb1⟩;rw [hv];obtain ⟨hc1,hf1⟩:=dK hb1;have hz1:w.heap.size+1<w1.heap.size:=by (have:=hb1.size;simp at this;omega))
  have hE:Ext w w1:=Ext.trans (Ext.trans (Ext.alloc _ _) (Ext.alloc _ _)) hb1;have hkc:w1.cell? ⟨w.heap.size+1,0,none⟩=some (.int .i64 k):=by
   rw [hc1 _ _ (by simp)];exact kM _ _ _ _ _
  refine (mp x _ k w1.heap.size (w.heap.size+1) bcap bo base _ (heap_alloc_new w1 _) (by omega) ((Ext.alloc w1 _).cell hkc) ((HL.out.ext hE).ext (Ext.alloc _ _)) ?_ h49 (show (100000:Int)<9223372036854775807 by decide)).mono ?_
  ·intro hne p hp;have h1:=aA.lt HL.out hne p hp;have h2:=hE.size;exact ⟨by omega,by simp;omega⟩
  rintro e w2 ⟨hbel,hR⟩;have hE2:=Hi (Ext.of_below (Ext.trans hE (Ext.alloc w1 _)) hbel hE.size);clear hbel hkc hE hc1 hf1 hb1;cases hr:(cG x k (cz base) 0).2 with
  | none =>
   simp only [hr] at hR;subst hR;have Hr:=Hi hr;clear hr;go_wp2
   go_ret2
   exact ey Hok.out Hr.out hE2.out
  | some c =>
   simp only [hr] at hR;obtain ⟨L,lcap,m,rfl,hI,hcl⟩:=hR;have Hr:=Hi hr;have HI:=Hi hI;have Hcl:=Hi hcl;clear hr hI hcl;go_wp2
   go_ret2
   exact eG Hok.out Hr.out Hcl.out hE2.out HI.out
 ·have hno:dH x base k=false:=by simpa using hok
  have Hno:=Hi hno;clear hok;simp only [dH,Bool.and_eq_false_iff,decide_eq_false_iff_not] at hno;go_enter Tryz.func39,Tryz.ntmps39
  go_wp2_with (go_at_call 40;refine (bu _ _).mono ?_;rintro e w1 ⟨rfl,hb1⟩;obtain ⟨hc1,hf1⟩:=dK hb1;have hz1:w.heap.size+1<w1.heap.size:=by (have:=hb1.size;simp at this;omega))
  all_goals first
   | (go_ret2;exact fM Hno.out (Ext.trans (Ext.trans (Ext.alloc _ _) (Ext.alloc _ _)) hb1))
   | (exfalso;simp_all;omega)
end Go.Proofs.YtohahgiidooijaaGreat
