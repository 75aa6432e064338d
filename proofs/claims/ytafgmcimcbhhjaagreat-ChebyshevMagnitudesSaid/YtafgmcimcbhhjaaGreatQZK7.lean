/- A list of slices of one's own that grows. -/
import Derived.Test.YtafgmcimcbhhjaaGreatQZM7
import Derived.Test.YtafgmcimcbhhjaaGreatQZK4
import Derived.Test.YtafgmcimcbhhjaaGreatQZK6
import Derived.Test.YtafgmcimcbhhjaaGreatQZK5
import Derived.Test.YtafgmcimcbhhjaaGreatQZK3
import Derived.Test.YtafgmcimcbhhjaaGreatQZK1
set_option linter.unusedVariables false
namespace Go.Proofs.YtafgmcimcbhhjaaGreat
open Go.RowKit Go.Front Go.Num
theorem Ar:(Tryz.prog.info? 24).map (fun i=>(i.zero,i.size,i.bytes))=some (some (.slice none 0 0),1,24):=by kernel_rfl
def bA(xs:List SH):List Value:=xs.map SH.v
theorem dw(xs:List SH):(bA xs).length=xs.length:=nXk _
theorem gC(xs ys:List SH):bA (xs++ys)=bA xs++bA ys:=List.map_append
theorem m8(xs:List SH):(bA xs).all gW=true:=by
 rw [List.all_eq_true];intro x hx;obtain ⟨s,-,rfl⟩:=nYd.1 hx;rfl
theorem po(xs:List SH):∀ u ∈ bA xs,u.oneCell'=true:=by
 intro x hx;obtain ⟨s,-,rfl⟩:=nYd.1 hx;rfl
def SBk(w:World)(L:Nat)(xs:List SH)(re:Array Value):Prop:=w.heap[L]?=some (.cells ((bA xs).toArray++re) 24 (0,0))
theorem SBk.ext{w w':World}{L:Nat}{xs:List SH}{re:Array Value}(h:SBk w L xs re)(he:Ext w w'):SBk w' L xs re:=he.block h
instance {w w':World} {L:Nat} {xs:List SH} {re:Array Value}:Go.Front.Mv w w' (SBk w L xs re) (SBk w' L xs re):=⟨fun e h=>SBk.ext h e⟩

theorem SBk.lt{w:World}{L:Nat}{xs:List SH}{re:Array Value}(h:SBk w L xs re):L<w.heap.size:=(nXa.1 h).1
theorem SBk.noU{w:World}{L:Nat}{xs:List SH}{re:Array Value}(h:SBk w L xs re)(hre:re.toList.all gW=true):NoU w L :=
 ai h (by rw [Array.toList_append,List.all_append,hre,m8];rfl)
theorem SBk.cell{w:World}{L:Nat}{xs:List SH}{re:Array Value}(h:SBk w L xs re){k:Nat}(hk:k<xs.length):w.cell? ⟨L,k,none⟩=some (xs.getD k ⟨none,0,0⟩).v:=by
 rw [ab h,Array.getElem?_append_left (by rw [List.size_toArray,dw];exact hk),List.getElem?_toArray];unfold bA;rw [nXu,nXc,List.getElem?_eq_getElem hk];rfl
theorem jY(n:Nat):(Builtin.zeroCells (Value.slice none 0 0).cells n).toList.all gW=true:=by
 rw [List.all_eq_true];intro x hx;have h0:(Value.slice none 0 0).cells=#[.slice none 0 0]:=by rfl
 rw [h0] at hx;simp [Builtin.zeroCells,Nat.mod_one] at hx;rw [←hx.2];rfl
def o6(w:World)(D:Nat→Prop)(v:Value)(xs:List SH):Prop:=(v=.slice none 0 0∧xs=[])∨∃ L cap re,v=.slice (some ⟨L,0,none⟩) xs.length cap∧D L∧SBk w L xs re∧xs.length≤cap∧cap≤9223372036854775807∧xs.length+re.size=cap∧re.toList.all gW=true
theorem o6.ext{w w':World}{D:Nat→Prop}{v:Value}{xs:List SH}(h:o6 w D v xs)(he:Ext w w'):o6 w' D v xs :=
 h.imp id fun ⟨L,cap,re,h1,h2,h3,h4⟩=>⟨L,cap,re,h1,h2,h3.ext he,h4⟩
instance {w w':World} {D:Nat→Prop} {v:Value} {xs:List SH}:Go.Front.Mv w w' (o6 w D v xs) (o6 w' D v xs):=⟨fun e h=>o6.ext h e⟩

theorem o6.mono{w:World}{D D':Nat→Prop}{v:Value}{xs:List SH}(h:o6 w D v xs)(hD:∀ k,k<w.heap.size→D k→D' k):o6 w D' v xs :=
 h.imp id fun ⟨L,cap,re,h1,h2,h3,h4⟩=>⟨L,cap,re,h1,hD _ h3.lt h2,h3,h4⟩
theorem kI(T ty:TypeId)(hT:Tryz.prog.underlying T=some (.slice 24))(w:World)(D:Nat→Prop)(v:Value)(xs:List SH)(x:SH)(N:Nat)(hown:o6 w D v xs)(hN:SBk w N [x] #[])(hl:xs.length≤1073741824)(hD:∀ k,w.heap.size≤k→D k) :
    ∃ L cap w',(Builtin.append_ #[T,T] ty #[v,.slice (some ⟨N,0,none⟩) 1 1]).run Tryz.prog w=.ok (.slice (some ⟨L,0,none⟩) (xs.length+1) cap) w'∧o6 w' D (.slice (some ⟨L,0,none⟩) (xs.length+1) cap) (xs++[x])∧aY D w w'∧eO w w':=by
  obtain ⟨i0,hi0,hz0,hz1,hz2⟩:=info_parts Ar;have hnl:(bA [x]).length=1*i0.size:=by rw [hz1];rfl
  have hone:∀ j u,(bA [x])[j]?=some u→w.cell? ((⟨N,0,none⟩:Addr).add j)=some u:=by
    intro j u hj;rw [eo,ab hN,Array.append_empty,List.getElem?_toArray];exact hj
  have hgc:∀ need old,need≤9223372036854775807→need≤grownCap w need old 24∧grownCap w need old 24≤9223372036854775807:=fun need old h=>⟨grownCap_ge _ _ _ _,by have:=grownCap_le_maxLen w need old 24 (by simpa [maxLen] using h);simpa [maxLen] using this⟩
  have hzs:(Value.slice none 0 0).cells.size=1:=by rfl
  rcases hown with ⟨rfl,rfl⟩|⟨L,cap,re,rfl,h1,h2,h3,h4,h5,h6⟩
  · have hr:=run_append_nil (P:=Tryz.prog) w T ty _ i0 _ hT hi0 hz0 ⟨N,0,none⟩ 1 1 (bA [x]) hnl hone (by decide) (by decide) (by rw [hz2];decide)
    obtain ⟨g1,g2⟩:=hgc 1 0 (by decide);have he:Ext w (w.drew.alloc (.cells ((bA [x]).toArray++Builtin.zeroCells (Value.slice none 0 0).cells (grownCap w 1 0 24-1)) 24)):=(Ext.drew w).trans (Ext.alloc _ _);refine ⟨_,_,_,hr,Or.inr ⟨_,_,_,rfl,hD _ (nXd _),heap_alloc_new w.drew _,g1,g2,?_,jY _⟩,aY.of_ext he,eB he⟩;rw [size_zeroCells,hzs];simp only [nXh,List.length_nil,List.length_cons];omega
  · by_cases hroom:xs.length+1≤cap
    · have hcs:((bA xs).toArray++re).size=cap:=by rw [Array.size_append,List.size_toArray,dw,h5]
      have hr:=run_append_room (P:=Tryz.prog) w T ty _ i0 hT hi0 L xs.length cap _ h2 ⟨N,0,none⟩ 1 1 (bA [x]) hnl hone (po _) hroom (by rw [hcs,hz1,hnl,hz1];omega);have e:(((bA xs).toArray++re).toList.take (xs.length*i0.size)++bA [x]++((bA xs).toArray++re).toList.drop (xs.length*i0.size+(bA [x]).length)).toArray=(bA (xs++[x])).toArray++(re.toList.drop 1).toArray:=by
        rw [hz1,hnl,hz1,Nat.mul_one,Array.toList_append,gC,←dw xs,List.take_left,←List.drop_drop,List.drop_left];apply Array.ext';simp
      rw [e] at hr;refine ⟨_,_,_,hr,Or.inr ⟨L,cap,_,by simp,h1,setRow_heap w L _ _ _ _ h2,by simpa using hroom,h4,?_,?_⟩,⟨rfl,rfl,rfl,by simp,fun k hk hnd=>setRow_other w L k _ (fun e=>hnd (e ▸ h1))⟩,iR (h2.noU h6) fun k _ hk=>setRow_other w L k _ hk⟩
      · simp
        omega
      · rw [List.all_eq_true] at h6 ⊢
        intro x hx;exact h6 x (List.mem_of_mem_drop hx)
    · have hr := run_append_grow (P := Tryz.prog) w T ty _ i0 _ hT hi0 hz0 ⟨L, 0, none⟩ xs.length cap (bA xs) (by rw [dw, hz1, Nat.mul_one]) (fun j u hj => by
          have hlt:j<(bA xs).length:=(List.getElem?_eq_some_iff.1 hj).1;rw [eo,ab h2,Array.getElem?_append_left (by rw [List.size_toArray];exact hlt),List.getElem?_toArray];exact hj) ⟨N,0,none⟩ 1 1 (bA [x]) hnl hone (by omega) (by omega) (growslice_fits (by omega) (by rw [hz2];omega))
      obtain ⟨g1,g2⟩:=hgc (xs.length+1) cap (by omega);have he:Ext w (w.drew.alloc (.cells ((bA xs).toArray++(bA [x]).toArray++Builtin.zeroCells (Value.slice none 0 0).cells (grownCap w (xs.length+1) cap 24-(xs.length+1))) 24)):=(Ext.drew w).trans (Ext.alloc _ _);refine ⟨_,_,_,hr,Or.inr ⟨w.heap.size,_,Builtin.zeroCells (Value.slice none 0 0).cells (grownCap w (xs.length+1) cap 24-(xs.length+1)),by simp,hD _ (nXd _),?_,by simpa using g1,g2,?_,jY _⟩,aY.of_ext he,eB he⟩
      · unfold SBk
        rw [gC];have e2:(bA xs++bA [x]).toArray=(bA xs).toArray++(bA [x]).toArray:=by simp
        rw [e2];exact heap_alloc_new w.drew _
      · rw [size_zeroCells,hzs]
        simp only [nXh,List.length_nil,List.length_cons];omega
theorem iH{w:World}{ops:Array Oper}{rest:List Oper}{o:Oper}{a:Act}{Q:Exit→Act→World→Prop}(hgd:o.guard=none)(s x:Operand)(T:TypeId)(hT:Tryz.prog.underlying T=some (.slice 24))
 (ho:o.op=.call { callee:=.builtin .append,args:=#[s,x],argTypes:=#[T,T] })(D:Nat→Prop)(v:Value)(xs:List SH)(r:SH)(hs:a.eval s=v)(hown:o6 w D v xs)
 (hx:a.eval x=.slice (some ⟨w.heap.size,0,none⟩) 1 1)(hl:xs.length≤1073741824)(hD:∀ k,w.heap.size≤k→D k)
 (h:∀ L cap w',o6 w' D (.slice (some ⟨L,0,none⟩) (xs.length+1) cap) (xs++[r])→aY D w w'→eO w w'→wpList Tryz.prog ops Q rest (a.put o.dst (.slice (some ⟨L,0,none⟩) (xs.length+1:Nat) cap)) w'):wpList Tryz.prog ops Q (o :: rest) a (w.alloc (.cells #[.slice r.a r.n r.c] 24)):=by
 have hE:Ext w (w.alloc (.cells #[.slice r.a r.n r.c] 24)):=Ext.alloc _ _;refine wpList_plain hgd fun K hK=>?_
 obtain ⟨L,cap,w',hrun,g1,g2,g3⟩:=kI T o.type hT (w.alloc (.cells #[.slice r.a r.n r.c] 24)) D v xs r w.heap.size (hown.ext hE) (by unfold SBk;exact heap_alloc_new _ _) hl (fun k hk=>hD k (nXe hE.size hk));unfold Oper.wp;simp [execOp,ho,resolve,invoke,builtin,hs,hx,hrun,Result.andThen];exact hK _ _ (by simpa using h L cap w' g1 ((aY.of_ext hE).trans g2) (fun _ _ _ _ hU=>g3 _ _ _ _ (hU.ext hE)))
def ChM(w:World)(lo B:Nat)(v:Value)(ps:List (List Rat)):Prop:=∃ xs,o6 w (·=B) v xs∧xs.length=ps.length∧∀ k,k<ps.length→∃ b,b≠B∧lo≤b∧LIn w (xs.getD k ⟨none,0,0⟩) (ps.getD k []) b (b+1)
theorem ChM.ext{w w':World}{lo B:Nat}{v:Value}{ps:List (List Rat)}(h:ChM w lo B v ps)(he:Ext w w'):ChM w' lo B v ps :=
 let ⟨xs,h1,h2,h3⟩:=h;⟨xs,h1.ext he,h2,fun k hk=>let ⟨b,h4,h6,h5⟩:=h3 k hk;⟨b,h4,h6,h5.ext he⟩⟩
instance {w w':World} {lo B:Nat} {v:Value} {ps:List (List Rat)}:Go.Front.Mv w w' (ChM w lo B v ps) (ChM w' lo B v ps):=⟨fun e h=>ChM.ext h e⟩

theorem mp{α:Type}{l m:List α}{d:α}{k:Nat}(h:k<l.length):(l++m).getD k d=l.getD k d:=by
 rw [nXc,nXc,List.getElem?_append_left h]
theorem mo{α:Type}{l:List α}{x d:α}:(l++[x]).getD l.length d=x:=by simp
theorem iI{w:World}{ops:Array Oper}{rest:List Oper}{o:Oper}{a:Act}{Q:Exit→Act→World→Prop}(hgd:o.guard=none)(s x:Operand)(T:TypeId)(hT:Tryz.prog.underlying T=some (.slice 24))
 (ho:o.op=.call { callee:=.builtin .append,args:=#[s,x],argTypes:=#[T,T] })(lo B:Nat)(v:Value)(ps:List (List Rat))(r:SH)(p:List Rat)(b:Nat)(hs:a.eval s=v)(hown:ChM w lo B v ps)(hr:LIn w r p b (b+1))(hb:b≠B)(hbo:lo≤b)
 (hx:a.eval x=.slice (some ⟨w.heap.size,0,none⟩) 1 1)(hl:ps.length≤1073741824)
 (h:∀ L cap w',ChM w' lo L (.slice (some ⟨L,0,none⟩) (ps.length+1:Nat) cap) (ps++[p])→Mut B w w'→(L=B∨w.heap.size≤L)→L<w'.heap.size→wpList Tryz.prog ops Q rest (a.put o.dst (.slice (some ⟨L,0,none⟩) (ps.length+1:Nat) cap)) w'):wpList Tryz.prog ops Q (o :: rest) a (w.alloc (.cells #[.slice r.a r.n r.c] 24)):=by
 obtain ⟨xs,h1,h2,h3⟩:=hown;refine iH hgd s x T hT ho (fun k=>k=B∨w.heap.size≤k) v xs r hs (h1.mono fun k _ e=>Or.inl e) hx (by rw [h2];exact hl) (fun k hk=>Or.inr hk) ?_;intro L cap w' q1 q2 q3;rw [h2];have hm:Mut B w w':=⟨q3,⟨q2.os,q2.tape,q2.output,q2.size,fun k hk hn=>q2.block k hk (fun h=>h.elim hn (fun h4=>Nat.lt_irrefl _ (nXm hk h4)))⟩⟩;rw [h2] at q1;rcases q1 with ⟨e,-⟩|⟨L2,cap2,re,e,g1,g2,g3⟩
 ·cases e
 ·obtain ⟨rfl,rfl⟩:L=L2∧cap=cap2:=by
   simp only [Value.slice.injEq,Option.some.injEq,Addr.mk.injEq] at e;exact ⟨e.1.1,e.2.2⟩
  have hne:∀ c,c≠B→c<w.heap.size→c≠L:=fun c h4 h5 h6=>by
   rcases g1 with h7|h7
   ·exact h4 (h6.trans h7)
   ·omega
  have hlt:∀ s q c,LIn w s q c (c+1)→c≠B→lo≤c→∃ c',c'≠L∧lo≤c'∧LIn w' s q c' (c'+1):=by
   intro s q c h4 h5 h9;have h6:=h4.mut hm (by omega);by_cases h7:c<w.heap.size
   ·exact ⟨c,hne c h5 h7,h9,h6⟩
   ·obtain ⟨rs,k1,k2,k3⟩:=h6;refine ⟨L+1+lo,by omega,by omega,rs,k1,k2,Or.inl ?_⟩;rcases k3 with k3|⟨y,off,e3,k4,k5⟩
    ·exact k3
    ·obtain ⟨rs2,m1,m2,m3⟩:=h4;rcases m1.in with m4|⟨y2,o2,e4,-,m5⟩
     ·exact m4
     ·rw [e3] at e4;simp only [Option.some.injEq,Addr.mk.injEq] at e4;omega
  refine h L cap w' ⟨xs++[r],Or.inr ⟨L,cap,re,by simp [h2],rfl,g2,g3⟩,by simp [h2],fun k hk=>?_⟩ hm g1 g2.lt;rw [nXh,List.length_cons,List.length_nil] at hk;by_cases hk2:k<ps.length
  ·obtain ⟨c,h4,h8,h5⟩:=h3 k hk2;obtain ⟨c',h6,h9,h7⟩:=hlt _ _ c h5 h4 h8;refine ⟨c',h6,h9,?_⟩;rw [mp (by omega),mp hk2];exact h7
  ·obtain rfl:k=ps.length:=by omega
   obtain ⟨c',h6,h9,h7⟩:=hlt _ _ b hr hb hbo;refine ⟨c',h6,h9,?_⟩;rw [←h2,mo,h2,mo];exact h7
end Go.Proofs.YtafgmcimcbhhjaaGreat
/- remainders of package sturm. -/
namespace Go.Proofs.YtafgmcimcbhhjaaGreat
open Go.RowKit Go.Front Go.Num Stab Sg
attribute [local go_sem] XW.cell XW.frozen
theorem jG{S D:Nat}{p:List Rat}(hf:∀ x ∈ p,Fr S D x)(hl:p.length≤100000):∀ x ∈ tz (aM p),Fr (S+1) D x:=by
 intro x hx;obtain ⟨i,hi,rfl⟩:=dA hx;rw [aG];have h1:=dt p i;unfold seq at h1;rw [h1];by_cases h2:i+1<p.length
 ·obtain ⟨w1,w2⟩:=hf _ (dR h2);obtain ⟨z,hz⟩:=Wh.iff.1 w1;rw [hz,Rat.num_intCast] at w2;refine Fr.int (z:=((i+1:Nat):Int)*z) ?_ (by rw [nYb,hz];exact_mod_cast rfl);rw [Int.natAbs_mul,nYf,nXt,nYc];exact Nat.mul_lt_mul'' w2 (by show _<4294967296;omega)
 ·rw [aT (by omega)];rw [nXz];exact Fr.zero _ _
theorem zf{K S D:Nat}{p:List Rat}(hD:0<D)(hf:∀ x ∈ p,Fr S D x)(hl:p.length≤1000)(h0:tz p≠[])(hK:KZ K S p.length):GZ K (S+1) p (tz (aM p)):=by
 obtain ⟨n,hn⟩:∃ n,(tz p).length=n+1:=⟨(tz p).length-1,by have:=nYe.2 h0;omega⟩;have hd:=iu p n hn;have hp:=ag p;rcases hK with hK|hK
 ·refine zm (P:=p.length) (Q:=p.length-1) (nXd _) (by omega) ?_;rw [show max p.length (p.length-1+1)=p.length by omega];exact hK
 ·refine zl (P:=p.length) (Q:=p.length) hD hD (fun x hx=>(hf x hx).mono (Nat.le_succ S)) (jG hf (by omega)) (nXd _) (by omega) (by omega) ?_;rw [show p.length+p.length=2*p.length by omega];exact hK
theorem j8{S D:Nat}{p:List Rat}(hS:1≤S)(hD:0<D)(hf:∀ x ∈ p,Fr S D x)(hl:p.length≤1000)(h0:tz p≠[]){K:Nat}(hK:KZ K S p.length):∃ X,S+1≤X∧RmI K (aA p) (aA (tz (aM p))) X:=by
 obtain ⟨n,hn⟩:∃ n,(tz p).length=n+1:=⟨(tz p).length-1,by have:=nYe.2 h0;omega⟩;have hd:=iu p n hn;have hp:=ag p;have hb:(aA (tz (aM p))).length=(tz (aM p)).length:=by rw [aK,aF]
 have ha:(aA p).length=n+1:=by rw [aK,hn]
 have hft:∀ x ∈ tz p,Fr S D x:=fun x hx=>by
  obtain ⟨i,hi,rfl⟩:=dA hx;rw [aG];exact hf _ (dR (by omega))
 obtain ⟨X,h1,h2⟩:=zf hD hf hl h0 hK;exact ⟨X,h1,bC _,bC _,fun x hx=>(eJ hft hD x hx).mono (by omega),fun x hx=>(eJ (fun y hy=>jG hf (by omega) y (by rwa [aF] at hy)) hD x hx).mono h1,by omega,h2,Or.inr (by omega),by omega,by omega⟩
theorem qz(p:List Rat):aA (tz p)=aA p:=by unfold aA bO;rw [aF]
end Go.Proofs.YtafgmcimcbhhjaaGreat
/- Package dspcompilerref06: the members of its chain and their sizes. Plain facts. -/
namespace Go.Proofs.YtafgmcimcbhhjaaGreat
open Go.RowKit Go.Front Go.Num Stab Sg
theorem lF{p q:List Rat}{c:Rat}(hc:0<c)(h:∀ n,seq p n=seq q n*c):aR p=aR q:=by
 have hc0:c≠0:=fun h=>by rw [h] at hc;exact absurd hc Rat.lt_irrefl
 have h1:tz p=(tz q).map (·*c):=by
  rw [←eW hc0];exact jp fun n=>by rw [aS];exact h n
 by_cases h0:tz q=[]
 ·unfold aR;rw [h1,h0];rfl
 ·have hl:((tz q).getLast?.getD 0).abs≠0:=fun k=>by
   have h2:=tG h0;rw [k] at h2;have e0:(1:Rat) / 0=0:=by rw [Rat.div_def,Rat.inv_zero,nXz]
   rw [e0] at h2;exact absurd h2 Rat.lt_irrefl
  have e:((tz p).getLast?.getD 0).abs=((tz q).getLast?.getD 0).abs*c:=by
   rw [h1,List.getLast?_map];cases k:(tz q).getLast? with
   | none=>exact absurd (List.getLast?_eq_none_iff.1 k) h0
   | some y=>exact lw hc y
  unfold aR;rw [e,h1,List.map_map];refine List.map_congr_left fun x hx=>?_
  show x*c*(1 / (((tz q).getLast?.getD 0).abs*c))=x*(1 / ((tz q).getLast?.getD 0).abs);have h3:=iU hc0 1 hl;rw [Rat.one_mul] at h3;rw [←h3];rw [Rat.div_def,Rat.div_def];have h4:=nYh c hc0;grind
theorem mP(p:List Rat):aR (aR p)=aR p:=by
 by_cases h:tz p=[]
 ·rw [eS.2 h];rfl
 ·exact lF (tG h) (fun n=>by unfold aR;rw [aS,aN])
theorem gq(p:List Rat):aR (aA p)=aR p:=by
 by_cases h:tz p=[]
 ·rw [bV.2 h,eS.2 h];rfl
 ·exact (lF (bL h) (fun n=>by rw [df p n];grind)).symm
theorem wI:∀ (n:Nat) (a b:List Rat),aR a=a→aR b=b→∀ m ∈ rch n a b,aR m=m:=by
 intro n;induction n with
 | zero=>intro a b _ _ m hm;simp [rch] at hm
 | succ n ih =>
  intro a b ha hb m hm;unfold rch at hm;split at hm
  ·simp at hm
  ·split at hm
   ·obtain rfl:m=a:=by simpa using hm
    exact ha
   ·rcases List.mem_cons.1 hm with rfl|hm
    ·exact ha
    ·exact ih _ _ hb (mP _) m hm
theorem lk(q:List Rat):f9 q=(cb q).map aR:=by
 have h1:=m9 (q.length+1) (aR q) (aR (aM q)) (fL _) (fL _);rw [eR,eR] at h1;show _=(chn (q.length+1) (aA q) (aA (aM q))).map aR;rw [←h1,List.map_map];have h2:=wI (q.length+1) (aR q) (aR (aM q)) (mP _) (mP _);show rch (q.length+1) (aR q) (aR (aM q))=_;refine (List.map_id _).symm.trans (List.map_congr_left fun m hm=>?_);show m=aR (aA m);rw [gq,h2 m hm]
theorem uh{a b:List Rat}(ha:tz a≠[])(hb:tz b≠[]):aR (bQ (bq (aR a) (aR b)) ((-1:Int):Rat))=aR (aA ((bq a b).map (·*-1))):=by
 have hua:tz (aR a)≠[]:=fun h=>by rw [fL] at h;exact ha (eS.1 h)
 have hub:tz (aR b)≠[]:=fun h=>by rw [fL] at h;exact hb (eS.1 h)
 have h1:=kP hua hub;have h2:=kP ha hb;rw [eR,eR] at h1;have h3:∀ l:List Rat,aR (bQ l ((-1:Int):Rat))=aR (l.map (·*-1)):=fun l=>by
  unfold bQ aR;rw [aF];rfl
 rw [h3,←gq,←h1,h2]
theorem sx{a b:List Rat}{S U:Nat}(h:∃ s r f,DvP a b S U s r f):∃ s r f,0<f∧DvP a b S U s r f:=by
 obtain ⟨s,r,f,h⟩:=h;rcases tri f 0 with h0|h0|h0
 ·obtain ⟨d0,d1,d2,d3,d4,d5,d6,d7⟩:=h;refine ⟨s.map (·*-1),r.map (·*-1),-f,by grind,by grind,d1.neg,fun x hx=>?_,fun x hx=>?_,by rw [eW (by decide),d4],by simpa using d5,by simpa using d6,fun n=>?_⟩
  ·obtain ⟨y,hy,rfl⟩:=nYd.1 hx;rw [show y*-1=-y by grind];exact (d2 y hy).neg
  ·obtain ⟨y,hy,rfl⟩:=nYd.1 hx;rw [show y*-1=-y by grind];exact (d3 y hy).neg
  ·have e:seq (s.map (·*-1))=fun i=>-1*seq s i:=by funext i;rw [aS];grind
   rw [e,fl,aS];have:=d7 n;grind
 ·exact absurd h0 h.1
 ·exact ⟨s,r,f,h0,h⟩
theorem wt(p:List Rat):aR p=bj p∨aR p=(bj p).map (·*-1):=by
 by_cases h:tz p=[]
 ·left;rw [eS.2 h];unfold bj;rw [if_pos h]
 ·obtain ⟨n,hn,h0⟩:=eM h;have hl:aV (tz p)=seq p n:=by unfold aV;rw [hn,aG];rfl
  have hl2:(tz p).getLast?.getD 0=seq p n:=by
   rw [List.getLast?_eq_getElem?,hn,Nat.add_sub_cancel,←nXc,aG];rfl
  rw [ig h,hl];unfold aR;rw [hl2];unfold Rat.abs;split
  ·left;rfl
  ·right
   rw [List.map_map];refine List.map_congr_left fun x hx=>?_
   show x*(1 / -(seq p n))=x*(((1:Int):Rat) / seq p n)*-1;have e1:=aQ (a:=1) (b:=seq p n) h0;have e2:=aQ (a:=1) (b:=-(seq p n)) (by grind);have e3:1 / -(seq p n)=-(1 / seq p n):=by
    have h3:(1 / -(seq p n)+1 / seq p n)*seq p n=0:=by grind
    rcases nXq.1 h3 with h4|h4
    ·grind
    ·contradiction
   rw [e3,show ((1:Int):Rat)=1 from rfl];grind
theorem kA{a:List Rat}{X:Nat}(ha:∀ x ∈ a,Wz X x)(ht:tz a=a)(hX:1≤X):∃ D,0<D∧D<W32 ^ X∧FrL X D (aR a):=by
 obtain ⟨D,h1,h2,h3⟩:=kS ha ht hX;refine ⟨D,h1,h2,?_⟩;rcases wt a with e|e
 ·rw [e];exact h3
 ·rw [e];intro x hx;obtain ⟨y,hy,rfl⟩:=nYd.1 hx;rw [show y*-1=-y by grind];exact (h3 y hy).neg
theorem gZ(p:List Rat):(aR p).length=(tz p).length:=by unfold aR;rw [nXk]
theorem xy{T:Nat}{x:Rat}(h:Sz T x):Fr T x.den x:=by
 refine Fr.int (z:=x.num) h.1 ?_;exact low x
theorem zu{S D T:Nat}{l:List Rat}{x:Rat}(hl:FrL S D l)(hx:Sz T x):∀ j k,k+j=l.length→Fr (S+j*(T+1)) (D*x.den ^ j) (evV (l.drop k) x):=by
 intro j;induction j with
 | zero =>
  intro k hk;rw [List.drop_eq_nil_of_le (by omega)];exact Fr.zero _ _
 | succ j ih =>
  intro k hk;rw [jC l x (by omega)];have h1:=(ih (k+1) (by omega)).mul (xy hx);have hd:x.den ^ (j+1)≤W32 ^ (T*(j+1)):=by
   rw [Nat.pow_mul];exact Nat.pow_le_pow_left (nYj hx.2) _
  have h2:=(hl.at k).up (E:=x.den ^ (j+1)) hd (nYk x.den_pos);rw [Nat.mul_assoc,←nXt] at h1;have e1:j*(T+1)=j*T+j:=Nat.mul_succ _ _;have e2:(j+1)*(T+1)=j*T+j+(T+1):=by rw [nXx,e1]
  have e3:T*(j+1)=j*T+T:=by rw [Nat.mul_succ,nYc]
  refine ((h1.mono (S':=S+j*T+j+T) (by omega)).add (h2.mono (by omega))).mono (by omega)
theorem kk{S D T:Nat}{l:List Rat}{x:Rat}(hl:FrL S D l)(hx:Sz T x)(hS:1≤S)(hD:0<D)(hD2:D<W32 ^ S)(k:Nat):Sz (S+l.length*(T+1)) (evV (l.drop k) x):=by
 rcases Nat.lt_or_ge l.length k with h|h
 ·rw [List.drop_eq_nil_of_le (by omega)];exact (Sz.int (z:=0) (by decide)).mono (by omega)
 ·have h1:=zu hl hx (l.length-k) k (by omega);have hm:(l.length-k)*(T+1)≤l.length*(T+1):=nXg _ (by omega);refine (h1.sz (by omega) (Nat.mul_pos hD (nYk x.den_pos)) ?_).mono (by omega);have hd:x.den ^ (l.length-k)≤W32 ^ ((l.length-k)*(T+1)):=by
   rw [nYc,Nat.pow_mul];refine Nat.pow_le_pow_left (nXe (nYj hx.2) (nXo au (by omega))) _
  rw [Nat.pow_add];exact Nat.mul_lt_mul_of_lt_of_le hD2 hd (nYk au)
end Go.Proofs.YtafgmcimcbhhjaaGreat
/- Derivative of the reference's polynomials. -/
namespace Go.Proofs.YtafgmcimcbhhjaaGreat
open Go.RowKit Go.Front Go.Num Stab Sg
attribute [local go_sem] XW.cell XW.frozen
theorem sK(l:List Rat)(j:Nat):(List.range (j+1)).map (uW l)=(List.range j).map (uW l)++[l.getD (j+1) 0*(((j+1:Nat):Int):Rat)]:=co (uW l) j
set_option maxRecDepth 4000 in
set_option maxHeartbeats 2000000 in
theorem lg(ao:Option Addr)(n cap:Nat)(l:List Rat)(w:World)(h:cj w ⟨ao,n,cap⟩ l)(hn:n≤1000000)(hz:SzL 8388608 l) :
  ar 53 [.slice ao n cap] w SH.v (fun s w'=>cK w.heap.size w' s (tz (aM l))):=by
 have HX:=Hi (Ext.refl w);have LA:=Hi h.lin;have Hlen:=Hi h.len;simp only at Hlen;have HZ:=Hi hz;clear h hz;unfold ar;go_enter Tryz.func53,Tryz.ntmps53;go_wp2
 go_loopg [3,4] (n-1) (fun g v i wr=>∃ (j:Nat) (s:SH),v=s.v∧j+g=n-1∧i=.int .i64 ((j:Int)+1)∧Ext w wr∧dO wr (w.heap.size≤·) s.v ((List.range j).map (uW l)))
 case atStart=>exact ⟨0,⟨none,0,0⟩,rfl,by omega,rfl,HX.out,dO.nil _ _⟩
 case round =>
  obtain ⟨j,⟨sa,sn,sc⟩,rfl,hj,rfl,g1,g4⟩:=hrel;clear HX;have HX:=Hi g1;have HO:=Hi g4;have LA2:=Hi (LA.out.ext g1);have hsz:=g1.size;clear g1 g4;simp only [SH.v];have HLj:Hid (((List.range j).map (uW l)).length=j):=Hi (by simp);by_cases h0:gk=0
  case pos =>
   subst h0;have hin:¬ (j:Int)+1<n:=by omega
   have hsn:=dO.len (s:=⟨sa,sn,sc⟩) HO.out;rw [HLj.out] at hsn;simp only at hsn;subst hsn;have HSz:Hid (SzL 16777216 ((List.range j).map (uW l))):=Hi (by
    intro q hq;obtain ⟨k,hk,rfl⟩:=nYd.1 hq;have hk:=List.mem_range.1 hk;have h1:Sz 8388608 (l.getD (k+1) 0):=HZ.out.at (by rw [Hlen.out];omega);exact (h1.mul (Sz.int (z:=((k+1:Nat):Int)) (by rw [nYf];show _<4294967296;omega))).mono (by decide))
   have HV:Hid (tz ((List.range j).map (uW l))=tz (aM l)):=Hi (by
    by_cases h1:n=0
    ·have hl:l=[]:=nXi.1 (by rw [Hlen.out];exact h1);have hj0:j=0:=by omega
     rw [hl,hj0];rfl
    ·exact uV l (by rw [Hlen.out];omega))
   go_wp2_with fail
   refine cM (aZ sa j sc _ _ ((dO.can (s:=⟨sa,j,sc⟩) HO.out).raw HSz.out (by decide)) (by omega)) fun x22 w22 hE G22=>?_
   refine mV3 hE ?_ HX HO LA2;clear HX HO LA2;intro HX HO LA2;have hs_w22:=hE.size;clear hE;go_wp2
   go_ret
   exact ⟨x22,rfl,HX.out,by rw [←HV.out];exact G22.out.mono hsz⟩
  have hjn:(j:Int)+1<n:=by omega
  have hjn2:j+1<n:=by omega
  have HJI:Hid ((j:Int)+1=((j+1:Nat):Int)):=Hi (by omega);obtain ⟨b,off,r,hao,hbl,⟨hc1,hc2,hc3⟩,hP⟩:=LA2.out.celx (k:=j+1) hjn2;obtain ⟨rneg,ra,rn,rc,rb,rm,rd⟩:=r;simp only at hc1 hc2 hc3;subst hao;have RP:=Hi hP;clear hP;have ZP:Hid (Sz 8388608 (l.getD (j+1) 0)):=Hi (HZ.out.at (by rw [Hlen.out];exact hjn2));have HNx:=Hi (sK l j)
  go_upto_region 5 with fail
  refine wpG 9 (fun opIx=>match opIx with
   | 6=>.spec RH default RH.v (fun s w'=>aB w' s ((((j+1:Nat):Int):Rat)))
   | 7=>.spec RH default RH.v (fun s w'=>aB w' s (l.getD (j+1) 0*(((j+1:Nat):Int):Rat)))
   | 8=>.spec (Nat×RH) ((0,default)) (fun p=>.slice (some ⟨p.1,0,none⟩) 1 1) (fun p w'=>gV w' p (l.getD (j+1) 0*(((j+1:Nat):Int):Rat)))
   | _=>.quiet) (fun|7=>[6]|8=>[7]|_=>[]) fun w0 he0 hz0 hc0 hf0=>?_
  refine wps he0.out rfl rfl (fun w1 hW hG=>?_) fun x30=>?_
  ·exact spc [.int .i64 ((j:Int)+1)] Tryz.func36 ((by rw [HJI.out];exact aL ((j+1:Nat):Int) _ (by omega) (by omega)))
  refine qZ ?_;refine wps he0.out rfl rfl (fun w1 hW hG=>?_) fun x31=>?_
  ·have g30:=(hG 6 (by decide):aP _ _).get fun _ e g=>g.ext e
   exact spc [RH.v ⟨rneg,ra,rn,rc,rb,rm,rd⟩,x30.v] Tryz.func48 (dI _ x30 _ _ _ ((RP.out.ext hW).raw ZP.out (by decide)) (g30.raw (Sz.int (by rw [nYf];show _<4294967296;omega)) (by decide)))
  refine qZ ?_;refine wps he0.out rfl rfl (fun w1 hW hG=>?_) fun x32=>?_
  ·have g31:=(hG 7 (by decide):aP _ _).get fun _ e g=>g.ext e
   exact j5 x31 _ g31 rfl (by simp [execOp,go_sem])
  refine qZ ?_;refine am ?_;intro w5 hI;have hE:=he0.out.trans hI.ext;have G30:=gT (hI.facts 6);have G31:=gT (hI.facts 7);have G32:=gT (hI.facts 8);clear hI he0 hz0 hc0 hf0;refine mV4 hE ?_ HX HO LA2 RP;clear HX HO LA2 RP;intro HX HO LA2 RP;have hs_w5:=hE.size;clear hE;simp only [pD];clear hc1 hc2 hc3
  go_upto_region 4 with (at_builtin;refine eQ rfl (.tmp 11) (.tmp 19) 24 Tryz.underlying24 rfl (w.heap.size≤·) _ _ x32.2 _ x32.1 rfl HO.out rfl G32.out.1 G32.out.2 (by rw [HLj.out];omega) (fun k hk=>by omega) ?_;intro s' y3 q1 q2 q3)
  have HX3:=Hi (Ext.mods HX.out q2 (fun k h=>h));have HO3:Hid (dO y3 (w.heap.size≤·) s'.v ((List.range (j+1)).map (uW l))):=Hi (by rw [HNx.out];exact q1);clear q1 q2 q3;go_wp2
  go_roundg (gk-1)
  case measure=>omega
  case rel=>exact ⟨j+1,s',rfl,by omega,by go_num,HX3.out,HO3.out⟩
theorem uG:∀ (f:Nat) (p q:List Rat),bj p=p→bj q=q→bj (mq f p q)=mq f p q:=by
 intro f;induction f with
 | zero=>intro p q h _;exact h
 | succ f ih =>
  intro p q h k;by_cases h0:q=[]
  ·subst h0;rw [fD];exact h
  ·rw [fh h0];exact ih q _ k (iP _)
theorem oM(p q:List Rat):bj (dq p q)=dq p q:=uG _ _ _ (iP p) (iP q)
theorem uF(p q:List Rat):dq p (tz q)=dq p q:=by
 have h:bj (tz q)=bj q:=Pr.mon ⟨1,by decide,fun n=>by rw [aN,Rat.one_mul]⟩;unfold dq;rw [aF,h]
theorem si{p:List Rat}(h:tz p≠[]):tz (dq p (aM p))≠[]:=vN h (vW (gN p (aM p)))
theorem sk(p:List Rat):Dv (evV (dq p (aM p))) (evV p):=(gN p (aM p)).1
theorem yL{p:List Rat}{i:Nat}(h:seq p i≠0):i<p.length:=Classical.byContradiction fun hn=>h (aT (by omega))
theorem yP{p:List Rat}(h:tz p≠[]){T U:Nat}(hp:SzL T p)(hs:SzL U (fI p)):SzL (U+T) (bv p (dq p (aM p))):=by
 have hg0:=si h;have he:=jm hg0 (sk p);have ht:tz (bv p (dq p (aM p)))=bv p (dq p (aM p)):=(bW p hg0).2.2.1;have hsv:fI p=bj (bv p (dq p (aM p))):=rfl;have hgm:=oM p (aM p);generalize bv p (dq p (aM p))=q at *
 generalize dq p (aM p)=g at *
 have hq0:tz q≠[]:=fun h0=>by
  obtain ⟨y,hy⟩:=nm h;exact hy (by rw [he,ay.1 h0 y];grind)
 obtain ⟨m,hm,hm0⟩:=eM hq0;obtain ⟨k,hk,hk0⟩:=eM hg0;have hgl:seq g k=1:=by
  have h1:=uq hg0;rw [hgm] at h1;unfold aV at h1;rw [hk,aG] at h1;exact h1
 have hlead:aV (tz q)=seq q m:=by
  unfold aV;rw [hm,aG];rfl
 have hsp:seq p (m+k)=seq q m:=by
  have h1:=iG (p:=p) (q:=aw q g) (fun x=>by rw [bg,he x];grind) (m+k);rw [h1,cD,fo];have b1:Bd (m+1) (seq q):=by rw [←aN,←hm];exact Bd.seq _
  have b2:Bd (k+1) (seq g):=by rw [←aN,←hk];exact Bd.seq _
  rw [mC b1 b2,hgl,Rat.mul_one]
 have hz:Sz T (seq p (m+k)):=hp.at (yL (by rw [hsp];exact hm0));rw [hsv,ig hq0,hlead,ht] at hs;intro x hx;have h2:=hs _ (nYd.2 ⟨x,hx,rfl⟩);have h3:=h2.mul hz;rw [hsp] at h3;have h4:x*(((1:Int):Rat) / seq q m)*seq q m=x:=by rw [nYb,aQ hm0];exact Rat.mul_one x
 rw [h4] at h3;exact h3
theorem xv(p q:List Rat):tz (dq p q)=dq p q:=by
 have h:=dX (dq p q);rw [oM] at h;exact h
theorem xt{p:List Rat}(h:tz p≠[]):(dq p (aM p)).length≤p.length:=by
 have h1:=jD (sk p) h;rw [xv] at h1;exact nXe h1 (ag p)
theorem qX{p:List Rat}(h:tz p≠[]):(bv p (dq p (aM p))).length≤p.length:=by
 have hg0:=si h;have he:=jm hg0 (sk p);have h1:=jD (a:=bv p (dq p (aM p))) (b:=p) ⟨_,Pf.ev (dq p (aM p)),fun x=>by rw [he x];grind⟩ h;rw [(bW p hg0).2.2.1] at h1;exact nXe h1 (ag p)
theorem mW{p:List Rat}(h:tz p≠[]):(fI p).length≤p.length:=by
 have h1:(fI p).length=(tz (bv p (dq p (aM p)))).length:=cm _;have h2:=ag (bv p (dq p (aM p)));have:=qX h;omega
def FrK(K:Nat)(p:List Rat):Prop:=∃ S D,1≤S∧0<D∧D<W32 ^ S∧FrL S D p∧KZ K S p.length
theorem k9{p:List Rat}(h:tz p≠[]):(tz (aM p)).length+1≤p.length:=by
 obtain ⟨n,hn,-⟩:=eM h;have:=iu p n hn;have:=ag p;omega
theorem ChM.at{w:World}{lo B:Nat}{va:Option Addr}{vn vc:Nat}{ms:List (List Rat)}(h:ChM w lo B (SH.v ⟨va,vn,vc⟩) ms):vn=ms.length∧∀ k,k<ms.length→∃ L a n c,va=some ⟨L,0,none⟩∧L<w.heap.size∧w.cell? ⟨L,k,none⟩=some (.slice a n c)∧cj w ⟨a,n,c⟩ (ms.getD k []):=by
 obtain ⟨xs,h1,h2,h3⟩:=h;rcases h1 with ⟨e,rfl⟩|⟨L,cap,re,e,g1,g2,g3⟩
 ·simp only [SH.v,Value.slice.injEq] at e;refine ⟨by rw [e.2.1,←h2];rfl,fun k hk=>?_⟩;rw [←h2] at hk;simp at hk
 ·simp only [SH.v,Value.slice.injEq] at e;refine ⟨by rw [e.2.1,h2],fun k hk=>?_⟩;obtain ⟨b,-,-,h4⟩:=h3 k hk;exact ⟨L,_,_,_,e.1,g2.lt,g2.cell (by omega),h4.can⟩
theorem uR{α β:Type}(f:α→β)(l:List α)(d:α){k:Nat}(hk:k<l.length):(l.drop k).map f=f (l.getD k d) :: (l.drop (k+1)).map f:=by
 rw [List.drop_eq_getElem_cons hk,List.map_cons,nXc,List.getElem?_eq_getElem hk];rfl
end Go.Proofs.YtafgmcimcbhhjaaGreat
