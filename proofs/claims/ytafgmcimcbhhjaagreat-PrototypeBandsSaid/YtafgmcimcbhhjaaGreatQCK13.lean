import Derived.Test.YtafgmcimcbhhjaaGreatQCK12
set_option linter.unusedVariables false
set_option maxHeartbeats 8000000
set_option maxRecDepth 8000
namespace Go.Proofs.YtafgmcimcbhhjaaGreat
open Go.RowKit Go.Front Go.Num
theorem Gv:(Tryz.prog.info? 24).map (fun i=>(i.zero,i.size,i.bytes))=some (some (.slice none 0 0),1,24):=by kernel_rfl
def bZ(xs:List SH):List Value:=xs.map SH.v
theorem eI(xs:List SH):(bZ xs).length=xs.length:=nXl _
theorem jT(xs ys:List SH):bZ (xs++ys)=bZ xs++bZ ys:=List.map_append
theorem rj(xs:List SH):(bZ xs).all gP=true:=by
 rw [List.all_eq_true];intro x hx;obtain ⟨s,-,rfl⟩:=nYg.1 hx;rfl
theorem uj(xs:List SH):∀ u ∈ bZ xs,u.oneCell'=true:=by
 intro x hx;obtain ⟨s,-,rfl⟩:=nYg.1 hx;rfl
def SBk(w:World)(L:Nat)(xs:List SH)(re:Array Value):Prop:=w.heap[L]?=some (.cells ((bZ xs).toArray++re) 24 (0,0))
theorem SBk.ext{w w':World}{L:Nat}{xs:List SH}{re:Array Value}(h:SBk w L xs re)(he:Ext w w'):SBk w' L xs re:=he.block h
instance {w w':World} {L:Nat} {xs:List SH} {re:Array Value}:Go.Front.Mv w w' (SBk w L xs re) (SBk w' L xs re):=⟨fun e h=>SBk.ext h e⟩

theorem SBk.lt{w:World}{L:Nat}{xs:List SH}{re:Array Value}(h:SBk w L xs re):L<w.heap.size:=(nXb.1 h).1
theorem SBk.noU{w:World}{L:Nat}{xs:List SH}{re:Array Value}(h:SBk w L xs re)(hre:re.toList.all gP=true):NoU w L :=
 ai h (by rw [Array.toList_append,List.all_append,hre,rj];rfl)
theorem SBk.cell{w:World}{L:Nat}{xs:List SH}{re:Array Value}(h:SBk w L xs re){k:Nat}(hk:k<xs.length):w.cell? ⟨L,k,none⟩=some (xs.getD k ⟨none,0,0⟩).v:=by
 rw [ab h,Array.getElem?_append_left (by rw [List.size_toArray,eI];exact hk),List.getElem?_toArray];unfold bZ;rw [nXw,nXd,List.getElem?_eq_getElem hk];rfl
theorem nd(n:Nat):(Builtin.zeroCells (Value.slice none 0 0).cells n).toList.all gP=true:=by
 rw [List.all_eq_true];intro x hx;have h0:(Value.slice none 0 0).cells=#[.slice none 0 0]:=by rfl
 rw [h0] at hx;simp [Builtin.zeroCells,Nat.mod_one] at hx;rw [←hx.2];rfl
def nU(w:World)(D:Nat→Prop)(v:Value)(xs:List SH):Prop:=(v=.slice none 0 0∧xs=[])∨∃ L cap re,v=.slice (some ⟨L,0,none⟩) xs.length cap∧D L∧SBk w L xs re∧xs.length≤cap∧cap≤9223372036854775807∧xs.length+re.size=cap∧re.toList.all gP=true
theorem nU.nil(w:World)(D:Nat→Prop):nU w D (.slice none 0 0) []:=Or.inl ⟨rfl,rfl⟩
theorem nU.ext{w w':World}{D:Nat→Prop}{v:Value}{xs:List SH}(h:nU w D v xs)(he:Ext w w'):nU w' D v xs :=
 h.imp id fun ⟨L,cap,re,h1,h2,h3,h4⟩=>⟨L,cap,re,h1,h2,h3.ext he,h4⟩
instance {w w':World} {D:Nat→Prop} {v:Value} {xs:List SH}:Go.Front.Mv w w' (nU w D v xs) (nU w' D v xs):=⟨fun e h=>nU.ext h e⟩

theorem nU.mono{w:World}{D D':Nat→Prop}{v:Value}{xs:List SH}(h:nU w D v xs)(hD:∀ k,k<w.heap.size→D k→D' k):nU w D' v xs :=
 h.imp id fun ⟨L,cap,re,h1,h2,h3,h4⟩=>⟨L,cap,re,h1,hD _ h3.lt h2,h3,h4⟩
theorem nU.put{w1 w2:World}{D:Nat→Prop}{v:Value}{xs:List SH}{b:Nat}{T:TypeId}{cs:Array Value}(h:nU w1 D v xs)(T2:gy w1 b T cs w2)(hb:¬ D b):nU w2 D v xs :=
 h.imp id fun ⟨L,cap,re,g1,g2,g3,g4⟩=>⟨L,cap,re,g1,g2,T2.rest L _ (fun e=>hb (e ▸ g2)) g3,g4⟩
theorem oq(T ty:TypeId)(hT:Tryz.prog.underlying T=some (.slice 24))(w:World)(D:Nat→Prop)(v:Value)(xs:List SH)(x:SH)(N:Nat)(hown:nU w D v xs)(hN:SBk w N [x] #[])(hl:xs.length≤1073741824)(hD:∀ k,w.heap.size≤k→D k) :
    ∃ L cap w',(Builtin.append_ #[T,T] ty #[v,.slice (some ⟨N,0,none⟩) 1 1]).run Tryz.prog w=.ok (.slice (some ⟨L,0,none⟩) (xs.length+1) cap) w'∧nU w' D (.slice (some ⟨L,0,none⟩) (xs.length+1) cap) (xs++[x])∧bj D w w'∧gX w w':=by
  obtain ⟨i0,hi0,hz0,hz1,hz2⟩:=info_parts Gv;have hnl:(bZ [x]).length=1*i0.size:=by rw [hz1];rfl
  have hone:∀ j u,(bZ [x])[j]?=some u→w.cell? ((⟨N,0,none⟩:Addr).add j)=some u:=by
    intro j u hj;rw [gu,ab hN,Array.append_empty,List.getElem?_toArray];exact hj
  have hgc:∀ need old,need≤9223372036854775807→need≤grownCap w need old 24∧grownCap w need old 24≤9223372036854775807:=fun need old h=>⟨grownCap_ge _ _ _ _,by have:=grownCap_le_maxLen w need old 24 (by simpa [maxLen] using h);simpa [maxLen] using this⟩
  have hzs:(Value.slice none 0 0).cells.size=1:=by rfl
  rcases hown with ⟨rfl,rfl⟩|⟨L,cap,re,rfl,h1,h2,h3,h4,h5,h6⟩
  · have hr:=run_append_nil (P:=Tryz.prog) w T ty _ i0 _ hT hi0 hz0 ⟨N,0,none⟩ 1 1 (bZ [x]) hnl hone dZ dZ (by rw [hz2];decide)
    obtain ⟨g1,g2⟩:=hgc 1 0 dZ;have he:Ext w (w.drew.alloc (.cells ((bZ [x]).toArray++Builtin.zeroCells (Value.slice none 0 0).cells (grownCap w 1 0 24-1)) 24)):=(Ext.drew w).trans (Ext.alloc _ _);refine ⟨_,_,_,hr,Or.inr ⟨_,_,_,rfl,hD _ (nXe _),heap_alloc_new w.drew _,g1,g2,?_,nd _⟩,bj.of_ext he,gH he⟩;rw [size_zeroCells,hzs];simp only [nXi,List.length_nil,List.length_cons];omega
  · by_cases hroom:xs.length+1≤cap
    · have hcs:((bZ xs).toArray++re).size=cap:=by rw [Array.size_append,List.size_toArray,eI,h5]
      have hr:=run_append_room (P:=Tryz.prog) w T ty _ i0 hT hi0 L xs.length cap _ h2 ⟨N,0,none⟩ 1 1 (bZ [x]) hnl hone (uj _) hroom (by rw [hcs,hz1,hnl,hz1];omega);have e:(((bZ xs).toArray++re).toList.take (xs.length*i0.size)++bZ [x]++((bZ xs).toArray++re).toList.drop (xs.length*i0.size+(bZ [x]).length)).toArray=(bZ (xs++[x])).toArray++(re.toList.drop 1).toArray:=by
        rw [hz1,hnl,hz1,Nat.mul_one,Array.toList_append,jT,←eI xs,List.take_left,←List.drop_drop,List.drop_left];apply Array.ext';simp
      rw [e] at hr;refine ⟨_,_,_,hr,Or.inr ⟨L,cap,_,by simp,h1,setRow_heap w L _ _ _ _ h2,by simpa using hroom,h4,?_,?_⟩,⟨rfl,rfl,rfl,by simp,fun k hk hnd=>setRow_other w L k _ (fun e=>hnd (e ▸ h1))⟩,lx (h2.noU h6) fun k _ hk=>setRow_other w L k _ hk⟩
      · simp
        omega
      · rw [List.all_eq_true] at h6 ⊢
        intro x hx;exact h6 x (List.mem_of_mem_drop hx)
    · have hr := run_append_grow (P := Tryz.prog) w T ty _ i0 _ hT hi0 hz0 ⟨L, 0, none⟩ xs.length cap (bZ xs) (by rw [eI, hz1, Nat.mul_one]) (fun j u hj => by
          have hlt:j<(bZ xs).length:=(List.getElem?_eq_some_iff.1 hj).1;rw [gu,ab h2,Array.getElem?_append_left (by rw [List.size_toArray];exact hlt),List.getElem?_toArray];exact hj) ⟨N,0,none⟩ 1 1 (bZ [x]) hnl hone zo zo (growslice_fits zo (by rw [hz2];omega))
      obtain ⟨g1,g2⟩:=hgc (xs.length+1) cap zo;have he:Ext w (w.drew.alloc (.cells ((bZ xs).toArray++(bZ [x]).toArray++Builtin.zeroCells (Value.slice none 0 0).cells (grownCap w (xs.length+1) cap 24-(xs.length+1))) 24)):=(Ext.drew w).trans (Ext.alloc _ _);refine ⟨_,_,_,hr,Or.inr ⟨w.heap.size,_,Builtin.zeroCells (Value.slice none 0 0).cells (grownCap w (xs.length+1) cap 24-(xs.length+1)),by simp,hD _ (nXe _),?_,by simpa using g1,g2,?_,nd _⟩,bj.of_ext he,gH he⟩
      · unfold SBk
        rw [jT];have e2:(bZ xs++bZ [x]).toArray=(bZ xs).toArray++(bZ [x]).toArray:=by simp
        rw [e2];exact heap_alloc_new w.drew _
      · rw [size_zeroCells,hzs]
        simp only [nXi,List.length_nil,List.length_cons];omega
theorem kX{w:World}{ops:Array Oper}{rest:List Oper}{o:Oper}{a:Act}{Q:Exit→Act→World→Prop}(hgd:o.guard=none)(s x:Operand)(T:TypeId)(hT:Tryz.prog.underlying T=some (.slice 24))
 (ho:o.op=.call { callee:=.builtin .append,args:=#[s,x],argTypes:=#[T,T] })(D:Nat→Prop)(v:Value)(xs:List SH)(r:SH)(hs:a.eval s=v)(hown:nU w D v xs)
 (hx:a.eval x=.slice (some ⟨w.heap.size,0,none⟩) 1 1)(hl:xs.length≤1073741824)(hD:∀ k,w.heap.size≤k→D k)
 (h:∀ L cap w',nU w' D (.slice (some ⟨L,0,none⟩) (xs.length+1) cap) (xs++[r])→bj D w w'→gX w w'→wpList Tryz.prog ops Q rest (a.put o.dst (.slice (some ⟨L,0,none⟩) (xs.length+1:Nat) cap)) w'):wpList Tryz.prog ops Q (o :: rest) a (w.alloc (.cells #[.slice r.a r.n r.c] 24)):=by
 have hE:Ext w (w.alloc (.cells #[.slice r.a r.n r.c] 24)):=Ext.alloc _ _;refine wpList_plain hgd fun K hK=>?_
 obtain ⟨L,cap,w',hrun,g1,g2,g3⟩:=oq T o.type hT (w.alloc (.cells #[.slice r.a r.n r.c] 24)) D v xs r w.heap.size (hown.ext hE) (by unfold SBk;exact heap_alloc_new _ _) hl (fun k hk=>hD k (nXf hE.size hk));unfold Oper.wp;simp [execOp,ho,resolve,invoke,builtin,hs,hx,hrun,Result.andThen];exact hK _ _ (by simpa using h L cap w' g1 ((bj.of_ext hE).trans g2) (fun _ _ _ _ hU=>g3 _ _ _ _ (hU.ext hE)))
def ChM(w:World)(lo B:Nat)(v:Value)(ps:List (List Rat)):Prop:=∃ xs,nU w (·=B) v xs∧xs.length=ps.length∧∀ k,k<ps.length→∃ b,b≠B∧lo≤b∧LIn w (xs.getD k ⟨none,0,0⟩) (ps.getD k []) b (b+1)
theorem ChM.nil(w:World)(lo B:Nat):ChM w lo B (.slice none 0 0) []:=⟨[],nU.nil _ _,rfl,fun k hk=>by simp at hk⟩
theorem ChM.ext{w w':World}{lo B:Nat}{v:Value}{ps:List (List Rat)}(h:ChM w lo B v ps)(he:Ext w w'):ChM w' lo B v ps :=
 let ⟨xs,h1,h2,h3⟩:=h;⟨xs,h1.ext he,h2,fun k hk=>let ⟨b,h4,h6,h5⟩:=h3 k hk;⟨b,h4,h6,h5.ext he⟩⟩
instance {w w':World} {lo B:Nat} {v:Value} {ps:List (List Rat)}:Go.Front.Mv w w' (ChM w lo B v ps) (ChM w' lo B v ps):=⟨fun e h=>ChM.ext h e⟩

theorem ChM.put{w1 w2:World}{lo B b:Nat}{v:Value}{ps:List (List Rat)}{T:TypeId}{cs:Array Value}(h:ChM w1 lo B v ps)(T2:gy w1 b T cs w2)(hb:b≠B∧b<lo):ChM w2 lo B v ps:=by
 obtain ⟨xs,h1,h2,h3⟩:=h;obtain ⟨hb,hlo⟩:=hb;exact ⟨xs,h1.put T2 (fun e=>hb e),h2,fun k hk=>let ⟨c,h4,h6,h5⟩:=h3 k hk;⟨c,h4,h6,h5.put T2 zo⟩⟩
theorem ChM.mono{w:World}{lo lo' B:Nat}{v:Value}{ps:List (List Rat)}(h:ChM w lo B v ps)(hl:lo'≤lo):ChM w lo' B v ps :=
 let ⟨xs,h1,h2,h3⟩:=h;⟨xs,h1,h2,fun k hk=>let ⟨c,h4,h6,h5⟩:=h3 k hk;⟨c,h4,nXf hl h6,h5⟩⟩
theorem qr{α:Type}{l m:List α}{d:α}{k:Nat}(h:k<l.length):(l++m).getD k d=l.getD k d:=by
 rw [nXd,nXd,List.getElem?_append_left h]
theorem qp{α:Type}{l:List α}{x d:α}:(l++[x]).getD l.length d=x:=by simp
theorem gN{w:World}{ops:Array Oper}{rest:List Oper}{o:Oper}{a:Act}{Q:Exit→Act→World→Prop}(hgd:o.guard=none)(s x:Operand)(T:TypeId)(hT:Tryz.prog.underlying T=some (.slice 24))
 (ho:o.op=.call { callee:=.builtin .append,args:=#[s,x],argTypes:=#[T,T] })(lo B:Nat)(v:Value)(ps:List (List Rat))(r:SH)(p:List Rat)(b:Nat)(hs:a.eval s=v)(hown:ChM w lo B v ps)(hr:LIn w r p b (b+1))(hb:b≠B)(hbo:lo≤b)
 (hx:a.eval x=.slice (some ⟨w.heap.size,0,none⟩) 1 1)(hl:ps.length≤1073741824)
 (h:∀ L cap w',ChM w' lo L (.slice (some ⟨L,0,none⟩) (ps.length+1:Nat) cap) (ps++[p])→Mut B w w'→(L=B∨w.heap.size≤L)→L<w'.heap.size→wpList Tryz.prog ops Q rest (a.put o.dst (.slice (some ⟨L,0,none⟩) (ps.length+1:Nat) cap)) w'):wpList Tryz.prog ops Q (o :: rest) a (w.alloc (.cells #[.slice r.a r.n r.c] 24)):=by
 obtain ⟨xs,h1,h2,h3⟩:=hown;refine kX hgd s x T hT ho (fun k=>k=B∨w.heap.size≤k) v xs r hs (h1.mono fun k _ e=>Or.inl e) hx (by rw [h2];exact hl) (fun k hk=>Or.inr hk) ?_;intro L cap w' q1 q2 q3;rw [h2];have hm:Mut B w w':=⟨q3,⟨q2.os,q2.tape,q2.output,q2.size,fun k hk hn=>q2.block k hk (fun h=>h.elim hn (fun h4=>Nat.lt_irrefl _ (nXn hk h4)))⟩⟩;rw [h2] at q1;rcases q1 with ⟨e,-⟩|⟨L2,cap2,re,e,g1,g2,g3⟩
 ·cases e
 ·obtain ⟨rfl,rfl⟩:L=L2∧cap=cap2:=by
   simp only [Value.slice.injEq,Option.some.injEq,Addr.mk.injEq] at e;exact ⟨e.1.1,e.2.2⟩
  have hne:∀ c,c≠B→c<w.heap.size→c≠L:=fun c h4 h5 h6=>by
   rcases g1 with h7|h7
   ·exact h4 (h6.trans h7)
   ·omega
  have hlt:∀ s q c,LIn w s q c (c+1)→c≠B→lo≤c→∃ c',c'≠L∧lo≤c'∧LIn w' s q c' (c'+1):=by
   intro s q c h4 h5 h9;have h6:=h4.mut hm zo;by_cases h7:c<w.heap.size
   ·exact ⟨c,hne c h5 h7,h9,h6⟩
   ·obtain ⟨rs,k1,k2,k3⟩:=h6;refine ⟨L+1+lo,zo,zo,rs,k1,k2,Or.inl ?_⟩;rcases k3 with k3|⟨y,off,e3,k4,k5⟩
    ·exact k3
    ·obtain ⟨rs2,m1,m2,m3⟩:=h4;rcases m1.in with m4|⟨y2,o2,e4,-,m5⟩
     ·exact m4
     ·rw [e3] at e4;simp only [Option.some.injEq,Addr.mk.injEq] at e4;omega
  refine h L cap w' ⟨xs++[r],Or.inr ⟨L,cap,re,by simp [h2],rfl,g2,g3⟩,by simp [h2],fun k hk=>?_⟩ hm g1 g2.lt;rw [nXi,List.length_cons,List.length_nil] at hk;by_cases hk2:k<ps.length
  ·obtain ⟨c,h4,h8,h5⟩:=h3 k hk2;obtain ⟨c',h6,h9,h7⟩:=hlt _ _ c h5 h4 h8;refine ⟨c',h6,h9,?_⟩;rw [qr zo,qr hk2];exact h7
  ·obtain rfl:k=ps.length:=by omega
   obtain ⟨c',h6,h9,h7⟩:=hlt _ _ b hr hb hbo;refine ⟨c',h6,h9,?_⟩;rw [←h2,qp,h2,qp];exact h7
open Stab Sg
attribute [local go_sem] XW.cell XW.frozen
theorem bT.lin{w:World}{L n c:Nat}{os:List Rat}(h:bT w L os)(hn:n≤os.length)(hc:os.length≤c)(hm:c≤9223372036854775807):LIn w ⟨some ⟨L,0,none⟩,n,c⟩ (os.take n) L (L+1):=by
 have h1:LIn w ⟨some ⟨L,0,none⟩,os.length,c⟩ os L (L+1):=by
  obtain ⟨rs,h2,h3⟩:=h.can rfl hc hm;exact ⟨rs,h2,h3,Or.inr ⟨L,0,rfl,nXe _,Nat.lt_succ_self _⟩⟩
 exact h1.take hn
theorem eH.lin{B:Nat}{w:World}{x:SH}{os:List Rat}(h:eH B w x os)(hl:os.length≤9223372036854775807):∃ L,B≤L∧L<w.heap.size∧x=⟨some ⟨L,0,none⟩,os.length,os.length⟩∧LIn w x os L (L+1):=by
 obtain ⟨L,h1,rfl,h2⟩:=h;refine ⟨L,h1,h2.lt,rfl,?_⟩;have:=h2.lin (n:=os.length) (c:=os.length) (nXe _) (nXe _) hl
 rwa [nXm (nXe _)] at this
theorem jx{S D:Nat}{p:List Rat}(hf:∀ x ∈ p,Fr S D x)(hl:p.length≤100000):∀ x ∈ tz (derL p),Fr (S+1) D x:=by
 intro x hx;obtain ⟨i,hi,rfl⟩:=dK hx;rw [br];have h1:=seq_derL p i;unfold seq at h1;rw [h1];by_cases h2:i+1<p.length
 ·obtain ⟨w1,w2⟩:=hf _ (bW h2);obtain ⟨z,hz⟩:=Wh.iff.1 w1;rw [hz,Rat.num_intCast] at w2;refine Fr.int (z:=((i+1:Nat):Int)*z) ?_ (by rw [nYe,hz];exact_mod_cast rfl);rw [Int.natAbs_mul,nYi,nXu,nYf];exact Nat.mul_lt_mul'' w2 (by show _<4294967296;omega)
 ·rw [bK zo];rw [nYc];exact Fr.zero _ _
theorem C9{K S D:Nat}{p:List Rat}(hD:0<D)(hf:∀ x ∈ p,Fr S D x)(hl:p.length≤1000)(h0:tz p≠[])(hK:KZ K S p.length):GZ K (S+1) p (tz (derL p)):=by
 obtain ⟨n,hn⟩:∃ n,(tz p).length=n+1:=⟨(tz p).length-1,by have:=nYh.2 h0;omega⟩;have hd:=iG p n hn;have hp:=ae p;rcases hK with hK|hK
 ·refine Fl (P:=p.length) (Q:=p.length-1) (nXe _) zo ?_;rw [show max p.length (p.length-1+1)=p.length by omega];exact hK
 ·refine Fk (P:=p.length) (Q:=p.length) hD hD (fun x hx=>(hf x hx).mono (Nat.le_succ S)) (jx hf zo) (nXe _) zo zo ?_;rw [show p.length+p.length=2*p.length by omega];exact hK
theorem kx{S D:Nat}{p:List Rat}(hS:1≤S)(hD:0<D)(hf:∀ x ∈ p,Fr S D x)(hl:p.length≤1000)(h0:tz p≠[]){K:Nat}(hK:KZ K S p.length):∃ X,S+1≤X∧RmI K (av p) (av (tz (derL p))) X:=by
 obtain ⟨n,hn⟩:∃ n,(tz p).length=n+1:=⟨(tz p).length-1,by have:=nYh.2 h0;omega⟩;have hd:=iG p n hn;have hp:=ae p;have hb:(av (tz (derL p))).length=(tz (derL p)).length:=by rw [ay,aJ]
 have ha:(av p).length=n+1:=by rw [ay,hn]
 have hft:∀ x ∈ tz p,Fr S D x:=fun x hx=>by
  obtain ⟨i,hi,rfl⟩:=dK hx;rw [br];exact hf _ (bW zo)
 obtain ⟨X,h1,h2⟩:=C9 hD hf hl h0 hK;exact ⟨X,h1,bs _,bs _,fun x hx=>(eo hft hD x hx).mono zo,fun x hx=>(eo (fun y hy=>jx hf zo y (by rwa [aJ] at hy)) hD x hx).mono h1,zo,h2,Or.inr zo,zo,zo⟩
theorem og(p:List Rat):av (tz p)=av p:=by unfold av aN;rw [aJ]
theorem Ey(pa qa:Option Addr)(P pc Q qc:Nat)(p q:List Rat)(S U:Nat)(w:World)(hp:aD w ⟨pa,P,pc⟩ p)(hq:aD w ⟨qa,Q,qc⟩ q)(hpw:∀ x ∈ p,Wz S x)(hqw:∀ x ∈ q,Wz U x)(hS:1≤S)(hU:1≤U)(htp:tz p=p)(htq:tz q=q)(hP:P≤100000)(hQ:0<Q)(hQP:Q≤P)(hsz:S+(P+1-Q)*(U+1)≤30000000)(hUz:U≤30000000) :
  ak 185 [.slice pa P pc,.slice qa Q qc] w SH.v (fun x w'=>SrP p q S U w.heap.size x w'):=by
 obtain ⟨m,rfl⟩:∃ m,Q=m+1:=⟨Q-1,zo⟩;exact zi pa qa P pc m qc p q S U w hp hq hpw hqw hS hU htp htq hP zo (by rw [show P+1-(m+1)=P-m by omega] at hsz;exact hsz) hUz
structure RmL (w wr:World) (p:List Rat) (K b2:Nat) (xl xa xb:SH) (a b:List Rat):Prop where
 hx:Ext w wr
 hB2:wr.heap[b2]?=some (.cells #[.slice none 0 0] 95 (0,0))
 ex:∃ (fuel X B ba bb:Nat) (ps:List (List Rat)),w.heap.size≤B∧b2≠B∧ba≠B∧bb≠B∧ba<wr.heap.size∧bb<wr.heap.size∧b2<ba∧b2<bb∧LIn wr xa a ba (ba+1)∧LIn wr xb b bb (bb+1)∧ChM wr (b2+1) B xl.v ps∧RmI K a b X∧a.length<fuel∧ps++chn fuel a b=remsV p∧(∀ m ∈ ps,∀ y ∈ m,Wz K y)∧ps.length+a.length≤2000
abbrev CV(x:SH):Value:=.agg #[x.v]
theorem pw(pa:Option Addr)(P pc:Nat)(p:List Rat)(S D K:Nat)(w:World)(h:cx w ⟨pa,P,pc⟩ p)(hP:P≤1000)(h0:tz p≠[])(hS:1≤S)(hD:0<D)(hD2:D<W32 ^ S)(hf:∀ x ∈ p,Fr S D x)(hK:KZ K S P)(hK2:K≤16777216) :
  ak 132 [.slice pa P pc] w CV (fun x w'=>(∃ B,w.heap.size≤B∧ChM w' w.heap.size B x.v (remsV p))∧∀ m ∈ remsV p,∀ y ∈ m,Wz K y):=by
 have LP:=Hi (RIn.of h);have HX:=Hi (Ext.refl w);have HPl:Hid (p.length=P):=Hi h.len;have HF:=Hi hf;obtain ⟨X0,hSX,hI0⟩:=kx hS hD hf (by have:=h.len;simp only at this;omega) h0 (by have:=h.len;simp only at this;rw [this];exact hK);have HI0:=Hi hI0;clear hI0;have hSK:S+2≤K:=by have:=HI0.out.small;omega
 have HSz:Hid (SzL S p):=Hi (ey hS hD hD2 hf);have HDF:Hid (∀ x ∈ tz (derL p),Fr (S+1) D x):=Hi (jx hf (by have:=h.len;simp only at this;omega));have hD3:D<W32 ^ (S+1):=nXn hD2 (nXp aw zo);clear h hf;unfold ak;go_enter Tryz.func132,Tryz.ntmps132
 go_upto_region 1 with fail
 refine nmA ?_;intro w1 hE B2 hz_w1 hr_w1;refine mV2 hE ?_ LP HX;clear LP HX;intro LP HX
 go_wp2_with fail
 refine cM (lW pa P pc p S D _ LP.out.raw zo hS zo hD hD2 HF.out) fun x2 w2 hE G2=>?_
 refine mV3 hE ?_ B2 LP HX;clear B2 LP HX;intro B2 LP HX;obtain ⟨La,hLa,hLa2,hxa,hra⟩:=eH.lin G2.out (by rw [ay];have:=ae p;have:=HPl.out;omega);subst hxa;have HA:=Hi hra;clear hra G2
 go_wp2_with fail
 refine cM (s4 pa P pc p _ LP.out.raw zo (HSz.out.mono zo)) fun x3 w3 hE G3=>?_
 refine mV3 hE ?_ B2 HX HA;clear B2 HX HA;intro B2 HX HA;have hs_w3:=hE.size;obtain ⟨da,dn,dc⟩:=x3;have HD3:Hid (LIn w3 ⟨da,dn,dc⟩ (tz (derL p)) w2.heap.size w3.heap.size):=Hi G3.out;clear G3
 go_wp2_with fail
 refine cM (pC da dn dc (tz (derL p)) (S+1) D _ HD3.out.can (by have h2:=HD3.out.can.len;have h3:=HI0.out.2.2.2.2.2.2.2.2;rw [ay,aJ] at h3;simp only at h2;omega) zo zo hD hD3 HDF.out) fun x4 w4 hE G4=>?_
 refine mV3 hE ?_ B2 HX HA;clear B2 HX HA;intro B2 HX HA;obtain ⟨Lb,hLb,hLb2,hxb,hrb⟩:=eH.lin G4.out (by have h3:=HI0.out.2.2.2.2.2.2.2.2;omega);subst hxb;have HB:=Hi hrb;clear hrb G4;rw [og] at *
 obtain ⟨B0,hB0⟩:∃ B0,B0=w4.heap.size:=⟨_,rfl⟩;obtain ⟨b2,hb2⟩:∃ b2,b2=w.heap.size:=⟨_,rfl⟩;rw [←hb2] at B2 ⊢;have hb2l:b2<w1.heap.size:=zo;have hb2g:w.heap.size≤b2:=zo;clear hb2;have hlen0:(av p).length≤1000:=by rw [ay];have:=ae p;have:=HPl.out;omega
 go_wp2
 go_loopg [3,4,5] (av p).length (fun g vl va vb wr=>∃ (xl xa xb:SH) (a b:List Rat),vl=xl.v∧va=xa.v∧vb=xb.v∧a.length=g∧RmL w wr p K b2 xl xa xb a b)
 case atStart =>
  refine ⟨⟨none,0,0⟩,_,_,av p,av (derL p),rfl,rfl,rfl,rfl,HX.out,B2.out,p.length+1,X0,w4.heap.size,La,Lb,[],zo,zo,zo,zo,zo,zo,zo,zo,HA.out,HB.out,ChM.nil _ _ _,HI0.out,?_,rfl,fun m hm=>by simp at hm,by simp;omega⟩;rw [ay];have:=ae p;omega
 case round =>
  obtain ⟨xl,xa,xb,a,b,rfl,rfl,rfl,hag,g1,g2,fuel,X,B,ba,bb,ps,g3,g4,g5,g6,g7,g8,g9,g10,g11,g12,g13,g14,g15,g16,g17,g18⟩:=hrel;clear HX B2 HA HB LP HD3;have HX:=Hi g1;have B2:=Hi g2;have HA:=Hi g11;have HB:=Hi g12;have HC:=Hi g13;have HI:=Hi g14;have HE:=Hi g16;have HW:=Hi g17;have hxa:=g11.len;have hxb:=g12.len;obtain ⟨aa,an,ac⟩:=xa;obtain ⟨xba,bn,bc⟩:=xb;simp only at hxa hxb;subst hxa hxb hag;clear g1 g2 g11 g12 g13 g14 g16 g17;have hb2r:b2<wr.heap.size:=(nXb.1 B2.out).1;replace b_B2:=bX3 B2;by_cases h0:a.length=0
  case pos =>
   have ha0:a=[]:=nXj.1 h0;subst ha0;have HV:Hid (ps=remsV p):=Hi (by
    have h1:=HE.out;obtain ⟨f2,rfl⟩:∃ f2,fuel=f2+1:=⟨fuel-1,zo⟩;rw [show chn (f2+1) [] b=[] by simp [chn]] at h1;simpa using h1)
   go_wp2;refine mD (F:=fun W=>bodyPost _ _ _ _ _ W) B2.out rfl ?_;intro y9 T;replace HX:=Hi (T.ext HX.out zo);replace B2:=Hi (T.bx);replace HC:=Hi (HC.out.put T zo);clear T;replace b_B2:=bX3 B2;exact nXa (v:=CV xl) (by simp [results,Tryz.results132,go_sem,CV,b_B2.1]) rfl
    ⟨xl,rfl,HX.out,⟨B,g3,by rw [←HV.out];exact HC.out.mono zo⟩,by rw [←HV.out];exact HW.out⟩
  have ha0:(0:Int)<a.length:=zo
  go_upto_region 5 with (at_builtin;refine gN rfl (.tmp 16) (.tmp 18) 93 Tryz.underlying93 rfl (b2+1) B _ ps ⟨aa,a.length,ac⟩ a ba rfl HC.out HA.out g5 zo rfl zo ?_;intro L cap y1 q1 q2 q3 q4)
  have HX2:=Hi (q2.ext HX.out g3);have B22:=Hi (q2.rest b2 _ g4 B2.out);have HA2:=Hi (HA.out.mut q2 zo);have HB2:=Hi (HB.out.mut q2 zo);have HC2:=Hi q1;have hyr:=q2.size;have hLg:w.heap.size≤L:=zo;have hLb2:b2≠L:=zo;have hLa:ba≠L:=zo;have hLb:bb≠L:=zo;clear q1 q2 q3 HX B2 HA HB HC b_B2;have HX:=HX2;have B2:=B22;have HA:=HA2;have HB:=HB2;have HC:=HC2;clear HX2 B22 HA2 HB2 HC2;have HAK:Hid (∀ m ∈ ps++[a],∀ y ∈ m,Wz K y):=Hi (fun m hm y hy=>by
   rcases List.mem_append.1 hm with hm|hm
   ·exact HW.out m hm y hy
   ·obtain rfl:m=a:=by simpa using hm
    exact (HI.out.2.2.1 y hy).mono (by have:=HI.out.small;omega))
  obtain ⟨f2,rfl⟩:∃ f2,fuel=f2+1:=⟨fuel-1,zo⟩;have Ha:Hid (a≠[]):=Hi (fun h=>h0 (by rw [h];rfl));replace b_B2:=bX3 B2;by_cases hb0:b.length=0
  case pos =>
   have hb1:b=[]:=nXj.1 hb0;subst hb1;have HV:Hid (ps++[a]=remsV p):=Hi (by
    have h1:=HE.out;rw [d8 Ha.out] at h1;exact h1)
   go_wp2;refine mD (F:=fun W=>bodyPost _ _ _ _ _ W) B2.out rfl ?_;intro y9 T;replace HX:=Hi (T.ext HX.out zo);replace B2:=Hi (T.bx);replace HC:=Hi (HC.out.put T zo);clear T;replace b_B2:=bX3 B2;exact nXa (v:=CV ⟨some ⟨L,0,none⟩,ps.length+1,cap⟩) (by simp [results,Tryz.results132,go_sem,CV,b_B2.1]) rfl
    ⟨⟨some ⟨L,0,none⟩,ps.length+1,cap⟩,rfl,HX.out,⟨L,hLg,by rw [←HV.out];exact HC.out.mono zo⟩,by rw [←HV.out];exact HAK.out⟩
  have hb1:((b.length:Int) == 0)=false:=by rw [nXs];omega
  have Hb:Hid (b≠[]):=Hi (fun h=>hb0 (by rw [h];rfl));have hba:b.length<a.length:=by
   rcases HI.out.2.2.2.2.2.2.1 with h|h
   ·exact absurd h Ha.out
   ·exact h
  have hXK:X+(a.length+1-b.length)*(X+1)≤K:=HI.out.size Hb.out;have hX1:1≤X:=HI.out.2.2.2.2.1;have hal:a.length≤100000:=HI.out.2.2.2.2.2.2.2.1;have HX0:=HX;have HA0:=HA;have HB0:=HB;have HC0:=HC;have B20:=B2;have HX7:=Hi (Ext.refl y1);clear HX;clear HA;clear HB;clear HC
  (try clear b_B2);(try clear B2)
  go_wp2_with fail
  refine cM (Ey aa xba a.length ac b.length bc a b X X _ HA0.out.can HB0.out.can HI.out.2.2.1 HI.out.2.2.2.1 hX1 hX1 HI.out.1 HI.out.2.1 hal zo zo zo zo) fun x6 w6 hE G6=>?_
  replace HX7:=hE.tr HX7;obtain ⟨Lr,n,c,ros,sq,f,hLr,hx6,hros,hnr,hrc,hcm,hf0,hd⟩:=G6.out;subst hx6;have HR:=Hi hros;have HD:=Hi hd;have HF0:=Hi hf0;clear G6 hros hd hf0;have hLy:y1.heap.size≤Lr:=hLr;have HRW:Hid (∀ k,k<n→Wz (X+(a.length+1-b.length)*(X+1)) (ros.getD k 0)):=Hi (fun k hk=>by
   have h1:=HD.out.2.2.2.1 _ (bW (i:=k) (l:=ros.take n) (by rw [nXk];omega))
   rwa [ci hk] at h1)
  go_wp2
  go_loopg [28] n (fun g v wr=>∃ (i:Nat),i+g=n∧v=.int .i64 (i:Nat)∧Ext y1 wr∧bT wr Lr (cV ros i (-1)))
  case atStart=>exact ⟨0,zo,rfl,HX7.out,by simpa [cV] using HR.out⟩
  case round =>
   obtain ⟨i,hi,rfl,g1,g2⟩:=hrel;clear HX7 HR;have HX7:=Hi g1;have HR:=Hi g2;have hyw:=g1.size;clear g1 g2
   (try simp only [SH.v])
   by_cases h1:gk=0
   case neg =>
    have hin:(i:Int)<n:=zo;have HV:Hid ((cV ros i (-1)).getD i 0=ros.getD i 0):=Hi (by
     unfold cV;have h1:((ros.take i).map (·*(-1))).length=i:=by rw [nXl,nXk];omega
     rw [nXd,List.getElem?_append_right zo,h1,Nat.sub_self,List.getElem?_drop,Nat.add_zero,←nXd])
    obtain ⟨r,⟨f1,f2,f3⟩,hrc'⟩:=bT.cells HR.out (k:=i) (by rw [aF];omega);rw [HV.out] at hrc';have HRC:=Hi hrc';clear hrc';obtain ⟨ren,rea,rel,rec',reb,rem,red⟩:=r;simp only at f1 f2 f3
    go_wp2_with fail
    refine cM (sP ⟨ren,rea,rel,rec',reb,rem,red⟩ (ros.getD i 0) _ (HRC.out.raw ((HRW.out i zo).sz zo) zo)) fun x8 w8 hE G8=>?_
    refine mV2 hE ?_ HX7 HR;clear HX7 HR;intro HX7 HR;clear f1 f2 f3;clear HRC;obtain ⟨r2,⟨f1,f2,f3⟩,-⟩:=bT.cells HR.out (k:=i) (by rw [aF];omega);have hfz:=bT.frozen HR.out
    go_upto_region 11 with fail
    refine iA (k:=i) HR.out (by rw [aF];omega) G8.out ?_;rintro y6 ⟨cs,T⟩ TN;rw [show -ros.getD i 0=ros.getD i 0*(-1) by grind,oF zo] at TN;clear f1 f2 f3 hfz HV;clear G8;clear HR;replace HX7:=Hi (T.ext HX7.out zo);clear T;have HR:=Hi TN;clear TN;go_wp2
    go_roundg (gk-1)
    case measure=>omega
    case rel=>exact ⟨i+1,zo,by go_num,HX7.out,HR.out⟩
   subst h1;obtain rfl:i=n:=by omega
   have hin:¬ (i:Int)<i:=zo;have hib:i<b.length:=by have:=HD.out.2.2.2.2.2.1;rw [nXk] at this;omega
   have hbl:b.length≤100000:=zo;have HRN:Hid (aD wr ⟨some ⟨Lr,0,none⟩,i,c⟩ ((ros.take i).map (·*(-1)))):=Hi (by
    rw [←pY (-1) hnr];exact (HR.out.can (M:=ros.length) (aF _ _ _) hrc hcm).take hnr)
   have HFR:Hid (∀ x ∈ (ros.take i).map (·*(-1)),Fr (X+(a.length+1-b.length)*(X+1)) 1 x):=Hi (fun x hx=>by
    obtain ⟨y,hy,rfl⟩:=nYg.1 hx;rw [show y*(-1)=-y by grind];exact Fr.one (HD.out.2.2.2.1 y hy).neg)
   obtain ⟨hN,X2,hI2⟩:=HI.out.next Hb.out HF0.out HD.out;have HN:=Hi hN;have HI2:=Hi hI2;clear hN hI2
   go_wp2_with fail
   refine cM (pC (some ⟨Lr,0,none⟩) i c ((ros.take i).map (·*(-1))) (X+(a.length+1-b.length)*(X+1)) 1 _ HRN.out zo zo zo dZ (Nat.one_lt_pow zo dZ) HFR.out) fun x9 w9 hE G9=>?_
   replace HX7:=hE.tr HX7;have hs_w9:=hE.size;obtain ⟨Ln,hLn,hLn2,hxn,hrn⟩:=eH.lin G9.out (by have:=HI2.out.2.2.2.2.2.2.2.2;omega);subst hxn;have HNB:=Hi hrn;clear hrn G9;go_wp2
   go_roundg b.length
   case measure=>omega
   case rel =>
    refine ⟨⟨some ⟨L,0,none⟩,ps.length+1,cap⟩,⟨xba,b.length,bc⟩,_,b,_,rfl,rfl,rfl,rfl,HX0.out.trans HX7.out,HX7.out.block B20.out,f2,_,L,bb,Ln,ps++[a],hLg,hLb2,hLb,zo,zo,hLn2,zo,zo,HB0.out.ext HX7.out,(by have h:=HNB.out;simp only [List.map_take] at h ⊢;exact h),HC0.out.ext HX7.out,(by have h:=HI2.out;simp only [List.map_take] at h ⊢;exact h),zo,?_,HAK.out,by simp;omega⟩;have hN:=HN.out;simp only [List.map_take] at hN ⊢;rw [hN,List.append_assoc,List.singleton_append,←eM Ha.out Hb.out];exact HE.out
theorem vk(pa:Option Addr)(P pc:Nat)(p:List Rat)(S D K:Nat)(w:World)(h:aD w ⟨pa,P,pc⟩ p)(hP:P≤1000)(h0:tz p≠[])(hS:1≤S)(hD:0<D)(hD2:D<W32 ^ S)(hf:∀ x ∈ p,Fr S D x)(hK:KZ K S P)(hK2:K≤16777216) :
  ak 132 [.slice pa P pc] w CV (fun x w'=>(∃ B,w.heap.size≤B∧ChM w' w.heap.size B x.v (remsV p))∧∀ m ∈ remsV p,∀ y ∈ m,Wz K y) :=
 pw pa P pc p S D K w (h.raw (ey hS hD hD2 hf) (by have:=hK.small;omega)) hP h0 hS hD hD2 hf hK hK2
end Go.Proofs.YtafgmcimcbhhjaaGreat
/- Divisors of a product of linear factors and of a quadratic one without roots; their coefficients. Plain facts. -/
namespace Go.Proofs.YtafgmcimcbhhjaaGreat.Sg
open Go.RowKit Go.Front Go.Num Go.Stab Go.Proofs.YtafgmcimcbhhjaaGreat
def Pd:List Rat→Rat→Rat
 | [],_=>1
 | a :: l,x=>(x-a)*Pd l x
def Qd:Option Rat→Rat→Rat
 | none,_=>1
 | some b,x=>x*x+b
def dg:Option Rat→Nat
 | none=>0
 | some _=>2
theorem oe(x:Rat):0≤x*x:=by
 rcases tot 0 x with h|h
 ·exact Rat.mul_nonneg h h
 ·have:=Rat.mul_nonneg (a:=-x) (b:=-x) (by grind) (by grind);grind
def Fac(p rl:List Rat)(b:Option Rat):Prop:=∃ c:Rat,c≠0∧∀ x,evV p x=c*(Pd rl x*Qd b x)
theorem Ag{p:List Rat}(h:tz p≠[]):aP (tz (bI p))=1:=by
 rw [fM,kD h];have h1:=co h;unfold aP at *
 rw [nXl];rw [nXd,nXw];have h2:=nYh.2 h;rw [List.getElem?_eq_getElem zo];rw [nXd,List.getElem?_eq_getElem zo] at h1 ⊢;show (tz p)[(tz p).length-1]*(((1:Int):Rat) / (tz p)[(tz p).length-1])=1;rw [nYd];exact aK h1
theorem jS(a b:Rat):sg (a*b)=sg a*sg b:=by
 rcases ck a with ⟨h,e⟩|⟨h,e⟩|⟨h,e⟩ <;> rcases ck b with ⟨k,f⟩|⟨k,f⟩|⟨k,f⟩ <;> rw [e,f]
 ·have:=Rat.mul_pos (a:=-a) (b:=-b) (by grind) (by grind);rw [sg_pos (by grind)];rfl
 ·rw [k,nYc,jk];rfl
 ·have:=Rat.mul_pos (a:=-a) (b:=b) (by grind) k;rw [ep (by grind)];rfl
 ·rw [h,nYb,jk];rfl
 ·rw [h,nYb,jk];rfl
 ·rw [h,nYb,jk];rfl
 ·have:=Rat.mul_pos (a:=a) (b:=-b) h (by grind);rw [ep (by grind)];rfl
 ·rw [k,nYc,jk];rfl
 ·rw [sg_pos (Rat.mul_pos h k)];rfl
def cn:List Rat→Rat→Rat→Nat
 | [],_,_=>0
 | d :: ds,lo,hi=>(if lo<d∧d≤hi then 1 else 0)+cn ds lo hi
def cc:List Rat→Rat→Rat→Nat
 | [],_,_=>0
 | d :: ds,lo,hi=>(if lo≤d∧d≤hi then 1 else 0)+cc ds lo hi
theorem ni{r:List Rat}{l:List (List Rat)}(e:remsV r=av r :: l)(x:Rat):eb (remsV r) x=V (evV (av r)) (l.map evV) x:=by
 unfold eb V sgs;rw [e];simp only [List.map_cons,List.map_map];rfl
end Go.Proofs.YtafgmcimcbhhjaaGreat.Sg
/- Squarefree of package poly. -/
namespace Go.Proofs.YtafgmcimcbhhjaaGreat
open Go.RowKit Go.Front Go.Num Stab Sg
attribute [local go_sem] XW.cell XW.frozen
theorem Aw:∀ (f:Nat) (p q:List Rat),bI p=p→bI q=q→bI (qt f p q)=qt f p q:=by
 intro f;induction f with
 | zero=>intro p q h _;exact h
 | succ f ih =>
  intro p q h k;by_cases h0:q=[]
  ·subst h0;rw [iS];exact h
  ·rw [iD h0];exact ih q _ k (ls _)
theorem tx(p q:List Rat):bI (cY p q)=cY p q:=Aw _ _ _ (ls p) (ls q)
theorem lD(p q:List Rat):cY p (tz q)=cY p q:=by
 have h:bI (tz q)=bI q:=Pr.mon ⟨1,dZ,fun n=>by rw [bf,Rat.one_mul]⟩;unfold cY;rw [aJ,h]
theorem tw{p:List Rat}(h:tz p≠[]):tz (cY p (derL p))≠[]:=Bz h (BQ (j9 p (derL p)))
theorem xv(p:List Rat):Dv (evV (cY p (derL p))) (evV p):=(j9 p (derL p)).1
theorem EK{p:List Rat}{i:Nat}(h:seq p i≠0):i<p.length:=Classical.byContradiction fun hn=>h (bK zo)
theorem Bg{p:List Rat}(h:tz p≠[]){T U:Nat}(hp:SzL T p)(hs:SzL U (sqfV p)):SzL (U+T) (bH p (cY p (derL p))):=by
 have hg0:=tw h;have he:=mo hg0 (xv p);have ht:tz (bH p (cY p (derL p)))=bH p (cY p (derL p)):=(cz p hg0).2.2.1;have hsv:sqfV p=bI (bH p (cY p (derL p))):=rfl;have hgm:=tx p (derL p);generalize bH p (cY p (derL p))=q at *
 generalize cY p (derL p)=g at *
 have hq0:tz q≠[]:=fun h0=>by
  obtain ⟨y,hy⟩:=rI h;exact hy (by rw [he,ev_tznil.1 h0 y];grind)
 obtain ⟨m,hm,hm0⟩:=fy hq0;obtain ⟨k,hk,hk0⟩:=fy hg0;have hgl:seq g k=1:=by
  have h1:=Ag hg0;rw [hgm] at h1;unfold aP at h1;rw [hk,br] at h1;exact h1
 have hlead:aP (tz q)=seq q m:=by
  unfold aP;rw [hm,br];rfl
 have hsp:seq p (m+k)=seq q m:=by
  have h1:=jf (p:=p) (q:=aq q g) (fun x=>by rw [aH,he x];grind) (m+k);rw [h1,eD,iH];have b1:Bd (m+1) (seq q):=by rw [←bf,←hm];exact Bd.seq _
  have b2:Bd (k+1) (seq g):=by rw [←bf,←hk];exact Bd.seq _
  rw [qE b1 b2,hgl,Rat.mul_one]
 have hz:Sz T (seq p (m+k)):=hp.at (EK (by rw [hsp];exact hm0));rw [hsv,kD hq0,hlead,ht] at hs;intro x hx;have h2:=hs _ (nYg.2 ⟨x,hx,rfl⟩);have h3:=h2.mul hz;rw [hsp] at h3;have h4:x*(((1:Int):Rat) / seq q m)*seq q m=x:=by rw [nYe,aK hm0];exact Rat.mul_one x
 rw [h4] at h3;exact h3
theorem Dh(p q:List Rat):tz (cY p q)=cY p q:=by
 have h:=fM (cY p q);rw [tx] at h;exact h
theorem xt{p:List Rat}(h:tz p≠[]):(cY p (derL p)).length≤p.length:=by
 have h1:=mQ (xv p) h;rw [Dh] at h1;exact nXf h1 (ae p)
theorem ru{p:List Rat}(h:tz p≠[]):(bH p (cY p (derL p))).length≤p.length:=by
 have hg0:=tw h;have he:=mo hg0 (xv p);have h1:=mQ (a:=bH p (cY p (derL p))) (b:=p) ⟨_,Pf.ev (cY p (derL p)),fun x=>by rw [he x];grind⟩ h;rw [(cz p hg0).2.2.1] at h1;exact nXf h1 (ae p)
theorem lU{p:List Rat}(h:tz p≠[]):(sqfV p).length≤p.length:=by
 have h1:(sqfV p).length=(tz (bH p (cY p (derL p)))).length:=dm _;have h2:=ae (bH p (cY p (derL p)));have:=ru h;omega
def FrK(K:Nat)(p:List Rat):Prop:=∃ S D,1≤S∧0<D∧D<W32 ^ S∧FrL S D p∧KZ K S p.length
theorem kh{p:List Rat}(h:tz p≠[]):(tz (derL p)).length+1≤p.length:=by
 obtain ⟨n,hn,-⟩:=fy h;have:=iG p n hn;have:=ae p;omega
theorem zG(pa:Option Addr)(P pc:Nat)(p:List Rat)(K:Nat)(w:World)(h:cx w ⟨pa,P,pc⟩ p)(hP:P≤1000)(h0:tz p≠[])(hk:FrK K p)(hK:K≤12000000)(hK2:(P+1)*(K / 3)≤25000000)(hs:FrK K (sqfV p)) :
  ak 133 [.slice pa P pc] w SH.v (fun x w'=>aD w' x (sqfV p)):=by
 obtain ⟨S,D,hS,hD,hD2,hf,hSK⟩:=hk;obtain ⟨U,E,hU,hEn,hE2,hfU,hUK⟩:=hs;have LP:=Hi (RIn.of h);have HX:=Hi (Ext.refl w);have hlen:=h.len;simp only at hlen;have hp1:1≤p.length:=by
  have:=ae p;have:=nYh.2 h0;omega
 have hS3:=KZ.small3 hp1 hSK;have hUs:=KZ.small hUK;have hz:=hf.sz hS hD hD2;have HSz:Hid (SzL S p):=Hi hz;have HQ:Hid (SzL 16777216 (bH p (cY p (derL p)))):=Hi ((Bg h0 hz (hfU.sz hU hEn hE2)).mono zo);have HF:Hid (FrL (S+1) D p):=Hi (hf.mono zo);have HF1:Hid (FrL S D p):=Hi hf;have HDF:Hid (∀ x ∈ tz (derL p),Fr (S+1) D x):=Hi (jx hf zo);have hD3:D<W32 ^ (S+1):=nXn hD2 (nXp aw zo);have HDl:Hid ((tz (derL p)).length+1≤P):=Hi (by rw [←hlen];exact kh h0);have hgl0:(cY p (derL p)).length≤P:=by rw [←hlen];exact xt h0
 have hql0:(bH p (cY p (derL p))).length≤P:=by rw [←hlen];exact ru h0
 have HG0:Hid (tz (cY p (derL p))≠[]):=Hi (tw h0);have HSK:Hid (GZ K (S+1) p (tz (derL p))):=Hi (C9 hD hf zo h0 hSK);clear h hlen hf hfU hUK hSK hz h0 hp1;unfold ak;go_enter Tryz.func133,Tryz.ntmps133
 go_wp2_with fail
 refine cM (s4 pa P pc p _ LP.out.raw zo (HSz.out.mono zo)) fun x1 w1 hE G1=>?_
 refine mV2 hE ?_ LP HX;clear LP HX;intro LP HX;obtain ⟨da,dn,dc⟩:=x1;have HD3:Hid (LIn w1 ⟨da,dn,dc⟩ (tz (derL p)) w.heap.size w1.heap.size):=Hi G1.out;clear G1;have hdn:dn+1≤P:=by have h1:=HD3.out.len;have h2:=HDl.out;simp only at h1;omega
 simp only [SH.v]
 go_wp2_with fail
 refine cM (zQ pa da P pc dn dc p (tz (derL p)) (S+1) D D _ LP.out.raw HD3.out.can zo zo zo hD hD3 hD hD3 HF.out HDF.out K HSK.out zo) fun x2 w2 hE G2=>?_
 refine mV2 hE ?_ LP HX;clear LP HX;intro LP HX;rw [lD] at G2;obtain ⟨ga,gn,gc⟩:=x2;have HGL:=Hi G2.out.1.lin;obtain ⟨X,F,hFX,hX1,hF0,hF2,hXK⟩:=G2.out.2;have HFX:=Hi hFX;have hX3:=GcR.small hXK;clear G2 hFX hXK;have hgl:=HGL.out.len;simp only at hgl;have hgn:0<gn:=by
  have:=ae (cY p (derL p));have:=nYh.2 HG0.out;omega
 obtain ⟨m,rfl⟩:∃ m,gn=m+1:=⟨gn-1,zo⟩;have hz0:((m:Int)+1 == 0)=false:=by rw [nXs];omega
 clear HD3;have hm1:P*(X+1)≤P*(K / 3):=nXg _ hX3;have hm2:(P+1)*(K / 3)=P*(K / 3)+K / 3:=nXz _ _
 (try dsimp only)
 go_wp2_with fail
 refine cM (rD pa ga P pc (m+1) gc p (cY p (derL p)) S X D F _ LP.out.raw HGL.out.can zo zo hS hX1 hD hD2 hF0 hF2 HF1.out HFX.out HG0.out zo zo) fun x3 w3 hE G3=>?_
 replace HX:=hE.tr HX;obtain ⟨⟨qa,qn,qc⟩,⟨ra,rn,rc⟩⟩:=x3;have HQL:=Hi G3.out.1.lin;clear G3;have hqn:=HQL.out.len;simp only at hqn
 (try dsimp only)
 go_wp2_with fail
 refine cM (nD qa qn qc (bH p (cY p (derL p))) 16777216 _ HQL.out.can zo zo HQ.out) fun x4 w4 hE G4=>?_
 replace HX:=hE.tr HX;go_wp2
 go_ret
 exact ⟨x4,rfl,HX.out,G4.out⟩
end Go.Proofs.YtafgmcimcbhhjaaGreat
/- The answers of package sturm, in plain terms, and the examples of the chapter. -/
namespace Go.Proofs.YtafgmcimcbhhjaaGreat.Sg
open Go.RowKit Go.Front Go.Num Go.Stab Go.Proofs.YtafgmcimcbhhjaaGreat
def kv:Nat→List Rat→Rat→Int
 | 0,_,_=>0
 | n+1,p,x=>if p=[] then 0 else if sg (evV p x)≠0 then sg (evV p x) else kv n (tz (derL p)) x
def posV(p:List Rat)(lo hi:Rat):Bool:=if tz p=[] then false else if sg (evV (av p) lo)≤0 then false else decide (cntV p lo hi=0)
end Go.Proofs.YtafgmcimcbhhjaaGreat.Sg
