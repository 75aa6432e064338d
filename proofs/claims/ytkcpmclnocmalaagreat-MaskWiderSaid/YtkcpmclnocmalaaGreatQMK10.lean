import Derived.Test.YtkcpmclnocmalaaGreatQMK9
set_option linter.unusedVariables false
set_option maxHeartbeats 8000000
set_option maxRecDepth 8000
namespace Go.Proofs.YtkcpmclnocmalaaGreat
open Go.RowKit Go.Front Go.Num
theorem Ff:(Tryz.prog.info? 24).map (fun i=>(i.zero,i.size,i.bytes))=some (some (.slice none 0 0),1,24):=by kernel_rfl
def bM(xs:List SH):List Value:=xs.map SH.v
theorem eo(xs:List SH):(bM xs).length=xs.length:=nXl _
theorem iZ(xs ys:List SH):bM (xs++ys)=bM xs++bM ys:=List.map_append
theorem pk(xs:List SH):(bM xs).all dL=true:=by
 rw [List.all_eq_true];intro x hx;obtain ⟨s,-,rfl⟩:=nYg.1 hx;rfl
theorem sH(xs:List SH):∀ u ∈ bM xs,u.oneCell'=true:=by
 intro x hx;obtain ⟨s,-,rfl⟩:=nYg.1 hx;rfl
def SBk(w:World)(L:Nat)(xs:List SH)(re:Array Value):Prop:=w.heap[L]?=some (.cells ((bM xs).toArray++re) 24 (0,0))
theorem SBk.ext{w w':World}{L:Nat}{xs:List SH}{re:Array Value}(h:SBk w L xs re)(he:Ext w w'):SBk w' L xs re:=he.block h
instance {w w':World} {L:Nat} {xs:List SH} {re:Array Value}:Go.Front.Mv w w' (SBk w L xs re) (SBk w' L xs re):=⟨fun e h=>SBk.ext h e⟩

theorem SBk.lt{w:World}{L:Nat}{xs:List SH}{re:Array Value}(h:SBk w L xs re):L<w.heap.size:=(nXb.1 h).1
theorem SBk.noU{w:World}{L:Nat}{xs:List SH}{re:Array Value}(h:SBk w L xs re)(hre:re.toList.all dL=true):NoU w L :=
 ai h (by rw [Array.toList_append,List.all_append,hre,pk];rfl)
theorem SBk.cell{w:World}{L:Nat}{xs:List SH}{re:Array Value}(h:SBk w L xs re){k:Nat}(hk:k<xs.length):w.cell? ⟨L,k,none⟩=some (xs.getD k ⟨none,0,0⟩).v:=by
 rw [ae h,Array.getElem?_append_left (by rw [List.size_toArray,eo];exact hk),List.getElem?_toArray];unfold bM;rw [nXw,nXd,List.getElem?_eq_getElem hk];rfl
theorem lK(n:Nat):(Builtin.zeroCells (Value.slice none 0 0).cells n).toList.all dL=true:=by
 rw [List.all_eq_true];intro x hx;have h0:(Value.slice none 0 0).cells=#[.slice none 0 0]:=by rfl
 rw [h0] at hx;simp [Builtin.zeroCells,Nat.mod_one] at hx;rw [←hx.2];rfl
def mw(w:World)(D:Nat→Prop)(v:Value)(xs:List SH):Prop:=(v=.slice none 0 0∧xs=[])∨∃ L cap re,v=.slice (some ⟨L,0,none⟩) xs.length cap∧D L∧SBk w L xs re∧xs.length≤cap∧cap≤9223372036854775807∧xs.length+re.size=cap∧re.toList.all dL=true
theorem mw.nil(w:World)(D:Nat→Prop):mw w D (.slice none 0 0) []:=Or.inl ⟨rfl,rfl⟩
theorem mw.ext{w w':World}{D:Nat→Prop}{v:Value}{xs:List SH}(h:mw w D v xs)(he:Ext w w'):mw w' D v xs :=
 h.imp id fun ⟨L,cap,re,h1,h2,h3,h4⟩=>⟨L,cap,re,h1,h2,h3.ext he,h4⟩
instance {w w':World} {D:Nat→Prop} {v:Value} {xs:List SH}:Go.Front.Mv w w' (mw w D v xs) (mw w' D v xs):=⟨fun e h=>mw.ext h e⟩

theorem mw.mono{w:World}{D D':Nat→Prop}{v:Value}{xs:List SH}(h:mw w D v xs)(hD:∀ k,k<w.heap.size→D k→D' k):mw w D' v xs :=
 h.imp id fun ⟨L,cap,re,h1,h2,h3,h4⟩=>⟨L,cap,re,h1,hD _ h3.lt h2,h3,h4⟩
theorem mw.put{w1 w2:World}{D:Nat→Prop}{v:Value}{xs:List SH}{b:Nat}{T:TypeId}{cs:Array Value}(h:mw w1 D v xs)(T2:cT w1 b T cs w2)(hb:¬ D b):mw w2 D v xs :=
 h.imp id fun ⟨L,cap,re,g1,g2,g3,g4⟩=>⟨L,cap,re,g1,g2,T2.rest L _ (fun e=>hb (e ▸ g2)) g3,g4⟩
theorem mJ(T ty:TypeId)(hT:Tryz.prog.underlying T=some (.slice 24))(w:World)(D:Nat→Prop)(v:Value)(xs:List SH)(x:SH)(N:Nat)(hown:mw w D v xs)(hN:SBk w N [x] #[])(hl:xs.length≤1073741824)(hD:∀ k,w.heap.size≤k→D k) :
    ∃ L cap w',(Builtin.append_ #[T,T] ty #[v,.slice (some ⟨N,0,none⟩) 1 1]).run Tryz.prog w=.ok (.slice (some ⟨L,0,none⟩) (xs.length+1) cap) w'∧mw w' D (.slice (some ⟨L,0,none⟩) (xs.length+1) cap) (xs++[x])∧aL D w w'∧dJ w w':=by
  obtain ⟨i0,hi0,hz0,hz1,hz2⟩:=info_parts Ff;have hnl:(bM [x]).length=1*i0.size:=by rw [hz1];rfl
  have hone:∀ j u,(bM [x])[j]?=some u→w.cell? ((⟨N,0,none⟩:Addr).add j)=some u:=by
    intro j u hj;rw [cH,ae hN,Array.append_empty,List.getElem?_toArray];exact hj
  have hgc:∀ need old,need≤9223372036854775807→need≤grownCap w need old 24∧grownCap w need old 24≤9223372036854775807:=fun need old h=>⟨grownCap_ge _ _ _ _,by have:=grownCap_le_maxLen w need old 24 (by simpa [maxLen] using h);simpa [maxLen] using this⟩
  have hzs:(Value.slice none 0 0).cells.size=1:=by rfl
  rcases hown with ⟨rfl,rfl⟩|⟨L,cap,re,rfl,h1,h2,h3,h4,h5,h6⟩
  · have hr:=run_append_nil (P:=Tryz.prog) w T ty _ i0 _ hT hi0 hz0 ⟨N,0,none⟩ 1 1 (bM [x]) hnl hone dZ dZ (by rw [hz2];decide)
    obtain ⟨g1,g2⟩:=hgc 1 0 dZ;have he:Ext w (w.drew.alloc (.cells ((bM [x]).toArray++Builtin.zeroCells (Value.slice none 0 0).cells (grownCap w 1 0 24-1)) 24)):=(Ext.drew w).trans (Ext.alloc _ _);refine ⟨_,_,_,hr,Or.inr ⟨_,_,_,rfl,hD _ (nXe _),heap_alloc_new w.drew _,g1,g2,?_,lK _⟩,aL.of_ext he,br he⟩;rw [size_zeroCells,hzs];simp only [nXi,List.length_nil,List.length_cons];omega
  · by_cases hroom:xs.length+1≤cap
    · have hcs:((bM xs).toArray++re).size=cap:=by rw [Array.size_append,List.size_toArray,eo,h5]
      have hr:=run_append_room (P:=Tryz.prog) w T ty _ i0 hT hi0 L xs.length cap _ h2 ⟨N,0,none⟩ 1 1 (bM [x]) hnl hone (sH _) hroom (by rw [hcs,hz1,hnl,hz1];omega);have e:(((bM xs).toArray++re).toList.take (xs.length*i0.size)++bM [x]++((bM xs).toArray++re).toList.drop (xs.length*i0.size+(bM [x]).length)).toArray=(bM (xs++[x])).toArray++(re.toList.drop 1).toArray:=by
        rw [hz1,hnl,hz1,Nat.mul_one,Array.toList_append,iZ,←eo xs,List.take_left,←List.drop_drop,List.drop_left];apply Array.ext';simp
      rw [e] at hr;refine ⟨_,_,_,hr,Or.inr ⟨L,cap,_,by simp,h1,setRow_heap w L _ _ _ _ h2,by simpa using hroom,h4,?_,?_⟩,⟨rfl,rfl,rfl,by simp,fun k hk hnd=>setRow_other w L k _ (fun e=>hnd (e ▸ h1))⟩,gV (h2.noU h6) fun k _ hk=>setRow_other w L k _ hk⟩
      · simp
        omega
      · rw [List.all_eq_true] at h6 ⊢
        intro x hx;exact h6 x (List.mem_of_mem_drop hx)
    · have hr := run_append_grow (P := Tryz.prog) w T ty _ i0 _ hT hi0 hz0 ⟨L, 0, none⟩ xs.length cap (bM xs) (by rw [eo, hz1, Nat.mul_one]) (fun j u hj => by
          have hlt:j<(bM xs).length:=(List.getElem?_eq_some_iff.1 hj).1;rw [cH,ae h2,Array.getElem?_append_left (by rw [List.size_toArray];exact hlt),List.getElem?_toArray];exact hj) ⟨N,0,none⟩ 1 1 (bM [x]) hnl hone zo zo (growslice_fits zo (by rw [hz2];omega))
      obtain ⟨g1,g2⟩:=hgc (xs.length+1) cap zo;have he:Ext w (w.drew.alloc (.cells ((bM xs).toArray++(bM [x]).toArray++Builtin.zeroCells (Value.slice none 0 0).cells (grownCap w (xs.length+1) cap 24-(xs.length+1))) 24)):=(Ext.drew w).trans (Ext.alloc _ _);refine ⟨_,_,_,hr,Or.inr ⟨w.heap.size,_,Builtin.zeroCells (Value.slice none 0 0).cells (grownCap w (xs.length+1) cap 24-(xs.length+1)),by simp,hD _ (nXe _),?_,by simpa using g1,g2,?_,lK _⟩,aL.of_ext he,br he⟩
      · unfold SBk
        rw [iZ];have e2:(bM xs++bM [x]).toArray=(bM xs).toArray++(bM [x]).toArray:=by simp
        rw [e2];exact heap_alloc_new w.drew _
      · rw [size_zeroCells,hzs]
        simp only [nXi,List.length_nil,List.length_cons];omega
theorem jO{w:World}{ops:Array Oper}{rest:List Oper}{o:Oper}{a:Act}{Q:Exit→Act→World→Prop}(hgd:o.guard=none)(s x:Operand)(T:TypeId)(hT:Tryz.prog.underlying T=some (.slice 24))
 (ho:o.op=.call { callee:=.builtin .append,args:=#[s,x],argTypes:=#[T,T] })(D:Nat→Prop)(v:Value)(xs:List SH)(r:SH)(hs:a.eval s=v)(hown:mw w D v xs)
 (hx:a.eval x=.slice (some ⟨w.heap.size,0,none⟩) 1 1)(hl:xs.length≤1073741824)(hD:∀ k,w.heap.size≤k→D k)
 (h:∀ L cap w',mw w' D (.slice (some ⟨L,0,none⟩) (xs.length+1) cap) (xs++[r])→aL D w w'→dJ w w'→wpList Tryz.prog ops Q rest (a.put o.dst (.slice (some ⟨L,0,none⟩) (xs.length+1:Nat) cap)) w'):wpList Tryz.prog ops Q (o :: rest) a (w.alloc (.cells #[.slice r.a r.n r.c] 24)):=by
 have hE:Ext w (w.alloc (.cells #[.slice r.a r.n r.c] 24)):=Ext.alloc _ _;refine wpList_plain hgd fun K hK=>?_
 obtain ⟨L,cap,w',hrun,g1,g2,g3⟩:=mJ T o.type hT (w.alloc (.cells #[.slice r.a r.n r.c] 24)) D v xs r w.heap.size (hown.ext hE) (by unfold SBk;exact heap_alloc_new _ _) hl (fun k hk=>hD k (nXf hE.size hk));unfold Oper.wp;simp [execOp,ho,resolve,invoke,builtin,hs,hx,hrun,Result.andThen];exact hK _ _ (by simpa using h L cap w' g1 ((aL.of_ext hE).trans g2) (fun _ _ _ _ hU=>g3 _ _ _ _ (hU.ext hE)))
def ChM(w:World)(lo B:Nat)(v:Value)(ps:List (List Rat)):Prop:=∃ xs,mw w (·=B) v xs∧xs.length=ps.length∧∀ k,k<ps.length→∃ b,b≠B∧lo≤b∧LIn w (xs.getD k ⟨none,0,0⟩) (ps.getD k []) b (b+1)
theorem ChM.nil(w:World)(lo B:Nat):ChM w lo B (.slice none 0 0) []:=⟨[],mw.nil _ _,rfl,fun k hk=>by simp at hk⟩
theorem ChM.ext{w w':World}{lo B:Nat}{v:Value}{ps:List (List Rat)}(h:ChM w lo B v ps)(he:Ext w w'):ChM w' lo B v ps :=
 let ⟨xs,h1,h2,h3⟩:=h;⟨xs,h1.ext he,h2,fun k hk=>let ⟨b,h4,h6,h5⟩:=h3 k hk;⟨b,h4,h6,h5.ext he⟩⟩
instance {w w':World} {lo B:Nat} {v:Value} {ps:List (List Rat)}:Go.Front.Mv w w' (ChM w lo B v ps) (ChM w' lo B v ps):=⟨fun e h=>ChM.ext h e⟩

theorem ChM.put{w1 w2:World}{lo B b:Nat}{v:Value}{ps:List (List Rat)}{T:TypeId}{cs:Array Value}(h:ChM w1 lo B v ps)(T2:cT w1 b T cs w2)(hb:b≠B∧b<lo):ChM w2 lo B v ps:=by
 obtain ⟨xs,h1,h2,h3⟩:=h;obtain ⟨hb,hlo⟩:=hb;exact ⟨xs,h1.put T2 (fun e=>hb e),h2,fun k hk=>let ⟨c,h4,h6,h5⟩:=h3 k hk;⟨c,h4,h6,h5.put T2 zo⟩⟩
theorem ChM.mono{w:World}{lo lo' B:Nat}{v:Value}{ps:List (List Rat)}(h:ChM w lo B v ps)(hl:lo'≤lo):ChM w lo' B v ps :=
 let ⟨xs,h1,h2,h3⟩:=h;⟨xs,h1,h2,fun k hk=>let ⟨c,h4,h6,h5⟩:=h3 k hk;⟨c,h4,nXf hl h6,h5⟩⟩
theorem oG{α:Type}{l m:List α}{d:α}{k:Nat}(h:k<l.length):(l++m).getD k d=l.getD k d:=by
 rw [nXd,nXd,List.getElem?_append_left h]
theorem oF{α:Type}{l:List α}{x d:α}:(l++[x]).getD l.length d=x:=by simp
theorem jP{w:World}{ops:Array Oper}{rest:List Oper}{o:Oper}{a:Act}{Q:Exit→Act→World→Prop}(hgd:o.guard=none)(s x:Operand)(T:TypeId)(hT:Tryz.prog.underlying T=some (.slice 24))
 (ho:o.op=.call { callee:=.builtin .append,args:=#[s,x],argTypes:=#[T,T] })(lo B:Nat)(v:Value)(ps:List (List Rat))(r:SH)(p:List Rat)(b:Nat)(hs:a.eval s=v)(hown:ChM w lo B v ps)(hr:LIn w r p b (b+1))(hb:b≠B)(hbo:lo≤b)
 (hx:a.eval x=.slice (some ⟨w.heap.size,0,none⟩) 1 1)(hl:ps.length≤1073741824)
 (h:∀ L cap w',ChM w' lo L (.slice (some ⟨L,0,none⟩) (ps.length+1:Nat) cap) (ps++[p])→Mut B w w'→(L=B∨w.heap.size≤L)→L<w'.heap.size→wpList Tryz.prog ops Q rest (a.put o.dst (.slice (some ⟨L,0,none⟩) (ps.length+1:Nat) cap)) w'):wpList Tryz.prog ops Q (o :: rest) a (w.alloc (.cells #[.slice r.a r.n r.c] 24)):=by
 obtain ⟨xs,h1,h2,h3⟩:=hown;refine jO hgd s x T hT ho (fun k=>k=B∨w.heap.size≤k) v xs r hs (h1.mono fun k _ e=>Or.inl e) hx (by rw [h2];exact hl) (fun k hk=>Or.inr hk) ?_;intro L cap w' q1 q2 q3;rw [h2];have hm:Mut B w w':=⟨q3,⟨q2.os,q2.tape,q2.output,q2.size,fun k hk hn=>q2.block k hk (fun h=>h.elim hn (fun h4=>Nat.lt_irrefl _ (nXn hk h4)))⟩⟩;rw [h2] at q1;rcases q1 with ⟨e,-⟩|⟨L2,cap2,re,e,g1,g2,g3⟩
 ·cases e
 ·obtain ⟨rfl,rfl⟩:L=L2∧cap=cap2:=by
   simp only [Value.slice.injEq,Option.some.injEq,Addr.mk.injEq] at e;exact ⟨e.1.1,e.2.2⟩
  have hne:∀ c,c≠B→c<w.heap.size→c≠L:=fun c h4 h5 h6=>by
   rcases g1 with h7|h7
   ·exact h4 (h6.trans h7)
   ·omega
  have hlt:∀ s q c,LIn w s q c (c+1)→c≠B→lo≤c→∃ c',c'≠L∧lo≤c'∧LIn w' s q c' (c'+1):=by
   intro s q c h4 h5 h9;have h6:=h4.mut hm zo;by_cases h7:c<w.heap.size
   ·exact ⟨c,hne c h5 h7,h9,h6⟩
   ·obtain ⟨rs,k1,k2,k3⟩:=h6;refine ⟨L+1+lo,zo,zo,rs,k1,k2,Or.inl ?_⟩;rcases k3 with k3|⟨y,off,e3,k4,k5⟩
    ·exact k3
    ·obtain ⟨rs2,m1,m2,m3⟩:=h4;rcases m1.in with m4|⟨y2,o2,e4,-,m5⟩
     ·exact m4
     ·rw [e3] at e4;simp only [Option.some.injEq,Addr.mk.injEq] at e4;omega
  refine h L cap w' ⟨xs++[r],Or.inr ⟨L,cap,re,by simp [h2],rfl,g2,g3⟩,by simp [h2],fun k hk=>?_⟩ hm g1 g2.lt;rw [nXi,List.length_cons,List.length_nil] at hk;by_cases hk2:k<ps.length
  ·obtain ⟨c,h4,h8,h5⟩:=h3 k hk2;obtain ⟨c',h6,h9,h7⟩:=hlt _ _ c h5 h4 h8;refine ⟨c',h6,h9,?_⟩;rw [oG zo,oG hk2];exact h7
  ·obtain rfl:k=ps.length:=by omega
   obtain ⟨c',h6,h9,h7⟩:=hlt _ _ b hr hb hbo;refine ⟨c',h6,h9,?_⟩;rw [←h2,oF,h2,oF];exact h7
open Stab Sg
attribute [local go_sem] XW.cell XW.frozen
theorem aH.lin{w:World}{L n c:Nat}{os:List Rat}(h:aH w L os)(hn:n≤os.length)(hc:os.length≤c)(hm:c≤9223372036854775807):LIn w ⟨some ⟨L,0,none⟩,n,c⟩ (os.take n) L (L+1):=by
 have h1:LIn w ⟨some ⟨L,0,none⟩,os.length,c⟩ os L (L+1):=by
  obtain ⟨rs,h2,h3⟩:=h.can rfl hc hm;exact ⟨rs,h2,h3,Or.inr ⟨L,0,rfl,nXe _,Nat.lt_succ_self _⟩⟩
 exact h1.take hn
theorem cJ.lin{B:Nat}{w:World}{x:SH}{os:List Rat}(h:cJ B w x os)(hl:os.length≤9223372036854775807):∃ L,B≤L∧L<w.heap.size∧x=⟨some ⟨L,0,none⟩,os.length,os.length⟩∧LIn w x os L (L+1):=by
 obtain ⟨L,h1,rfl,h2⟩:=h;refine ⟨L,h1,h2.lt,rfl,?_⟩;have:=h2.lin (n:=os.length) (c:=os.length) (nXe _) (nXe _) hl
 rwa [nXm (nXe _)] at this
theorem iH{S D:Nat}{p:List Rat}(hf:∀ x ∈ p,Fr S D x)(hl:p.length≤100000):∀ x ∈ tz (derL p),Fr (S+1) D x:=by
 intro x hx;obtain ⟨i,hi,rfl⟩:=ep hx;rw [bC];have h1:=gM p i;unfold seq at h1;rw [h1];by_cases h2:i+1<p.length
 ·obtain ⟨w1,w2⟩:=hf _ (bH h2);obtain ⟨z,hz⟩:=Wh.iff.1 w1;rw [hz,Rat.num_intCast] at w2;refine Fr.int (z:=((i+1:Nat):Int)*z) ?_ (by rw [nYe,hz];exact_mod_cast rfl);rw [Int.natAbs_mul,nYi,nXu,nYf];exact Nat.mul_lt_mul'' w2 (by show _<4294967296;omega)
 ·rw [bu zo];rw [nYc];exact Fr.zero _ _
theorem yJ{K S D:Nat}{p:List Rat}(hD:0<D)(hf:∀ x ∈ p,Fr S D x)(hl:p.length≤1000)(h0:tz p≠[])(hK:KZ K S p.length):GZ K (S+1) p (tz (derL p)):=by
 obtain ⟨n,hn⟩:∃ n,(tz p).length=n+1:=⟨(tz p).length-1,by have:=nYh.2 h0;omega⟩;have hd:=fP p n hn;have hp:=aj p;rcases hK with hK|hK
 ·refine DO (P:=p.length) (Q:=p.length-1) (nXe _) zo ?_;rw [show max p.length (p.length-1+1)=p.length by omega];exact hK
 ·refine DN (P:=p.length) (Q:=p.length) hD hD (fun x hx=>(hf x hx).mono (Nat.le_succ S)) (iH hf zo) (nXe _) zo zo ?_;rw [show p.length+p.length=2*p.length by omega];exact hK
theorem sK{S D:Nat}{p:List Rat}(hS:1≤S)(hD:0<D)(hf:∀ x ∈ p,Fr S D x)(hl:p.length≤1000)(h0:tz p≠[]){K:Nat}(hK:KZ K S p.length):∃ X,S+1≤X∧RmI K (ay p) (ay (tz (derL p))) X:=by
 obtain ⟨n,hn⟩:∃ n,(tz p).length=n+1:=⟨(tz p).length-1,by have:=nYh.2 h0;omega⟩;have hd:=fP p n hn;have hp:=aj p;have hb:(ay (tz (derL p))).length=(tz (derL p)).length:=by rw [aG,bQ]
 have ha:(ay p).length=n+1:=by rw [aG,hn]
 have hft:∀ x ∈ tz p,Fr S D x:=fun x hx=>by
  obtain ⟨i,hi,rfl⟩:=ep hx;rw [bC];exact hf _ (bH zo)
 obtain ⟨X,h1,h2⟩:=yJ hD hf hl h0 hK;exact ⟨X,h1,bq _,bq _,fun x hx=>(d9 hft hD x hx).mono zo,fun x hx=>(d9 (fun y hy=>iH hf zo y (by rwa [bQ] at hy)) hD x hx).mono h1,zo,h2,Or.inr zo,zo,zo⟩
theorem Bc(p:List Rat):ay (tz p)=ay p:=by unfold ay aR;rw [bQ]
theorem C5(pa qa:Option Addr)(P pc Q qc:Nat)(p q:List Rat)(S U:Nat)(w:World)(hp:bg w ⟨pa,P,pc⟩ p)(hq:bg w ⟨qa,Q,qc⟩ q)(hpw:∀ x ∈ p,Wz S x)(hqw:∀ x ∈ q,Wz U x)(hS:1≤S)(hU:1≤U)(htp:tz p=p)(htq:tz q=q)(hP:P≤100000)(hQ:0<Q)(hQP:Q≤P)(hsz:S+(P+1-Q)*(U+1)≤30000000)(hUz:U≤30000000) :
  ar 196 [.slice pa P pc,.slice qa Q qc] w SH.v (fun x w'=>SrP p q S U w.heap.size x w'):=by
 obtain ⟨m,rfl⟩:∃ m,Q=m+1:=⟨Q-1,zo⟩;exact xJ pa qa P pc m qc p q S U w hp hq hpw hqw hS hU htp htq hP zo (by rw [show P+1-(m+1)=P-m by omega] at hsz;exact hsz) hUz
structure RmL (w wr:World) (p:List Rat) (K b2:Nat) (xl xa xb:SH) (a b:List Rat):Prop where
 hx:Ext w wr
 hB2:wr.heap[b2]?=some (.cells #[.slice none 0 0] 166 (0,0))
 ex:∃ (fuel X B ba bb:Nat) (ps:List (List Rat)),w.heap.size≤B∧b2≠B∧ba≠B∧bb≠B∧ba<wr.heap.size∧bb<wr.heap.size∧b2<ba∧b2<bb∧LIn wr xa a ba (ba+1)∧LIn wr xb b bb (bb+1)∧ChM wr (b2+1) B xl.v ps∧RmI K a b X∧a.length<fuel∧ps++chn fuel a b=aP p∧(∀ m ∈ ps,∀ y ∈ m,Wz K y)∧ps.length+a.length≤2000
abbrev CV(x:SH):Value:=.agg #[x.v]
theorem nQ(pa:Option Addr)(P pc:Nat)(p:List Rat)(S D K:Nat)(w:World)(h:cN w ⟨pa,P,pc⟩ p)(hP:P≤1000)(h0:tz p≠[])(hS:1≤S)(hD:0<D)(hD2:D<W32 ^ S)(hf:∀ x ∈ p,Fr S D x)(hK:KZ K S P)(hK2:K≤16777216) :
  ar 170 [.slice pa P pc] w CV (fun x w'=>(∃ B,w.heap.size≤B∧ChM w' w.heap.size B x.v (aP p))∧∀ m ∈ aP p,∀ y ∈ m,Wz K y):=by
 have LP:=Hi (RIn.of h);have HX:=Hi (Ext.refl w);have HPl:Hid (p.length=P):=Hi h.len;have HF:=Hi hf;obtain ⟨X0,hSX,hI0⟩:=sK hS hD hf (by have:=h.len;simp only at this;omega) h0 (by have:=h.len;simp only at this;rw [this];exact hK);have HI0:=Hi hI0;clear hI0;have hSK:S+2≤K:=by have:=HI0.out.small;omega
 have HSz:Hid (SzL S p):=Hi (ck hS hD hD2 hf);have HDF:Hid (∀ x ∈ tz (derL p),Fr (S+1) D x):=Hi (iH hf (by have:=h.len;simp only at this;omega));have hD3:D<W32 ^ (S+1):=nXn hD2 (nXp aI zo);clear h hf;unfold ar;go_enter Tryz.func170,Tryz.ntmps170
 go_upto_region 1 with fail
 refine nmA ?_;intro w1 hE B2 hz_w1 hr_w1;refine mV2 hE ?_ LP HX;clear LP HX;intro LP HX;have hs_w1:=hE.size;replace b_B2:=bX3 B2
 go_wp2_with fail
 refine cM (nR pa P pc p S D _ LP.out.raw zo hS zo hD hD2 HF.out) fun x2 w2 hE G2=>?_
 refine mV3 hE ?_ B2 LP HX;clear B2 LP HX;intro B2 LP HX;have hs_w2:=hE.size;replace b_B2:=bX3 B2;obtain ⟨La,hLa,hLa2,hxa,hra⟩:=cJ.lin G2.out (by rw [aG];have:=aj p;have:=HPl.out;omega);subst hxa;have HA:=Hi hra;clear hra G2
 go_wp2_with fail
 refine cM (i9 pa P pc p _ LP.out.raw zo (HSz.out.mono zo)) fun x3 w3 hE G3=>?_
 refine mV4 hE ?_ B2 LP HX HA;clear B2 LP HX HA;intro B2 LP HX HA;have hs_w3:=hE.size;replace b_B2:=bX3 B2;obtain ⟨da,dn,dc⟩:=x3;have HD3:Hid (LIn w3 ⟨da,dn,dc⟩ (tz (derL p)) w2.heap.size w3.heap.size):=Hi G3.out;clear G3
 go_wp2_with fail
 refine cM (iX da dn dc (tz (derL p)) (S+1) D _ HD3.out.can (by have h2:=HD3.out.can.len;have h3:=HI0.out.2.2.2.2.2.2.2.2;rw [aG,bQ] at h3;simp only at h2;omega) zo zo hD hD3 HDF.out) fun x4 w4 hE G4=>?_
 refine mV5 hE ?_ B2 LP HX HA HD3;clear B2 LP HX HA HD3;intro B2 LP HX HA HD3;have hs_w4:=hE.size;replace b_B2:=bX3 B2;obtain ⟨Lb,hLb,hLb2,hxb,hrb⟩:=cJ.lin G4.out (by have h3:=HI0.out.2.2.2.2.2.2.2.2;omega);subst hxb;have HB:=Hi hrb;clear hrb G4;rw [Bc] at *
 obtain ⟨B0,hB0⟩:∃ B0,B0=w4.heap.size:=⟨_,rfl⟩;have hb2w:w.heap.size<w1.heap.size:=zo;obtain ⟨b2,hb2⟩:∃ b2,b2=w.heap.size:=⟨_,rfl⟩;rw [←hb2] at B2 ⊢;have hb2l:b2<w1.heap.size:=zo;have hb2g:w.heap.size≤b2:=zo;clear hb2 b_B2;have hlen0:(ay p).length≤1000:=by rw [aG];have:=aj p;have:=HPl.out;omega
 go_wp2
 go_loopg [3,4,5] (ay p).length (fun g vl va vb wr=>∃ (xl xa xb:SH) (a b:List Rat),vl=xl.v∧va=xa.v∧vb=xb.v∧a.length=g∧RmL w wr p K b2 xl xa xb a b)
 case atStart =>
  refine ⟨⟨none,0,0⟩,_,_,ay p,ay (derL p),rfl,rfl,rfl,rfl,HX.out,B2.out,p.length+1,X0,w4.heap.size,La,Lb,[],zo,zo,zo,zo,zo,zo,zo,zo,HA.out,HB.out,ChM.nil _ _ _,HI0.out,?_,rfl,fun m hm=>by simp at hm,by simp;omega⟩;rw [aG];have:=aj p;omega
 case round =>
  obtain ⟨xl,xa,xb,a,b,rfl,rfl,rfl,hag,g1,g2,fuel,X,B,ba,bb,ps,g3,g4,g5,g6,g7,g8,g9,g10,g11,g12,g13,g14,g15,g16,g17,g18⟩:=hrel;clear HX B2 HA HB LP HD3;have HX:=Hi g1;have B2:=Hi g2;have HA:=Hi g11;have HB:=Hi g12;have HC:=Hi g13;have HI:=Hi g14;have HE:=Hi g16;have HW:=Hi g17;have hxa:=g11.len;have hxb:=g12.len;obtain ⟨aa,an,ac⟩:=xa;obtain ⟨xba,bn,bc⟩:=xb;simp only at hxa hxb;subst hxa hxb hag;clear g1 g2 g11 g12 g13 g14 g16 g17;have hb2r:b2<wr.heap.size:=(nXb.1 B2.out).1;replace b_B2:=bX3 B2;by_cases h0:a.length=0
  case pos =>
   have ha0:a=[]:=nXj.1 h0;subst ha0;have HV:Hid (ps=aP p):=Hi (by
    have h1:=HE.out;obtain ⟨f2,rfl⟩:∃ f2,fuel=f2+1:=⟨fuel-1,zo⟩;rw [show chn (f2+1) [] b=[] by simp [chn]] at h1;simpa using h1)
   go_wp2;refine iC (F:=fun W=>bodyPost _ _ _ _ _ W) B2.out rfl ?_;intro y9 T;replace HX:=Hi (T.ext HX.out zo);replace B2:=Hi (T.bx);replace HC:=Hi (HC.out.put T zo);have hs_y9:=nle T.size;have hr_y9:=nle T.size.symm;clear T;replace b_B2:=bX3 B2;exact nXa (v:=CV xl) (by simp [results,Tryz.results170,go_sem,CV,b_B2.1]) rfl
    ⟨xl,rfl,HX.out,⟨B,g3,by rw [←HV.out];exact HC.out.mono zo⟩,by rw [←HV.out];exact HW.out⟩
  have ha0:(0:Int)<a.length:=zo
  go_upto_region 5 with (at_builtin;refine jP rfl (.tmp 16) (.tmp 18) 164 Tryz.underlying164 rfl (b2+1) B _ ps ⟨aa,a.length,ac⟩ a ba rfl HC.out HA.out g5 zo rfl zo ?_;intro L cap y1 q1 q2 q3 q4)
  have HX2:=Hi (q2.ext HX.out g3);have B22:=Hi (q2.rest b2 _ g4 B2.out);have HA2:=Hi (HA.out.mut q2 zo);have HB2:=Hi (HB.out.mut q2 zo);have HC2:=Hi q1;have hyr:=q2.size;have hLg:w.heap.size≤L:=zo;have hLb2:b2≠L:=zo;have hLa:ba≠L:=zo;have hLb:bb≠L:=zo;clear q1 q2 q3 HX B2 HA HB HC b_B2;have HX:=HX2;have B2:=B22;have HA:=HA2;have HB:=HB2;have HC:=HC2;clear HX2 B22 HA2 HB2 HC2;have hb2r:b2<y1.heap.size:=zo;have HAK:Hid (∀ m ∈ ps++[a],∀ y ∈ m,Wz K y):=Hi (fun m hm y hy=>by
   rcases List.mem_append.1 hm with hm|hm
   ·exact HW.out m hm y hy
   ·obtain rfl:m=a:=by simpa using hm
    exact (HI.out.2.2.1 y hy).mono (by have:=HI.out.small;omega))
  obtain ⟨f2,rfl⟩:∃ f2,fuel=f2+1:=⟨fuel-1,zo⟩;have Ha:Hid (a≠[]):=Hi (fun h=>h0 (by rw [h];rfl));replace b_B2:=bX3 B2;by_cases hb0:b.length=0
  case pos =>
   have hb1:b=[]:=nXj.1 hb0;subst hb1;have HV:Hid (ps++[a]=aP p):=Hi (by
    have h1:=HE.out;rw [eQ Ha.out] at h1;exact h1)
   go_wp2;refine iC (F:=fun W=>bodyPost _ _ _ _ _ W) B2.out rfl ?_;intro y9 T;replace HX:=Hi (T.ext HX.out zo);replace B2:=Hi (T.bx);replace HA:=Hi (HA.out.put T zo);replace HB:=Hi (HB.out.put T zo);replace HC:=Hi (HC.out.put T zo);have hs_y9:=nle T.size;have hr_y9:=nle T.size.symm;clear T;replace b_B2:=bX3 B2;exact nXa (v:=CV ⟨some ⟨L,0,none⟩,ps.length+1,cap⟩) (by simp [results,Tryz.results170,go_sem,CV,b_B2.1]) rfl
    ⟨⟨some ⟨L,0,none⟩,ps.length+1,cap⟩,rfl,HX.out,⟨L,hLg,by rw [←HV.out];exact HC.out.mono zo⟩,by rw [←HV.out];exact HAK.out⟩
  have hb1:((b.length:Int) == 0)=false:=by rw [nXs];omega
  have Hb:Hid (b≠[]):=Hi (fun h=>hb0 (by rw [h];rfl));have hba:b.length<a.length:=by
   rcases HI.out.2.2.2.2.2.2.1 with h|h
   ·exact absurd h Ha.out
   ·exact h
  have hXK:X+(a.length+1-b.length)*(X+1)≤K:=HI.out.size Hb.out;have hX1:1≤X:=HI.out.2.2.2.2.1;have hal:a.length≤100000:=HI.out.2.2.2.2.2.2.2.1;have HX0:=HX;have HA0:=HA;have HB0:=HB;have HC0:=HC;have B20:=B2;have HX7:=Hi (Ext.refl y1);clear HX;clear HA;clear HB;clear HC
  (try clear b_B2);clear B2
  go_wp2_with fail
  refine cM (C5 aa xba a.length ac b.length bc a b X X _ HA0.out.can HB0.out.can HI.out.2.2.1 HI.out.2.2.2.1 hX1 hX1 HI.out.1 HI.out.2.1 hal zo zo zo zo) fun x6 w6 hE G6=>?_
  replace HX7:=hE.tr HX7;have hs_w6:=hE.size;obtain ⟨Lr,n,c,ros,sq,f,hLr,hx6,hros,hnr,hrc,hcm,hf0,hd⟩:=G6.out;subst hx6;have HR:=Hi hros;have HD:=Hi hd;have HF0:=Hi hf0;clear G6 hros hd hf0;have hLy:y1.heap.size≤Lr:=hLr;have HRW:Hid (∀ k,k<n→Wz (X+(a.length+1-b.length)*(X+1)) (ros.getD k 0)):=Hi (fun k hk=>by
   have h1:=HD.out.2.2.2.1 _ (bH (i:=k) (l:=ros.take n) (by rw [nXk];omega))
   rwa [cS hk] at h1)
  go_wp2
  go_loopg [28] n (fun g v wr=>∃ (i:Nat),i+g=n∧v=.int .i64 (i:Nat)∧Ext y1 wr∧aH wr Lr (cL ros i (-1)))
  case atStart=>exact ⟨0,zo,rfl,HX7.out,by simpa [cL] using HR.out⟩
  case round =>
   obtain ⟨i,hi,rfl,g1,g2⟩:=hrel;clear HX7 HR;have HX7:=Hi g1;have HR:=Hi g2;have hyw:=g1.size;clear g1 g2
   (try simp only [SH.v])
   by_cases h1:gk=0
   case neg =>
    have hin:(i:Int)<n:=zo;have HV:Hid ((cL ros i (-1)).getD i 0=ros.getD i 0):=Hi (by
     unfold cL;have h1:((ros.take i).map (·*(-1))).length=i:=by rw [nXl,nXk];omega
     rw [nXd,List.getElem?_append_right zo,h1,Nat.sub_self,List.getElem?_drop,Nat.add_zero,←nXd])
    obtain ⟨r,⟨f1,f2,f3⟩,hrc'⟩:=aH.cells HR.out (k:=i) (by rw [aF];omega);rw [HV.out] at hrc';have HRC:=Hi hrc';clear hrc';have hfz:=aH.frozen HR.out;have hLl:=aH.lt HR.out;obtain ⟨ren,rea,rel,rec',reb,rem,red⟩:=r;simp only at f1 f2 f3
    go_wp2_with fail
    refine cM (qL ⟨ren,rea,rel,rec',reb,rem,red⟩ (ros.getD i 0) _ (HRC.out.raw ((HRW.out i zo).sz zo) zo)) fun x8 w8 hE G8=>?_
    refine mV3 hE ?_ HX7 HR HRC;clear HX7 HR HRC;intro HX7 HR HRC;have hs_w8:=hE.size;clear f1 f2 f3 hfz hLl;clear HRC;obtain ⟨r2,⟨f1,f2,f3⟩,-⟩:=aH.cells HR.out (k:=i) (by rw [aF];omega);have hfz:=aH.frozen HR.out;have hLl:=aH.lt HR.out
    go_upto_region 11 with fail
    refine eW (k:=i) HR.out (by rw [aF];omega) G8.out ?_;rintro y6 ⟨cs,T⟩ TN;rw [show -ros.getD i 0=ros.getD i 0*(-1) by grind,mW zo] at TN;clear f1 f2 f3 hfz hLl HV;clear G8;clear HR;replace HX7:=Hi (T.ext HX7.out zo);have hs_y6:=nle T.size;have hr_y6:=nle T.size.symm;clear T;have HR:=Hi TN;clear TN;go_wp2
    go_roundg (gk-1)
    case measure=>omega
    case rel=>exact ⟨i+1,zo,by go_num,HX7.out,HR.out⟩
   subst h1;obtain rfl:i=n:=by omega
   have hin:¬ (i:Int)<i:=zo;have hib:i<b.length:=by have:=HD.out.2.2.2.2.2.1;rw [nXk] at this;omega
   have hbl:b.length≤100000:=zo;have HRN:Hid (bg wr ⟨some ⟨Lr,0,none⟩,i,c⟩ ((ros.take i).map (·*(-1)))):=Hi (by
    rw [←oe (-1) hnr];exact (HR.out.can (M:=ros.length) (aF _ _ _) hrc hcm).take hnr)
   have HFR:Hid (∀ x ∈ (ros.take i).map (·*(-1)),Fr (X+(a.length+1-b.length)*(X+1)) 1 x):=Hi (fun x hx=>by
    obtain ⟨y,hy,rfl⟩:=nYg.1 hx;rw [show y*(-1)=-y by grind];exact Fr.one (HD.out.2.2.2.1 y hy).neg)
   obtain ⟨hN,X2,hI2⟩:=HI.out.next Hb.out HF0.out HD.out;have HN:=Hi hN;have HI2:=Hi hI2;clear hN hI2
   go_wp2_with fail
   refine cM (iX (some ⟨Lr,0,none⟩) i c ((ros.take i).map (·*(-1))) (X+(a.length+1-b.length)*(X+1)) 1 _ HRN.out zo zo zo dZ (Nat.one_lt_pow zo dZ) HFR.out) fun x9 w9 hE G9=>?_
   refine mV2 hE ?_ HX7 HR;clear HX7 HR;intro HX7 HR;have hs_w9:=hE.size;obtain ⟨Ln,hLn,hLn2,hxn,hrn⟩:=cJ.lin G9.out (by have:=HI2.out.2.2.2.2.2.2.2.2;omega);subst hxn;have HNB:=Hi hrn;clear hrn G9;go_wp2
   go_roundg b.length
   case measure=>omega
   case rel =>
    refine ⟨⟨some ⟨L,0,none⟩,ps.length+1,cap⟩,⟨xba,b.length,bc⟩,_,b,_,rfl,rfl,rfl,rfl,HX0.out.trans HX7.out,HX7.out.block B20.out,f2,_,L,bb,Ln,ps++[a],hLg,hLb2,hLb,zo,zo,hLn2,zo,zo,HB0.out.ext HX7.out,(by have h:=HNB.out;simp only [List.map_take] at h ⊢;exact h),HC0.out.ext HX7.out,(by have h:=HI2.out;simp only [List.map_take] at h ⊢;exact h),zo,?_,HAK.out,by simp;omega⟩;have hN:=HN.out;simp only [List.map_take] at hN ⊢;rw [hN,List.append_assoc,List.singleton_append,←ic Ha.out Hb.out];exact HE.out
theorem tU(pa:Option Addr)(P pc:Nat)(p:List Rat)(S D K:Nat)(w:World)(h:bg w ⟨pa,P,pc⟩ p)(hP:P≤1000)(h0:tz p≠[])(hS:1≤S)(hD:0<D)(hD2:D<W32 ^ S)(hf:∀ x ∈ p,Fr S D x)(hK:KZ K S P)(hK2:K≤16777216) :
  ar 170 [.slice pa P pc] w CV (fun x w'=>(∃ B,w.heap.size≤B∧ChM w' w.heap.size B x.v (aP p))∧∀ m ∈ aP p,∀ y ∈ m,Wz K y) :=
 nQ pa P pc p S D K w (h.raw (ck hS hD hD2 hf) (by have:=hK.small;omega)) hP h0 hS hD hD2 hf hK hK2
end Go.Proofs.YtkcpmclnocmalaaGreat
/- Divisors of a product of linear factors and of a quadratic one without roots; their coefficients. Plain facts. -/
namespace Go.Proofs.YtkcpmclnocmalaaGreat.Sg
open Go.RowKit Go.Front Go.Num Go.Stab Go.Proofs.YtkcpmclnocmalaaGreat
def Pd:List Rat→Rat→Rat
 | [],_=>1
 | a :: l,x=>(x-a)*Pd l x
def Qd:Option Rat→Rat→Rat
 | none,_=>1
 | some b,x=>x*x+b
def Fac(p rl:List Rat)(b:Option Rat):Prop:=∃ c:Rat,c≠0∧∀ x,evV p x=c*(Pd rl x*Qd b x)
theorem yF{p:List Rat}(h:tz p≠[]):bL (tz (cI p))=1:=by
 rw [gu,kP h];have h1:=ci h;unfold bL at *
 rw [nXl];rw [nXd,nXw];have h2:=nYh.2 h;rw [List.getElem?_eq_getElem zo];rw [nXd,List.getElem?_eq_getElem zo] at h1 ⊢;show (tz p)[(tz p).length-1]*(((1:Int):Rat) / (tz p)[(tz p).length-1])=1;rw [nYd];exact aQ h1
theorem eh(a b:Rat):sg (a*b)=sg a*sg b:=by
 rcases bR a with ⟨h,e⟩|⟨h,e⟩|⟨h,e⟩ <;> rcases bR b with ⟨k,f⟩|⟨k,f⟩|⟨k,f⟩ <;> rw [e,f]
 ·have:=Rat.mul_pos (a:=-a) (b:=-b) (by grind) (by grind);rw [dI (by grind)];rfl
 ·rw [k,nYc,fi];rfl
 ·have:=Rat.mul_pos (a:=-a) (b:=b) (by grind) k;rw [cP (by grind)];rfl
 ·rw [h,nYb,fi];rfl
 ·rw [h,nYb,fi];rfl
 ·rw [h,nYb,fi];rfl
 ·have:=Rat.mul_pos (a:=a) (b:=-b) h (by grind);rw [cP (by grind)];rfl
 ·rw [k,nYc,fi];rfl
 ·rw [dI (Rat.mul_pos h k)];rfl
def cn:List Rat→Rat→Rat→Nat
 | [],_,_=>0
 | d :: ds,lo,hi=>(if lo<d∧d≤hi then 1 else 0)+cn ds lo hi
def cc:List Rat→Rat→Rat→Nat
 | [],_,_=>0
 | d :: ds,lo,hi=>(if lo≤d∧d≤hi then 1 else 0)+cc ds lo hi
theorem qt{r:List Rat}{l:List (List Rat)}(e:aP r=ay r :: l)(x:Rat):jQ (aP r) x=V (evV (ay r)) (l.map evV) x:=by
 unfold jQ V sgs;rw [e];simp only [List.map_cons,List.map_map];rfl
end Go.Proofs.YtkcpmclnocmalaaGreat.Sg
/- Squarefree of package poly. -/
namespace Go.Proofs.YtkcpmclnocmalaaGreat
open Go.RowKit Go.Front Go.Num Stab Sg
attribute [local go_sem] XW.cell XW.frozen
theorem yW:∀ (f:Nat) (p q:List Rat),cI p=p→cI q=q→cI (oH f p q)=oH f p q:=by
 intro f;induction f with
 | zero=>intro p q h _;exact h
 | succ f ih =>
  intro p q h k;by_cases h0:q=[]
  ·subst h0;rw [gY];exact h
  ·rw [gC h0];exact ih q _ k (jY _)
theorem nk(p q:List Rat):cI (aV p q)=aV p q:=yW _ _ _ (jY p) (jY q)
theorem ni(p q:List Rat):aV p (tz q)=aV p q:=by
 have h:cI (tz q)=cI q:=Pr.mon ⟨1,dZ,fun n=>by rw [bA,Rat.one_mul]⟩;unfold aV;rw [bQ,h]
theorem jh{p:List Rat}(h:tz p≠[]):tz (aV p (derL p))≠[]:=AE h (rN (dE p (derL p)))
theorem k9(p:List Rat):Dv (evV (aV p (derL p))) (evV p):=(dE p (derL p)).1
theorem Dc{p:List Rat}{i:Nat}(h:seq p i≠0):i<p.length:=Classical.byContradiction fun hn=>h (bu zo)
theorem Dg{p:List Rat}(h:tz p≠[]){T U:Nat}(hp:SzL T p)(hs:SzL U (sqfV p)):SzL (U+T) (bK p (aV p (derL p))):=by
 have hg0:=jh h;have he:=i6 hg0 (k9 p);have ht:tz (bK p (aV p (derL p)))=bK p (aV p (derL p)):=(dz p hg0).2.2.1;have hsv:sqfV p=cI (bK p (aV p (derL p))):=rfl;have hgm:=nk p (derL p);generalize bK p (aV p (derL p))=q at *
 generalize aV p (derL p)=g at *
 have hq0:tz q≠[]:=fun h0=>by
  obtain ⟨y,hy⟩:=jb h;exact hy (by rw [he,aD.1 h0 y];grind)
 obtain ⟨m,hm,hm0⟩:=fV hq0;obtain ⟨k,hk,hk0⟩:=fV hg0;have hgl:seq g k=1:=by
  have h1:=yF hg0;rw [hgm] at h1;unfold bL at h1;rw [hk,bC] at h1;exact h1
 have hlead:bL (tz q)=seq q m:=by
  unfold bL;rw [hm,bC];rfl
 have hsp:seq p (m+k)=seq q m:=by
  have h1:=ev_inj (p:=p) (q:=aO q g) (fun x=>by rw [ev_mul5,he x];grind) (m+k);rw [h1,dY,iJ];have b1:Bd (m+1) (seq q):=by rw [←bA,←hm];exact Bd.seq _
  have b2:Bd (k+1) (seq g):=by rw [←bA,←hk];exact Bd.seq _
  rw [oP b1 b2,hgl,Rat.mul_one]
 have hz:Sz T (seq p (m+k)):=hp.at (Dc (by rw [hsp];exact hm0));rw [hsv,kP hq0,hlead,ht] at hs;intro x hx;have h2:=hs _ (nYg.2 ⟨x,hx,rfl⟩);have h3:=h2.mul hz;rw [hsp] at h3;have h4:x*(((1:Int):Rat) / seq q m)*seq q m=x:=by rw [nYe,aQ hm0];exact Rat.mul_one x
 rw [h4] at h3;exact h3
theorem nj(p q:List Rat):tz (aV p q)=aV p q:=by
 have h:=gu (aV p q);rw [nk] at h;exact h
theorem pQ{p:List Rat}(h:tz p≠[]):(aV p (derL p)).length≤p.length:=by
 have h1:=gD (k9 p) h;rw [nj] at h1;exact nXf h1 (aj p)
theorem uA{p:List Rat}(h:tz p≠[]):(bK p (aV p (derL p))).length≤p.length:=by
 have hg0:=jh h;have he:=i6 hg0 (k9 p);have h1:=gD (a:=bK p (aV p (derL p))) (b:=p) ⟨_,Pf.ev (aV p (derL p)),fun x=>by rw [he x];grind⟩ h;rw [(dz p hg0).2.2.1] at h1;exact nXf h1 (aj p)
theorem tX{p:List Rat}(h:tz p≠[]):(sqfV p).length≤p.length:=by
 have h1:(sqfV p).length=(tz (bK p (aV p (derL p)))).length:=fL _;have h2:=aj (bK p (aV p (derL p)));have:=uA h;omega
def FrK(K:Nat)(p:List Rat):Prop:=∃ S D,1≤S∧0<D∧D<W32 ^ S∧FrL S D p∧KZ K S p.length
theorem ia{p:List Rat}(h:tz p≠[]):(tz (derL p)).length+1≤p.length:=by
 obtain ⟨n,hn,-⟩:=fV h;have:=fP p n hn;have:=aj p;omega
theorem yf(pa:Option Addr)(P pc:Nat)(p:List Rat)(K:Nat)(w:World)(h:cN w ⟨pa,P,pc⟩ p)(hP:P≤1000)(h0:tz p≠[])(hk:FrK K p)(hK:K≤12000000)(hK2:(P+1)*(K / 3)≤25000000)(hs:FrK K (sqfV p)) :
  ar 171 [.slice pa P pc] w SH.v (fun x w'=>bg w' x (sqfV p)):=by
 obtain ⟨S,D,hS,hD,hD2,hf,hSK⟩:=hk;obtain ⟨U,E,hU,hE,hE2,hfU,hUK⟩:=hs;have LP:=Hi (RIn.of h);have HX:=Hi (Ext.refl w);have hlen:=h.len;simp only at hlen;have hp1:1≤p.length:=by
  have:=aj p;have:=nYh.2 h0;omega
 have hS3:=KZ.small3 hp1 hSK;have hUs:=KZ.small hUK;have hz:=hf.sz hS hD hD2;have HSz:Hid (SzL S p):=Hi hz;have HQ:Hid (SzL 16777216 (bK p (aV p (derL p)))):=Hi ((Dg h0 hz (hfU.sz hU hE hE2)).mono zo);have HF:Hid (FrL (S+1) D p):=Hi (hf.mono zo);have HF1:Hid (FrL S D p):=Hi hf;have HDF:Hid (∀ x ∈ tz (derL p),Fr (S+1) D x):=Hi (iH hf zo);have hD3:D<W32 ^ (S+1):=nXn hD2 (nXp aI zo);have HDl:Hid ((tz (derL p)).length+1≤P):=Hi (by rw [←hlen];exact ia h0);have hgl0:(aV p (derL p)).length≤P:=by rw [←hlen];exact pQ h0
 have hql0:(bK p (aV p (derL p))).length≤P:=by rw [←hlen];exact uA h0
 have HG0:Hid (tz (aV p (derL p))≠[]):=Hi (jh h0);have HSK:Hid (GZ K (S+1) p (tz (derL p))):=Hi (yJ hD hf zo h0 hSK);have HPl:Hid (1≤P):=Hi zo;have hP1:P+1≤1001:=zo;clear h hlen hf hfU hUK hSK hz h0 hp1;unfold ar;go_enter Tryz.func171,Tryz.ntmps171
 go_wp2_with fail
 refine cM (i9 pa P pc p _ LP.out.raw zo (HSz.out.mono zo)) fun x1 w1 hE G1=>?_
 refine mV2 hE ?_ LP HX;clear LP HX;intro LP HX;have hs_w1:=hE.size;clear hE;obtain ⟨da,dn,dc⟩:=x1;have HD3:Hid (LIn w1 ⟨da,dn,dc⟩ (tz (derL p)) w.heap.size w1.heap.size):=Hi G1.out;clear G1;have hdn:dn+1≤P:=by have h1:=HD3.out.len;have h2:=HDl.out;simp only at h1;omega
 simp only [SH.v]
 go_wp2_with fail
 refine cM (qX pa da P pc dn dc p (tz (derL p)) (S+1) D D _ LP.out.raw HD3.out.can zo zo zo hD hD3 hD hD3 HF.out HDF.out K HSK.out zo) fun x2 w2 hE G2=>?_
 refine mV3 hE ?_ LP HX HD3;clear LP HX HD3;intro LP HX HD3;have hs_w2:=hE.size;clear hE;rw [ni] at G2;obtain ⟨ga,gn,gc⟩:=x2;have HGL:=Hi G2.out.1.lin;obtain ⟨X,F,hFX,hX1,hF0,hF2,hXK⟩:=G2.out.2;have HFX:=Hi hFX;have hX3:=GcR.small hXK;clear G2 hFX hXK;have hgl:=HGL.out.len;simp only at hgl;have hgn:0<gn:=by
  have:=aj (aV p (derL p));have:=nYh.2 HG0.out;omega
 obtain ⟨m,rfl⟩:∃ m,gn=m+1:=⟨gn-1,zo⟩;have hz0:((m:Int)+1 == 0)=false:=by rw [nXs];omega
 have hgm:m+1≤P:=zo;clear HD3;have hm1:P*(X+1)≤P*(K / 3):=nXg _ hX3;have hm2:(P+1)*(K / 3)=P*(K / 3)+K / 3:=nXz _ _
 (try dsimp only)
 go_wp2_with fail
 refine cM (pz pa ga P pc (m+1) gc p (aV p (derL p)) S X D F _ LP.out.raw HGL.out.can zo zo hS hX1 hD hD2 hF0 hF2 HF1.out HFX.out HG0.out zo zo) fun x3 w3 hE G3=>?_
 refine mV3 hE ?_ LP HX HGL;clear LP HX HGL;intro LP HX HGL;have hs_w3:=hE.size;clear hE;obtain ⟨⟨qa,qn,qc⟩,⟨ra,rn,rc⟩⟩:=x3;have HQL:=Hi G3.out.1.lin;clear G3;have hqn:=HQL.out.len;simp only at hqn
 (try dsimp only)
 go_wp2_with fail
 refine cM (lY qa qn qc (bK p (aV p (derL p))) 16777216 _ HQL.out.can zo zo HQ.out) fun x4 w4 hE G4=>?_
 refine mV4 hE ?_ LP HX HGL HQL;clear LP HX HGL HQL;intro LP HX HGL HQL;have hs_w4:=hE.size;clear hE;go_wp2
 go_ret
 exact ⟨x4,rfl,HX.out,G4.out⟩
end Go.Proofs.YtkcpmclnocmalaaGreat
/- The answers of package sturm, in plain terms, and the examples of the chapter. -/
namespace Go.Proofs.YtkcpmclnocmalaaGreat.Sg
open Go.RowKit Go.Front Go.Num Go.Stab Go.Proofs.YtkcpmclnocmalaaGreat
def jI:Nat→List Rat→Rat→Int
 | 0,_,_=>0
 | n+1,p,x=>if p=[] then 0 else if sg (evV p x)≠0 then sg (evV p x) else jI n (tz (derL p)) x
def lA(p:List Rat)(lo hi:Rat):Int:=(jQ (aP (aT p)) lo:Int)-jQ (aP (aT p)) hi-(if rtV (aP (aT p)) hi=true∧lo<hi then 1 else 0)
def lI:Nat→List Rat→Rat→Rat→Bool
 | 0,_,_,_=>false
 | n+1,p,lo,hi=>if lA p lo hi=0 then false else if lA (aV p (derL p)) lo hi≠lA p lo hi then true else lI n (aV (aV p (derL p)) (derL (aV p (derL p)))) lo hi
def nngV(p:List Rat)(lo hi:Rat):Bool:=if tz p=[] then true else if sg (evV (ay p) lo)<0∨sg (evV (ay p) hi)<0 then false else if lo=hi then true else decide (0<jI ((tz p).length+1) (ay p) lo) && ! lI ((tz p).length+1) (ay p) lo hi
def posV(p:List Rat)(lo hi:Rat):Bool:=if tz p=[] then false else if sg (evV (ay p) lo)≤0 then false else decide (zG p lo hi=0)
end Go.Proofs.YtkcpmclnocmalaaGreat.Sg
