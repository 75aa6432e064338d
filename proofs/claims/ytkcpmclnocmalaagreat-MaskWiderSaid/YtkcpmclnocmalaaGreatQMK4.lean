import Derived.Test.YtkcpmclnocmalaaGreatQMK3
set_option linter.unusedVariables false
set_option maxHeartbeats 4000000
set_option maxRecDepth 8000
namespace Go.Proofs.YtkcpmclnocmalaaGreat
open Go.RowKit Go.Front Go.Num
attribute [local go_sem] XW.cell XW.frozen
structure BdH where
 lo:RH
 hi:RH
 mn:RH
 mx:RH
instance:Inhabited BdH:=⟨⟨default,default,default,default⟩⟩
abbrev BdV(x:BdH):Value:=.agg #[.bool x.lo.neg,.slice x.lo.a x.lo.n x.lo.c,.slice x.lo.b x.lo.m x.lo.d,.bool x.hi.neg,.slice x.hi.a x.hi.n x.hi.c,.slice x.hi.b x.hi.m x.hi.d,.bool x.mn.neg,.slice x.mn.a x.mn.n x.mn.c,.slice x.mn.b x.mn.m x.mn.d,.bool x.mx.neg,.slice x.mx.a x.mx.n x.mx.c,.slice x.mx.b x.mx.m x.mx.d]
abbrev BdH.l(x:BdH):List RH:=[x.lo,x.hi,x.mn,x.mx]
theorem DH:(Tryz.prog.info? 51).map (fun i=>(i.zero,i.size,i.bytes))=some (some (BdV default),12,224):=by kernel_rfl
def BBk(w:World)(L:Nat)(rs:List RH)(re:Array Value):Prop:=w.heap[L]?=some (.cells ((av rs).toArray++re) 51 (0,0))
theorem BBk.ext{w w':World}{L:Nat}{rs:List RH}{re:Array Value}(h:BBk w L rs re)(he:Ext w w'):BBk w' L rs re:=he.block h
instance {w w':World} {L:Nat} {rs:List RH} {re:Array Value}:Go.Front.Mv w w' (BBk w L rs re) (BBk w' L rs re):=⟨fun e h=>BBk.ext h e⟩

theorem BBk.lt{w:World}{L:Nat}{rs:List RH}{re:Array Value}(h:BBk w L rs re):L<w.heap.size:=(nXb.1 h).1
theorem BBk.frozen{w:World}{L:Nat}{rs:List RH}{re:Array Value}(h:BBk w L rs re)(i:Nat):w.frozen? ⟨L,i,none⟩=false:=af h i
theorem BBk.noU{w:World}{L:Nat}{rs:List RH}{re:Array Value}(h:BBk w L rs re)(hre:re.toList.all dL=true):NoU w L :=
 ai h (by rw [Array.toList_append,List.all_append,hre,iA];rfl)
theorem BBk.cell{w:World}{L:Nat}{rs:List RH}{re:Array Value}(h:BBk w L rs re){k j:Nat}(hk:k<rs.length)(hj:j<3):w.cell? ⟨L,k*3+j,none⟩=(jy (rs.getD k default))[j]?:=by
 rw [ae h,←fv rs hk hj,Array.getElem?_append_left (by rw [List.size_toArray,aC];omega),List.getElem?_toArray]
theorem BBk.at{w:World}{L:Nat}{rs:List RH}{re:Array Value}(h:BBk w L rs re){k:Nat}(hk:k<rs.length):RAt w L (k*3) (rs.getD k default) :=
 ⟨h.cell (j:=0) hk dZ,h.cell (j:=1) hk dZ,h.cell (j:=2) hk dZ⟩
theorem j5(n:Nat):(Builtin.zeroCells (BdV default).cells n).toList.all dL=true:=by
 rw [List.all_eq_true];intro x hx;have h0:(BdV default).cells=#[.bool false,.slice none 0 0,.slice none 0 0,.bool false,.slice none 0 0,.slice none 0 0,.bool false,.slice none 0 0,.slice none 0 0,.bool false,.slice none 0 0,.slice none 0 0]:=by rfl
 rw [h0] at hx;simp [Builtin.zeroCells] at hx;obtain ⟨a,-,rfl⟩:=hx;have h7:a % 12=0∨a % 12=1∨a % 12=2∨a % 12=3∨a % 12=4∨a % 12=5∨a % 12=6∨a % 12=7∨a % 12=8∨a % 12=9∨a % 12=10∨a % 12=11:=by omega
 rcases h7 with h7|h7|h7|h7|h7|h7|h7|h7|h7|h7|h7|h7 <;> rw [h7] <;> rfl
def gF(w:World)(D:Nat→Prop)(v:Value)(n:Nat)(rs:List RH):Prop:=(v=.slice none 0 0∧rs=[]∧n=0)∨∃ L cap re,v=.slice (some ⟨L,0,none⟩) n cap∧D L∧BBk w L rs re∧rs.length=n*4∧n≤cap∧cap≤9223372036854775807∧rs.length*3+re.size=cap*12∧re.toList.all dL=true
theorem gF.nil(w:World)(D:Nat→Prop):gF w D (.slice none 0 0) 0 []:=Or.inl ⟨rfl,rfl,rfl⟩
theorem gF.ext{w w':World}{D:Nat→Prop}{v:Value}{n:Nat}{rs:List RH}(h:gF w D v n rs)(he:Ext w w'):gF w' D v n rs :=
 h.imp id fun ⟨L,cap,re,h1,h2,h3,h4⟩=>⟨L,cap,re,h1,h2,h3.ext he,h4⟩
instance {w w':World} {D:Nat→Prop} {v:Value} {n:Nat} {rs:List RH}:Go.Front.Mv w w' (gF w D v n rs) (gF w' D v n rs):=⟨fun e h=>gF.ext h e⟩

theorem gF.mono{w:World}{D D':Nat→Prop}{v:Value}{n:Nat}{rs:List RH}(h:gF w D v n rs)(hD:∀ k,k<w.heap.size→D k→D' k):gF w D' v n rs :=
 h.imp id fun ⟨L,cap,re,h1,h2,h3,h4⟩=>⟨L,cap,re,h1,hD _ h3.lt h2,h3,h4⟩
theorem gF.len{w:World}{D:Nat→Prop}{v:Value}{n:Nat}{rs:List RH}(h:gF w D v n rs):rs.length=n*4:=by
 rcases h with ⟨-,rfl,rfl⟩|⟨L,cap,re,-,-,-,h,-⟩
 ·rfl
 ·exact h
theorem mL(T ty:TypeId)(hT:Tryz.prog.underlying T=some (.slice 51))(w:World)(D:Nat→Prop)(v:Value)(n:Nat)(rs:List RH)(b off m c:Nat)(ns:List RH)(hown:gF w D v n rs)
   (hm:ns.length=m*4)(h0:0<m)(hN:∀ k,k<m*4→RAt w b (off+k*3) (ns.getD k default))(hl:n≤268435456)(hlm:m≤268435456)(hD:∀ k,w.heap.size≤k→D k) :
    ∃ L cap w',(Builtin.append_ #[T,T] ty #[v,.slice (some ⟨b,off,none⟩) m c]).run Tryz.prog w=.ok (.slice (some ⟨L,0,none⟩) (n+m) cap) w'∧gF w' D (.slice (some ⟨L,0,none⟩) (n+m) cap) (n+m) (rs++ns)∧aL D w w'∧dJ w w':=by
  obtain ⟨i0,hi0,hz0,hz1,hz2⟩:=info_parts DH;have hnl:(av ns).length=m*i0.size:=by rw [aC,hz1,hm];omega
  have hcs:=ky (w:=w) (b:=b) (off:=off) hm hN;have hgc:∀ need old,need≤9223372036854775807→need≤grownCap w need old 51∧grownCap w need old 51≤9223372036854775807:=fun need old h=>⟨grownCap_ge _ _ _ _,by have:=grownCap_le_maxLen w need old 51 (by simpa [maxLen] using h);simpa [maxLen] using this⟩
  have hzs:(BdV default).cells.size=12:=by rfl
  rcases hown with ⟨rfl,rfl,rfl⟩|⟨L,cap,re,rfl,h1,h2,hlen,h3,h4,h5,h6⟩
  · have hr:=run_append_nil (P:=Tryz.prog) w T ty _ i0 _ hT hi0 hz0 ⟨b,off,none⟩ m c (av ns) hnl hcs h0 zo (by rw [hz2];omega)
    obtain ⟨g1,g2⟩:=hgc m 0 zo;have he:Ext w (w.drew.alloc (.cells ((av ns).toArray++Builtin.zeroCells (BdV default).cells (grownCap w m 0 51-m)) 51)):=(Ext.drew w).trans (Ext.alloc _ _);rw [Nat.zero_add,List.nil_append];refine ⟨_,_,_,hr,Or.inr ⟨_,_,_,rfl,hD _ (nXe _),heap_alloc_new w.drew _,hm,g1,g2,?_,j5 _⟩,aL.of_ext he,br he⟩;rw [size_zeroCells,hzs,hm];omega
  · by_cases hroom:n+m≤cap
    · have hcz:((av rs).toArray++re).size=cap*12:=by rw [Array.size_append,List.size_toArray,aC,h5]
      have hr:=run_append_room (P:=Tryz.prog) w T ty _ i0 hT hi0 L n cap _ h2 ⟨b,off,none⟩ m c (av ns) hnl hcs (jx _) hroom (by rw [hcz,hz1,hnl,hz1];omega);have hnr:n*i0.size=(av rs).length:=by rw [aC,hz1,hlen];omega
      have e:(((av rs).toArray++re).toList.take (n*i0.size)++av ns++((av rs).toArray++re).toList.drop (n*i0.size+(av ns).length)).toArray=(av (rs++ns)).toArray++(re.toList.drop (av ns).length).toArray:=by
        rw [hnr,Array.toList_append,cz,List.take_left,←List.drop_drop,List.drop_left];apply Array.ext';simp
      rw [e] at hr;refine ⟨_,_,_,hr,Or.inr ⟨L,cap,_,rfl,h1,setRow_heap w L _ _ _ _ h2,by rw [nXi,hlen,hm];omega,hroom,h4,?_,?_⟩,⟨rfl,rfl,rfl,by simp,fun k hk hnd=>setRow_other w L k _ (fun e=>hnd (e ▸ h1))⟩,gV (h2.noU h6) fun k _ hk=>setRow_other w L k _ hk⟩
      · simp only [nXi,List.size_toArray,nYa,Array.length_toList]
        rw [hnl,hz1,hlen,hm];rw [hlen] at h5;omega
      · rw [List.all_eq_true] at h6 ⊢
        intro x hx;exact h6 x (List.mem_of_mem_drop (by simpa using hx))
    · have hr := run_append_grow (P := Tryz.prog) w T ty _ i0 _ hT hi0 hz0 ⟨L, 0, none⟩ n cap (av rs) (by rw [aC, hz1, hlen]; omega) (fun j u hj => by
          have hlt:j<(av rs).length:=(List.getElem?_eq_some_iff.1 hj).1;rw [cH,ae h2,Array.getElem?_append_left (by rw [List.size_toArray];exact hlt),List.getElem?_toArray];exact hj) ⟨b,off,none⟩ m c (av ns) hnl hcs zo zo (growslice_fits zo (by rw [hz2];omega))
      obtain ⟨g1,g2⟩:=hgc (n+m) cap zo;have he:Ext w (w.drew.alloc (.cells ((av rs).toArray++(av ns).toArray++Builtin.zeroCells (BdV default).cells (grownCap w (n+m) cap 51-(n+m))) 51)):=(Ext.drew w).trans (Ext.alloc _ _);refine ⟨_,_,_,hr,Or.inr ⟨w.heap.size,_,Builtin.zeroCells (BdV default).cells (grownCap w (n+m) cap 51-(n+m)),rfl,hD _ (nXe _),?_,by rw [nXi,hlen,hm];omega,g1,g2,?_,j5 _⟩,aL.of_ext he,br he⟩
      · unfold BBk
        rw [cz];have e2:(av rs++av ns).toArray=(av rs).toArray++(av ns).toArray:=by simp
        rw [e2];exact heap_alloc_new w.drew _
      · rw [size_zeroCells,hzs,nXi,hlen,hm]
        omega
def iQ(w:World)(D:Nat→Prop)(v:Value)(n:Nat)(qs:List Rat):Prop:=∃ rs,gF w D v n rs∧dk aA w rs qs
theorem iQ.nil(w:World)(D:Nat→Prop):iQ w D (.slice none 0 0) 0 []:=⟨[],gF.nil _ _,dk.nil _ _⟩
theorem iQ.ext{w w':World}{D:Nat→Prop}{v:Value}{n:Nat}{qs:List Rat}(h:iQ w D v n qs)(he:Ext w w'):iQ w' D v n qs:=let ⟨rs,h1,h2⟩:=h;⟨rs,h1.ext he,h2.can_ext he⟩
instance {w w':World} {D:Nat→Prop} {v:Value} {n:Nat} {qs:List Rat}:Go.Front.Mv w w' (iQ w D v n qs) (iQ w' D v n qs):=⟨fun e h=>iQ.ext h e⟩

theorem iQ.mono{w:World}{D D':Nat→Prop}{v:Value}{n:Nat}{qs:List Rat}(h:iQ w D v n qs)(hD:∀ k,k<w.heap.size→D k→D' k):iQ w D' v n qs:=let ⟨rs,h1,h2⟩:=h;⟨rs,h1.mono hD,h2⟩
theorem iQ.put{w1 w2:World}{D:Nat→Prop}{v:Value}{n:Nat}{qs:List Rat}{b:Nat}{T:TypeId}{cs:Array Value}(h:iQ w1 D v n qs)(T2:cT w1 b T cs w2)(hb:¬ D b):iQ w2 D v n qs:=by
 obtain ⟨rs,h1,h2⟩:=h;exact ⟨rs,h1.imp id fun ⟨L,cap,re,g1,g2,g3,g4⟩=>⟨L,cap,re,g1,g2,T2.rest L _ (fun e=>hb (e ▸ g2)) g3,g4⟩,h2.keep T2.keep⟩
theorem iQ.len{w:World}{D:Nat→Prop}{v:Value}{n:Nat}{qs:List Rat}(h:iQ w D v n qs):qs.length=n*4:=by
 obtain ⟨rs,h1,h2⟩:=h;rw [←h2.1,h1.len]
theorem fT{w:World}{ops:Array Oper}{rest:List Oper}{o:Oper}{a:Act}{Q:Exit→Act→World→Prop}(hgd:o.guard=none)(s x:Operand)(T:TypeId)(hT:Tryz.prog.underlying T=some (.slice 51))
 (ho:o.op=.call { callee:=.builtin .append,args:=#[s,x],argTypes:=#[T,T] })(D:Nat→Prop)(v:Value)(n:Nat)(qs:List Rat)(b off m c:Nat)(ns:List RH)(ps:List Rat)(hs:a.eval s=v)(hown:iQ w D v n qs)
 (hx:a.eval x=.slice (some ⟨b,off,none⟩) m c)(hm:ns.length=m*4)(h0:0<m)(hN:∀ k,k<m*4→RAt w b (off+k*3) (ns.getD k default))(hr:dk aA w ns ps)(hl:n≤268435456)(hlm:m≤268435456)(hD:∀ k,w.heap.size≤k→D k)
 (h:∀ (s':SH) w',iQ w' D s'.v (n+m) (qs++ps)→aL D w w'→dJ w w'→wpList Tryz.prog ops Q rest (a.put o.dst s'.v) w'):wpList Tryz.prog ops Q (o :: rest) a w:=by
 obtain ⟨rs,h1,h2⟩:=hown;refine wpList_plain hgd fun K hK=>?_
 obtain ⟨L,cap,w',hrun,g1,g2,g3⟩:=mL T o.type hT w D v n rs b off m c ns h1 hm h0 hN hl hlm hD;unfold Oper.wp;simp [execOp,ho,resolve,invoke,builtin,hs,hx,hrun,Result.andThen];exact hK _ _ (h ⟨some ⟨L,0,none⟩,n+m,cap⟩ w' ⟨_,g1,(h2.app hr).keep g3⟩ g2 g3)
structure BdS (w:World) (s:SH) (rs:List RH):Prop where
 len:rs.length=s.n*4
 le:s.n≤s.c
 max:s.c≤9223372036854775807
 at':s.n=0∨∃ b off,s.a=some ⟨b,off,none⟩∧∀ k,k<s.n*4→RAt w b (off+k*3) (rs.getD k default)
theorem BdS.ext{w w':World}{s:SH}{rs:List RH}(h:BdS w s rs)(he:Ext w w'):BdS w' s rs :=
 ⟨h.len,h.le,h.max,h.at'.imp id fun ⟨b,off,h1,h2⟩=>⟨b,off,h1,fun k hk=>(h2 k hk).ext he⟩⟩
instance {w w':World} {s:SH} {rs:List RH}:Go.Front.Mv w w' (BdS w s rs) (BdS w' s rs):=⟨fun e h=>BdS.ext h e⟩

theorem BdS.nil(w:World):BdS w ⟨none,0,0⟩ []:=⟨rfl,nXe _,dZ,Or.inl rfl⟩
def fq(w:World)(s:SH)(qs:List Rat):Prop:=∃ rs,BdS w s rs∧dk aA w rs qs
theorem fq.ext{w w':World}{s:SH}{qs:List Rat}(h:fq w s qs)(he:Ext w w'):fq w' s qs:=let ⟨rs,h1,h2⟩:=h;⟨rs,h1.ext he,h2.can_ext he⟩
instance {w w':World} {s:SH} {qs:List Rat}:Go.Front.Mv w w' (fq w s qs) (fq w' s qs):=⟨fun e h=>fq.ext h e⟩

theorem fq.len{w:World}{s:SH}{qs:List Rat}(h:fq w s qs):qs.length=s.n*4:=let ⟨_,h1,h2⟩:=h;h2.1.symm.trans h1.len
theorem iQ.can{w:World}{D:Nat→Prop}{s:SH}{n:Nat}{qs:List Rat}(h:iQ w D s.v n qs):s.n=n∧fq w s qs:=by
 obtain ⟨rs,h1,h2⟩:=h;rcases h1 with ⟨e,rfl,rfl⟩|⟨L,cap,re,e,h3,h4,h5,h6,h7,h8⟩
 ·obtain ⟨a,m,c⟩:=s;simp only [SH.v,Value.slice.injEq] at e;obtain ⟨rfl,rfl,rfl⟩:=e;exact ⟨rfl,[],BdS.nil _,h2⟩
 ·obtain ⟨a,m,c⟩:=s;simp only [SH.v,Value.slice.injEq] at e;obtain ⟨rfl,rfl,rfl⟩:=e;exact ⟨rfl,rs,⟨h5,h6,h7,Or.inr ⟨L,0,rfl,fun k hk=>by rw [Nat.zero_add];exact h4.at (by rw [h5];exact hk)⟩⟩,h2⟩
def BAt(w:World)(b o:Nat)(x:BdH):Prop:=w.cell? ⟨b,o,none⟩=some (.bool x.lo.neg)∧w.cell? ⟨b,o+1,none⟩=some (.slice x.lo.a x.lo.n x.lo.c)∧w.cell? ⟨b,o+2,none⟩=some (.slice x.lo.b x.lo.m x.lo.d)∧w.cell? ⟨b,o+3,none⟩=some (.bool x.hi.neg)∧w.cell? ⟨b,o+4,none⟩=some (.slice x.hi.a x.hi.n x.hi.c)∧w.cell? ⟨b,o+5,none⟩=some (.slice x.hi.b x.hi.m x.hi.d)∧w.cell? ⟨b,o+6,none⟩=some (.bool x.mn.neg)∧w.cell? ⟨b,o+7,none⟩=some (.slice x.mn.a x.mn.n x.mn.c)∧w.cell? ⟨b,o+8,none⟩=some (.slice x.mn.b x.mn.m x.mn.d)∧w.cell? ⟨b,o+9,none⟩=some (.bool x.mx.neg)∧w.cell? ⟨b,o+10,none⟩=some (.slice x.mx.a x.mx.n x.mx.c)∧w.cell? ⟨b,o+11,none⟩=some (.slice x.mx.b x.mx.m x.mx.d)
theorem fq.at{w:World}{ao:Option Addr}{n c:Nat}{qs:List Rat}(h:fq w ⟨ao,n,c⟩ qs){k:Nat}(hk:k<n) :
  ∃ b off x,ao=some ⟨b,off,none⟩∧b<w.heap.size∧BAt w b (off+k*12) x∧aA w x.lo (qs.getD (4*k) 0)∧aA w x.hi (qs.getD (4*k+1) 0)∧aA w x.mn (qs.getD (4*k+2) 0)∧aA w x.mx (qs.getD (4*k+3) 0):=by
 have hl:=h.len;obtain ⟨rs,h1,h2⟩:=h;rcases h1.at' with h0|⟨b,off,h3,h4⟩
 ·simp only at h0;omega
 ·simp only at h3 h4 hl;have g0:=h4 (4*k) zo;have g1:=h4 (4*k+1) zo;have g2:=h4 (4*k+2) zo;have g3:=h4 (4*k+3) zo;rw [show off+4*k*3=off+k*12 by omega] at g0;rw [show off+(4*k+1)*3=off+k*12+3 by omega] at g1;rw [show off+(4*k+2)*3=off+k*12+6 by omega] at g2;rw [show off+(4*k+3)*3=off+k*12+9 by omega] at g3;exact ⟨b,off,⟨_,_,_,_⟩,h3,nXq _ _ g0.1,⟨g0.1,g0.2.1,g0.2.2,g1.1,g1.2.1,g1.2.2,g2.1,g2.2.1,g2.2.2,g3.1,g3.2.1,g3.2.2⟩,h2.2 _ zo,h2.2 _ zo,h2.2 _ zo,h2.2 _ zo⟩
def fS(w:World)(x:BdH)(a b c d:Rat):Prop:=aA w x.lo a∧aA w x.hi b∧aA w x.mn c∧aA w x.mx d
theorem fS.ext{w w':World}{x:BdH}{a b c d:Rat}(h:fS w x a b c d)(he:Ext w w'):fS w' x a b c d:=⟨h.1.ext he,h.2.1.ext he,h.2.2.1.ext he,h.2.2.2.ext he⟩
instance {w w':World} {x:BdH} {a b c d:Rat}:Go.Front.Mv w w' (fS w x a b c d) (fS w' x a b c d):=⟨fun e h=>fS.ext h e⟩

theorem fS.keep{w w':World}{x:BdH}{a b c d:Rat}(h:fS w x a b c d)(he:dJ w w'):fS w' x a b c d:=⟨h.1.keep he,h.2.1.keep he,h.2.2.1.keep he,h.2.2.2.keep he⟩
theorem fS.vals{w:World}{x:BdH}{a b c d:Rat}(h:fS w x a b c d):dk aA w x.l [a,b,c,d]:=by
 refine ⟨rfl,fun k hk=>?_⟩;have hk:k<4:=hk;have:k=0∨k=1∨k=2∨k=3:=by omega
 rcases this with rfl|rfl|rfl|rfl
 ·exact h.1
 ·exact h.2.1
 ·exact h.2.2.1
 ·exact h.2.2.2
open Stab
attribute [local irreducible] Go.Front.wpF
theorem ws{v:Nat}(h:0<(digs v).length):(digs v).getD ((digs v).length-1) 0≠0:=by
 rcases ce v with h0|h0
 ·rw [h0] at h;simp at h
 ·intro h1;apply h0;rw [List.getLast?_eq_getElem?,nXd] at *
  rw [List.getElem?_eq_getElem zo] at h1 ⊢;simp only [Option.getD_some] at h1;rw [h1]
theorem mf(ao:Option Addr)(n c v:Nat)(w:World)(h:U32 w ao n c (digs v)):ar 180 [.slice ao n c] w (fun _:Unit=>.bool true) (fun _ _=>True):=by
 have HU:=Hi h;have hl:=h.len;have h1:=h.le;have h2:=h.max;clear h;unfold ar;by_cases h0:n=0
 ·subst h0;go_enter Tryz.func180,Tryz.ntmps180;go_wp2
  go_ret
  exact ⟨(),rfl,Ext.refl _,trivial⟩
 ·obtain ⟨k,rfl⟩:∃ k,n=k+1:=⟨n-1,zo⟩;obtain ⟨b,off,d,hao,hc,hd,hdl⟩:=HU.out.at (k:=k) zo;have hd0:d≠0:=by
   rw [hd];have:=ws (v:=v) zo
   rwa [hl,Nat.add_sub_cancel] at this
  subst hao;have hb:(((k+1:Nat):Int) == 0)=false:=by rw [nXs];omega
  have hb2:((d:Int) != 0)=true:=by rw [bne_iff_ne];omega
  obtain ⟨m,hm⟩:∃ m,m=k+1:=⟨_,rfl⟩;rw [←hm] at hb h1 ⊢;have hi:(m:Int)-1=(k:Int):=zo;have hkm:(k:Int)<m:=zo;have hk0:(0:Int)≤k:=zo;have hmx:(m:Int)≤9223372036854775807:=zo;clear hm hd hl HU h0 hd0 h2 h1;go_enter Tryz.func180,Tryz.ntmps180;go_wp2
  go_ret
  exact ⟨(),rfl,Ext.refl _,trivial⟩
theorem s5(s:IH)(z:Int)(w:World)(h:fG w s z):ar 179 [s.v] w (fun _:Unit=>.bool true) (fun _ _=>True):=by
 obtain ⟨sn,sa,sl,sc⟩:=s;have HX:=Hi (Ext.refl w);have HS:=Hi h;obtain ⟨h1,h2⟩:=h;have h3:=h2.len;simp only at h1 h3;have hb:sn=true→0<sl:=by
  intro h4;rw [h1,decide_eq_true_eq] at h4;rcases Nat.eq_zero_or_pos sl with h5|h5
  ·rw [h5] at h3;have:=bD.1 (nXj.1 h3);omega
  ·exact h5
 clear h1 h2 h3;unfold ar;go_enter Tryz.func179,Tryz.ntmps179
 go_upto_region 1 with fail
 refine nmA ?_;intro w1 hE B1 hz_w1 hr_w1;refine mV2 hE ?_ HX HS;clear HX HS;intro HX HS;have hs_w1:=hE.size;replace b_B1:=bX3 B1
 go_wp2_with fail
 refine cM (mf sa sl sc z.natAbs _ HS.out.2) fun x5 w5 hE _=>?_
 refine mV3 hE ?_ B1 HX HS;clear B1 HX HS;intro B1 HX HS;have hs_w5:=hE.size;replace b_B1:=bX3 B1;cases sn
 ·go_wp2
  go_ret
  exact ⟨(),rfl,HX.out,trivial⟩
 ·have hb0:=hb rfl;have hb1:((sl:Int) == 0)=false:=by rw [nXs];omega
  go_wp2
  go_ret
  exact ⟨(),rfl,HX.out,trivial⟩
theorem gN(s:RH)(q:Rat)(K:Nat)(w:World)(h:aA w s q)(hz:Sz K q)(hK:K≤1000000):ar 150 [s.v] w (fun _:Unit=>.bool true) (fun _ _=>True):=by
 obtain ⟨sn,sa,sl,sc,sb,sm,sd⟩:=s;have HX:=Hi (Ext.refl w);have HS:=Hi h;have h1:=h.2.1.len;have h2:=h.2.2.len;simp only at h1 h2;have h3:sl≤K:=by rw [←h1];exact mS (ce _) (by rw [ag];exact hz.1)
 have h4:sm≤K:=by rw [←h2];exact mS (ce _) (by rw [ag];exact hz.2)
 have h5:0<sm:=by
  rcases Nat.eq_zero_or_pos sm with h5|h5
  ·rw [h5] at h2;exact absurd (bD.1 (nXj.1 h2)) q.den_nz
  ·exact h5
 have hb1:((sm:Int) == 0)=false:=by rw [nXs];omega
 clear h h1 h2 hz;unfold ar;go_enter Tryz.func150,Tryz.ntmps150
 go_upto_region 1 with fail
 refine nmA ?_;intro w1 hE B1 hz_w1 hr_w1;refine mV2 hE ?_ HX HS;clear HX HS;intro HX HS;have hs_w1:=hE.size;replace b_B1:=bX3 B1
 go_wp2_with fail
 refine cM (s5 ⟨sn,sa,sl,sc⟩ q.num _ ⟨HS.out.1,HS.out.2.1⟩) fun x5 w5 hE _=>?_
 refine mV3 hE ?_ B1 HX HS;clear B1 HX HS;intro B1 HX HS;have hs_w5:=hE.size;replace b_B1:=bX3 B1
 go_wp2_with fail
 refine cM (mf sb sm sd q.den _ HS.out.2.2) fun x10 w10 hE _=>?_
 refine mV3 hE ?_ B1 HX HS;clear B1 HX HS;intro B1 HX HS;have hs_w10:=hE.size;replace b_B1:=bX3 B1
 go_wp2_with fail
 refine cM (rH ⟨sa,sl,sc⟩ ⟨sb,sm,sd⟩ _ _ _ HS.out.2.1 HS.out.2.2 (by simp only;omega) (by simp only;omega)) fun x24 w24 hE G24=>?_
 refine mV3 hE ?_ B1 HX HS;clear B1 HX HS;intro B1 HX HS;have hs_w24:=hE.size;replace b_B1:=bX3 B1;have GU:Hid (x24.U w24 (digs 1)):=Hi (by have:=G24.out;rwa [ag,ag,show Nat.gcd q.num.natAbs q.den=1 from q.reduced] at this);clear G24;obtain ⟨ga,gn,gc⟩:=x24
 go_wp2_with fail
 refine cM (oA ga gn gc 1 _ GU.out) fun x25 w25 hE _=>?_
 refine mV3 hE ?_ B1 HX HS;clear B1 HX HS;intro B1 HX HS;have hs_w25:=hE.size;replace b_B1:=bX3 B1;rw [show decide ((1:Nat)=1)=true from rfl];go_wp2
 go_ret
 exact ⟨(),rfl,HX.out,trivial⟩
theorem pJ(s t:RH)(a b:Rat)(K:Nat)(w:World)(hs:aA w s a)(ht:aA w t b)(za:Sz K a)(zb:Sz K b)(hK:K≤1000000)(hab:a≤b):ar 149 [IvV (s,t)] w (fun _:Unit=>.bool true) (fun _ _=>True):=by
 obtain ⟨sn,sa,sl,sc,sb,sm,sd⟩:=s;obtain ⟨tn,ta,tl,tc,tb,tm,td⟩:=t;have HX:=Hi (Ext.refl w);have HS:=Hi hs;have HT:=Hi ht;have ZA:=Hi za;have ZB:=Hi zb;obtain ⟨v,hv⟩:∃ v,v=cG a b:=⟨_,rfl⟩;have hv0:v≤0:=by rw [hv];exact iI (by grind)
 clear hs ht za zb hab;unfold ar;go_enter Tryz.func149,Tryz.ntmps149
 go_upto_region 1 with fail
 refine nmA ?_;intro w1 hE B1 hz_w1 hr_w1;refine mV3 hE ?_ HX HS HT;clear HX HS HT;intro HX HS HT;have hs_w1:=hE.size;replace b_B1:=bX3 B1
 go_wp2_with fail
 refine cM (gN ⟨sn,sa,sl,sc,sb,sm,sd⟩ a K _ HS.out ZA.out hK) fun x5 w5 hE _=>?_
 refine mV4 hE ?_ B1 HX HS HT;clear B1 HX HS HT;intro B1 HX HS HT;have hs_w5:=hE.size;replace b_B1:=bX3 B1
 go_wp2_with fail
 refine cM (gN ⟨tn,ta,tl,tc,tb,tm,td⟩ b K _ HT.out ZB.out hK) fun x9 w9 hE _=>?_
 refine mV4 hE ?_ B1 HX HS HT;clear B1 HX HS HT;intro B1 HX HS HT;have hs_w9:=hE.size;replace b_B1:=bX3 B1
 go_wp2_with fail
 refine cM (bS ⟨sn,sa,sl,sc,sb,sm,sd⟩ ⟨tn,ta,tl,tc,tb,tm,td⟩ a b _ (HS.out.raw ZA.out zo) (HT.out.raw ZB.out zo)) fun x16 w16 hE _=>?_
 refine mV4 hE ?_ B1 HX HS HT;clear B1 HX HS HT;intro B1 HX HS HT;have hs_w16:=hE.size;replace b_B1:=bX3 B1;rw [←hv];clear hv;go_wp2
 go_ret
 exact ⟨(),rfl,HX.out,trivial⟩
theorem ox(s t u:RH)(a b x:Rat)(K:Nat)(w:World)(hs:aA w s a)(ht:aA w t b)(hu:aA w u x)(za:Sz K a)(zb:Sz K b)(zx:Sz K x)(hK:K≤1000000)(h1:a≤x)(h2:x≤b):ar 183 [IvV (s,t),u.v] w (fun _:Unit=>.bool true) (fun _ _=>True):=by
 obtain ⟨sn,sa,sl,sc,sb,sm,sd⟩:=s;obtain ⟨tn,ta,tl,tc,tb,tm,td⟩:=t;obtain ⟨un,ua,ul,uc,ub,um,ud⟩:=u;have HX:=Hi (Ext.refl w);have HS:=Hi (hs.raw za zo);have HT:=Hi (ht.raw zb zo);have HU:=Hi (hu.raw zx zo);obtain ⟨p,hp⟩:∃ v,v=cG a x:=⟨_,rfl⟩;have hp0:p≤0:=by rw [hp];exact iI (by grind)
 obtain ⟨r,hr⟩:∃ v,v=cG x b:=⟨_,rfl⟩;have hr0:r≤0:=by rw [hr];exact iI (by grind)
 have EL:Hid (loV a b=a∧hiV a b=b):=Hi ⟨jD (by grind),je (by grind)⟩;clear hs ht hu za zb zx h1 h2;unfold ar;go_enter Tryz.func183,Tryz.ntmps183
 go_upto_region 1 with fail
 refine eX ?_;intro w1 hE B2 B3 hz_w1 hr_w1;refine mV4 hE ?_ HX HS HT HU;clear HX HS HT HU;intro HX HS HT HU;have hs_w1:=hE.size;replace b_B2:=bX3 B2;replace b_B3:=bX3 B3
 go_wp2_with fail
 refine cM (gX ⟨sn,sa,sl,sc,sb,sm,sd⟩ ⟨tn,ta,tl,tc,tb,tm,td⟩ a b _ HS.out HT.out) fun x9 w9 hE G9=>?_
 refine mV6 hE ?_ B2 B3 HX HS HT HU;clear B2 B3 HX HS HT HU;intro B2 B3 HX HS HT HU;have hs_w9:=hE.size;replace b_B2:=bX3 B2;replace b_B3:=bX3 B3;obtain ⟨⟨ln,la,ll,lc,lb,lm,ld⟩,⟨hn,ha,hl,hc,hb,hm,hd⟩⟩:=x9;have HL:=Hi G9.out.1;have HH:=Hi G9.out.2;rw [EL.out.1] at HL;rw [EL.out.2] at HH;clear G9;clear HS;clear HT
 go_upto_region 2 with fail
 refine eX ?_;intro w10 hE B5 B6 hz_w10 hr_w10;refine mV6 hE ?_ B2 B3 HX HU HL HH;clear B2 B3 HX HU HL HH;intro B2 B3 HX HU HL HH;have hs_w10:=hE.size;replace b_B2:=bX3 B2;replace b_B3:=bX3 B3;replace b_B5:=bX3 B5;replace b_B6:=bX3 B6
 go_wp2_with fail
 refine cM (bS ⟨ln,la,ll,lc,lb,lm,ld⟩ ⟨un,ua,ul,uc,ub,um,ud⟩ a x _ HL.out HU.out) fun x14 w14 hE _=>?_
 refine mV8 hE ?_ B5 B6 B2 B3 HX HU HL HH;clear B5 B6 B2 B3 HX HU HL HH;intro B5 B6 B2 B3 HX HU HL HH;have hs_w14:=hE.size;replace b_B2:=bX3 B2;replace b_B3:=bX3 B3;replace b_B5:=bX3 B5;replace b_B6:=bX3 B6;rw [←hp]
 go_wp2_with fail
 refine cM (bS ⟨un,ua,ul,uc,ub,um,ud⟩ ⟨hn,ha,hl,hc,hb,hm,hd⟩ x b _ HU.out HH.out) fun x19 w19 hE _=>?_
 refine mV8 hE ?_ B5 B6 B2 B3 HX HU HL HH;clear B5 B6 B2 B3 HX HU HL HH;intro B5 B6 B2 B3 HX HU HL HH;have hs_w19:=hE.size;replace b_B2:=bX3 B2;replace b_B3:=bX3 B3;replace b_B5:=bX3 B5;replace b_B6:=bX3 B6;rw [←hr];clear hp hr;go_wp2
 go_ret
 exact ⟨(),rfl,HX.out,trivial⟩
theorem yK(s t u v:RH)(a b c d:Rat)(K:Nat)(w:World)(hs:aA w s a)(ht:aA w t b)(hu:aA w u c)(hv:aA w v d)(za:Sz K a)(zb:Sz K b)(zc:Sz K c)(zd:Sz K d)(hK:K≤1000000)(h1:c≤a)(h2:a≤b)(h3:b≤d):ar 151 [IvV (s,t),IvV (u,v)] w (fun _:Unit=>.bool true) (fun _ _=>True):=by
 obtain ⟨sn,sa,sl,sc,sb,sm,sd⟩:=s;obtain ⟨tn,ta,tl,tc,tb,tm,td⟩:=t;obtain ⟨un,ua,ul,uc,ub,um,ud⟩:=u;obtain ⟨vn,va,vl,vc,vb,vm,vd⟩:=v;have HX:=Hi (Ext.refl w);have HS:=Hi hs;have HT:=Hi ht;have HU:=Hi hu;have HV:=Hi hv;have ZA:=Hi za;have ZB:=Hi zb;have ZC:=Hi zc;have ZD:=Hi zd;have H1:Hid (c≤a∧a≤d∧c≤b∧b≤d):=Hi ⟨h1,by grind,by grind,h3⟩;clear hs ht hu hv za zb zc zd h1 h2 h3;unfold ar;go_enter Tryz.func151,Tryz.ntmps151
 go_upto_region 1 with fail
 refine eX ?_;intro w1 hE B2 B3 hz_w1 hr_w1;refine mV5 hE ?_ HX HS HT HU HV;clear HX HS HT HU HV;intro HX HS HT HU HV;have hs_w1:=hE.size;replace b_B2:=bX3 B2;replace b_B3:=bX3 B3
 go_wp2_with fail
 refine cM (ox ⟨un,ua,ul,uc,ub,um,ud⟩ ⟨vn,va,vl,vc,vb,vm,vd⟩ ⟨sn,sa,sl,sc,sb,sm,sd⟩ c d a K _ HU.out HV.out HS.out ZC.out ZD.out ZA.out hK H1.out.1 H1.out.2.1) fun x8 w8 hE _=>?_
 refine mV7 hE ?_ B2 B3 HX HS HT HU HV;clear B2 B3 HX HS HT HU HV;intro B2 B3 HX HS HT HU HV;have hs_w8:=hE.size;replace b_B2:=bX3 B2;replace b_B3:=bX3 B3
 go_wp2_with fail
 refine cM (ox ⟨un,ua,ul,uc,ub,um,ud⟩ ⟨vn,va,vl,vc,vb,vm,vd⟩ ⟨tn,ta,tl,tc,tb,tm,td⟩ c d b K _ HU.out HV.out HT.out ZC.out ZD.out ZB.out hK H1.out.2.2.1 H1.out.2.2.2) fun x13 w13 hE _=>?_
 refine mV7 hE ?_ B2 B3 HX HS HT HU HV;clear B2 B3 HX HS HT HU HV;intro B2 B3 HX HS HT HU HV;have hs_w13:=hE.size;replace b_B2:=bX3 B2;replace b_B3:=bX3 B3;go_wp2
 go_ret
 exact ⟨(),rfl,HX.out,trivial⟩
def tB(K:Nat)(a b c d:Rat):Prop:=(Sz K a∧Sz K b∧Sz K c∧Sz K d)∧-1≤a∧a≤b∧b≤1∧0≤c∧c≤d
theorem p9(x:BdH)(a b c d:Rat)(K:Nat)(w:World)(h:fS w x a b c d)(hk:tB K a b c d)(hK1:1≤K)(hK:K≤1000000):ar 103 [BdV x] w (fun _:Unit=>.bool true) (fun _ _=>True):=by
 obtain ⟨⟨sn,sa,sl,sc,sb,sm,sd⟩,⟨tn,ta,tl,tc,tb,tm,td⟩,⟨un,ua,ul,uc,ub,um,ud⟩,⟨vn,va,vl,vc,vb,vm,vd⟩⟩:=x;have HX:=Hi (Ext.refl w);have HS:=Hi h.1;have HT:=Hi h.2.1;have HU:=Hi h.2.2.1;have HV:=Hi h.2.2.2;have HK:=Hi hk;have H1:Hid ((((-1:Int):Rat))≤a∧b≤((1:Int):Rat)∧loV ((-1:Int):Rat) ((1:Int):Rat)=((-1:Int):Rat)∧hiV ((-1:Int):Rat) ((1:Int):Rat)=((1:Int):Rat)):=Hi ⟨hk.2.1,hk.2.2.2.1,by decide +kernel,by decide +kernel⟩;have HZ1:Hid (Sz K ((-1:Int):Rat)∧Sz K ((1:Int):Rat)):=Hi ⟨(Sz.int (z:=-1) dZ).mono hK1,(Sz.int (z:=1) dZ).mono hK1⟩;obtain ⟨p,hp⟩:∃ v,v=cG c 0:=⟨_,rfl⟩;have hp0:decide (0≤p)=true:=by rw [hp,decide_eq_true_eq];have:=hk.2.2.2.2.1;unfold cG;rw [if_neg (by grind)];split <;> decide
 obtain ⟨r,hr⟩:∃ v,v=cG c d:=⟨_,rfl⟩;have hr0:decide (r≤0)=true:=by rw [hr,decide_eq_true_eq];exact iI (by have:=hk.2.2.2.2.2;grind)
 have HP:=Hi hp;have HR:=Hi hr;clear h hk hp hr;unfold ar;go_enter Tryz.func103,Tryz.ntmps103
 go_upto_region 1 with fail
 refine nmA ?_;intro w1 hE B1 hz_w1 hr_w1;refine mV5 hE ?_ HX HS HT HU HV;clear HX HS HT HU HV;intro HX HS HT HU HV;have hs_w1:=hE.size;replace b_B1:=bX3 B1
 go_wp2_with fail
 refine cM (pJ ⟨sn,sa,sl,sc,sb,sm,sd⟩ ⟨tn,ta,tl,tc,tb,tm,td⟩ a b K _ HS.out HT.out HK.out.1.1 HK.out.1.2.1 hK HK.out.2.2.1) fun x5 w5 hE _=>?_
 refine mV6 hE ?_ B1 HX HS HT HU HV;clear B1 HX HS HT HU HV;intro B1 HX HS HT HU HV;have hs_w5:=hE.size;replace b_B1:=bX3 B1
 go_wp2_with fail
 refine cM (gN ⟨un,ua,ul,uc,ub,um,ud⟩ c K _ HU.out HK.out.1.2.2.1 hK) fun x10 w10 hE _=>?_
 refine mV6 hE ?_ B1 HX HS HT HU HV;clear B1 HX HS HT HU HV;intro B1 HX HS HT HU HV;have hs_w10:=hE.size;replace b_B1:=bX3 B1
 go_wp2_with fail
 refine cM (gN ⟨vn,va,vl,vc,vb,vm,vd⟩ d K _ HV.out HK.out.1.2.2.2 hK) fun x16 w16 hE _=>?_
 refine mV6 hE ?_ B1 HX HS HT HU HV;clear B1 HX HS HT HU HV;intro B1 HX HS HT HU HV;have hs_w16:=hE.size;replace b_B1:=bX3 B1
 go_upto_region 3 with fail
 refine ah 20 (fun opIx=>match opIx with
  | 2=>sR (((-1:Int):Rat))
  | 3=>sR (((1:Int):Rat))
  | 4=>.spec (RH×RH) (default) (IvV) (fun x w'=>IvC w' x ((-1:Int):Rat) ((1:Int):Rat))
  | 5=>sU (.bool true)
  | 9=>sU (.int .i64 p)
  | 17=>sU (.int .i64 r)
  | _=>.quiet) (fun|4=>[2,3]|5=>[4]|_=>[]) kZ kZ (fun w0 he0 hz0 hc0 hf0=>?_)
 replace he0:=Hi he0;simp only [pT]
 repeat (refine wpq fun K h=>?_;go_big_quiet_op;refine h _ ?_;clear h K;(try simp only [hp0,hr0]))
 refine wps he0 (fun w1 hW hG=>?_) fun x30=>?_
 ·exact spc [.int .i64 (-1)] Tryz.func63 (bO (-1) _ dZ dZ)
 simp only [pS]
 repeat (refine wpq fun K h=>?_;go_big_quiet_op;refine h _ ?_;clear h K;(try simp only [hp0,hr0]))
 refine wps he0 (fun w1 hW hG=>?_) fun x31=>?_
 ·exact spc [.int .i64 1] Tryz.func63 (bO 1 _ dZ dZ)
 simp only [pS]
 repeat (refine wpq fun K h=>?_;go_big_quiet_op;refine h _ ?_;clear h K;(try simp only [hp0,hr0]))
 refine wps he0 (fun w1 hW hG=>?_) fun x32=>?_
 ·have g30:=gS (hG 2 dZ);have g31:=gS (hG 3 dZ);exact spc [x30.v,x31.v] Tryz.func124 ((by have:=gW x30 x31 _ _ _ (g30.raw HZ1.out.1 zo) (g31.raw HZ1.out.2 zo);rwa [H1.out.2.2.1,H1.out.2.2.2] at this))
 simp only [pS]
 repeat (refine wpq fun K h=>?_;go_big_quiet_op;refine h _ ?_;clear h K;(try simp only [hp0,hr0]))
 refine wps he0 (fun w1 hW hG=>?_) fun x33=>?_
 ·have g32:=gS (hG 4 dZ);exact spc [IvV (⟨sn,sa,sl,sc,sb,sm,sd⟩,⟨tn,ta,tl,tc,tb,tm,td⟩),IvV x32] Tryz.func151 (yK ⟨sn,sa,sl,sc,sb,sm,sd⟩ ⟨tn,ta,tl,tc,tb,tm,td⟩ x32.1 x32.2 a b _ _ K _ (HS.out.ext hW) (HT.out.ext hW) g32.1 g32.2 HK.out.1.1 HK.out.1.2.1 HZ1.out.1 HZ1.out.2 hK H1.out.1 HK.out.2.2.1 H1.out.2.1)
 simp only [pS]
 repeat (refine wpq fun K h=>?_;go_big_quiet_op;refine h _ ?_;clear h K;(try simp only [hp0,hr0]))
 refine wps he0 (fun w1 hW hG=>?_) fun x34=>?_
 ·exact spc [RH.v ⟨un,ua,ul,uc,ub,um,ud⟩] Tryz.func87 ((by rw [HP.out];exact dV _ _ _ ((HU.out.ext hW).raw HK.out.1.2.2.1 zo)))
 simp only [pS]
 repeat (refine wpq fun K h=>?_;go_big_quiet_op;refine h _ ?_;clear h K;(try simp only [hp0,hr0]))
 refine wps he0 (fun w1 hW hG=>?_) fun x35=>?_
 ·exact spc [RH.v ⟨un,ua,ul,uc,ub,um,ud⟩,RH.v ⟨vn,va,vl,vc,vb,vm,vd⟩] Tryz.func81 ((by rw [HR.out];exact bS _ _ _ _ _ ((HU.out.ext hW).raw HK.out.1.2.2.1 zo) ((HV.out.ext hW).raw HK.out.1.2.2.2 zo)))
 simp only [pS]
 repeat (refine wpq fun K h=>?_;go_big_quiet_op;refine h _ ?_;clear h K;(try simp only [hp0,hr0]))
 refine aq ?_;intro w20 hI;have hE:=he0.out.trans hI.ext;have G30:=gT (hI.facts 2);have G31:=gT (hI.facts 3);have G32:=gT (hI.facts 4);clear hI he0 hz0 hc0 hf0;refine mV6 hE ?_ B1 HX HS HT HU HV;clear B1 HX HS HT HU HV;intro B1 HX HS HT HU HV;have hs_w20:=hE.size;replace b_B1:=bX3 B1;simp only [pD];go_wp2
 go_ret
 exact ⟨(),rfl,HX.out,trivial⟩
theorem nR(ao:Option Addr)(n cap:Nat)(l:List Rat)(S D:Nat)(w:World)(h:cN w ⟨ao,n,cap⟩ l)(hn:n≤1000000)(hS:1≤S)(hS2:S≤30000000)(hD:0<D)(hl:D<W32 ^ S)(hf:∀ x ∈ l,Fr S D x) :
  ar 79 [.slice ao n cap] w SH.v (fun x w'=>cJ w.heap.size w' x (ay l)):=by
 obtain ⟨i0,hi0,hz0,hz1,hz2⟩:=info_parts ii;have HX:=Hi (Ext.refl w);have LP:=Hi h;have hle:=h.le;have hmx:=h.max;have Hlen:=Hi h.len;simp only at hle hmx Hlen;have HSz:=Hi (ck hS hD hl hf);clear h;unfold ar;go_enter Tryz.func79,Tryz.ntmps79
 go_wp2_with fail
 refine cM (mH ao n cap l _ (LP.out.ext HX.out)) fun x2 w2 hE G2=>?_
 replace HX:=hE.tr HX;have hs_w2:=hE.size;obtain ⟨q1,q2⟩:=G2.out;obtain ⟨P,hP⟩:∃ P,P=(tz l).length:=⟨_,rfl⟩;obtain ⟨p,hp⟩:∃ p,p=tz l:=⟨_,rfl⟩;have LQ:Hid (cN w ⟨ao,P,cap⟩ p):=Hi (by rw [hp,q1,hP];exact LP.out.take q2);have HPl:Hid (p.length=P):=Hi (by rw [hp,hP]);have HSL:Hid (ay l=p.map (· / bj p)):=Hi (by rw [hp];rfl);have HM0:Hid (p≠[]→bj p≠0):=Hi (fun h0=>by
  rw [hp] at h0 ⊢;have:=bs h0;exact fun h1=>by rw [show aR l=0 from h1] at this;exact absurd this Rat.lt_irrefl)
 have HFp:Hid (∀ x ∈ p,Fr S D x):=Hi (fun x hx=>hf x (by rw [hp,q1] at hx;exact List.mem_of_mem_take hx));have hPn:P≤n:=zo;rw [←hP];clear hP hp q1 q2 G2 hf HSz Hlen;clear LP
 go_wp2_with fail
 refine cM (bO 0 _ dZ dZ) fun x3 w3 hE G3=>?_
 replace HX:=hE.tr HX;have hs_w3:=hE.size
 go_upto_region 3 with fail
 refine nmA ?_;intro w4 hE B4 hz_w4 hr_w4;refine mV2 hE ?_ G3 HX;clear G3 HX;intro G3 HX;have hs_w4:=hE.size;replace b_B4:=bX3 B4;obtain ⟨b4,hb4⟩:∃ b4,b4=w3.heap.size:=⟨_,rfl⟩;have hb4w:w.heap.size≤b4:=zo;rw [←hb4] at B4 ⊢;clear hb4 b_B4;go_wp2
 go_loopg [18] P (fun g v wr=>∃ (i:Nat) (m:RH),i+g=P∧v=.int .i64 (i:Nat)∧Ext w wr∧wr.heap[b4]?=some (.cells #[.bool m.neg,.slice m.a m.n m.c,.slice m.b m.m m.d] 37 (0,0))∧aA wr m (bj (p.take i)))
 case atStart=>exact ⟨0,x3,zo,rfl,HX.out,B4.out,G3.out⟩
 case round =>
  obtain ⟨i,m,hi,rfl,g1,g4,g5⟩:=hrel;obtain ⟨mn,ma,ml,mc,mb,mm,md⟩:=m;clear HX B4 G3;have HX:=Hi g1;have B4:=Hi g4;have HM2:=Hi g5;clear g1 g4 g5;replace b_B4:=bX3 B4;by_cases h0:gk=0
  case neg =>
   have hin:(i:Int)<P:=zo;obtain ⟨b,off,r,hao,hbl,⟨hc1,hc2,hc3⟩,hPc⟩:=(LQ.out.ext HX.out).cells' (k:=i) zo;obtain ⟨rneg,ra,rn,rc,rb,rm,rd⟩:=r;simp only at hc1 hc2 hc3;have HC:=Hi hPc;clear hPc;have HAO:=Hi hao;subst hao
   go_upto_region 6 with fail
   clear hc1 hc2 hc3;have hb4r:b4<wr.heap.size:=b_B4.2.2;refine nmA ?_;intro w6 hE B6 hz_w6 hr_w6;refine mV4 hE ?_ HX B4 HM2 HC;clear HX B4 HM2 HC;intro HX B4 HM2 HC;have hs_w6:=hE.size;replace b_B4:=bX3 B4;replace b_B6:=bX3 B6;have Zm:Hid (Sz S (bj (p.take i))):=Hi ((iE fun x hx=>HFp.out x (List.mem_of_mem_take hx)).sz hS hD hl);have Zc:Hid (Sz S (p.getD i 0)):=Hi ((ck hS hD hl HFp.out).at (by rw [HPl.out];omega));obtain ⟨c,hc⟩:∃ c,c=p.getD i 0:=⟨_,rfl⟩;obtain ⟨a,ha⟩:∃ a,a=bj (p.take i):=⟨_,rfl⟩;have HMs:Hid (bj (p.take (i+1))=iB a c):=Hi (by rw [gR (by rw [HPl.out];omega),eN,ha,hc]);rw [←hc] at HC Zc;rw [←ha] at HM2 Zm;clear hc ha
   go_wp2_with fail
   refine cM (dV ⟨mn,ma,ml,mc,mb,mm,md⟩ a _ (HM2.out.raw Zm.out zo)) fun x7 w7 hE _=>?_
   refine mV5 hE ?_ B6 HX B4 HM2 HC;clear B6 HX B4 HM2 HC;intro B6 HX B4 HM2 HC;have hs_w7:=hE.size;replace b_B4:=bX3 B4;replace b_B6:=bX3 B6;have HZ:=Hi (fF a);obtain ⟨cc,hcc⟩:∃ cc,cc=cG a 0:=⟨_,rfl⟩;rw [←hcc] at HZ ⊢;clear hcc;have h0b:((gk:Int) == 0)=false:=by simpa using h0
   by_cases hz:cc=0
   case pos =>
    subst hz;have HV:Hid (iB a c=c.abs):=Hi (by unfold iB;rw [if_pos (HZ.out.1 rfl)]);clear HZ
    go_wp2_with fail
    refine cM (i5 ⟨rneg,ra,rn,rc,rb,rm,rd⟩ c _ HC.out) fun x8 w8 hE G8=>?_
    refine mV5 hE ?_ B6 HX B4 HM2 HC;clear B6 HX B4 HM2 HC;intro B6 HX B4 HM2 HC;have hs_w8:=hE.size;replace b_B4:=bX3 B4;replace b_B6:=bX3 B6
    go_upto_region 13 with fail
    refine aN B4.out rfl ?_;intro y1 T;replace HX:=Hi (T.ext HX.out zo);replace B4:=Hi (T.bx);replace HM2:=Hi (HM2.out.keep T.keep);replace HC:=Hi (HC.out.keep T.keep);replace B6:=Hi (T.rest _ _ zo B6.out);replace G8:=Hi (G8.out.keep T.keep);have hs_y1:=nle T.size;have hr_y1:=nle T.size.symm;clear T;replace b_B4:=bX3 B4;replace b_B6:=bX3 B6;have HMn:Hid (aA y1 x8 (bj (p.take (i+1)))):=Hi (by rw [HMs.out,HV.out];exact G8.out);go_wp2
    go_roundg (gk-1)
    case measure=>omega
    case rel=>exact ⟨i+1,x8,zo,by go_num,HX.out,B4.out,HMn.out⟩
   have hzb:(cc == 0)=false:=by simpa using hz
   have Ha0:Hid (a≠0):=Hi (fun h=>hz (HZ.out.2 h));clear hz HZ;by_cases hb0:c=0
   case pos =>
    have HV:Hid (iB a c=a):=Hi (by unfold iB;rw [if_neg Ha0.out,if_pos hb0]);have Hb0:=Hi hb0;clear hb0
    go_wp2_with fail
    refine cM (nZ ⟨mn,ma,ml,mc,mb,mm,md⟩ ⟨rneg,ra,rn,rc,rb,rm,rd⟩ a c _ (HM2.out.raw Zm.out zo) HC.out Hb0.out) fun x8 w8 hE _=>?_
    refine mV5 hE ?_ HX B4 HM2 HC B6;clear HX B4 HM2 HC B6;intro HX B4 HM2 HC B6;have hs_w8:=hE.size;replace b_B4:=bX3 B4;replace b_B6:=bX3 B6
    go_upto_region 9 with fail
    refine nmA ?_;intro y1 hE B7 hz_y1 hr_y1;refine mV5 hE ?_ HX B4 HM2 HC B6;clear HX B4 HM2 HC B6;intro HX B4 HM2 HC B6;have hs_y1:=hE.size;replace b_B4:=bX3 B4;replace b_B6:=bX3 B6;replace b_B7:=bX3 B7;go_wp2
    go_roundg (gk-1)
    case measure=>omega
    case rel=>exact ⟨i+1,⟨mn,ma,ml,mc,mb,mm,md⟩,zo,by go_num,HX.out,B4.out,by rw [HMs.out,HV.out];exact HM2.out⟩
   have Hb0:=Hi hb0;clear hb0;obtain ⟨q,hq⟩:∃ q,q=a / c:=⟨_,rfl⟩;have Hq0:Hid (q≠0):=Hi (fun h=>by
    have h1:=cQ (a:=a) Hb0.out;rw [←hq,h] at h1;exact Ha0.out (by rw [←h1];grind))
   have ZQ:Hid (Sz (S+S) q):=Hi (by rw [hq];exact Zm.out.div Zc.out);have HV:Hid (iB a c=(a / (q.num:Rat)).abs):=Hi (by unfold iB;rw [if_neg Ha0.out,if_neg Hb0.out,←hq])
   go_wp2_with fail
   refine cM (cx ⟨mn,ma,ml,mc,mb,mm,md⟩ ⟨rneg,ra,rn,rc,rb,rm,rd⟩ a c _ (HM2.out.raw Zm.out zo) HC.out Hb0.out) fun x8 w8 hE G8=>?_
   refine mV5 hE ?_ HX B4 HM2 HC B6;clear HX B4 HM2 HC B6;intro HX B4 HM2 HC B6;have hs_w8:=hE.size;replace b_B4:=bX3 B4;replace b_B6:=bX3 B6;rw [←hq] at G8;clear hq
   go_upto_region 9 with fail
   refine nmA ?_;intro y1 hE B7 hz_y1 hr_y1;refine mV6 hE ?_ G8 HX B4 HM2 HC B6;clear G8 HX B4 HM2 HC B6;intro G8 HX B4 HM2 HC B6;have hs_y1:=hE.size;replace b_B4:=bX3 B4;replace b_B6:=bX3 B6;replace b_B7:=bX3 B7
   go_wp2_with fail
   refine cM (jw x8 q _ G8.out) fun x9 w9 hE G9=>?_
   refine mV7 hE ?_ B7 G8 HX B4 HM2 HC B6;clear B7 G8 HX B4 HM2 HC B6;intro B7 G8 HX B4 HM2 HC B6;have hs_w9:=hE.size;replace b_B4:=bX3 B4;replace b_B6:=bX3 B6;replace b_B7:=bX3 B7;obtain ⟨x9,x0⟩:=x9;have G9a:=Hi G9.out.1;have G9b:=Hi G9.out.2;clear G9;simp only [PT]
   go_upto_region 11 with fail
   refine eX ?_;intro y2 hE B8 B9 hz_y2 hr_y2;refine mV8 hE ?_ B7 G8 HX B4 HM2 HC B6 G9a;clear B7 G8 HX B4 HM2 HC B6 G9a;intro B7 G8 HX B4 HM2 HC B6 G9a;replace G9b:=mV hE G9b;have hs_y2:=hE.size;replace b_B4:=bX3 B4;replace b_B6:=bX3 B6;replace b_B7:=bX3 B7;replace b_B8:=bX3 B8;replace b_B9:=bX3 B9
   go_wp2_with fail
   refine cM (cx ⟨mn,ma,ml,mc,mb,mm,md⟩ x9 a (q.num:Rat) _ (HM2.out.raw Zm.out zo) (G9a.out.raw ZQ.out.numz zo) (me Hq0.out)) fun x10 w10 hE G10=>?_
   refine mV8 hE ?_ B8 B9 B7 G8 HX B4 HM2 HC;clear B8 B9 B7 G8 HX B4 HM2 HC;intro B8 B9 B7 G8 HX B4 HM2 HC;refine mV3 hE ?_ B6 G9a G9b;clear B6 G9a G9b;intro B6 G9a G9b;have hs_w10:=hE.size;replace b_B4:=bX3 B4;replace b_B6:=bX3 B6;replace b_B7:=bX3 B7;replace b_B8:=bX3 B8;replace b_B9:=bX3 B9
   go_upto_region 12 with fail
   refine aN B4.out rfl ?_;intro y3 T;replace HX:=Hi (T.ext HX.out zo);replace B4:=Hi (T.bx);replace HM2:=Hi (HM2.out.keep T.keep);replace HC:=Hi (HC.out.keep T.keep);replace B6:=Hi (T.rest _ _ zo B6.out);replace G8:=Hi (G8.out.keep T.keep);replace B7:=Hi (T.rest _ _ zo B7.out);replace G9a:=Hi (G9a.out.keep T.keep);replace G9b:=Hi (G9b.out.keep T.keep);replace B8:=Hi (T.rest _ _ zo B8.out);replace B9:=Hi (T.rest _ _ zo B9.out);replace G10:=Hi (G10.out.keep T.keep);have hs_y3:=nle T.size;have hr_y3:=nle T.size.symm;clear T;replace b_B4:=bX3 B4;replace b_B6:=bX3 B6;replace b_B7:=bX3 B7;replace b_B8:=bX3 B8;replace b_B9:=bX3 B9
   go_wp2_with fail
   refine cM (i5 x10 _ _ (G10.out.raw (Zm.out.div ZQ.out.numz) zo)) fun x11 w11 hE G11=>?_
   refine mV8 hE ?_ HX B4 HM2 HC B6 G8 B7 G9a;clear HX B4 HM2 HC B6 G8 B7 G9a;intro HX B4 HM2 HC B6 G8 B7 G9a;refine mV4 hE ?_ G9b B8 B9 G10;clear G9b B8 B9 G10;intro G9b B8 B9 G10;have hs_w11:=hE.size;replace b_B4:=bX3 B4;replace b_B6:=bX3 B6;replace b_B7:=bX3 B7;replace b_B8:=bX3 B8;replace b_B9:=bX3 B9
   go_upto_region 13 with fail
   refine aN B4.out rfl ?_;intro y4 T;replace HX:=Hi (T.ext HX.out zo);replace B4:=Hi (T.bx);replace HM2:=Hi (HM2.out.keep T.keep);replace HC:=Hi (HC.out.keep T.keep);replace B6:=Hi (T.rest _ _ zo B6.out);replace G8:=Hi (G8.out.keep T.keep);replace B7:=Hi (T.rest _ _ zo B7.out);replace G9a:=Hi (G9a.out.keep T.keep);replace G9b:=Hi (G9b.out.keep T.keep);replace B8:=Hi (T.rest _ _ zo B8.out);replace B9:=Hi (T.rest _ _ zo B9.out);replace G10:=Hi (G10.out.keep T.keep);replace G11:=Hi (G11.out.keep T.keep);have hs_y4:=nle T.size;have hr_y4:=nle T.size.symm;clear T;replace b_B4:=bX3 B4;replace b_B6:=bX3 B6;replace b_B7:=bX3 B7;replace b_B8:=bX3 B8;replace b_B9:=bX3 B9;have HMn:Hid (aA y4 x11 (bj (p.take (i+1)))):=Hi (by rw [HMs.out,HV.out];exact G11.out);go_wp2
   go_roundg (gk-1)
   case measure=>omega
   case rel=>exact ⟨i+1,x11,zo,by go_num,HX.out,B4.out,HMn.out⟩
  subst h0;obtain rfl:i=P:=by omega
  have hin:¬ (i:Int)<i:=zo;have HM3:Hid (aA wr ⟨mn,ma,ml,mc,mb,mm,md⟩ (bj p)):=Hi (by
   have:=HM2.out;rw [nXm (by rw [HPl.out];exact nXe _)] at this;exact this)
  clear HM2;have hXr:=HX.out.size;have hb4r:b4<wr.heap.size:=b_B4.2.2
  go_upto_region 15 with (refine aB rfl (.tmp 50) (.tmp 50) 24 rfl 37 i0 (RH.v default) 3 Tryz.underlying24 hi0 hz0 hz1 _ _ i rfl rfl zo zo (by rw [hz2];omega) zo ?_;intro y1 hnew hE)
  have KB:=Hi (RBk.make rfl hnew);clear hnew;refine mV3 hE ?_ HX B4 HM3;clear HX B4 HM3;intro HX B4 HM3;have hs_y1:=hE.size;replace b_B4:=bX3 B4;obtain ⟨L,hL⟩:∃ L,L=wr.heap.size:=⟨_,rfl⟩;have hLw:w.heap.size≤L:=zo;have hL4:b4≠L:=zo;rw [←hL] at KB ⊢;clear hL hs_y1 b_B4;go_wp2
  go_loopg [54] i (fun g v wr=>∃ (j:Nat) (rs:List RH),j+g=i∧v=.int .i64 (j:Nat)∧Ext w wr∧wr.heap[b4]?=some (.cells #[.bool mn,.slice ma ml mc,.slice mb mm md] 37 (0,0))∧aA wr ⟨mn,ma,ml,mc,mb,mm,md⟩ (bj p)∧RBk wr L rs #[]∧rs.length=i∧iq wr rs ((p.take j).map (· / bj p)))
  case atStart=>exact ⟨0,_,zo,rfl,HX.out,B4.out,HM3.out,KB.out,by simp,fun j hj=>by simp at hj⟩
  case round =>
   obtain ⟨j,rs,hj,rfl,g1,g4,g5,g6,g7,g8⟩:=hrel;clear HX B4 HM3 KB;have HX:=Hi g1;have B4:=Hi g4;have HM3:=Hi g5;have KB:=Hi g6;have HRl:=Hi g7;have PC:=Hi g8;clear g1 g4 g5 g6 g7 g8;replace b_B4:=bX3 B4
   try clear f_KB l_KB
   have f_KB:=af KB.out;have l_KB:=(nXb.1 KB.out).1;by_cases h0:gk=0
   case neg =>
    have hin2:(j:Int)<i:=zo;obtain ⟨b,off,r,hao,hbl,⟨hc1,hc2,hc3⟩,hPc⟩:=(LQ.out.ext HX.out).cells' (k:=j) zo;obtain ⟨rneg,ra,rn,rc,rb,rm,rd⟩:=r;simp only at hc1 hc2 hc3;have HC:=Hi hPc;clear hPc;subst hao
    go_upto_region 18 with fail
    clear hc1 hc2 hc3;have hLr:L<wr.heap.size:=l_KB;refine nmA ?_;intro y6 hE B9 hz_y6 hr_y6;refine mV6 hE ?_ HX B4 HM3 KB PC HC;clear HX B4 HM3 KB PC HC;intro HX B4 HM3 KB PC HC;have hs_y6:=hE.size;replace b_B4:=bX3 B4
    try clear f_KB l_KB
    have f_KB:=af KB.out;have l_KB:=(nXb.1 KB.out).1;replace b_B9:=bX3 B9;have Zm:Hid (Sz S (bj p)):=Hi ((iE HFp.out).sz hS hD hl);have Zc:Hid (Sz S (p.getD j 0)):=Hi ((ck hS hD hl HFp.out).at (by rw [HPl.out];omega));have Hm0:Hid (bj p≠0):=Hi (HM0.out fun h=>by have:=HPl.out;rw [h] at this;simp at this;omega)
    go_wp2_with fail
    refine cM (cx ⟨rneg,ra,rn,rc,rb,rm,rd⟩ ⟨mn,ma,ml,mc,mb,mm,md⟩ (p.getD j 0) (bj p) _ HC.out (HM3.out.raw Zm.out zo) Hm0.out) fun x7 w7 hE G7=>?_
    refine mV7 hE ?_ B9 HX B4 HM3 KB PC HC;clear B9 HX B4 HM3 KB PC HC;intro B9 HX B4 HM3 KB PC HC;have hs_w7:=hE.size;replace b_B4:=bX3 B4
    try clear f_KB l_KB
    have f_KB:=af KB.out;have l_KB:=(nXb.1 KB.out).1;replace b_B9:=bX3 B9;obtain ⟨f1,f2,f3⟩:=RBk.at (re:=#[]) KB.out (k:=j) (by rw [HRl.out];omega)
    go_upto_region 19 with fail
    refine eK (k:=j) KB.out rfl (by rw [HRl.out];omega) ?_;intro y8 T;clear f1 f2 f3;replace HX:=Hi (T.ext HX.out zo);replace B4:=Hi (T.rest _ _ zo B4.out);replace HM3:=Hi (HM3.out.keep T.keep);replace PC:=Hi (PC.out.keep T.keep);replace KB:=Hi (T.bx);replace HC:=Hi (HC.out.keep T.keep);replace B9:=Hi (T.rest _ _ zo B9.out);replace G7:=Hi (G7.out.keep T.keep);have hs_y8:=nle T.size;have hr_y8:=nle T.size.symm;clear T;replace b_B4:=bX3 B4
    try clear f_KB l_KB
    have f_KB:=af KB.out;have l_KB:=(nXb.1 KB.out).1;replace b_B9:=bX3 B9;replace PC:=Hi (PC.out.snoc (x:=x7) (i:=j) (by rw [nXl,nXk,HPl.out];omega) (by rw [HRl.out];omega) G7.out);have HRp:Hid ((p.take j).map (· / bj p)++[p.getD j 0 / bj p]=(p.take (j+1)).map (· / bj p)):=Hi (by rw [gR (by rw [HPl.out];omega),List.map_append];rfl);rw [HRp.out] at PC;go_wp2
    go_roundg (gk-1)
    case measure=>omega
    case rel=>exact ⟨j+1,_,zo,by go_num,HX.out,B4.out,HM3.out,KB.out,by rw [nXo];exact HRl.out,PC.out⟩
   subst h0;obtain rfl:j=i:=by omega
   have hin:¬ (j:Int)<j:=zo;have HO:Hid (aH wr L (ay l)):=Hi (by
    have:=PC.out;rw [nXm (by rw [HPl.out];exact nXe _),←HSL.out] at this;exact this.row KB.out HRl.out (by rw [HSL.out,nXl,HPl.out]))
   go_wp2
   go_ret
   exact ⟨⟨some ⟨L,0,none⟩,j,j⟩,rfl,HX.out,L,hLw,by rw [HSL.out,nXl,HPl.out],HO.out⟩
theorem iX(ao:Option Addr)(n cap:Nat)(l:List Rat)(S D:Nat)(w:World)(h:bg w ⟨ao,n,cap⟩ l)(hn:n≤1000000)(hS:1≤S)(hS2:S≤30000000)(hD:0<D)(hl:D<W32 ^ S)(hf:∀ x ∈ l,Fr S D x) :
  ar 79 [.slice ao n cap] w SH.v (fun x w'=>cJ w.heap.size w' x (ay l)):=nR ao n cap l S D w (h.raw (ck hS hD hl hf) zo) hn hS hS2 hD hl hf
end Go.Proofs.YtkcpmclnocmalaaGreat
