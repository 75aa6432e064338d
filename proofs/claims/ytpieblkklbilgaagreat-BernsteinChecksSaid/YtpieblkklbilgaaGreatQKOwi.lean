/- A list of intervals of one's own that grows: an interval is two numbers of three cells. -/
import Derived.Test.YtpieblkklbilgaaGreatQKM7
import Derived.Test.YtpieblkklbilgaaGreatQKM24
import Derived.Test.YtpieblkklbilgaaGreatQKSI
set_option linter.unusedVariables false
namespace Go.Proofs.YtpieblkklbilgaaGreat
open Go.RowKit Go.Front Go.Num
theorem infoI:(Tryz.prog.info? 44).map (fun i=>(i.zero,i.size,i.bytes))=some (some (IvV (default,default)),6,112):=by kernel_rfl
def IBk (w:World) (L:Nat) (rs:List RH) (re:Array Value):Prop:=w.heap[L]?=some (.cells ((rcells rs).toArray ++ re) 44 (0,0))
theorem IBk.ext {w w':World} {L:Nat} {rs:List RH} {re:Array Value} (h:IBk w L rs re) (he:Ext w w'):IBk w' L rs re:=he.block h
theorem IBk.lt {w:World} {L:Nat} {rs:List RH} {re:Array Value} (h:IBk w L rs re):L < w.heap.size:=(Array.getElem?_eq_some_iff.1 h).1
theorem IBk.frozen {w:World} {L:Nat} {rs:List RH} {re:Array Value} (h:IBk w L rs re) (i:Nat):w.frozen? ⟨L,i,none⟩=false:=blk_frozen h i
theorem IBk.noU {w:World} {L:Nat} {rs:List RH} {re:Array Value} (h:IBk w L rs re) (hre:re.toList.all nonU=true):NoU w L :=
 noU_block h (by rw [Array.toList_append,List.all_append,hre,rcells_nonU];rfl)
theorem IBk.cell {w:World} {L:Nat} {rs:List RH} {re:Array Value} (h:IBk w L rs re) {k j:Nat} (hk:k < rs.length) (hj:j < 3):w.cell? ⟨L,k * 3+j,none⟩=(rcell (rs.getD k default))[j]?:=by
 rw [blk_cell h,← rcells_get rs hk hj,Array.getElem?_append_left (by rw [List.size_toArray,rcells_length];omega),List.getElem?_toArray]
theorem IBk.at {w:World} {L:Nat} {rs:List RH} {re:Array Value} (h:IBk w L rs re) {k:Nat} (hk:k < rs.length):RAt w L (k * 3) (rs.getD k default) :=
 ⟨h.cell (j:=0) hk (by decide),h.cell (j:=1) hk (by decide),h.cell (j:=2) hk (by decide)⟩
theorem zeroI_nonU (n:Nat):(Builtin.zeroCells (IvV (default,default)).cells n).toList.all nonU=true:=by
 rw [List.all_eq_true]
 intro x hx
 have h0:(IvV (default,default)).cells=#[.bool false,.slice none 0 0,.slice none 0 0,.bool false,.slice none 0 0,.slice none 0 0]:=by rfl
 rw [h0] at hx
 simp [Builtin.zeroCells] at hx
 obtain ⟨a,-,rfl⟩:=hx
 have h7:a % 6=0 ∨ a % 6=1 ∨ a % 6=2 ∨ a % 6=3 ∨ a % 6=4 ∨ a % 6=5:=by omega
 rcases h7 with h7 | h7 | h7 | h7 | h7 | h7 <;> rw [h7] <;> rfl
def OwnIL (w:World) (D:Nat→Prop) (v:Value) (n:Nat) (rs:List RH):Prop:=(v=.slice none 0 0∧rs=[]∧n=0) ∨ ∃ L cap re,v=.slice (some ⟨L,0,none⟩) n cap∧D L∧IBk w L rs re∧rs.length=n * 2∧n≤cap∧cap≤9223372036854775807∧rs.length * 3+re.size=cap * 6∧re.toList.all nonU=true
theorem OwnIL.nil (w:World) (D:Nat→Prop):OwnIL w D (.slice none 0 0) 0 []:=Or.inl ⟨rfl,rfl,rfl⟩
theorem OwnIL.ext {w w':World} {D:Nat→Prop} {v:Value} {n:Nat} {rs:List RH} (h:OwnIL w D v n rs) (he:Ext w w'):OwnIL w' D v n rs :=
 h.imp id fun ⟨L,cap,re,h1,h2,h3,h4⟩=>⟨L,cap,re,h1,h2,h3.ext he,h4⟩
theorem OwnIL.mono {w:World} {D D':Nat→Prop} {v:Value} {n:Nat} {rs:List RH} (h:OwnIL w D v n rs) (hD:∀ k,k < w.heap.size→D k→D' k):OwnIL w D' v n rs :=
 h.imp id fun ⟨L,cap,re,h1,h2,h3,h4⟩=>⟨L,cap,re,h1,hD _ h3.lt h2,h3,h4⟩
theorem OwnIL.len {w:World} {D:Nat→Prop} {v:Value} {n:Nat} {rs:List RH} (h:OwnIL w D v n rs):rs.length=n * 2:=by
 rcases h with ⟨-,rfl,rfl⟩ | ⟨L,cap,re,-,-,-,h,-⟩
 ·rfl
 ·exact h
theorem run_append_iv (T ty:TypeId) (hT:Tryz.prog.underlying T=some (.slice 44)) (w:World) (D:Nat→Prop) (v:Value) (n:Nat) (rs:List RH) (b off m c:Nat) (ns:List RH) (hown:OwnIL w D v n rs)
    (hm:ns.length=m * 2) (h0:0 < m) (hN:∀ k,k < m * 2→RAt w b (off+k * 3) (ns.getD k default)) (hl:n≤536870912) (hlm:m≤536870912) (hD:∀ k,w.heap.size≤k→D k) :
    ∃ L cap w',(Builtin.append_ #[T,T] ty #[v,.slice (some ⟨b,off,none⟩) m c]).run Tryz.prog w=.ok (.slice (some ⟨L,0,none⟩) (n+m) cap) w'∧OwnIL w' D (.slice (some ⟨L,0,none⟩) (n+m) cap) (n+m) (rs ++ ns)∧Mods D w w'∧Keep w w':=by
  obtain ⟨i0,hi0,hz0,hz1,hz2⟩:=info_parts infoI
  have hnl:(rcells ns).length=m * i0.size:=by rw [rcells_length,hz1,hm];omega
  have hcs:=row_cells (w:=w) (b:=b) (off:=off) hm hN
  have hgc:∀ need old,need≤9223372036854775807→need≤grownCap w need old 44∧grownCap w need old 44≤9223372036854775807:=fun need old h=>⟨grownCap_ge _ _ _ _,by have:=grownCap_le_maxLen w need old 44 (by simpa [maxLen] using h);simpa [maxLen] using this⟩
  have hzs:(IvV (default,default)).cells.size=6:=by rfl
  rcases hown with ⟨rfl,rfl,rfl⟩ | ⟨L,cap,re,rfl,h1,h2,hlen,h3,h4,h5,h6⟩
  · have hr:=run_append_nil (P:=Tryz.prog) w T ty _ i0 _ hT hi0 hz0 ⟨b,off,none⟩ m c (rcells ns) hnl hcs h0 (by omega) (by rw [hz2];omega)
    obtain ⟨g1,g2⟩:=hgc m 0 (by omega)
    have he:Ext w (w.drew.alloc (.cells ((rcells ns).toArray ++ Builtin.zeroCells (IvV (default,default)).cells (grownCap w m 0 44 - m)) 44)):=(Ext.drew w).trans (Ext.alloc _ _)
    rw [Nat.zero_add,List.nil_append]
    refine ⟨_,_,_,hr,Or.inr ⟨_,_,_,rfl,hD _ (Nat.le_refl _),heap_alloc_new w.drew _,hm,g1,g2,?_,zeroI_nonU _⟩,Mods.of_ext he,keep_ext he⟩
    rw [size_zeroCells,hzs,hm]
    omega
  · by_cases hroom:n+m≤cap
    · have hcz:((rcells rs).toArray ++ re).size=cap * 6:=by rw [Array.size_append,List.size_toArray,rcells_length,h5]
      have hr:=run_append_room (P:=Tryz.prog) w T ty _ i0 hT hi0 L n cap _ h2 ⟨b,off,none⟩ m c (rcells ns) hnl hcs (rcells_one _) hroom (by rw [hcz,hz1,hnl,hz1];omega)
      have hnr:n * i0.size=(rcells rs).length:=by rw [rcells_length,hz1,hlen];omega
      have e:(((rcells rs).toArray ++ re).toList.take (n * i0.size) ++ rcells ns ++ ((rcells rs).toArray ++ re).toList.drop (n * i0.size+(rcells ns).length)).toArray=(rcells (rs ++ ns)).toArray ++ (re.toList.drop (rcells ns).length).toArray:=by
        rw [hnr,Array.toList_append,rcells_append,List.take_left,← List.drop_drop,List.drop_left]
        apply Array.ext'
        simp
      rw [e] at hr
      refine ⟨_,_,_,hr,Or.inr ⟨L,cap,_,rfl,h1,setRow_heap w L _ _ _ _ h2,by rw [List.length_append,hlen,hm];omega,hroom,h4,?_,?_⟩,⟨rfl,rfl,rfl,by simp,fun k hk hnd=>setRow_other w L k _ (fun e=>hnd (e ▸ h1))⟩,keep_but (h2.noU h6) fun k _ hk=>setRow_other w L k _ hk⟩
      · simp only [List.length_append,List.size_toArray,List.length_drop,Array.length_toList]
        rw [hnl,hz1,hlen,hm]
        rw [hlen] at h5
        omega
      · rw [List.all_eq_true] at h6 ⊢
        intro x hx
        exact h6 x (List.mem_of_mem_drop (by simpa using hx))
    · have hr := run_append_grow (P := Tryz.prog) w T ty _ i0 _ hT hi0 hz0 ⟨L, 0, none⟩ n cap (rcells rs) (by rw [rcells_length, hz1, hlen]; omega) (fun j u hj => by
          have hlt:j < (rcells rs).length:=(List.getElem?_eq_some_iff.1 hj).1
          rw [add_plain0,blk_cell h2,Array.getElem?_append_left (by rw [List.size_toArray];exact hlt),List.getElem?_toArray];exact hj) ⟨b,off,none⟩ m c (rcells ns) hnl hcs (by omega) (by omega) (growslice_fits (by omega) (by rw [hz2];omega))
      obtain ⟨g1,g2⟩:=hgc (n+m) cap (by omega)
      have he:Ext w (w.drew.alloc (.cells ((rcells rs).toArray ++ (rcells ns).toArray ++ Builtin.zeroCells (IvV (default,default)).cells (grownCap w (n+m) cap 44 - (n+m))) 44)):=(Ext.drew w).trans (Ext.alloc _ _)
      refine ⟨_,_,_,hr,Or.inr ⟨w.heap.size,_,Builtin.zeroCells (IvV (default,default)).cells (grownCap w (n+m) cap 44 - (n+m)),rfl,hD _ (Nat.le_refl _),?_,by rw [List.length_append,hlen,hm];omega,g1,g2,?_,zeroI_nonU _⟩,Mods.of_ext he,keep_ext he⟩
      · unfold IBk
        rw [rcells_append]
        have e2:(rcells rs ++ rcells ns).toArray=(rcells rs).toArray ++ (rcells ns).toArray:=by simp
        rw [e2]
        exact heap_alloc_new w.drew _
      · rw [size_zeroCells,hzs,List.length_append,hlen,hm]
        omega
def OwnI (w:World) (D:Nat→Prop) (v:Value) (n:Nat) (qs:List Rat):Prop:=∃ rs,OwnIL w D v n rs∧Vals CanR w rs qs
theorem OwnI.nil (w:World) (D:Nat→Prop):OwnI w D (.slice none 0 0) 0 []:=⟨[],OwnIL.nil _ _,Vals.nil _ _⟩
theorem OwnI.ext {w w':World} {D:Nat→Prop} {v:Value} {n:Nat} {qs:List Rat} (h:OwnI w D v n qs) (he:Ext w w'):OwnI w' D v n qs:=let ⟨rs,h1,h2⟩:=h;⟨rs,h1.ext he,h2.can_ext he⟩
theorem OwnI.mono {w:World} {D D':Nat→Prop} {v:Value} {n:Nat} {qs:List Rat} (h:OwnI w D v n qs) (hD:∀ k,k < w.heap.size→D k→D' k):OwnI w D' v n qs:=let ⟨rs,h1,h2⟩:=h;⟨rs,h1.mono hD,h2⟩
theorem OwnI.mods {w1 w2:World} {D E:Nat→Prop} {v:Value} {n:Nat} {qs:List Rat} (h:OwnI w1 D v n qs) (m:Mods E w1 w2) (k:Keep w1 w2) (hb:∀ i,D i→¬ E i):OwnI w2 D v n qs:=by
 obtain ⟨rs,h1,h2⟩:=h
 exact ⟨rs,h1.imp id fun ⟨L,cap,re,g1,g2,g3,g4⟩=>⟨L,cap,re,g1,g2,m.blk (hb L g2) g3,g4⟩,h2.keep k⟩
theorem OwnI.put {w1 w2:World} {D:Nat→Prop} {v:Value} {n:Nat} {qs:List Rat} {b:Nat} {T:TypeId} {cs:Array Value} (h:OwnI w1 D v n qs) (T2:PutB w1 b T cs w2) (hb:¬ D b):OwnI w2 D v n qs:=by
 obtain ⟨rs,h1,h2⟩:=h
 exact ⟨rs,h1.imp id fun ⟨L,cap,re,g1,g2,g3,g4⟩=>⟨L,cap,re,g1,g2,T2.rest L _ (fun e=>hb (e ▸ g2)) g3,g4⟩,h2.keep T2.keep⟩
theorem OwnI.len {w:World} {D:Nat→Prop} {v:Value} {n:Nat} {qs:List Rat} (h:OwnI w D v n qs):qs.length=n * 2:=by
 obtain ⟨rs,h1,h2⟩:=h
 rw [← h2.1,h1.len]
theorem OwnI.sh {w:World} {D:Nat→Prop} {v:Value} {n:Nat} {qs:List Rat} (h:OwnI w D v n qs):∃ a c,v=.slice a n c:=by
 obtain ⟨rs,⟨rfl,rfl,rfl⟩ | ⟨L,cap,re,rfl,_⟩,h2⟩:=h
 ·exact ⟨none,0,rfl⟩
 ·exact ⟨_,_,rfl⟩
theorem Vals.app {P:World→RH→Rat→Prop} {w:World} {rs ns:List RH} {qs ps:List Rat} (h:Vals P w rs qs) (k:Vals P w ns ps):Vals P w (rs ++ ns) (qs ++ ps):=by
 refine ⟨by simp [h.1,k.1],fun i hi=>?_⟩
 have h1:=h.1
 by_cases hlt:i < qs.length
 ·rw [show (rs ++ ns).getD i default=rs.getD i default by rw [List.getD_eq_getElem?_getD,List.getElem?_append_left (by omega),← List.getD_eq_getElem?_getD],show (qs ++ ps).getD i 0=qs.getD i 0 by rw [List.getD_eq_getElem?_getD,List.getElem?_append_left hlt,← List.getD_eq_getElem?_getD]]
  exact h.2 i hlt
 ·rw [show (rs ++ ns).getD i default=ns.getD (i - qs.length) default by rw [List.getD_eq_getElem?_getD,List.getElem?_append_right (by omega),← List.getD_eq_getElem?_getD,h1],show (qs ++ ps).getD i 0=ps.getD (i - qs.length) 0 by rw [List.getD_eq_getElem?_getD,List.getElem?_append_right (by omega),← List.getD_eq_getElem?_getD]]
  exact k.2 _ (by rw [List.length_append] at hi;omega)
theorem wpList_append_i {w:World} {ops:Array Oper} {rest:List Oper} {o:Oper} {a:Act} {Q:Exit→Act→World→Prop} (hgd:o.guard=none) (s x:Operand) (T:TypeId) (hT:Tryz.prog.underlying T=some (.slice 44))
  (ho:o.op=.call { callee:=.builtin .append,args:=#[s,x],argTypes:=#[T,T] }) (D:Nat→Prop) (v:Value) (n:Nat) (qs:List Rat) (b off m c:Nat) (ns:List RH) (ps:List Rat) (hs:a.eval s=v) (hown:OwnI w D v n qs)
  (hx:a.eval x=.slice (some ⟨b,off,none⟩) m c) (hm:ns.length=m * 2) (h0:0 < m) (hN:∀ k,k < m * 2→RAt w b (off+k * 3) (ns.getD k default)) (hr:Vals CanR w ns ps) (hl:n≤536870912) (hlm:m≤536870912) (hD:∀ k,w.heap.size≤k→D k)
  (h:∀ (s':SH) w',OwnI w' D s'.v (n+m) (qs ++ ps)→Mods D w w'→Keep w w'→wpList Tryz.prog ops Q rest (a.put o.dst s'.v) w'):wpList Tryz.prog ops Q (o :: rest) a w:=by
 obtain ⟨rs,h1,h2⟩:=hown
 refine wpList_plain hgd fun K hK=>?_
 obtain ⟨L,cap,w',hrun,g1,g2,g3⟩:=run_append_iv T o.type hT w D v n rs b off m c ns h1 hm h0 hN hl hlm hD
 unfold Oper.wp
 simp [execOp,ho,resolve,invoke,builtin,hs,hx,hrun,Result.andThen]
 exact hK _ _ (h ⟨some ⟨L,0,none⟩,n+m,cap⟩ w' ⟨_,g1,(h2.app hr).keep g3⟩ g2 g3)
end Go.Proofs.YtpieblkklbilgaaGreat
