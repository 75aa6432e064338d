/- A list of slices of one's own that grows. -/
import Derived.Test.YtcbgamclcgcodaaGreatQYM7
import Derived.Test.YtcbgamclcgcodaaGreatQYM23
set_option linter.unusedVariables false
namespace Go.Proofs.YtcbgamclcgcodaaGreat
open Go.RowKit Go.Front Go.Num
theorem infoP:(Tryz.prog.info? 24).map (fun i=>(i.zero,i.size,i.bytes)) = some (some (.slice none 0 0),1,24):=by kernel_rfl
def scells (xs:List SH):List Value:=xs.map SH.v
theorem scells_length (xs:List SH):(scells xs).length = xs.length:=List.length_map _
theorem scells_append (xs ys:List SH):scells (xs ++ ys) = scells xs ++ scells ys:=List.map_append
theorem scells_nonU (xs:List SH):(scells xs).all nonU = true:=by
 rw [List.all_eq_true]
 intro x hx
 obtain ⟨s,-,rfl⟩:=List.mem_map.1 hx
 rfl
theorem scells_one (xs:List SH):∀ u ∈ scells xs,u.oneCell' = true:=by
 intro x hx
 obtain ⟨s,-,rfl⟩:=List.mem_map.1 hx
 rfl
def SBk (w:World) (L:Nat) (xs:List SH) (re:Array Value):Prop:=w.heap[L]? = some (.cells ((scells xs).toArray ++ re) 24 (0,0))
theorem SBk.ext {w w':World} {L:Nat} {xs:List SH} {re:Array Value} (h:SBk w L xs re) (he:Ext w w'):SBk w' L xs re:=he.block h
theorem SBk.lt {w:World} {L:Nat} {xs:List SH} {re:Array Value} (h:SBk w L xs re):L < w.heap.size:=(Array.getElem?_eq_some_iff.1 h).1
theorem SBk.noU {w:World} {L:Nat} {xs:List SH} {re:Array Value} (h:SBk w L xs re) (hre:re.toList.all nonU = true):NoU w L :=
 noU_block h (by rw [Array.toList_append,List.all_append,hre,scells_nonU]; rfl)
theorem SBk.cell {w:World} {L:Nat} {xs:List SH} {re:Array Value} (h:SBk w L xs re) {k:Nat} (hk:k < xs.length):w.cell? ⟨L,k,none⟩ = some (xs.getD k ⟨none,0,0⟩).v:=by
 rw [blk_cell h,Array.getElem?_append_left (by rw [List.size_toArray,scells_length]; exact hk),List.getElem?_toArray]
 unfold scells
 rw [List.getElem?_map,List.getD_eq_getElem?_getD,List.getElem?_eq_getElem hk]
 rfl
theorem zeroS_nonU (n:Nat):(Builtin.zeroCells (Value.slice none 0 0).cells n).toList.all nonU = true:=by
 rw [List.all_eq_true]
 intro x hx
 have h0:(Value.slice none 0 0).cells = #[.slice none 0 0]:=by rfl
 rw [h0] at hx
 simp [Builtin.zeroCells,Nat.mod_one] at hx
 rw [← hx.2]
 rfl
def OwnS (w:World) (D:Nat→Prop) (v:Value) (xs:List SH):Prop:=(v = .slice none 0 0∧xs = []) ∨ ∃ L cap re,v = .slice (some ⟨L,0,none⟩) xs.length cap∧D L∧SBk w L xs re∧xs.length≤cap∧cap≤9223372036854775807∧xs.length + re.size = cap∧re.toList.all nonU = true
theorem OwnS.nil (w:World) (D:Nat→Prop):OwnS w D (.slice none 0 0) []:=Or.inl ⟨rfl,rfl⟩
theorem OwnS.ext {w w':World} {D:Nat→Prop} {v:Value} {xs:List SH} (h:OwnS w D v xs) (he:Ext w w'):OwnS w' D v xs :=
 h.imp id fun ⟨L,cap,re,h1,h2,h3,h4⟩=>⟨L,cap,re,h1,h2,h3.ext he,h4⟩
theorem OwnS.mono {w:World} {D D':Nat→Prop} {v:Value} {xs:List SH} (h:OwnS w D v xs) (hD:∀ k,k < w.heap.size→D k→D' k):OwnS w D' v xs :=
 h.imp id fun ⟨L,cap,re,h1,h2,h3,h4⟩=>⟨L,cap,re,h1,hD _ h3.lt h2,h3,h4⟩
theorem OwnS.put {w1 w2:World} {D:Nat→Prop} {v:Value} {xs:List SH} {b:Nat} {T:TypeId} {cs:Array Value} (h:OwnS w1 D v xs) (T2:PutB w1 b T cs w2) (hb:¬ D b):OwnS w2 D v xs :=
 h.imp id fun ⟨L,cap,re,g1,g2,g3,g4⟩=>⟨L,cap,re,g1,g2,T2.rest L _ (fun e=>hb (e ▸ g2)) g3,g4⟩
theorem OwnS.sh {w:World} {D:Nat→Prop} {v:Value} {xs:List SH} (h:OwnS w D v xs):∃ a n c,v = .slice a n c∧n = xs.length:=by
 rcases h with ⟨rfl,rfl⟩ | ⟨L,cap,re,rfl,_⟩
 ·exact ⟨none,0,0,rfl,rfl⟩
 ·exact ⟨_,_,_,rfl,rfl⟩
theorem run_append_sh (T ty:TypeId) (hT:Tryz.prog.underlying T = some (.slice 24)) (w:World) (D:Nat→Prop) (v:Value) (xs:List SH) (x:SH) (N:Nat) (hown:OwnS w D v xs) (hN:SBk w N [x] #[]) (hl:xs.length≤1073741824) (hD:∀ k,w.heap.size≤k→D k) :
    ∃ L cap w',(Builtin.append_ #[T,T] ty #[v,.slice (some ⟨N,0,none⟩) 1 1]).run Tryz.prog w = .ok (.slice (some ⟨L,0,none⟩) (xs.length + 1) cap) w'∧OwnS w' D (.slice (some ⟨L,0,none⟩) (xs.length + 1) cap) (xs ++ [x])∧Mods D w w'∧Keep w w':=by
  obtain ⟨i0,hi0,hz0,hz1,hz2⟩:=info_parts infoP
  have hnl:(scells [x]).length = 1 * i0.size:=by rw [hz1]; rfl
  have hone:∀ j u,(scells [x])[j]? = some u→w.cell? ((⟨N,0,none⟩:Addr).add j) = some u:=by
    intro j u hj
    rw [add_plain0,blk_cell hN,Array.append_empty,List.getElem?_toArray]
    exact hj
  have hgc:∀ need old,need≤9223372036854775807→need≤grownCap w need old 24∧grownCap w need old 24≤9223372036854775807:=fun need old h=>⟨grownCap_ge _ _ _ _,by have:=grownCap_le_maxLen w need old 24 (by simpa [maxLen] using h); simpa [maxLen] using this⟩
  have hzs:(Value.slice none 0 0).cells.size = 1:=by rfl
  rcases hown with ⟨rfl,rfl⟩ | ⟨L,cap,re,rfl,h1,h2,h3,h4,h5,h6⟩
  · have hr:=run_append_nil (P:=Tryz.prog) w T ty _ i0 _ hT hi0 hz0 ⟨N,0,none⟩ 1 1 (scells [x]) hnl hone (by decide) (by decide) (by rw [hz2]; decide)
    obtain ⟨g1,g2⟩:=hgc 1 0 (by decide)
    have he:Ext w (w.drew.alloc (.cells ((scells [x]).toArray ++ Builtin.zeroCells (Value.slice none 0 0).cells (grownCap w 1 0 24 - 1)) 24)):=(Ext.drew w).trans (Ext.alloc _ _)
    refine ⟨_,_,_,hr,Or.inr ⟨_,_,_,rfl,hD _ (Nat.le_refl _),heap_alloc_new w.drew _,g1,g2,?_,zeroS_nonU _⟩,Mods.of_ext he,keep_ext he⟩
    rw [size_zeroCells,hzs]
    simp only [List.length_append,List.length_nil,List.length_cons]
    omega
  · by_cases hroom:xs.length + 1≤cap
    · have hcs:((scells xs).toArray ++ re).size = cap:=by rw [Array.size_append,List.size_toArray,scells_length,h5]
      have hr:=run_append_room (P:=Tryz.prog) w T ty _ i0 hT hi0 L xs.length cap _ h2 ⟨N,0,none⟩ 1 1 (scells [x]) hnl hone (scells_one _) hroom (by rw [hcs,hz1,hnl,hz1]; omega)
      have e:(((scells xs).toArray ++ re).toList.take (xs.length * i0.size) ++ scells [x] ++ ((scells xs).toArray ++ re).toList.drop (xs.length * i0.size + (scells [x]).length)).toArray = (scells (xs ++ [x])).toArray ++ (re.toList.drop 1).toArray:=by
        rw [hz1,hnl,hz1,Nat.mul_one,Array.toList_append,scells_append,← scells_length xs,List.take_left,← List.drop_drop,List.drop_left]
        apply Array.ext'
        simp
      rw [e] at hr
      refine ⟨_,_,_,hr,Or.inr ⟨L,cap,_,by simp,h1,setRow_heap w L _ _ _ _ h2,by simpa using hroom,h4,?_,?_⟩,⟨rfl,rfl,rfl,by simp,fun k hk hnd=>setRow_other w L k _ (fun e=>hnd (e ▸ h1))⟩,keep_but (h2.noU h6) fun k _ hk=>setRow_other w L k _ hk⟩
      · simp
        omega
      · rw [List.all_eq_true] at h6 ⊢
        intro x hx
        exact h6 x (List.mem_of_mem_drop hx)
    · have hr := run_append_grow (P := Tryz.prog) w T ty _ i0 _ hT hi0 hz0 ⟨L, 0, none⟩ xs.length cap (scells xs) (by rw [scells_length, hz1, Nat.mul_one]) (fun j u hj => by
          have hlt:j < (scells xs).length:=(List.getElem?_eq_some_iff.1 hj).1
          rw [add_plain0,blk_cell h2,Array.getElem?_append_left (by rw [List.size_toArray]; exact hlt),List.getElem?_toArray]; exact hj) ⟨N,0,none⟩ 1 1 (scells [x]) hnl hone (by omega) (by omega) (growslice_fits (by omega) (by rw [hz2]; omega))
      obtain ⟨g1,g2⟩:=hgc (xs.length + 1) cap (by omega)
      have he:Ext w (w.drew.alloc (.cells ((scells xs).toArray ++ (scells [x]).toArray ++ Builtin.zeroCells (Value.slice none 0 0).cells (grownCap w (xs.length + 1) cap 24 - (xs.length + 1))) 24)):=(Ext.drew w).trans (Ext.alloc _ _)
      refine ⟨_,_,_,hr,Or.inr ⟨w.heap.size,_,Builtin.zeroCells (Value.slice none 0 0).cells (grownCap w (xs.length + 1) cap 24 - (xs.length + 1)),by simp,hD _ (Nat.le_refl _),?_,by simpa using g1,g2,?_,zeroS_nonU _⟩,Mods.of_ext he,keep_ext he⟩
      · unfold SBk
        rw [scells_append]
        have e2:(scells xs ++ scells [x]).toArray = (scells xs).toArray ++ (scells [x]).toArray:=by simp
        rw [e2]
        exact heap_alloc_new w.drew _
      · rw [size_zeroCells,hzs]
        simp only [List.length_append,List.length_nil,List.length_cons]
        omega
theorem wpList_append_sh {w:World} {ops:Array Oper} {rest:List Oper} {o:Oper} {a:Act} {Q:Exit→Act→World→Prop} (hgd:o.guard = none) (s x:Operand) (T:TypeId) (hT:Tryz.prog.underlying T = some (.slice 24))
  (ho:o.op = .call { callee:=.builtin .append,args:=#[s,x],argTypes:=#[T,T] }) (D:Nat→Prop) (v:Value) (xs:List SH) (r:SH) (hs:a.eval s = v) (hown:OwnS w D v xs)
  (hx:a.eval x = .slice (some ⟨w.heap.size,0,none⟩) 1 1) (hl:xs.length≤1073741824) (hD:∀ k,w.heap.size≤k→D k)
  (h:∀ L cap w',OwnS w' D (.slice (some ⟨L,0,none⟩) (xs.length + 1) cap) (xs ++ [r])→Mods D w w'→Keep w w'→wpList Tryz.prog ops Q rest (a.put o.dst (.slice (some ⟨L,0,none⟩) (xs.length + 1:Nat) cap)) w'):wpList Tryz.prog ops Q (o :: rest) a (w.alloc (.cells #[.slice r.a r.n r.c] 24)):=by
 have hE:Ext w (w.alloc (.cells #[.slice r.a r.n r.c] 24)):=Ext.alloc _ _
 refine wpList_plain hgd fun K hK=>?_
 obtain ⟨L,cap,w',hrun,g1,g2,g3⟩:=run_append_sh T o.type hT (w.alloc (.cells #[.slice r.a r.n r.c] 24)) D v xs r w.heap.size (hown.ext hE) (by unfold SBk; exact heap_alloc_new _ _) hl (fun k hk=>hD k (Nat.le_trans hE.size hk))
 unfold Oper.wp
 simp [execOp,ho,resolve,invoke,builtin,hs,hx,hrun,Result.andThen]
 exact hK _ _ (by simpa using h L cap w' g1 ((Mods.of_ext hE).trans g2) (fun _ _ _ _ hU=>g3 _ _ _ _ (hU.ext hE)))
end Go.Proofs.YtcbgamclcgcodaaGreat
/- A list of polynomials of one's own. -/
set_option linter.unusedVariables false
namespace Go.Proofs.YtcbgamclcgcodaaGreat
open Go.RowKit Go.Front Go.Num
def ChM (w:World) (lo B:Nat) (v:Value) (ps:List (List Rat)):Prop:=∃ xs,OwnS w (· = B) v xs∧xs.length = ps.length∧∀ k,k < ps.length→∃ b,b ≠ B∧lo≤b∧LIn w (xs.getD k ⟨none,0,0⟩) (ps.getD k []) b (b + 1)
theorem ChM.nil (w:World) (lo B:Nat):ChM w lo B (.slice none 0 0) []:=⟨[],OwnS.nil _ _,rfl,fun k hk=>by simp at hk⟩
theorem ChM.ext {w w':World} {lo B:Nat} {v:Value} {ps:List (List Rat)} (h:ChM w lo B v ps) (he:Ext w w'):ChM w' lo B v ps :=
 let ⟨xs,h1,h2,h3⟩:=h; ⟨xs,h1.ext he,h2,fun k hk=>let ⟨b,h4,h6,h5⟩:=h3 k hk; ⟨b,h4,h6,h5.ext he⟩⟩
theorem ChM.sh {w:World} {lo B:Nat} {v:Value} {ps:List (List Rat)} (h:ChM w lo B v ps):∃ a c,v = .slice a ps.length c:=by
 obtain ⟨xs,h1,h2,-⟩:=h
 obtain ⟨a,n,c,e,e2⟩:=h1.sh
 exact ⟨a,c,by rw [e,e2,h2]⟩
theorem ChM.put {w1 w2:World} {lo B b:Nat} {v:Value} {ps:List (List Rat)} {T:TypeId} {cs:Array Value} (h:ChM w1 lo B v ps) (T2:PutB w1 b T cs w2) (hb:b ≠ B∧b < lo):ChM w2 lo B v ps:=by
 obtain ⟨xs,h1,h2,h3⟩:=h
 obtain ⟨hb,hlo⟩:=hb
 exact ⟨xs,h1.put T2 (fun e=>hb e),h2,fun k hk=>let ⟨c,h4,h6,h5⟩:=h3 k hk; ⟨c,h4,h6,h5.put T2 (by omega)⟩⟩
theorem ChM.mono {w:World} {lo lo' B:Nat} {v:Value} {ps:List (List Rat)} (h:ChM w lo B v ps) (hl:lo'≤lo):ChM w lo' B v ps :=
 let ⟨xs,h1,h2,h3⟩:=h; ⟨xs,h1,h2,fun k hk=>let ⟨c,h4,h6,h5⟩:=h3 k hk; ⟨c,h4,Nat.le_trans hl h6,h5⟩⟩
theorem getD_app1 {α:Type} {l m:List α} {d:α} {k:Nat} (h:k < l.length):(l ++ m).getD k d = l.getD k d:=by
 rw [List.getD_eq_getElem?_getD,List.getD_eq_getElem?_getD,List.getElem?_append_left h]
theorem getD_app2 {α:Type} {l:List α} {x d:α}:(l ++ [x]).getD l.length d = x:=by simp
theorem wpList_append_ch {w:World} {ops:Array Oper} {rest:List Oper} {o:Oper} {a:Act} {Q:Exit→Act→World→Prop} (hgd:o.guard = none) (s x:Operand) (T:TypeId) (hT:Tryz.prog.underlying T = some (.slice 24))
  (ho:o.op = .call { callee:=.builtin .append,args:=#[s,x],argTypes:=#[T,T] }) (lo B:Nat) (v:Value) (ps:List (List Rat)) (r:SH) (p:List Rat) (b:Nat) (hs:a.eval s = v) (hown:ChM w lo B v ps) (hr:LIn w r p b (b + 1)) (hb:b ≠ B) (hbo:lo≤b) (hbl:b < w.heap.size)
  (hx:a.eval x = .slice (some ⟨w.heap.size,0,none⟩) 1 1) (hl:ps.length≤1073741824)
  (h:∀ L cap w',ChM w' lo L (.slice (some ⟨L,0,none⟩) (ps.length + 1:Nat) cap) (ps ++ [p])→Mut B w w'→(L = B ∨ w.heap.size≤L)→L < w'.heap.size→wpList Tryz.prog ops Q rest (a.put o.dst (.slice (some ⟨L,0,none⟩) (ps.length + 1:Nat) cap)) w'):wpList Tryz.prog ops Q (o :: rest) a (w.alloc (.cells #[.slice r.a r.n r.c] 24)):=by
 obtain ⟨xs,h1,h2,h3⟩:=hown
 refine wpList_append_sh hgd s x T hT ho (fun k=>k = B ∨ w.heap.size≤k) v xs r hs (h1.mono fun k _ e=>Or.inl e) hx (by rw [h2]; exact hl) (fun k hk=>Or.inr hk) ?_
 intro L cap w' q1 q2 q3
 rw [h2]
 have hm:Mut B w w':=⟨q3,⟨q2.os,q2.tape,q2.output,q2.size,fun k hk hn=>q2.block k hk (fun h=>h.elim hn (fun h4=>Nat.lt_irrefl _ (Nat.lt_of_lt_of_le hk h4)))⟩⟩
 rw [h2] at q1
 rcases q1 with ⟨e,-⟩ | ⟨L2,cap2,re,e,g1,g2,g3⟩
 ·cases e
 ·obtain ⟨rfl,rfl⟩:L = L2∧cap = cap2:=by
   simp only [Value.slice.injEq,Option.some.injEq,Addr.mk.injEq] at e
   exact ⟨e.1.1,e.2.2⟩
  have hne:∀ c,c ≠ B→c < w.heap.size→c ≠ L:=fun c h4 h5 h6=>by
   rcases g1 with h7 | h7
   ·exact h4 (h6.trans h7)
   ·omega
  have hlt:∀ s q c,LIn w s q c (c + 1)→c ≠ B→lo≤c→∃ c',c' ≠ L∧lo≤c'∧LIn w' s q c' (c' + 1):=by
   intro s q c h4 h5 h9
   have h6:=h4.mut hm (by omega)
   by_cases h7:c < w.heap.size
   ·exact ⟨c,hne c h5 h7,h9,h6⟩
   ·obtain ⟨rs,k1,k2,k3⟩:=h6
    refine ⟨L + 1 + lo,by omega,by omega,rs,k1,k2,Or.inl ?_⟩
    rcases k3 with k3 | ⟨y,off,e3,k4,k5⟩
    ·exact k3
    ·obtain ⟨rs2,m1,m2,m3⟩:=h4
     rcases m1.in with m4 | ⟨y2,o2,e4,-,m5⟩
     ·exact m4
     ·rw [e3] at e4
      simp only [Option.some.injEq,Addr.mk.injEq] at e4
      omega
  refine h L cap w' ⟨xs ++ [r],Or.inr ⟨L,cap,re,by simp [h2],rfl,g2,g3⟩,by simp [h2],fun k hk=>?_⟩ hm g1 g2.lt
  rw [List.length_append,List.length_cons,List.length_nil] at hk
  by_cases hk2:k < ps.length
  ·obtain ⟨c,h4,h8,h5⟩:=h3 k hk2
   obtain ⟨c',h6,h9,h7⟩:=hlt _ _ c h5 h4 h8
   refine ⟨c',h6,h9,?_⟩
   rw [getD_app1 (by omega),getD_app1 hk2]
   exact h7
  ·obtain rfl:k = ps.length:=by omega
   obtain ⟨c',h6,h9,h7⟩:=hlt _ _ b hr hb hbo
   refine ⟨c',h6,h9,?_⟩
   rw [← h2,getD_app2,h2,getD_app2]
   exact h7
end Go.Proofs.YtcbgamclcgcodaaGreat
