/- Intervals that came in. -/
import Derived.Test.YtpieblkklbilgaaGreatQKJR
import Derived.Test.YtpieblkklbilgaaGreatQKSI
import Derived.Test.YtpieblkklbilgaaGreatQKQL
import Derived.Test.YtpieblkklbilgaaGreatQKBn8
set_option linter.unusedVariables false
namespace Go.Proofs.YtpieblkklbilgaaGreat
open Go.ChangeShapes Go.WideShapes Go.ChangeAt Go.RowKit Go.Front Go.Joins Go.Num
theorem open_iv0 {H:Type} {enc:TypeId × Value→H} {W:World} {fuel:Nat} {cs:List Value} {x:DataW H × List MemPlace} (h:DataW.trod enc Tryz.prog W 0 (fun _=>true) true fuel 44 cs=some x) :
  ∃ s t:RH,cs=rcell s ++ rcell t∧RatIn W s∧RatIn W t:=by
 obtain ⟨y0,y1,n,hx,hl,h0,h1⟩:=trod_struct2 Tryz.underlying44 h
 rw [show Tryz.prog.cellsOf 44=6 by kernel_rfl] at hl
 rw [show Tryz.prog.cellsOf 30=3 by kernel_rfl] at h0 h1
 obtain ⟨s,e0,u0⟩:=open_rat0 h0
 obtain ⟨t,e1,u1⟩:=open_rat0 h1
 refine ⟨s,t,?_,u0,u1⟩
 match cs,hl with
 | [c0,c1,c2,c3,c4,c5],_ =>
  simp [rcell] at e0 e1 ⊢
  obtain ⟨rfl,rfl,rfl⟩:=e0
  obtain ⟨rfl,rfl,rfl⟩:=e1
  simp
end Go.Proofs.YtpieblkklbilgaaGreat
/- Certificates that came in. -/
set_option linter.unusedVariables false
namespace Go.Proofs.YtpieblkklbilgaaGreat
open Go.ChangeShapes Go.WideShapes Go.ChangeAt Go.RowKit Go.Front Go.Joins Go.Num
theorem cells6 {W:World} {base:Nat} {p:Addr} {cs:List Value} (h:W.cells? base p 6=some cs):∃ c0 c1 c2 c3 c4 c5,cs=[c0,c1,c2,c3,c4,c5]∧W.cell? (p.add 0)=some c0∧W.cell? (p.add 1)=some c1∧W.cell? (p.add 2)=some c2∧W.cell? (p.add 3)=some c3∧W.cell? (p.add 4)=some c4∧W.cell? (p.add 5)=some c5:=by
 unfold World.cells? at h
 split at h
 ·cases e0:W.cell? (p.add 0) with
  | none=>simp [List.range,List.range.loop,e0] at h
  | some c0 =>
   cases e1:W.cell? (p.add 1) with
   | none=>simp [List.range,List.range.loop,e0,e1] at h
   | some c1 =>
    cases e2:W.cell? (p.add 2) with
    | none=>simp [List.range,List.range.loop,e0,e1,e2] at h
    | some c2 =>
     cases e3:W.cell? (p.add 3) with
     | none=>simp [List.range,List.range.loop,e0,e1,e2,e3] at h
     | some c3 =>
      cases e4:W.cell? (p.add 4) with
      | none=>simp [List.range,List.range.loop,e0,e1,e2,e3,e4] at h
      | some c4 =>
       cases e5:W.cell? (p.add 5) with
       | none=>simp [List.range,List.range.loop,e0,e1,e2,e3,e4,e5] at h
       | some c5 =>
        simp [List.range,List.range.loop,e0,e1,e2,e3,e4,e5] at h
        exact ⟨c0,c1,c2,c3,c4,c5,h.symm,rfl,rfl,rfl,rfl,rfl,rfl⟩
 ·cases h
def two2 (f:Nat→RH × RH):Nat→List RH
 | 0=>[]
 | n+1=>two2 f n ++ [(f n).1,(f n).2]
theorem two2_len (f:Nat→RH × RH):∀ n,(two2 f n).length=n * 2
 | 0=>rfl
 | n+1=>by show (two2 f n ++ _).length=_;rw [List.length_append,two2_len f n];simp only [List.length_cons,List.length_nil];omega
theorem two2_at (f:Nat→RH × RH):∀ n k,k < n→(two2 f n).getD (2 * k) default=(f k).1∧(two2 f n).getD (2 * k+1) default=(f k).2
 | 0,k,h=>by omega
 | n+1,k,h=>by
  have hl:=two2_len f n
  show (two2 f n ++ _).getD _ _=_∧(two2 f n ++ _).getD _ _=_
  by_cases hk:k < n
  ·have ih:=two2_at f n k hk
   rw [List.getD_eq_getElem?_getD,List.getD_eq_getElem?_getD,List.getElem?_append_left (by omega),List.getElem?_append_left (by omega),← List.getD_eq_getElem?_getD,← List.getD_eq_getElem?_getD]
   exact ih
  ·obtain rfl:k=n:=by omega
   rw [List.getD_eq_getElem?_getD,List.getD_eq_getElem?_getD,List.getElem?_append_right (by omega),List.getElem?_append_right (by omega),hl,show 2 * k - k * 2=0 by omega,show 2 * k+1 - k * 2=1 by omega]
   exact ⟨rfl,rfl⟩
theorem two2_mem (f:Nat→RH × RH) {P:RH→Prop}:∀ n,(∀ k,k < n→P (f k).1∧P (f k).2)→∀ r ∈ two2 f n,P r
 | 0,_,r,hr=>by simp [two2] at hr
 | n+1,h,r,hr=>by
  rcases List.mem_append.1 hr with h1 | h1
  ·exact two2_mem f n (fun k hk=>h k (by omega)) r h1
  ·simp only [List.mem_cons,List.not_mem_nil,or_false] at h1
   rcases h1 with rfl | rfl
   ·exact (h n (by omega)).1
   ·exact (h n (by omega)).2
theorem open_ivs0 {H:Type} {enc:TypeId × Value→H} {W:World} {t:TypeId} {fuel:Nat} {cs:List Value} {x:DataW H × List MemPlace} (ht:Tryz.prog.underlying t=some (.slice 44)) (h:DataW.trod enc Tryz.prog W 0 (fun _=>true) true fuel t cs=some x) :
  ∃ s:SH,cs=[s.v]∧∃ rs,IvS W s rs∧∀ r ∈ rs,RatIn W r:=by
 rcases DataW.trod_slice ht h with ⟨hcs,-⟩ | ⟨a,len,cap,elems,rest,n,-,rfl,-,-,hl,hm,hlen,hel,-,-⟩
 ·exact ⟨⟨none,0,0⟩,hcs,[],IvS.nil _,fun r hr=>by simp at hr⟩
 ·rw [show Tryz.prog.cellsOf 44=6 by kernel_rfl] at hel
  simp only [maxLen] at hm
  have each:∀ i,i < len→∃ r:RH × RH,(RatIn W r.1∧RatIn W r.2)∧(W.cell? ((a.add (i * 6)).add 0)=some (.bool r.1.neg)∧W.cell? ((a.add (i * 6)).add 1)=some (.slice r.1.a r.1.n r.1.c)∧W.cell? ((a.add (i * 6)).add 2)=some (.slice r.1.b r.1.m r.1.d)) ∧
    W.cell? ((a.add (i * 6)).add 3)=some (.bool r.2.neg)∧W.cell? ((a.add (i * 6)).add 4)=some (.slice r.2.a r.2.n r.2.c)∧W.cell? ((a.add (i * 6)).add 5)=some (.slice r.2.b r.2.m r.2.d):=by
   intro i hi
   have h1:=hel i hi
   rw [List.getElem?_eq_getElem (by omega),Option.bind_eq_some_iff] at h1
   obtain ⟨cs,h2,h3⟩:=h1
   obtain ⟨s,t,rfl,hs,ht⟩:=open_iv0 h3
   obtain ⟨c0,c1,c2,c3,c4,c5,e,g0,g1,g2,g3,g4,g5⟩:=cells6 h2
   simp only [rcell,List.cons_append,List.nil_append,List.cons.injEq,and_true] at e
   obtain ⟨rfl,rfl,rfl,rfl,rfl,rfl⟩:=e
   exact ⟨(s,t),⟨hs,ht⟩,⟨g0,g1,g2⟩,g3,g4,g5⟩
  obtain ⟨f,hf⟩:∃ f:Nat→RH × RH,∀ i,i < len→(RatIn W (f i).1∧RatIn W (f i).2)∧(W.cell? ((a.add (i * 6)).add 0)=some (.bool (f i).1.neg)∧W.cell? ((a.add (i * 6)).add 1)=some (.slice (f i).1.a (f i).1.n (f i).1.c)∧W.cell? ((a.add (i * 6)).add 2)=some (.slice (f i).1.b (f i).1.m (f i).1.d)) ∧
    W.cell? ((a.add (i * 6)).add 3)=some (.bool (f i).2.neg)∧W.cell? ((a.add (i * 6)).add 4)=some (.slice (f i).2.a (f i).2.n (f i).2.c)∧W.cell? ((a.add (i * 6)).add 5)=some (.slice (f i).2.b (f i).2.m (f i).2.d):=by
   refine ⟨fun i=>if h:i < len then Classical.choose (each i h) else default,fun i hi=>?_⟩
   simp only [hi,dite_true]
   exact Classical.choose_spec (each i hi)
  refine ⟨⟨some a,len,cap⟩,rfl,two2 f len,⟨two2_len f len,hl,by omega,?_⟩,two2_mem f len (fun k hk=>(hf k hk).1)⟩
  by_cases h0:len=0
  ·exact Or.inl h0
  ·obtain ⟨b,off,spot⟩:=a
   have h1:=(hf 0 (by omega)).2.1.1
   have hspot:spot=none:=by simpa [Addr.add] using World.cell?_spot h1
   subst hspot
   refine Or.inr ⟨b,off,rfl,fun k hk=>?_⟩
   simp only at hk
   obtain ⟨-,⟨g0,g1,g2⟩,g3,g4,g5⟩:=hf (k / 2) (by omega)
   obtain ⟨e1,e2⟩:=two2_at f len (k / 2) (by omega)
   rw [add_plain,add_plain] at g0 g1 g2 g3 g4 g5
   rcases Nat.mod_two_eq_zero_or_one k with hp | hp
   ·rw [show 2 * (k / 2)=k by omega] at e1
    rw [e1,show off+k * 3=off+k / 2 * 6 by omega]
    exact ⟨g0,g1,g2⟩
   ·rw [show 2 * (k / 2)+1=k by omega] at e2
    rw [e2,show off+k * 3=off+k / 2 * 6+3 by omega]
    exact ⟨g3,g4,g5⟩
set_option maxRecDepth 100000 in
theorem open_sign {H:Type} {enc:TypeId × Value→H} {W:World} {r:Reach} {b0:Nat} {v:Value} {d:DataW H} {p:List MemPlace} (hv:Value.okWide Tryz.prog W r b0 48 v) (h:DataW.Trod enc Tryz.prog W 0 (fun _=>true) true 48 v d p) :
  ∃ x:(RH × RH) × SH,v=SgV x∧RatIn W x.1.1∧RatIn W x.1.2∧∃ rs,IvS W x.2 rs∧∀ r ∈ rs,RatIn W r:=by
 obtain ⟨cs,rfl,hsz⟩:=okWide_struct Tryz.underlying48 hv
 obtain ⟨fuel,hf⟩:=h
 obtain ⟨y0,y1,n,hx,hl,h0,h1⟩:=trod_struct2 Tryz.underlying48 hf
 rw [show Tryz.prog.cellsOf 48=7 by kernel_rfl] at hl
 rw [show Tryz.prog.cellsOf 44=6 by kernel_rfl] at h0
 rw [show Tryz.prog.cellsOf 46=1 by kernel_rfl] at h1
 obtain ⟨s,t,e0,u0,u1⟩:=open_iv0 h0
 obtain ⟨xs,e1,rs,u2,u3⟩:=open_ivs0 Tryz.underlying46 h1
 refine ⟨((s,t),xs),?_,u0,u1,rs,u2,u3⟩
 have:cs=(rcell s ++ rcell t ++ [xs.v]).toArray:=by
  simp only [Value.cells] at e0 e1 hl
  rw [List.drop_zero] at e0
  have e3:cs.toList=cs.toList.take 6 ++ (cs.toList.drop 6).take 1:=by
   have h5:(cs.toList.drop 6).take 1=cs.toList.drop 6:=List.take_of_length_le (by rw [List.length_drop];omega)
   rw [h5,List.take_append_drop]
  apply Array.ext'
  rw [e3,e0,e1]
 rw [this]
 rfl
end Go.Proofs.YtpieblkklbilgaaGreat
