import Derived.Test.YtafgmcimcbhhjaaGreatQFJnR
set_option linter.unusedVariables false
namespace Go.Proofs.YtafgmcimcbhhjaaGreat
open Go.ChangeShapes Go.WideShapes Go.ChangeAt Go.RowKit Go.Front Go.Joins Go.Num
theorem xC{H:Type}{enc:TypeId×Value→H}{W:World}{fuel:Nat}{cs:List Value}{x:DataW H×List MemPlace}(h:DataW.trod enc Tryz.prog W 0 (fun _=>true) true fuel 38 cs=some x) :
  ∃ s t:RH,cs=fp s++fp t∧fP W s∧fP W t:=by
 obtain ⟨y0,y1,n,hx,hl,h0,h1⟩:=trod_struct2 Tryz.underlying38 h;rw [show Tryz.prog.cellsOf 38=6 by kernel_rfl] at hl;rw [show Tryz.prog.cellsOf 34=3 by kernel_rfl] at h0 h1;obtain ⟨s,e0,u0⟩:=jh h0;obtain ⟨t,e1,u1⟩:=jh h1;refine ⟨s,t,?_,u0,u1⟩
 match cs,hl with
 | [c0,c1,c2,c3,c4,c5],_ =>
  simp [fp] at e0 e1 ⊢;obtain ⟨rfl,rfl,rfl⟩:=e0;obtain ⟨rfl,rfl,rfl⟩:=e1;simp
set_option maxRecDepth 100000 in
theorem AD{H:Type}{enc:TypeId×Value→H}{W:World}{r:Reach}{b0:Nat}{v:Value}{d:DataW H}{p:List MemPlace}(hv:Value.okWide Tryz.prog W r b0 38 v)(h:DataW.Trod enc Tryz.prog W 0 (fun _=>true) true 38 v d p) :
  ∃ x:RH×RH,v=IvV x∧fP W x.1∧fP W x.2:=by
 obtain ⟨cs,rfl,hsz⟩:=okWide_struct Tryz.underlying38 hv;obtain ⟨fuel,hf⟩:=h;obtain ⟨s,t,hr,h1,h2⟩:=xC hf;refine ⟨(s,t),?_,h1,h2⟩;have:cs=(fp s++fp t).toArray:=by
  simp only [Value.cells] at hr;rw [←hr]
 rw [this];rfl
end Go.Proofs.YtafgmcimcbhhjaaGreat
