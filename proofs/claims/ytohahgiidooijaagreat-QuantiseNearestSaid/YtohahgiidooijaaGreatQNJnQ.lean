/- Word formats that came in. -/
import Derived.Test.YtohahgiidooijaaGreatQNJnR
import Derived.Test.YtohahgiidooijaaGreatQNK2
set_option linter.unusedVariables false
namespace Go.Proofs.YtohahgiidooijaaGreat
open Go.ChangeShapes Go.WideShapes Go.ChangeAt Go.RowKit Go.Front Go.Joins Go.Num
theorem f9{H:Type}{enc:TypeId×Value→H}{w:World}{t:TypeId}{f0 f1 f2 f3:Field}{fuel:Nat}{cs:List Value}{x:DataW H×List MemPlace}(ht:Tryz.prog.underlying t=some (.struct #[f0,f1,f2,f3]))(h:DataW.trod enc Tryz.prog w 0 (fun _=>true) true fuel t cs=some x) :
  ∃ y0 y1 y2 y3 n,cs.length=Tryz.prog.cellsOf t∧DataW.trod enc Tryz.prog w 0 (fun _=>true) true n f0.type ((cs.drop f0.offset).take (Tryz.prog.cellsOf f0.type))=some y0∧DataW.trod enc Tryz.prog w 0 (fun _=>true) true n f1.type ((cs.drop f1.offset).take (Tryz.prog.cellsOf f1.type))=some y1 ∧
   DataW.trod enc Tryz.prog w 0 (fun _=>true) true n f2.type ((cs.drop f2.offset).take (Tryz.prog.cellsOf f2.type))=some y2∧DataW.trod enc Tryz.prog w 0 (fun _=>true) true n f3.type ((cs.drop f3.offset).take (Tryz.prog.cellsOf f3.type))=some y3:=by
 obtain ⟨xs,n,_,rfl,hl,hlen,hf⟩:=DataW.trod_struct ht h
 match xs,hlen with
 | [y0,y1,y2,y3],_=>exact ⟨y0,y1,y2,y3,n,hl,by simpa using hf 0 f0 rfl,by simpa using hf 1 f1 rfl,by simpa using hf 2 f2 rfl,by simpa using hf 3 f3 rfl⟩
set_option maxRecDepth 100000 in
theorem jW{H:Type}{enc:TypeId×Value→H}{W:World}{r:Reach}{b0:Nat}{v:Value}{d:DataW H}{p:List MemPlace}(hv:Value.okWide Tryz.prog W r b0 24 v)(h:DataW.Trod enc Tryz.prog W 0 (fun _=>true) true 24 v d p):∃ x:Wd,v=x.v:=by
 obtain ⟨cs,rfl,hsz⟩:=okWide_struct Tryz.underlying24 hv;obtain ⟨fuel,hf⟩:=h;obtain ⟨y0,y1,y2,y3,n,hl,h0,h1,h2,h3⟩:=f9 Tryz.underlying24 hf;rw [show Tryz.prog.cellsOf 24=4 by kernel_rfl] at hl;rw [show Tryz.prog.cellsOf 3=1 by kernel_rfl] at h0 h1 h2 h3;obtain ⟨z0,e0,-,-⟩:=DataW.trod_int Tryz.underlying3 h0;obtain ⟨z1,e1,-,-⟩:=DataW.trod_int Tryz.underlying3 h1;obtain ⟨z2,e2,-,-⟩:=DataW.trod_int Tryz.underlying3 h2;obtain ⟨z3,e3,-,-⟩:=DataW.trod_int Tryz.underlying3 h3;refine ⟨⟨z0,z1,z2,z3⟩,?_⟩;have key:∀ l:List Value,l.length=4→(l.drop 0).take 1=[.int .i64 z0]→(l.drop 1).take 1=[.int .i64 z1]→(l.drop 2).take 1=[.int .i64 z2]→(l.drop 3).take 1=[.int .i64 z3]→l=[.int .i64 z0,.int .i64 z1,.int .i64 z2,.int .i64 z3]:=by
  intro l hl a0 a1 a2 a3
  match l,hl with
  | [c0,c1,c2,c3],_ =>
   simp at a0 a1 a2 a3 ⊢;exact ⟨a0,a1,a2,a3⟩
 have:cs=(#[.int .i64 z0,.int .i64 z1,.int .i64 z2,.int .i64 z3]:Array Value):=by
  simp only [Value.cells] at e0 e1 e2 e3 hl;have:=key cs.toList hl e0 e1 e2 e3;apply Array.ext';exact this
 rw [this]
end Go.Proofs.YtohahgiidooijaaGreat
