/- Prototypes that came in. -/
import Derived.Test.YtohahgiidooijaaGreatQRJnR
import Derived.Test.YtohahgiidooijaaGreatQRK10
set_option linter.unusedVariables false
namespace Go.Proofs.YtohahgiidooijaaGreat
open Go.ChangeShapes Go.WideShapes Go.ChangeAt Go.RowKit Go.Front Go.Joins Go.Num
theorem mY{H:Type}{enc:TypeId×Value→H}{w:World}{t:TypeId}{f0 f1 f2 f3:Field}{fuel:Nat}{cs:List Value}{x:DataW H×List MemPlace}(ht:Tryz.prog.underlying t=some (.struct #[f0,f1,f2,f3]))(h:DataW.trod enc Tryz.prog w 0 (fun _=>true) true fuel t cs=some x) :
  ∃ y0 y1 y2 y3 n,cs.length=Tryz.prog.cellsOf t∧DataW.trod enc Tryz.prog w 0 (fun _=>true) true n f0.type ((cs.drop f0.offset).take (Tryz.prog.cellsOf f0.type))=some y0∧DataW.trod enc Tryz.prog w 0 (fun _=>true) true n f1.type ((cs.drop f1.offset).take (Tryz.prog.cellsOf f1.type))=some y1 ∧
   DataW.trod enc Tryz.prog w 0 (fun _=>true) true n f2.type ((cs.drop f2.offset).take (Tryz.prog.cellsOf f2.type))=some y2∧DataW.trod enc Tryz.prog w 0 (fun _=>true) true n f3.type ((cs.drop f3.offset).take (Tryz.prog.cellsOf f3.type))=some y3:=by
 obtain ⟨xs,n,_,rfl,hl,hlen,hf⟩:=DataW.trod_struct ht h
 match xs,hlen with
 | [y0,y1,y2,y3],_=>exact ⟨y0,y1,y2,y3,n,hl,by simpa using hf 0 f0 rfl,by simpa using hf 1 f1 rfl,by simpa using hf 2 f2 rfl,by simpa using hf 3 f3 rfl⟩
set_option maxRecDepth 100000 in
theorem rE{H:Type}{enc:TypeId×Value→H}{W:World}{r:Reach}{b0:Nat}{v:Value}{d:DataW H}{p:List MemPlace}(hv:Value.okWide Tryz.prog W r b0 66 v)(h:DataW.Trod enc Tryz.prog W 0 (fun _=>true) true 66 v d p) :
  ∃ x:PH,v=x.v∧iN W x.g∧(∃ re,RS W x.e re∧∀ r ∈ re,iN W r)∧(∃ rd,RS W x.d rd∧∀ r ∈ rd,iN W r)∧-9223372036854775808≤x.p∧x.p≤9223372036854775807:=by
 obtain ⟨cs,rfl,hsz⟩:=okWide_struct Tryz.underlying66 hv;obtain ⟨fuel,hf⟩:=h;obtain ⟨y0,y1,y2,y3,n,hl,h0,h1,h2,h3⟩:=mY Tryz.underlying66 hf;rw [show Tryz.prog.cellsOf 66=6 by kernel_rfl] at hl;rw [show Tryz.prog.cellsOf 30=3 by kernel_rfl] at h0;rw [show Tryz.prog.cellsOf 41=1 by kernel_rfl] at h1 h3;rw [show Tryz.prog.cellsOf 3=1 by kernel_rfl] at h2;obtain ⟨g,e0,u0⟩:=nt h0;obtain ⟨s1,e1,re,u1,v1⟩:=lj Tryz.underlying41 h1;obtain ⟨z,e2,-,hw⟩:=DataW.trod_int Tryz.underlying3 h2;obtain ⟨s3,e3,rd,u3,v3⟩:=lj Tryz.underlying41 h3;obtain ⟨hz1,hz2⟩:=lH hw;refine ⟨⟨g,s1,z,s3⟩,?_,u0,⟨re,u1,v1⟩,⟨rd,u3,v3⟩,hz1,hz2⟩;have key:∀ l:List Value,l.length=6→(l.drop 0).take 3=fW g→(l.drop 3).take 1=[s1.v]→(l.drop 4).take 1=[.int .i64 z]→(l.drop 5).take 1=[s3.v]→l=fW g++[s1.v,.int .i64 z,s3.v]:=by
  intro l hl a0 a1 a2 a3
  match l,hl with
  | [c0,c1,c2,c3,c4,c5],_ =>
   simp [fW] at a0 a1 a2 a3 ⊢;obtain ⟨rfl,rfl,rfl⟩:=a0;subst a1 a2 a3;simp
 have:cs=(fW g++[s1.v,.int .i64 z,s3.v]).toArray:=by
  simp only [Value.cells] at e0 e1 e2 e3 hl;have:=key cs.toList hl e0 e1 e2 e3;rw [←this]
 rw [this];rfl
end Go.Proofs.YtohahgiidooijaaGreat
