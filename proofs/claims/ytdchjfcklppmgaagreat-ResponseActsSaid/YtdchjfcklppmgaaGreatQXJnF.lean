/- Filters that came in. -/
import Derived.Test.YtdchjfcklppmgaaGreatQXJnR
import Derived.Test.YtdchjfcklppmgaaGreatQXRp1
set_option linter.unusedVariables false
namespace Go.Proofs.YtdchjfcklppmgaaGreat
open Go.ChangeShapes Go.WideShapes Go.ChangeAt Go.RowKit Go.Front Go.Joins Go.Num
theorem open_filter0 {H:Type} {enc:TypeId × Value→H} {W:World} {fuel:Nat} {cs:List Value} {x:DataW H × List MemPlace} (h:DataW.trod enc Tryz.prog W 0 (fun _=>true) true fuel 85 cs = some x) :
  ∃ f:FH,cs = [f.b.v,f.a.v]∧(∃ rb,RS W f.b rb∧∀ r ∈ rb,RatIn W r)∧∃ ra,RS W f.a ra∧∀ r ∈ ra,RatIn W r:=by
 obtain ⟨y0,y1,n,hx,hl,h0,h1⟩:=trod_struct2 Tryz.underlying85 h
 rw [show Tryz.prog.cellsOf 85 = 2 by kernel_rfl] at hl
 rw [show Tryz.prog.cellsOf 41 = 1 by kernel_rfl] at h0 h1
 match cs,hl with
 | [c0,c1],_ =>
  obtain ⟨s0,e0,rb,u0,v0⟩:=open_rats0 Tryz.underlying41 h0
  obtain ⟨s1,e1,ra,u1,v1⟩:=open_rats0 Tryz.underlying41 h1
  simp at e0 e1
  subst e0 e1
  exact ⟨⟨s0,s1⟩,rfl,⟨rb,u0,v0⟩,ra,u1,v1⟩
set_option maxRecDepth 100000 in
theorem open_filter {H:Type} {enc:TypeId × Value→H} {W:World} {r:Reach} {b0:Nat} {v:Value} {d:DataW H} {p:List MemPlace} (hv:Value.okWide Tryz.prog W r b0 85 v) (h:DataW.Trod enc Tryz.prog W 0 (fun _=>true) true 85 v d p) :
  ∃ f:FH,v = f.v∧(∃ rb,RS W f.b rb∧∀ r ∈ rb,RatIn W r)∧∃ ra,RS W f.a ra∧∀ r ∈ ra,RatIn W r:=by
 obtain ⟨cs,rfl,hsz⟩:=okWide_struct Tryz.underlying85 hv
 obtain ⟨fuel,hf⟩:=h
 obtain ⟨f,hr,h1,h2⟩:=open_filter0 hf
 refine ⟨f,?_,h1,h2⟩
 have:cs = [f.b.v,f.a.v].toArray:=by
  simp only [Value.cells] at hr
  rw [← hr]
 rw [this]
end Go.Proofs.YtdchjfcklppmgaaGreat
