/- Tb, Bsz -/
import Derived.Test.YtpieblkklbilgaaGreatQKM13
import Derived.Test.YtpieblkklbilgaaGreatQKM11
set_option linter.unusedVariables false
namespace Go.Proofs.YtpieblkklbilgaaGreat
open Go.RowKit Go.Front Go.Num
attribute [local go_sem] XW.cell XW.frozen
def Apart (R C:Nat) (w:World) (s:SH) (qs:List Rat):Prop:=∃ lo hi,LIn w s qs lo hi∧(R < lo ∨ hi≤R)∧(C < lo ∨ hi≤C)
theorem Apart.ext {R C:Nat} {w w':World} {s:SH} {qs:List Rat} (h:Apart R C w s qs) (he:Ext w w'):Apart R C w' s qs:=let ⟨lo,hi,h1,h2⟩:=h;⟨lo,hi,h1.ext he,h2⟩
theorem Apart.can {R C:Nat} {w:World} {s:SH} {qs:List Rat} (h:Apart R C w s qs):CanL w s qs:=let ⟨_,_,h1,_⟩:=h;h1.can
theorem Apart.put {R C b:Nat} {w1 w2:World} {s:SH} {qs:List Rat} {T:TypeId} {cs:Array Value} (h:Apart R C w1 s qs) (T2:PutB w1 b T cs w2) (hb:b=R ∨ b=C):Apart R C w2 s qs:=by
  obtain ⟨lo,hi,h1,h2,h3⟩:=h
  exact ⟨lo, hi, h1.put T2 (by rcases hb with rfl | rfl; · exact h2
                               · exact h3),h2,h3⟩
end Go.Proofs.YtpieblkklbilgaaGreat
namespace Go.Proofs.YtpieblkklbilgaaGreat
open Go.RowKit Go.Front Go.Num
end Go.Proofs.YtpieblkklbilgaaGreat
