/- Binomial of the reference 07; Bound of package stability. -/
import Derived.Test.YteafdebcihbjdaaGreatPow
import Derived.Test.YteafdebcihbjdaaGreatM21
set_option linter.unusedVariables false
namespace Go.Proofs.YteafdebcihbjdaaGreat
open Go.RowKit Go.Front Go.Num
attribute [local go_sem] XW.cell XW.frozen
def bnd (m : Nat) : Nat → Rat
  | 0 => 1
  | i + 1 => bnd m i * (((m + (i + 1) : Nat) : Int) : Rat) / (((i + 1 : Nat) : Int) : Rat)
theorem bnd_sz {m : Nat} (hm : m ≤ 64) : ∀ i, i ≤ 100 → Sz (2 * i + 1) (bnd m i)
  | 0, _ => Sz.one
  | i + 1, h => by
    have h1 := bnd_sz hm i (by omega)
    have h2 : Sz 1 (((m + (i + 1) : Nat) : Int) : Rat) := Sz.int (by unfold W32; omega)
    have h3 : Sz 1 (((i + 1 : Nat) : Int) : Rat) := Sz.int (by unfold W32; omega)
    exact ((h1.mul h2).div h3).mono (by omega)
end Go.Proofs.YteafdebcihbjdaaGreat
