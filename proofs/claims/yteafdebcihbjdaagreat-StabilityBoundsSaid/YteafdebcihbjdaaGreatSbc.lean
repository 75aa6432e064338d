/- The power series of 1 / A for small A: the check of all cases in whole numbers. -/
import Derived.Test.YteafdebcihbjdaaGreatM10
set_option linter.unusedVariables false
namespace Go.Proofs.YteafdebcihbjdaaGreat.Sbd
open Go.RowKit Go.Front Go.Num Stab Go.Proofs.YteafdebcihbjdaaGreat
/-! ## In whole numbers -/
def nx (p1 p2 p3 : Int) (a b c : Int) : Int := -(p1 * a + p2 * b + p3 * c)
def bn : Nat → Nat → Nat
  | 0, j => if j = 0 then 1 else 0
  | 1, _ => 1
  | 2, j => j + 1
  | _, j => (j + 1) * (j + 2) / 2
def okB (d : Nat) (p1 p2 p3 : Int) : Nat → Nat → Int → Int → Int → Nat → Nat → Bool
  | 0, _, _, _, _, _, _ => true
  | g + 1, j, a, b, c, L, R =>
    Nat.ble (a.natAbs * L) (bn d j * R) && okB d p1 p2 p3 g (j + 1) (nx p1 p2 p3 a b c) a b (L * 20) (R * 9728)
def ins (p1 p2 p3 : Int) : Bool :=
  let B0 : Int := 3511808
  let B1 := p1 * 7220
  let B2 := p2 * 7600
  let B3 := p3 * 8000
  let C0 := B0 * B0 - B3 * B3
  let C1 := B1 * B0 - B3 * B2
  let C2 := B2 * B0 - B3 * B1
  decide (B3.natAbs < 3511808) && decide (C2.natAbs < C0.natAbs) && decide (C1.natAbs < (C0 + C2).natAbs)
def deg (x y z : Int) : Nat := if z ≠ 0 then 3 else if y ≠ 0 then 2 else if x ≠ 0 then 1 else 0
def q1 (x y z : Int) : Int := 64 * x + 8 * x * y + 8 * y * z
def q2 (x y z : Int) : Int := 64 * y + 8 * x * z + x * y * z
def q3 (z : Int) : Int := 64 * z
def one (x y z : Int) : Bool :=
  let p1 := 64 * x + 8 * x * y + 8 * y * z
  let p2 := 64 * y + 8 * x * z + x * y * z
  let p3 := 64 * z
  !ins p1 p2 p3 || okB (deg x y z) p1 (p2 * 512) (p3 * 262144) 20 0 1 0 0 1 1
def zs : List Int := [-7, -6, -5, -4, -3, -2, -1, 0, 1, 2, 3, 4, 5, 6, 7]
theorem row_m7 : (zs.all fun y => zs.all fun z => one (-7) y z) = true := by decide +kernel
theorem row_m6 : (zs.all fun y => zs.all fun z => one (-6) y z) = true := by decide +kernel
theorem row_m5 : (zs.all fun y => zs.all fun z => one (-5) y z) = true := by decide +kernel
theorem row_m4 : (zs.all fun y => zs.all fun z => one (-4) y z) = true := by decide +kernel
theorem row_m3 : (zs.all fun y => zs.all fun z => one (-3) y z) = true := by decide +kernel
theorem row_m2 : (zs.all fun y => zs.all fun z => one (-2) y z) = true := by decide +kernel
theorem row_m1 : (zs.all fun y => zs.all fun z => one (-1) y z) = true := by decide +kernel
theorem row_z0 : (zs.all fun y => zs.all fun z => one 0 y z) = true := by decide +kernel
theorem row_p1 : (zs.all fun y => zs.all fun z => one 1 y z) = true := by decide +kernel
theorem row_p2 : (zs.all fun y => zs.all fun z => one 2 y z) = true := by decide +kernel
theorem row_p3 : (zs.all fun y => zs.all fun z => one 3 y z) = true := by decide +kernel
theorem row_p4 : (zs.all fun y => zs.all fun z => one 4 y z) = true := by decide +kernel
theorem row_p5 : (zs.all fun y => zs.all fun z => one 5 y z) = true := by decide +kernel
theorem row_p6 : (zs.all fun y => zs.all fun z => one 6 y z) = true := by decide +kernel
theorem row_p7 : (zs.all fun y => zs.all fun z => one 7 y z) = true := by decide +kernel
theorem zs_mem {x : Int} (h1 : -7 ≤ x) (h2 : x ≤ 7) : x ∈ zs := by
  have : x = -7 ∨ x = -6 ∨ x = -5 ∨ x = -4 ∨ x = -3 ∨ x = -2 ∨ x = -1 ∨ x = 0 ∨ x = 1 ∨ x = 2 ∨ x = 3 ∨ x = 4 ∨ x = 5 ∨ x = 6 ∨ x = 7 := by omega
  unfold zs
  rcases this with h | h | h | h | h | h | h | h | h | h | h | h | h | h | h <;> subst h <;> decide
theorem all_ok {x y z : Int} (hx1 : -7 ≤ x) (hx2 : x ≤ 7) (hy1 : -7 ≤ y) (hy2 : y ≤ 7) (hz1 : -7 ≤ z) (hz2 : z ≤ 7) : one x y z = true := by
  have h : (zs.all fun y => zs.all fun z => one x y z) = true := by
    have : x = -7 ∨ x = -6 ∨ x = -5 ∨ x = -4 ∨ x = -3 ∨ x = -2 ∨ x = -1 ∨ x = 0 ∨ x = 1 ∨ x = 2 ∨ x = 3 ∨ x = 4 ∨ x = 5 ∨ x = 6 ∨ x = 7 := by omega
    rcases this with h | h | h | h | h | h | h | h | h | h | h | h | h | h | h <;> subst h
    · exact row_m7
    · exact row_m6
    · exact row_m5
    · exact row_m4
    · exact row_m3
    · exact row_m2
    · exact row_m1
    · exact row_z0
    · exact row_p1
    · exact row_p2
    · exact row_p3
    · exact row_p4
    · exact row_p5
    · exact row_p6
    · exact row_p7
  exact List.all_eq_true.1 (List.all_eq_true.1 h y (zs_mem hy1 hy2)) z (zs_mem hz1 hz2)
end Go.Proofs.YteafdebcihbjdaaGreat.Sbd
