/-
  No cell of these rows narrows 'for every input' (looked for: loops, veiled, ifaces, maps, wideKeys, modest, calm, conditions, laid).
  DERIVED. THE GIVEN ROWS OF THIS SEAT. 5 by the template 'for every input the law returns true; each argument reads behind the call as it read before'; 0 by the template 'total and deterministic' (their statements: YtipnfjpilcoeoaaTotals.lean).
  GIVEN WITH THE SEED: the statements are not yours to turn. If you find one false, say at which input.
  Laid BY PROGRAM, IN A SANDBOX (cutbox-rows.mjs): the forced cells as the released guide's own fill.sh prints them over the translation f59a2cf57800efb8… (all of the seat's roots in one cut). By AI agents, Wed Nov 11 2026. No macro, syntax, notation, axiom, sorry.
-/
import Derived.Test.YtipnfjpilcoeoaaChecked
import GoSem.Claim
import GoSem.ClaimJoined
import GoSem.ClaimMapViews
import Derived.JoinedTies
import Derived.KernelRfl
namespace Go.Proofs.Ytipnfjpilcoeoaa
/- THE CELL 'sum', in the pinned program and in every row, IS THE sha256 OF THE DUMP (.gsa) THAT YtipnfjpilcoeoaaProg.lean LOADS. Nothing in Lean hashes anything: it is a label: what it is worth is what the hold of that sum in a sandbox is worth. -/
noncomputable def Try.pinned : Pinned := { name := "ytipnfjpilcoeoaa", sum := "f59a2cf57800efb8530bd39c4d456ae827c856ce4642f96beae12dd3a577d9f1", checked := Try.checked }
namespace Rows
def none {H : Type} : Left H := { results := [], args := [] }

/-- 'dspcompilerlaw18.StabilityBack': WHATEVER THE INPUT: true; the input reads as it did. -/
def stabilityBackSpec : ChangeSpec := { name := "stabilityBack", fn := fun _ => fun
  | [d] => { results := [.lit (.bool true)], args := [d] }
  | _ => none }
def stabilityBackRow : OpenClaim := { program := "ytipnfjpilcoeoaa", sum := "f59a2cf57800efb8530bd39c4d456ae827c856ce4642f96beae12dd3a577d9f1", func := "dspcompiler/dspcompilerlaw18.StabilityBack", spec := "stabilityBack", unfollowed := true, recurses := true, apart := false }
def StabilityBackSaid : Prop := stabilityBackRow.holds Try.pinned (OpenSpec.ofChange stabilityBackSpec)

/-- ITS FALSE NEIGHBOUR: 'it returns false'. Refute it at one input. -/
def stabilityBackWrong : ChangeSpec := { name := "stabilityBack", fn := fun _ => fun
  | [d] => { results := [.lit (.bool false)], args := [d] }
  | _ => none }
def StabilityBackWrongFalsely : Prop := stabilityBackRow.holds Try.pinned (OpenSpec.ofChange stabilityBackWrong)

/-- 'dspcompilerlaw18.StabilityProducts': WHATEVER THE INPUT: true; the input reads as it did. -/
def stabilityProductsSpec : ChangeSpec := { name := "stabilityProducts", fn := fun _ => fun
  | [d1, d2] => { results := [.lit (.bool true)], args := [d1, d2] }
  | _ => none }
def stabilityProductsRow : OpenClaim := { program := "ytipnfjpilcoeoaa", sum := "f59a2cf57800efb8530bd39c4d456ae827c856ce4642f96beae12dd3a577d9f1", func := "dspcompiler/dspcompilerlaw18.StabilityProducts", spec := "stabilityProducts", unfollowed := true, recurses := true, apart := false }
def StabilityProductsSaid : Prop := stabilityProductsRow.holds Try.pinned (OpenSpec.ofChange stabilityProductsSpec)

/-- ITS FALSE NEIGHBOUR: 'it returns false'. Refute it at one input. -/
def stabilityProductsWrong : ChangeSpec := { name := "stabilityProducts", fn := fun _ => fun
  | [d1, d2] => { results := [.lit (.bool false)], args := [d1, d2] }
  | _ => none }
def StabilityProductsWrongFalsely : Prop := stabilityProductsRow.holds Try.pinned (OpenSpec.ofChange stabilityProductsWrong)

/-- 'dspcompilerlaw18.StabilityRadius': WHATEVER THE INPUT: true; the input reads as it did. -/
def stabilityRadiusSpec : ChangeSpec := { name := "stabilityRadius", fn := fun _ => fun
  | [d1, d2, d3] => { results := [.lit (.bool true)], args := [d1, d2, d3] }
  | _ => none }
def stabilityRadiusRow : OpenClaim := { program := "ytipnfjpilcoeoaa", sum := "f59a2cf57800efb8530bd39c4d456ae827c856ce4642f96beae12dd3a577d9f1", func := "dspcompiler/dspcompilerlaw18.StabilityRadius", spec := "stabilityRadius", unfollowed := true, recurses := true, apart := false }
def StabilityRadiusSaid : Prop := stabilityRadiusRow.holds Try.pinned (OpenSpec.ofChange stabilityRadiusSpec)

/-- ITS FALSE NEIGHBOUR: 'it returns false'. Refute it at one input. -/
def stabilityRadiusWrong : ChangeSpec := { name := "stabilityRadius", fn := fun _ => fun
  | [d1, d2, d3] => { results := [.lit (.bool false)], args := [d1, d2, d3] }
  | _ => none }
def StabilityRadiusWrongFalsely : Prop := stabilityRadiusRow.holds Try.pinned (OpenSpec.ofChange stabilityRadiusWrong)

/-- 'dspcompilerlaw08.ChebyshevNests': WHATEVER THE INPUT: true; the input reads as it did. -/
def chebyshevNestsSpec : ChangeSpec := { name := "chebyshevNests", fn := fun _ => fun
  | [d1, d2] => { results := [.lit (.bool true)], args := [d1, d2] }
  | _ => none }
def chebyshevNestsRow : OpenClaim := { program := "ytipnfjpilcoeoaa", sum := "f59a2cf57800efb8530bd39c4d456ae827c856ce4642f96beae12dd3a577d9f1", func := "dspcompiler/dspcompilerlaw08.ChebyshevNests", spec := "chebyshevNests", unfollowed := true, recurses := true, apart := false }
def ChebyshevNestsSaid : Prop := chebyshevNestsRow.holds Try.pinned (OpenSpec.ofChange chebyshevNestsSpec)

/-- ITS FALSE NEIGHBOUR: 'it returns false'. Refute it at one input. -/
def chebyshevNestsWrong : ChangeSpec := { name := "chebyshevNests", fn := fun _ => fun
  | [d1, d2] => { results := [.lit (.bool false)], args := [d1, d2] }
  | _ => none }
def ChebyshevNestsWrongFalsely : Prop := chebyshevNestsRow.holds Try.pinned (OpenSpec.ofChange chebyshevNestsWrong)

/-- 'dspcompilerlaw08.ChebyshevBasis': WHATEVER THE INPUT: true; the input reads as it did. -/
def chebyshevBasisSpec : ChangeSpec := { name := "chebyshevBasis", fn := fun _ => fun
  | [d1, d2] => { results := [.lit (.bool true)], args := [d1, d2] }
  | _ => none }
def chebyshevBasisRow : OpenClaim := { program := "ytipnfjpilcoeoaa", sum := "f59a2cf57800efb8530bd39c4d456ae827c856ce4642f96beae12dd3a577d9f1", func := "dspcompiler/dspcompilerlaw08.ChebyshevBasis", spec := "chebyshevBasis", unfollowed := true, recurses := true, apart := false }
def ChebyshevBasisSaid : Prop := chebyshevBasisRow.holds Try.pinned (OpenSpec.ofChange chebyshevBasisSpec)

/-- ITS FALSE NEIGHBOUR: 'it returns false'. Refute it at one input. -/
def chebyshevBasisWrong : ChangeSpec := { name := "chebyshevBasis", fn := fun _ => fun
  | [d1, d2] => { results := [.lit (.bool false)], args := [d1, d2] }
  | _ => none }
def ChebyshevBasisWrongFalsely : Prop := chebyshevBasisRow.holds Try.pinned (OpenSpec.ofChange chebyshevBasisWrong)

/- THE SECOND FORM. 'bulk': how many values and letters a reading holds, each counted each time it is reached (what is shared counts as often as it is met; a slice's spare places count too). A statement '..UptoSaid' is the law's where the arguments, and the package variables that the reading takes, are together of bulk at most 1048576: NARROWER than '..Said'. Prove '..Said' where nothing that the law and all that it calls make is longer than what came in: it says more and counts as full. Else prove '..UptoSaid'. A law counts once. -/
mutual
def uptoBulk {H : Type} : DataW H → Nat
  | .lit (.string bytes) => bytes.length + 1
  | .lit _ => 1
  | .nil => 1
  | .ptr d => uptoBulk d + 1
  | .slice elems spare => uptoBulkAll elems + uptoBulkAll spare + 1
  | .agg parts => uptoBulkAll parts + 1
  | .iface _ d => uptoBulk d + 1
  | .map entries => uptoBulkEntries entries + 1
  | .held _ => 1
def uptoBulkAll {H : Type} : List (DataW H) → Nat
  | [] => 0
  | d :: r => uptoBulk d + uptoBulkAll r
def uptoBulkEntries {H : Type} : List (Lit × DataW H) → Nat
  | [] => 0
  | x :: r => uptoBulkEntry x + uptoBulkEntries r
def uptoBulkEntry {H : Type} : Lit × DataW H → Nat
  | (.string bytes, d) => bytes.length + uptoBulk d + 1
  | (_, d) => uptoBulk d + 1
 end
def uptoSmall : (H : Type) → List (DataW H) → Bool := fun _ ds => decide (uptoBulkAll ds ≤ 1048576)
def OpenSpec.upto (s : _root_.Go.ChangeSpec) : _root_.Go.OpenSpec := { _root_.Go.OpenSpec.ofChange s with cond := some uptoSmall }

/-- 'dspcompilerlaw18.StabilityBack', WHERE WHAT IT READS IS OF BULK AT MOST 1048576: true; the input reads as it did. -/
def stabilityBackUptoRow : OpenClaim := { program := "ytipnfjpilcoeoaa", sum := "f59a2cf57800efb8530bd39c4d456ae827c856ce4642f96beae12dd3a577d9f1", func := "dspcompiler/dspcompilerlaw18.StabilityBack", spec := "stabilityBack", unfollowed := true, recurses := true, apart := false, narrowed := true }
def StabilityBackUptoSaid : Prop := stabilityBackUptoRow.holds Try.pinned (OpenSpec.upto stabilityBackSpec)

/-- 'dspcompilerlaw18.StabilityProducts', WHERE WHAT IT READS IS OF BULK AT MOST 1048576: true; the input reads as it did. -/
def stabilityProductsUptoRow : OpenClaim := { program := "ytipnfjpilcoeoaa", sum := "f59a2cf57800efb8530bd39c4d456ae827c856ce4642f96beae12dd3a577d9f1", func := "dspcompiler/dspcompilerlaw18.StabilityProducts", spec := "stabilityProducts", unfollowed := true, recurses := true, apart := false, narrowed := true }
def StabilityProductsUptoSaid : Prop := stabilityProductsUptoRow.holds Try.pinned (OpenSpec.upto stabilityProductsSpec)

/-- 'dspcompilerlaw18.StabilityRadius', WHERE WHAT IT READS IS OF BULK AT MOST 1048576: true; the input reads as it did. -/
def stabilityRadiusUptoRow : OpenClaim := { program := "ytipnfjpilcoeoaa", sum := "f59a2cf57800efb8530bd39c4d456ae827c856ce4642f96beae12dd3a577d9f1", func := "dspcompiler/dspcompilerlaw18.StabilityRadius", spec := "stabilityRadius", unfollowed := true, recurses := true, apart := false, narrowed := true }
def StabilityRadiusUptoSaid : Prop := stabilityRadiusUptoRow.holds Try.pinned (OpenSpec.upto stabilityRadiusSpec)

/-- 'dspcompilerlaw08.ChebyshevNests', WHERE WHAT IT READS IS OF BULK AT MOST 1048576: true; the input reads as it did. -/
def chebyshevNestsUptoRow : OpenClaim := { program := "ytipnfjpilcoeoaa", sum := "f59a2cf57800efb8530bd39c4d456ae827c856ce4642f96beae12dd3a577d9f1", func := "dspcompiler/dspcompilerlaw08.ChebyshevNests", spec := "chebyshevNests", unfollowed := true, recurses := true, apart := false, narrowed := true }
def ChebyshevNestsUptoSaid : Prop := chebyshevNestsUptoRow.holds Try.pinned (OpenSpec.upto chebyshevNestsSpec)

/-- 'dspcompilerlaw08.ChebyshevBasis', WHERE WHAT IT READS IS OF BULK AT MOST 1048576: true; the input reads as it did. -/
def chebyshevBasisUptoRow : OpenClaim := { program := "ytipnfjpilcoeoaa", sum := "f59a2cf57800efb8530bd39c4d456ae827c856ce4642f96beae12dd3a577d9f1", func := "dspcompiler/dspcompilerlaw08.ChebyshevBasis", spec := "chebyshevBasis", unfollowed := true, recurses := true, apart := false, narrowed := true }
def ChebyshevBasisUptoSaid : Prop := chebyshevBasisUptoRow.holds Try.pinned (OpenSpec.upto chebyshevBasisSpec)

end Rows
end Go.Proofs.Ytipnfjpilcoeoaa
