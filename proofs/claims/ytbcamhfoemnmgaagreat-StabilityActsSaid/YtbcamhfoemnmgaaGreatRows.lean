/-
  No cell of these rows narrows 'for every input' (looked for: loops, veiled, ifaces, maps, wideKeys, modest, calm, conditions, laid).
  DERIVED. THE GIVEN ROWS OF THIS SEAT. 5 by the template 'for every input the law returns true; each argument reads behind the call as it read before'; 0 by the template 'total and deterministic' (their statements: YtbcamhfoemnmgaaGreatTotals.lean).
  GIVEN WITH THE SEED: the statements are not yours to turn. If you find one false, say at which input.
  Laid BY PROGRAM, IN A SANDBOX (cutbox-rows.mjs): the forced cells as the released guide's own fill.sh prints them over the translation 5d1c078572692fd4… (all of the seat's roots in one cut). By AI agents, Wed Nov 11 2026. No macro, syntax, notation, axiom, sorry.
-/
import Derived.Test.YtbcamhfoemnmgaaGreatChecked
import GoSem.Claim
import GoSem.ClaimJoined
import GoSem.ClaimMapViews
import Derived.JoinedTies
import Derived.KernelRfl
namespace Go.Proofs.YtbcamhfoemnmgaaGreat
/- THE CELL 'sum', in the pinned program and in every row, IS THE sha256 OF THE DUMP (.gsa) THAT YtbcamhfoemnmgaaGreatProg.lean LOADS. Nothing in Lean hashes anything: it is a label: what it is worth is what the hold of that sum in a sandbox is worth. -/
noncomputable def Tryz.pinned : Pinned := { name := "ytbcamhfoemnmgaagreat", sum := "5d1c078572692fd4a0107cb4f1d3809a5eca76adb01b6f218f6151c64daf6eca", checked := Tryz.checked }
namespace Rows
def none {H : Type} : Left H := { results := [], args := [] }

/-- 'dspcompilerlaw18.StabilityRoots': WHATEVER THE INPUT: true; the input reads as it did. -/
def stabilityRootsSpec : ChangeSpec := { name := "stabilityRoots", fn := fun _ => fun
  | [d] => { results := [.lit (.bool true)], args := [d] }
  | _ => none }
def stabilityRootsRow : OpenClaim := { program := "ytbcamhfoemnmgaagreat", sum := "5d1c078572692fd4a0107cb4f1d3809a5eca76adb01b6f218f6151c64daf6eca", func := "dspcompiler/dspcompilerlaw18.StabilityRoots", spec := "stabilityRoots", unfollowed := true, recurses := true, apart := false }
def StabilityRootsSaid : Prop := stabilityRootsRow.holds Tryz.pinned (OpenSpec.ofChange stabilityRootsSpec)

/-- ITS FALSE NEIGHBOUR: 'it returns false'. Refute it at one input. -/
def stabilityRootsWrong : ChangeSpec := { name := "stabilityRoots", fn := fun _ => fun
  | [d] => { results := [.lit (.bool false)], args := [d] }
  | _ => none }
def StabilityRootsWrongFalsely : Prop := stabilityRootsRow.holds Tryz.pinned (OpenSpec.ofChange stabilityRootsWrong)

/-- 'dspcompilerlaw08.ChebyshevActs': WHATEVER THE INPUT: true; the input reads as it did. -/
def chebyshevActsSpec : ChangeSpec := { name := "chebyshevActs", fn := fun _ => fun
  | [d1, d2, d3, d4] => { results := [.lit (.bool true)], args := [d1, d2, d3, d4] }
  | _ => none }
def chebyshevActsRow : OpenClaim := { program := "ytbcamhfoemnmgaagreat", sum := "5d1c078572692fd4a0107cb4f1d3809a5eca76adb01b6f218f6151c64daf6eca", func := "dspcompiler/dspcompilerlaw08.ChebyshevActs", spec := "chebyshevActs", unfollowed := true, recurses := true, apart := false }
def ChebyshevActsSaid : Prop := chebyshevActsRow.holds Tryz.pinned (OpenSpec.ofChange chebyshevActsSpec)

/-- ITS FALSE NEIGHBOUR: 'it returns false'. Refute it at one input. -/
def chebyshevActsWrong : ChangeSpec := { name := "chebyshevActs", fn := fun _ => fun
  | [d1, d2, d3, d4] => { results := [.lit (.bool false)], args := [d1, d2, d3, d4] }
  | _ => none }
def ChebyshevActsWrongFalsely : Prop := chebyshevActsRow.holds Tryz.pinned (OpenSpec.ofChange chebyshevActsWrong)

/-- 'dspcompilerlaw18.StabilityActs': WHATEVER THE INPUT: true; the input reads as it did. -/
def stabilityActsSpec : ChangeSpec := { name := "stabilityActs", fn := fun _ => fun
  | [d1, d2, d3, d4] => { results := [.lit (.bool true)], args := [d1, d2, d3, d4] }
  | _ => none }
def stabilityActsRow : OpenClaim := { program := "ytbcamhfoemnmgaagreat", sum := "5d1c078572692fd4a0107cb4f1d3809a5eca76adb01b6f218f6151c64daf6eca", func := "dspcompiler/dspcompilerlaw18.StabilityActs", spec := "stabilityActs", unfollowed := true, recurses := true, apart := false }
def StabilityActsSaid : Prop := stabilityActsRow.holds Tryz.pinned (OpenSpec.ofChange stabilityActsSpec)

/-- ITS FALSE NEIGHBOUR: 'it returns false'. Refute it at one input. -/
def stabilityActsWrong : ChangeSpec := { name := "stabilityActs", fn := fun _ => fun
  | [d1, d2, d3, d4] => { results := [.lit (.bool false)], args := [d1, d2, d3, d4] }
  | _ => none }
def StabilityActsWrongFalsely : Prop := stabilityActsRow.holds Tryz.pinned (OpenSpec.ofChange stabilityActsWrong)

/-- 'dspcompilerlaw08.ChebyshevTaps': WHATEVER THE INPUT: true; the input reads as it did. -/
def chebyshevTapsSpec : ChangeSpec := { name := "chebyshevTaps", fn := fun _ => fun
  | [d1, d2, d3, d4] => { results := [.lit (.bool true)], args := [d1, d2, d3, d4] }
  | _ => none }
def chebyshevTapsRow : OpenClaim := { program := "ytbcamhfoemnmgaagreat", sum := "5d1c078572692fd4a0107cb4f1d3809a5eca76adb01b6f218f6151c64daf6eca", func := "dspcompiler/dspcompilerlaw08.ChebyshevTaps", spec := "chebyshevTaps", unfollowed := true, recurses := true, apart := false }
def ChebyshevTapsSaid : Prop := chebyshevTapsRow.holds Tryz.pinned (OpenSpec.ofChange chebyshevTapsSpec)

/-- ITS FALSE NEIGHBOUR: 'it returns false'. Refute it at one input. -/
def chebyshevTapsWrong : ChangeSpec := { name := "chebyshevTaps", fn := fun _ => fun
  | [d1, d2, d3, d4] => { results := [.lit (.bool false)], args := [d1, d2, d3, d4] }
  | _ => none }
def ChebyshevTapsWrongFalsely : Prop := chebyshevTapsRow.holds Tryz.pinned (OpenSpec.ofChange chebyshevTapsWrong)

/-- 'dspcompilerlaw08.ChebyshevSymmetric': WHATEVER THE INPUT: true; the input reads as it did. -/
def chebyshevSymmetricSpec : ChangeSpec := { name := "chebyshevSymmetric", fn := fun _ => fun
  | [d] => { results := [.lit (.bool true)], args := [d] }
  | _ => none }
def chebyshevSymmetricRow : OpenClaim := { program := "ytbcamhfoemnmgaagreat", sum := "5d1c078572692fd4a0107cb4f1d3809a5eca76adb01b6f218f6151c64daf6eca", func := "dspcompiler/dspcompilerlaw08.ChebyshevSymmetric", spec := "chebyshevSymmetric", unfollowed := true, recurses := true, apart := false }
def ChebyshevSymmetricSaid : Prop := chebyshevSymmetricRow.holds Tryz.pinned (OpenSpec.ofChange chebyshevSymmetricSpec)

/-- ITS FALSE NEIGHBOUR: 'it returns false'. Refute it at one input. -/
def chebyshevSymmetricWrong : ChangeSpec := { name := "chebyshevSymmetric", fn := fun _ => fun
  | [d] => { results := [.lit (.bool false)], args := [d] }
  | _ => none }
def ChebyshevSymmetricWrongFalsely : Prop := chebyshevSymmetricRow.holds Tryz.pinned (OpenSpec.ofChange chebyshevSymmetricWrong)

/- THE SECOND FORM. 'bulk': how many values and letters a reading holds, each counted each time it is reached (what is shared counts as often as it is met; a slice's spare places count too). A statement '..UptoSaid' is the law's where the arguments, and the package variables that the reading takes, are together of bulk at most 1048576: NARROWER than '..Said'. Prove '..Said' where nothing that the law and all that it calls make is longer than what came in: it says more and counts as full. Else prove '..UptoSaid'. A law counts once. -/
mutual
def uptoBulk {H : Type} : DataW H → Nat
  | .lit (.string bytes) => bytes.length + 1
  | .lit _ => 1
  | .nil => 1
  | .ptr d => uptoBulk d + 1
  | .slice elems spare => uptoBulkAll elems + uptoBulkAll spare + 1
  | .agg parts => uptoBulkAll parts + 1
  | .iface _ d => uptoBulk d + 1
  | .map entries => uptoBulkEntries entries + 1
  | .held _ => 1
def uptoBulkAll {H : Type} : List (DataW H) → Nat
  | [] => 0
  | d :: r => uptoBulk d + uptoBulkAll r
def uptoBulkEntries {H : Type} : List (Lit × DataW H) → Nat
  | [] => 0
  | x :: r => uptoBulkEntry x + uptoBulkEntries r
def uptoBulkEntry {H : Type} : Lit × DataW H → Nat
  | (.string bytes, d) => bytes.length + uptoBulk d + 1
  | (_, d) => uptoBulk d + 1
 end
def uptoSmall : (H : Type) → List (DataW H) → Bool := fun _ ds => decide (uptoBulkAll ds ≤ 1048576)
def OpenSpec.upto (s : _root_.Go.ChangeSpec) : _root_.Go.OpenSpec := { _root_.Go.OpenSpec.ofChange s with cond := some uptoSmall }

/-- 'dspcompilerlaw18.StabilityRoots', WHERE WHAT IT READS IS OF BULK AT MOST 1048576: true; the input reads as it did. -/
def stabilityRootsUptoRow : OpenClaim := { program := "ytbcamhfoemnmgaagreat", sum := "5d1c078572692fd4a0107cb4f1d3809a5eca76adb01b6f218f6151c64daf6eca", func := "dspcompiler/dspcompilerlaw18.StabilityRoots", spec := "stabilityRoots", unfollowed := true, recurses := true, apart := false, narrowed := true }
def StabilityRootsUptoSaid : Prop := stabilityRootsUptoRow.holds Tryz.pinned (OpenSpec.upto stabilityRootsSpec)

/-- 'dspcompilerlaw08.ChebyshevActs', WHERE WHAT IT READS IS OF BULK AT MOST 1048576: true; the input reads as it did. -/
def chebyshevActsUptoRow : OpenClaim := { program := "ytbcamhfoemnmgaagreat", sum := "5d1c078572692fd4a0107cb4f1d3809a5eca76adb01b6f218f6151c64daf6eca", func := "dspcompiler/dspcompilerlaw08.ChebyshevActs", spec := "chebyshevActs", unfollowed := true, recurses := true, apart := false, narrowed := true }
def ChebyshevActsUptoSaid : Prop := chebyshevActsUptoRow.holds Tryz.pinned (OpenSpec.upto chebyshevActsSpec)

/-- 'dspcompilerlaw18.StabilityActs', WHERE WHAT IT READS IS OF BULK AT MOST 1048576: true; the input reads as it did. -/
def stabilityActsUptoRow : OpenClaim := { program := "ytbcamhfoemnmgaagreat", sum := "5d1c078572692fd4a0107cb4f1d3809a5eca76adb01b6f218f6151c64daf6eca", func := "dspcompiler/dspcompilerlaw18.StabilityActs", spec := "stabilityActs", unfollowed := true, recurses := true, apart := false, narrowed := true }
def StabilityActsUptoSaid : Prop := stabilityActsUptoRow.holds Tryz.pinned (OpenSpec.upto stabilityActsSpec)

/-- 'dspcompilerlaw08.ChebyshevTaps', WHERE WHAT IT READS IS OF BULK AT MOST 1048576: true; the input reads as it did. -/
def chebyshevTapsUptoRow : OpenClaim := { program := "ytbcamhfoemnmgaagreat", sum := "5d1c078572692fd4a0107cb4f1d3809a5eca76adb01b6f218f6151c64daf6eca", func := "dspcompiler/dspcompilerlaw08.ChebyshevTaps", spec := "chebyshevTaps", unfollowed := true, recurses := true, apart := false, narrowed := true }
def ChebyshevTapsUptoSaid : Prop := chebyshevTapsUptoRow.holds Tryz.pinned (OpenSpec.upto chebyshevTapsSpec)

/-- 'dspcompilerlaw08.ChebyshevSymmetric', WHERE WHAT IT READS IS OF BULK AT MOST 1048576: true; the input reads as it did. -/
def chebyshevSymmetricUptoRow : OpenClaim := { program := "ytbcamhfoemnmgaagreat", sum := "5d1c078572692fd4a0107cb4f1d3809a5eca76adb01b6f218f6151c64daf6eca", func := "dspcompiler/dspcompilerlaw08.ChebyshevSymmetric", spec := "chebyshevSymmetric", unfollowed := true, recurses := true, apart := false, narrowed := true }
def ChebyshevSymmetricUptoSaid : Prop := chebyshevSymmetricUptoRow.holds Tryz.pinned (OpenSpec.upto chebyshevSymmetricSpec)

end Rows
end Go.Proofs.YtbcamhfoemnmgaaGreat
