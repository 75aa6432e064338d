/-
  No cell of these rows narrows 'for every input' (looked for: loops, veiled, ifaces, maps, wideKeys, modest, calm, conditions, laid).
  DERIVED. THE GIVEN ROWS OF THIS SEAT. 3 by the template 'for every input the law returns true; each argument reads behind the call as it read before'; 0 by the template 'total and deterministic' (their statements: YtkcpmclnocmalaaGreatTotals.lean).
  GIVEN WITH THE SEED: the statements are not yours to turn. If you find one false, say at which input.
  Laid BY PROGRAM, IN A SANDBOX (cutbox-rows.mjs): the forced cells as the released guide's own fill.sh prints them over the translation 4823bc15b6987894… (all of the seat's roots in one cut). By AI agents, Wed Nov 11 2026. No macro, syntax, notation, axiom, sorry.
-/
import Derived.Test.YtkcpmclnocmalaaGreatChecked
import GoSem.Claim
import GoSem.ClaimJoined
import GoSem.ClaimMapViews
import Derived.JoinedTies
import Derived.KernelRfl
namespace Go.Proofs.YtkcpmclnocmalaaGreat
/- THE CELL 'sum', in the pinned program and in every row, IS THE sha256 OF THE DUMP (.gsa) THAT YtkcpmclnocmalaaGreatProg.lean LOADS. Nothing in Lean hashes anything: it is a label: what it is worth is what the hold of that sum in a sandbox is worth. -/
noncomputable def Tryz.pinned : Pinned := { name := "ytkcpmclnocmalaagreat", sum := "4823bc15b6987894aab3df73189b2bb7c1b9fd68c4a11c20278955d23c9dbbaa", checked := Tryz.checked }
namespace Rows
def none {H : Type} : Left H := { results := [], args := [] }

/-- 'dspcompilerlaw13.MaskSound': WHATEVER THE INPUT: true; the input reads as it did. -/
def maskSoundSpec : ChangeSpec := { name := "maskSound", fn := fun _ => fun
  | [d1, d2, d3, d4] => { results := [.lit (.bool true)], args := [d1, d2, d3, d4] }
  | _ => none }
def maskSoundRow : OpenClaim := { program := "ytkcpmclnocmalaagreat", sum := "4823bc15b6987894aab3df73189b2bb7c1b9fd68c4a11c20278955d23c9dbbaa", func := "dspcompiler/dspcompilerlaw13.MaskSound", spec := "maskSound", unfollowed := true, recurses := true, apart := false }
def MaskSoundSaid : Prop := maskSoundRow.holds Tryz.pinned (OpenSpec.ofChange maskSoundSpec)

/-- ITS FALSE NEIGHBOUR: 'it returns false'. Refute it at one input. -/
def maskSoundWrong : ChangeSpec := { name := "maskSound", fn := fun _ => fun
  | [d1, d2, d3, d4] => { results := [.lit (.bool false)], args := [d1, d2, d3, d4] }
  | _ => none }
def MaskSoundWrongFalsely : Prop := maskSoundRow.holds Tryz.pinned (OpenSpec.ofChange maskSoundWrong)

/-- 'dspcompilerlaw13.MaskWider': WHATEVER THE INPUT: true; the input reads as it did. -/
def maskWiderSpec : ChangeSpec := { name := "maskWider", fn := fun _ => fun
  | [d1, d2, d3, d4] => { results := [.lit (.bool true)], args := [d1, d2, d3, d4] }
  | _ => none }
def maskWiderRow : OpenClaim := { program := "ytkcpmclnocmalaagreat", sum := "4823bc15b6987894aab3df73189b2bb7c1b9fd68c4a11c20278955d23c9dbbaa", func := "dspcompiler/dspcompilerlaw13.MaskWider", spec := "maskWider", unfollowed := true, recurses := true, apart := false }
def MaskWiderSaid : Prop := maskWiderRow.holds Tryz.pinned (OpenSpec.ofChange maskWiderSpec)

/-- ITS FALSE NEIGHBOUR: 'it returns false'. Refute it at one input. -/
def maskWiderWrong : ChangeSpec := { name := "maskWider", fn := fun _ => fun
  | [d1, d2, d3, d4] => { results := [.lit (.bool false)], args := [d1, d2, d3, d4] }
  | _ => none }
def MaskWiderWrongFalsely : Prop := maskWiderRow.holds Tryz.pinned (OpenSpec.ofChange maskWiderWrong)

/-- 'dspcompilerlaw28.QuantiseSatisfies': WHATEVER THE INPUT: true; the input reads as it did. -/
def quantiseSatisfiesSpec : ChangeSpec := { name := "quantiseSatisfies", fn := fun _ => fun
  | [d1, d2, d3] => { results := [.lit (.bool true)], args := [d1, d2, d3] }
  | _ => none }
def quantiseSatisfiesRow : OpenClaim := { program := "ytkcpmclnocmalaagreat", sum := "4823bc15b6987894aab3df73189b2bb7c1b9fd68c4a11c20278955d23c9dbbaa", func := "dspcompiler/dspcompilerlaw28.QuantiseSatisfies", spec := "quantiseSatisfies", unfollowed := true, recurses := true, apart := false }
def QuantiseSatisfiesSaid : Prop := quantiseSatisfiesRow.holds Tryz.pinned (OpenSpec.ofChange quantiseSatisfiesSpec)

/-- ITS FALSE NEIGHBOUR: 'it returns false'. Refute it at one input. -/
def quantiseSatisfiesWrong : ChangeSpec := { name := "quantiseSatisfies", fn := fun _ => fun
  | [d1, d2, d3] => { results := [.lit (.bool false)], args := [d1, d2, d3] }
  | _ => none }
def QuantiseSatisfiesWrongFalsely : Prop := quantiseSatisfiesRow.holds Tryz.pinned (OpenSpec.ofChange quantiseSatisfiesWrong)

/- THE SECOND FORM. 'bulk': how many values and letters a reading holds, each counted each time it is reached (what is shared counts as often as it is met; a slice's spare places count too). A statement '..UptoSaid' is the law's where the arguments, and the package variables that the reading takes, are together of bulk at most 1048576: NARROWER than '..Said'. Prove '..Said' where nothing that the law and all that it calls make is longer than what came in: it says more and counts as full. Else prove '..UptoSaid'. A law counts once. -/
mutual
def uptoBulk {H : Type} : DataW H → Nat
  | .lit (.string bytes) => bytes.length + 1
  | .lit _ => 1
  | .nil => 1
  | .ptr d => uptoBulk d + 1
  | .slice elems spare => uptoBulkAll elems + uptoBulkAll spare + 1
  | .agg parts => uptoBulkAll parts + 1
  | .iface _ d => uptoBulk d + 1
  | .map entries => uptoBulkEntries entries + 1
  | .held _ => 1
def uptoBulkAll {H : Type} : List (DataW H) → Nat
  | [] => 0
  | d :: r => uptoBulk d + uptoBulkAll r
def uptoBulkEntries {H : Type} : List (Lit × DataW H) → Nat
  | [] => 0
  | x :: r => uptoBulkEntry x + uptoBulkEntries r
def uptoBulkEntry {H : Type} : Lit × DataW H → Nat
  | (.string bytes, d) => bytes.length + uptoBulk d + 1
  | (_, d) => uptoBulk d + 1
 end
def uptoSmall : (H : Type) → List (DataW H) → Bool := fun _ ds => decide (uptoBulkAll ds ≤ 1048576)
def OpenSpec.upto (s : _root_.Go.ChangeSpec) : _root_.Go.OpenSpec := { _root_.Go.OpenSpec.ofChange s with cond := some uptoSmall }

/-- 'dspcompilerlaw13.MaskSound', WHERE WHAT IT READS IS OF BULK AT MOST 1048576: true; the input reads as it did. -/
def maskSoundUptoRow : OpenClaim := { program := "ytkcpmclnocmalaagreat", sum := "4823bc15b6987894aab3df73189b2bb7c1b9fd68c4a11c20278955d23c9dbbaa", func := "dspcompiler/dspcompilerlaw13.MaskSound", spec := "maskSound", unfollowed := true, recurses := true, apart := false, narrowed := true }
def MaskSoundUptoSaid : Prop := maskSoundUptoRow.holds Tryz.pinned (OpenSpec.upto maskSoundSpec)

/-- 'dspcompilerlaw13.MaskWider', WHERE WHAT IT READS IS OF BULK AT MOST 1048576: true; the input reads as it did. -/
def maskWiderUptoRow : OpenClaim := { program := "ytkcpmclnocmalaagreat", sum := "4823bc15b6987894aab3df73189b2bb7c1b9fd68c4a11c20278955d23c9dbbaa", func := "dspcompiler/dspcompilerlaw13.MaskWider", spec := "maskWider", unfollowed := true, recurses := true, apart := false, narrowed := true }
def MaskWiderUptoSaid : Prop := maskWiderUptoRow.holds Tryz.pinned (OpenSpec.upto maskWiderSpec)

/-- 'dspcompilerlaw28.QuantiseSatisfies', WHERE WHAT IT READS IS OF BULK AT MOST 1048576: true; the input reads as it did. -/
def quantiseSatisfiesUptoRow : OpenClaim := { program := "ytkcpmclnocmalaagreat", sum := "4823bc15b6987894aab3df73189b2bb7c1b9fd68c4a11c20278955d23c9dbbaa", func := "dspcompiler/dspcompilerlaw28.QuantiseSatisfies", spec := "quantiseSatisfies", unfollowed := true, recurses := true, apart := false, narrowed := true }
def QuantiseSatisfiesUptoSaid : Prop := quantiseSatisfiesUptoRow.holds Tryz.pinned (OpenSpec.upto quantiseSatisfiesSpec)

end Rows
end Go.Proofs.YtkcpmclnocmalaaGreat
