/-
  No cell of these rows narrows 'for every input' (looked for: loops, veiled, ifaces, maps, wideKeys, modest, calm, conditions, laid).
  DERIVED. THE GIVEN ROWS OF THIS SEAT. 8 by the template 'for every input the law returns true; each argument reads behind the call as it read before'; 0 by the template 'total and deterministic' (their statements: YtofhkmcllihgmaaGreatTotals.lean).
  GIVEN WITH THE SEED: the statements are not yours to turn. If you find one false, say at which input.
  Laid BY PROGRAM, IN A SANDBOX (cutbox-rows.mjs): the forced cells as the released guide's own fill.sh prints them over the translation 5592ba335ae96915… (all of the seat's roots in one cut). By AI agents, Wed Nov 11 2026. No macro, syntax, notation, axiom, sorry.
-/
import Derived.Test.YtofhkmcllihgmaaGreatChecked
import GoSem.Claim
import GoSem.ClaimJoined
import GoSem.ClaimMapViews
import Derived.JoinedTies
import Derived.KernelRfl
namespace Go.Proofs.YtofhkmcllihgmaaGreat
/- THE CELL 'sum', in the pinned program and in every row, IS THE sha256 OF THE DUMP (.gsa) THAT YtofhkmcllihgmaaGreatProg.lean LOADS. Nothing in Lean hashes anything: it is a label: what it is worth is what the hold of that sum in a sandbox is worth. -/
noncomputable def Tryz.pinned : Pinned := { name := "ytofhkmcllihgmaagreat", sum := "5592ba335ae9691534a50cd3f410e31263b9ea9583c05e0580be46d1326d6e95", checked := Tryz.checked }
namespace Rows
def none {H : Type} : Left H := { results := [], args := [] }

/-- 'dspcompilerlaw28.QuantiseNearest': WHATEVER THE INPUT: true; the input reads as it did. -/
def quantiseNearestSpec : ChangeSpec := { name := "quantiseNearest", fn := fun _ => fun
  | [d1, d2, d3, d4] => { results := [.lit (.bool true)], args := [d1, d2, d3, d4] }
  | _ => none }
def quantiseNearestRow : OpenClaim := { program := "ytofhkmcllihgmaagreat", sum := "5592ba335ae9691534a50cd3f410e31263b9ea9583c05e0580be46d1326d6e95", func := "dspcompiler/dspcompilerlaw28.QuantiseNearest", spec := "quantiseNearest", unfollowed := true, recurses := true, apart := false }
def QuantiseNearestSaid : Prop := quantiseNearestRow.holds Tryz.pinned (OpenSpec.ofChange quantiseNearestSpec)

/-- ITS FALSE NEIGHBOUR: 'it returns false'. Refute it at one input. -/
def quantiseNearestWrong : ChangeSpec := { name := "quantiseNearest", fn := fun _ => fun
  | [d1, d2, d3, d4] => { results := [.lit (.bool false)], args := [d1, d2, d3, d4] }
  | _ => none }
def QuantiseNearestWrongFalsely : Prop := quantiseNearestRow.holds Tryz.pinned (OpenSpec.ofChange quantiseNearestWrong)

/-- 'dspcompilerlaw08.ChebyshevMagnitudes': WHATEVER THE INPUT: true; the input reads as it did. -/
def chebyshevMagnitudesSpec : ChangeSpec := { name := "chebyshevMagnitudes", fn := fun _ => fun
  | [d1, d2] => { results := [.lit (.bool true)], args := [d1, d2] }
  | _ => none }
def chebyshevMagnitudesRow : OpenClaim := { program := "ytofhkmcllihgmaagreat", sum := "5592ba335ae9691534a50cd3f410e31263b9ea9583c05e0580be46d1326d6e95", func := "dspcompiler/dspcompilerlaw08.ChebyshevMagnitudes", spec := "chebyshevMagnitudes", unfollowed := true, recurses := true, apart := false }
def ChebyshevMagnitudesSaid : Prop := chebyshevMagnitudesRow.holds Tryz.pinned (OpenSpec.ofChange chebyshevMagnitudesSpec)

/-- ITS FALSE NEIGHBOUR: 'it returns false'. Refute it at one input. -/
def chebyshevMagnitudesWrong : ChangeSpec := { name := "chebyshevMagnitudes", fn := fun _ => fun
  | [d1, d2] => { results := [.lit (.bool false)], args := [d1, d2] }
  | _ => none }
def ChebyshevMagnitudesWrongFalsely : Prop := chebyshevMagnitudesRow.holds Tryz.pinned (OpenSpec.ofChange chebyshevMagnitudesWrong)

/-- 'dspcompilerlaw07.BernsteinSound': WHATEVER THE INPUT: true; the input reads as it did. -/
def bernsteinSoundSpec : ChangeSpec := { name := "bernsteinSound", fn := fun _ => fun
  | [d1, d2, d3, d4, d5, d6] => { results := [.lit (.bool true)], args := [d1, d2, d3, d4, d5, d6] }
  | _ => none }
def bernsteinSoundRow : OpenClaim := { program := "ytofhkmcllihgmaagreat", sum := "5592ba335ae9691534a50cd3f410e31263b9ea9583c05e0580be46d1326d6e95", func := "dspcompiler/dspcompilerlaw07.BernsteinSound", spec := "bernsteinSound", unfollowed := true, recurses := true, apart := false }
def BernsteinSoundSaid : Prop := bernsteinSoundRow.holds Tryz.pinned (OpenSpec.ofChange bernsteinSoundSpec)

/-- ITS FALSE NEIGHBOUR: 'it returns false'. Refute it at one input. -/
def bernsteinSoundWrong : ChangeSpec := { name := "bernsteinSound", fn := fun _ => fun
  | [d1, d2, d3, d4, d5, d6] => { results := [.lit (.bool false)], args := [d1, d2, d3, d4, d5, d6] }
  | _ => none }
def BernsteinSoundWrongFalsely : Prop := bernsteinSoundRow.holds Tryz.pinned (OpenSpec.ofChange bernsteinSoundWrong)

/-- 'dspcompilerlaw06.SturmCounts': WHATEVER THE INPUT: true; the input reads as it did. -/
def sturmCountsSpec : ChangeSpec := { name := "sturmCounts", fn := fun _ => fun
  | [d1, d2, d3, d4, d5, d6] => { results := [.lit (.bool true)], args := [d1, d2, d3, d4, d5, d6] }
  | _ => none }
def sturmCountsRow : OpenClaim := { program := "ytofhkmcllihgmaagreat", sum := "5592ba335ae9691534a50cd3f410e31263b9ea9583c05e0580be46d1326d6e95", func := "dspcompiler/dspcompilerlaw06.SturmCounts", spec := "sturmCounts", unfollowed := true, recurses := true, apart := false }
def SturmCountsSaid : Prop := sturmCountsRow.holds Tryz.pinned (OpenSpec.ofChange sturmCountsSpec)

/-- ITS FALSE NEIGHBOUR: 'it returns false'. Refute it at one input. -/
def sturmCountsWrong : ChangeSpec := { name := "sturmCounts", fn := fun _ => fun
  | [d1, d2, d3, d4, d5, d6] => { results := [.lit (.bool false)], args := [d1, d2, d3, d4, d5, d6] }
  | _ => none }
def SturmCountsWrongFalsely : Prop := sturmCountsRow.holds Tryz.pinned (OpenSpec.ofChange sturmCountsWrong)

/-- 'dspcompilerlaw20.ResponseLinear': WHATEVER THE INPUT: true; the input reads as it did. -/
def responseLinearSpec : ChangeSpec := { name := "responseLinear", fn := fun _ => fun
  | [d1, d2, d3, d4, d5] => { results := [.lit (.bool true)], args := [d1, d2, d3, d4, d5] }
  | _ => none }
def responseLinearRow : OpenClaim := { program := "ytofhkmcllihgmaagreat", sum := "5592ba335ae9691534a50cd3f410e31263b9ea9583c05e0580be46d1326d6e95", func := "dspcompiler/dspcompilerlaw20.ResponseLinear", spec := "responseLinear", unfollowed := true, recurses := true, apart := false }
def ResponseLinearSaid : Prop := responseLinearRow.holds Tryz.pinned (OpenSpec.ofChange responseLinearSpec)

/-- ITS FALSE NEIGHBOUR: 'it returns false'. Refute it at one input. -/
def responseLinearWrong : ChangeSpec := { name := "responseLinear", fn := fun _ => fun
  | [d1, d2, d3, d4, d5] => { results := [.lit (.bool false)], args := [d1, d2, d3, d4, d5] }
  | _ => none }
def ResponseLinearWrongFalsely : Prop := responseLinearRow.holds Tryz.pinned (OpenSpec.ofChange responseLinearWrong)

/-- 'dspcompilerlaw20.ResponseDelays': WHATEVER THE INPUT: true; the input reads as it did. -/
def responseDelaysSpec : ChangeSpec := { name := "responseDelays", fn := fun _ => fun
  | [d1, d2, d3, d4] => { results := [.lit (.bool true)], args := [d1, d2, d3, d4] }
  | _ => none }
def responseDelaysRow : OpenClaim := { program := "ytofhkmcllihgmaagreat", sum := "5592ba335ae9691534a50cd3f410e31263b9ea9583c05e0580be46d1326d6e95", func := "dspcompiler/dspcompilerlaw20.ResponseDelays", spec := "responseDelays", unfollowed := true, recurses := true, apart := false }
def ResponseDelaysSaid : Prop := responseDelaysRow.holds Tryz.pinned (OpenSpec.ofChange responseDelaysSpec)

/-- ITS FALSE NEIGHBOUR: 'it returns false'. Refute it at one input. -/
def responseDelaysWrong : ChangeSpec := { name := "responseDelays", fn := fun _ => fun
  | [d1, d2, d3, d4] => { results := [.lit (.bool false)], args := [d1, d2, d3, d4] }
  | _ => none }
def ResponseDelaysWrongFalsely : Prop := responseDelaysRow.holds Tryz.pinned (OpenSpec.ofChange responseDelaysWrong)

/-- 'dspcompilerlaw06.SturmIsolates': WHATEVER THE INPUT: true; the input reads as it did. -/
def sturmIsolatesSpec : ChangeSpec := { name := "sturmIsolates", fn := fun _ => fun
  | [d1, d2, d3, d4, d5, d6] => { results := [.lit (.bool true)], args := [d1, d2, d3, d4, d5, d6] }
  | _ => none }
def sturmIsolatesRow : OpenClaim := { program := "ytofhkmcllihgmaagreat", sum := "5592ba335ae9691534a50cd3f410e31263b9ea9583c05e0580be46d1326d6e95", func := "dspcompiler/dspcompilerlaw06.SturmIsolates", spec := "sturmIsolates", unfollowed := true, recurses := true, apart := false }
def SturmIsolatesSaid : Prop := sturmIsolatesRow.holds Tryz.pinned (OpenSpec.ofChange sturmIsolatesSpec)

/-- ITS FALSE NEIGHBOUR: 'it returns false'. Refute it at one input. -/
def sturmIsolatesWrong : ChangeSpec := { name := "sturmIsolates", fn := fun _ => fun
  | [d1, d2, d3, d4, d5, d6] => { results := [.lit (.bool false)], args := [d1, d2, d3, d4, d5, d6] }
  | _ => none }
def SturmIsolatesWrongFalsely : Prop := sturmIsolatesRow.holds Tryz.pinned (OpenSpec.ofChange sturmIsolatesWrong)

/-- 'dspcompilerlaw17.PrototypeRatios': WHATEVER THE INPUT: true; the input reads as it did. -/
def prototypeRatiosSpec : ChangeSpec := { name := "prototypeRatios", fn := fun _ => fun
  | [d1, d2, d3, d4] => { results := [.lit (.bool true)], args := [d1, d2, d3, d4] }
  | _ => none }
def prototypeRatiosRow : OpenClaim := { program := "ytofhkmcllihgmaagreat", sum := "5592ba335ae9691534a50cd3f410e31263b9ea9583c05e0580be46d1326d6e95", func := "dspcompiler/dspcompilerlaw17.PrototypeRatios", spec := "prototypeRatios", unfollowed := true, recurses := true, apart := false }
def PrototypeRatiosSaid : Prop := prototypeRatiosRow.holds Tryz.pinned (OpenSpec.ofChange prototypeRatiosSpec)

/-- ITS FALSE NEIGHBOUR: 'it returns false'. Refute it at one input. -/
def prototypeRatiosWrong : ChangeSpec := { name := "prototypeRatios", fn := fun _ => fun
  | [d1, d2, d3, d4] => { results := [.lit (.bool false)], args := [d1, d2, d3, d4] }
  | _ => none }
def PrototypeRatiosWrongFalsely : Prop := prototypeRatiosRow.holds Tryz.pinned (OpenSpec.ofChange prototypeRatiosWrong)

/- THE SECOND FORM. 'bulk': how many values and letters a reading holds, each counted each time it is reached (what is shared counts as often as it is met; a slice's spare places count too). A statement '..UptoSaid' is the law's where the arguments, and the package variables that the reading takes, are together of bulk at most 1048576: NARROWER than '..Said'. Prove '..Said' where nothing that the law and all that it calls make is longer than what came in: it says more and counts as full. Else prove '..UptoSaid'. A law counts once. -/
mutual
def uptoBulk {H : Type} : DataW H → Nat
  | .lit (.string bytes) => bytes.length + 1
  | .lit _ => 1
  | .nil => 1
  | .ptr d => uptoBulk d + 1
  | .slice elems spare => uptoBulkAll elems + uptoBulkAll spare + 1
  | .agg parts => uptoBulkAll parts + 1
  | .iface _ d => uptoBulk d + 1
  | .map entries => uptoBulkEntries entries + 1
  | .held _ => 1
def uptoBulkAll {H : Type} : List (DataW H) → Nat
  | [] => 0
  | d :: r => uptoBulk d + uptoBulkAll r
def uptoBulkEntries {H : Type} : List (Lit × DataW H) → Nat
  | [] => 0
  | x :: r => uptoBulkEntry x + uptoBulkEntries r
def uptoBulkEntry {H : Type} : Lit × DataW H → Nat
  | (.string bytes, d) => bytes.length + uptoBulk d + 1
  | (_, d) => uptoBulk d + 1
 end
def uptoSmall : (H : Type) → List (DataW H) → Bool := fun _ ds => decide (uptoBulkAll ds ≤ 1048576)
def OpenSpec.upto (s : _root_.Go.ChangeSpec) : _root_.Go.OpenSpec := { _root_.Go.OpenSpec.ofChange s with cond := some uptoSmall }

/-- 'dspcompilerlaw28.QuantiseNearest', WHERE WHAT IT READS IS OF BULK AT MOST 1048576: true; the input reads as it did. -/
def quantiseNearestUptoRow : OpenClaim := { program := "ytofhkmcllihgmaagreat", sum := "5592ba335ae9691534a50cd3f410e31263b9ea9583c05e0580be46d1326d6e95", func := "dspcompiler/dspcompilerlaw28.QuantiseNearest", spec := "quantiseNearest", unfollowed := true, recurses := true, apart := false, narrowed := true }
def QuantiseNearestUptoSaid : Prop := quantiseNearestUptoRow.holds Tryz.pinned (OpenSpec.upto quantiseNearestSpec)

/-- 'dspcompilerlaw08.ChebyshevMagnitudes', WHERE WHAT IT READS IS OF BULK AT MOST 1048576: true; the input reads as it did. -/
def chebyshevMagnitudesUptoRow : OpenClaim := { program := "ytofhkmcllihgmaagreat", sum := "5592ba335ae9691534a50cd3f410e31263b9ea9583c05e0580be46d1326d6e95", func := "dspcompiler/dspcompilerlaw08.ChebyshevMagnitudes", spec := "chebyshevMagnitudes", unfollowed := true, recurses := true, apart := false, narrowed := true }
def ChebyshevMagnitudesUptoSaid : Prop := chebyshevMagnitudesUptoRow.holds Tryz.pinned (OpenSpec.upto chebyshevMagnitudesSpec)

/-- 'dspcompilerlaw07.BernsteinSound', WHERE WHAT IT READS IS OF BULK AT MOST 1048576: true; the input reads as it did. -/
def bernsteinSoundUptoRow : OpenClaim := { program := "ytofhkmcllihgmaagreat", sum := "5592ba335ae9691534a50cd3f410e31263b9ea9583c05e0580be46d1326d6e95", func := "dspcompiler/dspcompilerlaw07.BernsteinSound", spec := "bernsteinSound", unfollowed := true, recurses := true, apart := false, narrowed := true }
def BernsteinSoundUptoSaid : Prop := bernsteinSoundUptoRow.holds Tryz.pinned (OpenSpec.upto bernsteinSoundSpec)

/-- 'dspcompilerlaw06.SturmCounts', WHERE WHAT IT READS IS OF BULK AT MOST 1048576: true; the input reads as it did. -/
def sturmCountsUptoRow : OpenClaim := { program := "ytofhkmcllihgmaagreat", sum := "5592ba335ae9691534a50cd3f410e31263b9ea9583c05e0580be46d1326d6e95", func := "dspcompiler/dspcompilerlaw06.SturmCounts", spec := "sturmCounts", unfollowed := true, recurses := true, apart := false, narrowed := true }
def SturmCountsUptoSaid : Prop := sturmCountsUptoRow.holds Tryz.pinned (OpenSpec.upto sturmCountsSpec)

/-- 'dspcompilerlaw20.ResponseLinear', WHERE WHAT IT READS IS OF BULK AT MOST 1048576: true; the input reads as it did. -/
def responseLinearUptoRow : OpenClaim := { program := "ytofhkmcllihgmaagreat", sum := "5592ba335ae9691534a50cd3f410e31263b9ea9583c05e0580be46d1326d6e95", func := "dspcompiler/dspcompilerlaw20.ResponseLinear", spec := "responseLinear", unfollowed := true, recurses := true, apart := false, narrowed := true }
def ResponseLinearUptoSaid : Prop := responseLinearUptoRow.holds Tryz.pinned (OpenSpec.upto responseLinearSpec)

/-- 'dspcompilerlaw20.ResponseDelays', WHERE WHAT IT READS IS OF BULK AT MOST 1048576: true; the input reads as it did. -/
def responseDelaysUptoRow : OpenClaim := { program := "ytofhkmcllihgmaagreat", sum := "5592ba335ae9691534a50cd3f410e31263b9ea9583c05e0580be46d1326d6e95", func := "dspcompiler/dspcompilerlaw20.ResponseDelays", spec := "responseDelays", unfollowed := true, recurses := true, apart := false, narrowed := true }
def ResponseDelaysUptoSaid : Prop := responseDelaysUptoRow.holds Tryz.pinned (OpenSpec.upto responseDelaysSpec)

/-- 'dspcompilerlaw06.SturmIsolates', WHERE WHAT IT READS IS OF BULK AT MOST 1048576: true; the input reads as it did. -/
def sturmIsolatesUptoRow : OpenClaim := { program := "ytofhkmcllihgmaagreat", sum := "5592ba335ae9691534a50cd3f410e31263b9ea9583c05e0580be46d1326d6e95", func := "dspcompiler/dspcompilerlaw06.SturmIsolates", spec := "sturmIsolates", unfollowed := true, recurses := true, apart := false, narrowed := true }
def SturmIsolatesUptoSaid : Prop := sturmIsolatesUptoRow.holds Tryz.pinned (OpenSpec.upto sturmIsolatesSpec)

/-- 'dspcompilerlaw17.PrototypeRatios', WHERE WHAT IT READS IS OF BULK AT MOST 1048576: true; the input reads as it did. -/
def prototypeRatiosUptoRow : OpenClaim := { program := "ytofhkmcllihgmaagreat", sum := "5592ba335ae9691534a50cd3f410e31263b9ea9583c05e0580be46d1326d6e95", func := "dspcompiler/dspcompilerlaw17.PrototypeRatios", spec := "prototypeRatios", unfollowed := true, recurses := true, apart := false, narrowed := true }
def PrototypeRatiosUptoSaid : Prop := prototypeRatiosUptoRow.holds Tryz.pinned (OpenSpec.upto prototypeRatiosSpec)

end Rows
end Go.Proofs.YtofhkmcllihgmaaGreat
