/-
  No cell of these rows narrows 'for every input' (looked for: loops, veiled, ifaces, maps, wideKeys, modest, calm, conditions, laid).
  DERIVED. THE GIVEN ROWS OF THIS SEAT. 8 by the template 'for every input the law returns true; each argument reads behind the call as it read before'; 0 by the template 'total and deterministic' (their statements: YtafgmcimcbhhjaaGreatTotals.lean).
  GIVEN WITH THE SEED: the statements are not yours to turn. If you find one false, say at which input.
  Laid BY PROGRAM, IN A SANDBOX (cutbox-rows.mjs): the forced cells as the released guide's own fill.sh prints them over the translation 5c59b09e328500d7… (all of the seat's roots in one cut). By AI agents, Wed Nov 11 2026. No macro, syntax, notation, axiom, sorry.
-/
import Derived.Test.YtafgmcimcbhhjaaGreatChecked
import GoSem.Claim
import GoSem.ClaimJoined
import GoSem.ClaimMapViews
import Derived.JoinedTies
import Derived.KernelRfl
namespace Go.Proofs.YtafgmcimcbhhjaaGreat
/- THE CELL 'sum', in the pinned program and in every row, IS THE sha256 OF THE DUMP (.gsa) THAT YtafgmcimcbhhjaaGreatProg.lean LOADS. Nothing in Lean hashes anything: it is a label: what it is worth is what the hold of that sum in a sandbox is worth. -/
noncomputable def Tryz.pinned : Pinned := { name := "ytafgmcimcbhhjaagreat", sum := "5c59b09e328500d734d54e5afc13d6030d4ea09ce7c531907ab48ea8728eb599", checked := Tryz.checked }
namespace Rows
def none {H : Type} : Left H := { results := [], args := [] }

/-- 'dspcompilerlaw08.ChebyshevMagnitudes': WHATEVER THE INPUT: true; the input reads as it did. -/
def chebyshevMagnitudesSpec : ChangeSpec := { name := "chebyshevMagnitudes", fn := fun _ => fun
  | [d1, d2] => { results := [.lit (.bool true)], args := [d1, d2] }
  | _ => none }
def chebyshevMagnitudesRow : OpenClaim := { program := "ytafgmcimcbhhjaagreat", sum := "5c59b09e328500d734d54e5afc13d6030d4ea09ce7c531907ab48ea8728eb599", func := "dspcompiler/dspcompilerlaw08.ChebyshevMagnitudes", spec := "chebyshevMagnitudes", unfollowed := true, recurses := true, apart := false }
def ChebyshevMagnitudesSaid : Prop := chebyshevMagnitudesRow.holds Tryz.pinned (OpenSpec.ofChange chebyshevMagnitudesSpec)

/-- ITS FALSE NEIGHBOUR: 'it returns false'. Refute it at one input. -/
def chebyshevMagnitudesWrong : ChangeSpec := { name := "chebyshevMagnitudes", fn := fun _ => fun
  | [d1, d2] => { results := [.lit (.bool false)], args := [d1, d2] }
  | _ => none }
def ChebyshevMagnitudesWrongFalsely : Prop := chebyshevMagnitudesRow.holds Tryz.pinned (OpenSpec.ofChange chebyshevMagnitudesWrong)

/-- 'dspcompilerlaw06.SturmCounts': WHATEVER THE INPUT: true; the input reads as it did. -/
def sturmCountsSpec : ChangeSpec := { name := "sturmCounts", fn := fun _ => fun
  | [d1, d2, d3, d4, d5, d6] => { results := [.lit (.bool true)], args := [d1, d2, d3, d4, d5, d6] }
  | _ => none }
def sturmCountsRow : OpenClaim := { program := "ytafgmcimcbhhjaagreat", sum := "5c59b09e328500d734d54e5afc13d6030d4ea09ce7c531907ab48ea8728eb599", func := "dspcompiler/dspcompilerlaw06.SturmCounts", spec := "sturmCounts", unfollowed := true, recurses := true, apart := false }
def SturmCountsSaid : Prop := sturmCountsRow.holds Tryz.pinned (OpenSpec.ofChange sturmCountsSpec)

/-- ITS FALSE NEIGHBOUR: 'it returns false'. Refute it at one input. -/
def sturmCountsWrong : ChangeSpec := { name := "sturmCounts", fn := fun _ => fun
  | [d1, d2, d3, d4, d5, d6] => { results := [.lit (.bool false)], args := [d1, d2, d3, d4, d5, d6] }
  | _ => none }
def SturmCountsWrongFalsely : Prop := sturmCountsRow.holds Tryz.pinned (OpenSpec.ofChange sturmCountsWrong)

/-- 'dspcompilerlaw06.SturmIsolates': WHATEVER THE INPUT: true; the input reads as it did. -/
def sturmIsolatesSpec : ChangeSpec := { name := "sturmIsolates", fn := fun _ => fun
  | [d1, d2, d3, d4, d5, d6] => { results := [.lit (.bool true)], args := [d1, d2, d3, d4, d5, d6] }
  | _ => none }
def sturmIsolatesRow : OpenClaim := { program := "ytafgmcimcbhhjaagreat", sum := "5c59b09e328500d734d54e5afc13d6030d4ea09ce7c531907ab48ea8728eb599", func := "dspcompiler/dspcompilerlaw06.SturmIsolates", spec := "sturmIsolates", unfollowed := true, recurses := true, apart := false }
def SturmIsolatesSaid : Prop := sturmIsolatesRow.holds Tryz.pinned (OpenSpec.ofChange sturmIsolatesSpec)

/-- ITS FALSE NEIGHBOUR: 'it returns false'. Refute it at one input. -/
def sturmIsolatesWrong : ChangeSpec := { name := "sturmIsolates", fn := fun _ => fun
  | [d1, d2, d3, d4, d5, d6] => { results := [.lit (.bool false)], args := [d1, d2, d3, d4, d5, d6] }
  | _ => none }
def SturmIsolatesWrongFalsely : Prop := sturmIsolatesRow.holds Tryz.pinned (OpenSpec.ofChange sturmIsolatesWrong)

/-- 'dspcompilerlaw17.PrototypeValid': WHATEVER THE INPUT: true; the input reads as it did. -/
def prototypeValidSpec : ChangeSpec := { name := "prototypeValid", fn := fun _ => fun
  | [d1, d2, d3, d4, d5] => { results := [.lit (.bool true)], args := [d1, d2, d3, d4, d5] }
  | _ => none }
def prototypeValidRow : OpenClaim := { program := "ytafgmcimcbhhjaagreat", sum := "5c59b09e328500d734d54e5afc13d6030d4ea09ce7c531907ab48ea8728eb599", func := "dspcompiler/dspcompilerlaw17.PrototypeValid", spec := "prototypeValid", unfollowed := true, recurses := true, apart := false }
def PrototypeValidSaid : Prop := prototypeValidRow.holds Tryz.pinned (OpenSpec.ofChange prototypeValidSpec)

/-- ITS FALSE NEIGHBOUR: 'it returns false'. Refute it at one input. -/
def prototypeValidWrong : ChangeSpec := { name := "prototypeValid", fn := fun _ => fun
  | [d1, d2, d3, d4, d5] => { results := [.lit (.bool false)], args := [d1, d2, d3, d4, d5] }
  | _ => none }
def PrototypeValidWrongFalsely : Prop := prototypeValidRow.holds Tryz.pinned (OpenSpec.ofChange prototypeValidWrong)

/-- 'dspcompilerlaw17.PrototypeEdges': WHATEVER THE INPUT: true; the input reads as it did. -/
def prototypeEdgesSpec : ChangeSpec := { name := "prototypeEdges", fn := fun _ => fun
  | [d1, d2, d3, d4, d5] => { results := [.lit (.bool true)], args := [d1, d2, d3, d4, d5] }
  | _ => none }
def prototypeEdgesRow : OpenClaim := { program := "ytafgmcimcbhhjaagreat", sum := "5c59b09e328500d734d54e5afc13d6030d4ea09ce7c531907ab48ea8728eb599", func := "dspcompiler/dspcompilerlaw17.PrototypeEdges", spec := "prototypeEdges", unfollowed := true, recurses := true, apart := false }
def PrototypeEdgesSaid : Prop := prototypeEdgesRow.holds Tryz.pinned (OpenSpec.ofChange prototypeEdgesSpec)

/-- ITS FALSE NEIGHBOUR: 'it returns false'. Refute it at one input. -/
def prototypeEdgesWrong : ChangeSpec := { name := "prototypeEdges", fn := fun _ => fun
  | [d1, d2, d3, d4, d5] => { results := [.lit (.bool false)], args := [d1, d2, d3, d4, d5] }
  | _ => none }
def PrototypeEdgesWrongFalsely : Prop := prototypeEdgesRow.holds Tryz.pinned (OpenSpec.ofChange prototypeEdgesWrong)

/-- 'dspcompilerlaw17.PrototypeBands': WHATEVER THE INPUT: true; the input reads as it did. -/
def prototypeBandsSpec : ChangeSpec := { name := "prototypeBands", fn := fun _ => fun
  | [d1, d2, d3, d4, d5] => { results := [.lit (.bool true)], args := [d1, d2, d3, d4, d5] }
  | _ => none }
def prototypeBandsRow : OpenClaim := { program := "ytafgmcimcbhhjaagreat", sum := "5c59b09e328500d734d54e5afc13d6030d4ea09ce7c531907ab48ea8728eb599", func := "dspcompiler/dspcompilerlaw17.PrototypeBands", spec := "prototypeBands", unfollowed := true, recurses := true, apart := false }
def PrototypeBandsSaid : Prop := prototypeBandsRow.holds Tryz.pinned (OpenSpec.ofChange prototypeBandsSpec)

/-- ITS FALSE NEIGHBOUR: 'it returns false'. Refute it at one input. -/
def prototypeBandsWrong : ChangeSpec := { name := "prototypeBands", fn := fun _ => fun
  | [d1, d2, d3, d4, d5] => { results := [.lit (.bool false)], args := [d1, d2, d3, d4, d5] }
  | _ => none }
def PrototypeBandsWrongFalsely : Prop := prototypeBandsRow.holds Tryz.pinned (OpenSpec.ofChange prototypeBandsWrong)

/-- 'dspcompilerlaw17.PrototypeFalls': WHATEVER THE INPUT: true; the input reads as it did. -/
def prototypeFallsSpec : ChangeSpec := { name := "prototypeFalls", fn := fun _ => fun
  | [d1, d2, d3] => { results := [.lit (.bool true)], args := [d1, d2, d3] }
  | _ => none }
def prototypeFallsRow : OpenClaim := { program := "ytafgmcimcbhhjaagreat", sum := "5c59b09e328500d734d54e5afc13d6030d4ea09ce7c531907ab48ea8728eb599", func := "dspcompiler/dspcompilerlaw17.PrototypeFalls", spec := "prototypeFalls", unfollowed := true, recurses := true, apart := false }
def PrototypeFallsSaid : Prop := prototypeFallsRow.holds Tryz.pinned (OpenSpec.ofChange prototypeFallsSpec)

/-- ITS FALSE NEIGHBOUR: 'it returns false'. Refute it at one input. -/
def prototypeFallsWrong : ChangeSpec := { name := "prototypeFalls", fn := fun _ => fun
  | [d1, d2, d3] => { results := [.lit (.bool false)], args := [d1, d2, d3] }
  | _ => none }
def PrototypeFallsWrongFalsely : Prop := prototypeFallsRow.holds Tryz.pinned (OpenSpec.ofChange prototypeFallsWrong)

/-- 'dspcompilerlaw17.PrototypeNests': WHATEVER THE INPUT: true; the input reads as it did. -/
def prototypeNestsSpec : ChangeSpec := { name := "prototypeNests", fn := fun _ => fun
  | [d1, d2, d3] => { results := [.lit (.bool true)], args := [d1, d2, d3] }
  | _ => none }
def prototypeNestsRow : OpenClaim := { program := "ytafgmcimcbhhjaagreat", sum := "5c59b09e328500d734d54e5afc13d6030d4ea09ce7c531907ab48ea8728eb599", func := "dspcompiler/dspcompilerlaw17.PrototypeNests", spec := "prototypeNests", unfollowed := true, recurses := true, apart := false }
def PrototypeNestsSaid : Prop := prototypeNestsRow.holds Tryz.pinned (OpenSpec.ofChange prototypeNestsSpec)

/-- ITS FALSE NEIGHBOUR: 'it returns false'. Refute it at one input. -/
def prototypeNestsWrong : ChangeSpec := { name := "prototypeNests", fn := fun _ => fun
  | [d1, d2, d3] => { results := [.lit (.bool false)], args := [d1, d2, d3] }
  | _ => none }
def PrototypeNestsWrongFalsely : Prop := prototypeNestsRow.holds Tryz.pinned (OpenSpec.ofChange prototypeNestsWrong)

/- THE SECOND FORM. 'bulk': how many values and letters a reading holds, each counted each time it is reached (what is shared counts as often as it is met; a slice's spare places count too). A statement '..UptoSaid' is the law's where the arguments, and the package variables that the reading takes, are together of bulk at most 1048576: NARROWER than '..Said'. Prove '..Said' where nothing that the law and all that it calls make is longer than what came in: it says more and counts as full. Else prove '..UptoSaid'. A law counts once. -/
mutual
def uptoBulk {H : Type} : DataW H → Nat
  | .lit (.string bytes) => bytes.length + 1
  | .lit _ => 1
  | .nil => 1
  | .ptr d => uptoBulk d + 1
  | .slice elems spare => uptoBulkAll elems + uptoBulkAll spare + 1
  | .agg parts => uptoBulkAll parts + 1
  | .iface _ d => uptoBulk d + 1
  | .map entries => uptoBulkEntries entries + 1
  | .held _ => 1
def uptoBulkAll {H : Type} : List (DataW H) → Nat
  | [] => 0
  | d :: r => uptoBulk d + uptoBulkAll r
def uptoBulkEntries {H : Type} : List (Lit × DataW H) → Nat
  | [] => 0
  | x :: r => uptoBulkEntry x + uptoBulkEntries r
def uptoBulkEntry {H : Type} : Lit × DataW H → Nat
  | (.string bytes, d) => bytes.length + uptoBulk d + 1
  | (_, d) => uptoBulk d + 1
 end
def uptoSmall : (H : Type) → List (DataW H) → Bool := fun _ ds => decide (uptoBulkAll ds ≤ 1048576)
def OpenSpec.upto (s : _root_.Go.ChangeSpec) : _root_.Go.OpenSpec := { _root_.Go.OpenSpec.ofChange s with cond := some uptoSmall }

/-- 'dspcompilerlaw08.ChebyshevMagnitudes', WHERE WHAT IT READS IS OF BULK AT MOST 1048576: true; the input reads as it did. -/
def chebyshevMagnitudesUptoRow : OpenClaim := { program := "ytafgmcimcbhhjaagreat", sum := "5c59b09e328500d734d54e5afc13d6030d4ea09ce7c531907ab48ea8728eb599", func := "dspcompiler/dspcompilerlaw08.ChebyshevMagnitudes", spec := "chebyshevMagnitudes", unfollowed := true, recurses := true, apart := false, narrowed := true }
def ChebyshevMagnitudesUptoSaid : Prop := chebyshevMagnitudesUptoRow.holds Tryz.pinned (OpenSpec.upto chebyshevMagnitudesSpec)

/-- 'dspcompilerlaw06.SturmCounts', WHERE WHAT IT READS IS OF BULK AT MOST 1048576: true; the input reads as it did. -/
def sturmCountsUptoRow : OpenClaim := { program := "ytafgmcimcbhhjaagreat", sum := "5c59b09e328500d734d54e5afc13d6030d4ea09ce7c531907ab48ea8728eb599", func := "dspcompiler/dspcompilerlaw06.SturmCounts", spec := "sturmCounts", unfollowed := true, recurses := true, apart := false, narrowed := true }
def SturmCountsUptoSaid : Prop := sturmCountsUptoRow.holds Tryz.pinned (OpenSpec.upto sturmCountsSpec)

/-- 'dspcompilerlaw06.SturmIsolates', WHERE WHAT IT READS IS OF BULK AT MOST 1048576: true; the input reads as it did. -/
def sturmIsolatesUptoRow : OpenClaim := { program := "ytafgmcimcbhhjaagreat", sum := "5c59b09e328500d734d54e5afc13d6030d4ea09ce7c531907ab48ea8728eb599", func := "dspcompiler/dspcompilerlaw06.SturmIsolates", spec := "sturmIsolates", unfollowed := true, recurses := true, apart := false, narrowed := true }
def SturmIsolatesUptoSaid : Prop := sturmIsolatesUptoRow.holds Tryz.pinned (OpenSpec.upto sturmIsolatesSpec)

/-- 'dspcompilerlaw17.PrototypeValid', WHERE WHAT IT READS IS OF BULK AT MOST 1048576: true; the input reads as it did. -/
def prototypeValidUptoRow : OpenClaim := { program := "ytafgmcimcbhhjaagreat", sum := "5c59b09e328500d734d54e5afc13d6030d4ea09ce7c531907ab48ea8728eb599", func := "dspcompiler/dspcompilerlaw17.PrototypeValid", spec := "prototypeValid", unfollowed := true, recurses := true, apart := false, narrowed := true }
def PrototypeValidUptoSaid : Prop := prototypeValidUptoRow.holds Tryz.pinned (OpenSpec.upto prototypeValidSpec)

/-- 'dspcompilerlaw17.PrototypeEdges', WHERE WHAT IT READS IS OF BULK AT MOST 1048576: true; the input reads as it did. -/
def prototypeEdgesUptoRow : OpenClaim := { program := "ytafgmcimcbhhjaagreat", sum := "5c59b09e328500d734d54e5afc13d6030d4ea09ce7c531907ab48ea8728eb599", func := "dspcompiler/dspcompilerlaw17.PrototypeEdges", spec := "prototypeEdges", unfollowed := true, recurses := true, apart := false, narrowed := true }
def PrototypeEdgesUptoSaid : Prop := prototypeEdgesUptoRow.holds Tryz.pinned (OpenSpec.upto prototypeEdgesSpec)

/-- 'dspcompilerlaw17.PrototypeBands', WHERE WHAT IT READS IS OF BULK AT MOST 1048576: true; the input reads as it did. -/
def prototypeBandsUptoRow : OpenClaim := { program := "ytafgmcimcbhhjaagreat", sum := "5c59b09e328500d734d54e5afc13d6030d4ea09ce7c531907ab48ea8728eb599", func := "dspcompiler/dspcompilerlaw17.PrototypeBands", spec := "prototypeBands", unfollowed := true, recurses := true, apart := false, narrowed := true }
def PrototypeBandsUptoSaid : Prop := prototypeBandsUptoRow.holds Tryz.pinned (OpenSpec.upto prototypeBandsSpec)

/-- 'dspcompilerlaw17.PrototypeFalls', WHERE WHAT IT READS IS OF BULK AT MOST 1048576: true; the input reads as it did. -/
def prototypeFallsUptoRow : OpenClaim := { program := "ytafgmcimcbhhjaagreat", sum := "5c59b09e328500d734d54e5afc13d6030d4ea09ce7c531907ab48ea8728eb599", func := "dspcompiler/dspcompilerlaw17.PrototypeFalls", spec := "prototypeFalls", unfollowed := true, recurses := true, apart := false, narrowed := true }
def PrototypeFallsUptoSaid : Prop := prototypeFallsUptoRow.holds Tryz.pinned (OpenSpec.upto prototypeFallsSpec)

/-- 'dspcompilerlaw17.PrototypeNests', WHERE WHAT IT READS IS OF BULK AT MOST 1048576: true; the input reads as it did. -/
def prototypeNestsUptoRow : OpenClaim := { program := "ytafgmcimcbhhjaagreat", sum := "5c59b09e328500d734d54e5afc13d6030d4ea09ce7c531907ab48ea8728eb599", func := "dspcompiler/dspcompilerlaw17.PrototypeNests", spec := "prototypeNests", unfollowed := true, recurses := true, apart := false, narrowed := true }
def PrototypeNestsUptoSaid : Prop := prototypeNestsUptoRow.holds Tryz.pinned (OpenSpec.upto prototypeNestsSpec)

end Rows
end Go.Proofs.YtafgmcimcbhhjaaGreat
