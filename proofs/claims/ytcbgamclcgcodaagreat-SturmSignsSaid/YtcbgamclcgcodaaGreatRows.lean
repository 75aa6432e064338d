/-
  No cell of these rows narrows 'for every input' (looked for: loops, veiled, ifaces, maps, wideKeys, modest, calm, conditions, laid).
  DERIVED. THE GIVEN ROWS OF THIS SEAT. 12 by the template 'for every input the law returns true; each argument reads behind the call as it read before'; 0 by the template 'total and deterministic' (their statements: YtcbgamclcgcodaaGreatTotals.lean).
  GIVEN WITH THE SEED: the statements are not yours to turn. If you find one false, say at which input.
  Laid BY PROGRAM, IN A SANDBOX (cutbox-rows.mjs): the forced cells as the released guide's own fill.sh prints them over the translation 425abfbed17d304e… (all of the seat's roots in one cut). By AI agents, Wed Nov 11 2026. No macro, syntax, notation, axiom, sorry.
-/
import Derived.Test.YtcbgamclcgcodaaGreatChecked
import GoSem.Claim
import GoSem.ClaimJoined
import GoSem.ClaimMapViews
import Derived.JoinedTies
import Derived.KernelRfl
namespace Go.Proofs.YtcbgamclcgcodaaGreat
/- THE CELL 'sum', in the pinned program and in every row, IS THE sha256 OF THE DUMP (.gsa) THAT YtcbgamclcgcodaaGreatProg.lean LOADS. Nothing in Lean hashes anything: it is a label: what it is worth is what the hold of that sum in a sandbox is worth. -/
noncomputable def Tryz.pinned : Pinned := { name := "ytcbgamclcgcodaagreat", sum := "425abfbed17d304e51e77ee4544fcf8029c5d5bf16c37b2f379d4c78eae2136e", checked := Tryz.checked }
namespace Rows
def none {H : Type} : Left H := { results := [], args := [] }

/-- 'dspcompilerlaw08.ChebyshevMagnitudes': WHATEVER THE INPUT: true; the input reads as it did. -/
def chebyshevMagnitudesSpec : ChangeSpec := { name := "chebyshevMagnitudes", fn := fun _ => fun
  | [d1, d2] => { results := [.lit (.bool true)], args := [d1, d2] }
  | _ => none }
def chebyshevMagnitudesRow : OpenClaim := { program := "ytcbgamclcgcodaagreat", sum := "425abfbed17d304e51e77ee4544fcf8029c5d5bf16c37b2f379d4c78eae2136e", func := "dspcompiler/dspcompilerlaw08.ChebyshevMagnitudes", spec := "chebyshevMagnitudes", unfollowed := true, recurses := true, apart := false }
def ChebyshevMagnitudesSaid : Prop := chebyshevMagnitudesRow.holds Tryz.pinned (OpenSpec.ofChange chebyshevMagnitudesSpec)

/-- ITS FALSE NEIGHBOUR: 'it returns false'. Refute it at one input. -/
def chebyshevMagnitudesWrong : ChangeSpec := { name := "chebyshevMagnitudes", fn := fun _ => fun
  | [d1, d2] => { results := [.lit (.bool false)], args := [d1, d2] }
  | _ => none }
def ChebyshevMagnitudesWrongFalsely : Prop := chebyshevMagnitudesRow.holds Tryz.pinned (OpenSpec.ofChange chebyshevMagnitudesWrong)

/-- 'dspcompilerlaw07.BernsteinProves': WHATEVER THE INPUT: true; the input reads as it did. -/
def bernsteinProvesSpec : ChangeSpec := { name := "bernsteinProves", fn := fun _ => fun
  | [d1, d2, d3, d4] => { results := [.lit (.bool true)], args := [d1, d2, d3, d4] }
  | _ => none }
def bernsteinProvesRow : OpenClaim := { program := "ytcbgamclcgcodaagreat", sum := "425abfbed17d304e51e77ee4544fcf8029c5d5bf16c37b2f379d4c78eae2136e", func := "dspcompiler/dspcompilerlaw07.BernsteinProves", spec := "bernsteinProves", unfollowed := true, recurses := true, apart := false }
def BernsteinProvesSaid : Prop := bernsteinProvesRow.holds Tryz.pinned (OpenSpec.ofChange bernsteinProvesSpec)

/-- ITS FALSE NEIGHBOUR: 'it returns false'. Refute it at one input. -/
def bernsteinProvesWrong : ChangeSpec := { name := "bernsteinProves", fn := fun _ => fun
  | [d1, d2, d3, d4] => { results := [.lit (.bool false)], args := [d1, d2, d3, d4] }
  | _ => none }
def BernsteinProvesWrongFalsely : Prop := bernsteinProvesRow.holds Tryz.pinned (OpenSpec.ofChange bernsteinProvesWrong)

/-- 'dspcompilerlaw07.BernsteinChecks': WHATEVER THE INPUT: true; the input reads as it did. -/
def bernsteinChecksSpec : ChangeSpec := { name := "bernsteinChecks", fn := fun _ => fun
  | [d1, d2, d3, d4, d5, d6] => { results := [.lit (.bool true)], args := [d1, d2, d3, d4, d5, d6] }
  | _ => none }
def bernsteinChecksRow : OpenClaim := { program := "ytcbgamclcgcodaagreat", sum := "425abfbed17d304e51e77ee4544fcf8029c5d5bf16c37b2f379d4c78eae2136e", func := "dspcompiler/dspcompilerlaw07.BernsteinChecks", spec := "bernsteinChecks", unfollowed := true, recurses := true, apart := false }
def BernsteinChecksSaid : Prop := bernsteinChecksRow.holds Tryz.pinned (OpenSpec.ofChange bernsteinChecksSpec)

/-- ITS FALSE NEIGHBOUR: 'it returns false'. Refute it at one input. -/
def bernsteinChecksWrong : ChangeSpec := { name := "bernsteinChecks", fn := fun _ => fun
  | [d1, d2, d3, d4, d5, d6] => { results := [.lit (.bool false)], args := [d1, d2, d3, d4, d5, d6] }
  | _ => none }
def BernsteinChecksWrongFalsely : Prop := bernsteinChecksRow.holds Tryz.pinned (OpenSpec.ofChange bernsteinChecksWrong)

/-- 'dspcompilerlaw06.SturmRoots': WHATEVER THE INPUT: true; the input reads as it did. -/
def sturmRootsSpec : ChangeSpec := { name := "sturmRoots", fn := fun _ => fun
  | [d1, d2, d3] => { results := [.lit (.bool true)], args := [d1, d2, d3] }
  | _ => none }
def sturmRootsRow : OpenClaim := { program := "ytcbgamclcgcodaagreat", sum := "425abfbed17d304e51e77ee4544fcf8029c5d5bf16c37b2f379d4c78eae2136e", func := "dspcompiler/dspcompilerlaw06.SturmRoots", spec := "sturmRoots", unfollowed := true, recurses := true, apart := false }
def SturmRootsSaid : Prop := sturmRootsRow.holds Tryz.pinned (OpenSpec.ofChange sturmRootsSpec)

/-- ITS FALSE NEIGHBOUR: 'it returns false'. Refute it at one input. -/
def sturmRootsWrong : ChangeSpec := { name := "sturmRoots", fn := fun _ => fun
  | [d1, d2, d3] => { results := [.lit (.bool false)], args := [d1, d2, d3] }
  | _ => none }
def SturmRootsWrongFalsely : Prop := sturmRootsRow.holds Tryz.pinned (OpenSpec.ofChange sturmRootsWrong)

/-- 'dspcompilerlaw06.SturmHalves': WHATEVER THE INPUT: true; the input reads as it did. -/
def sturmHalvesSpec : ChangeSpec := { name := "sturmHalves", fn := fun _ => fun
  | [d1, d2, d3, d4] => { results := [.lit (.bool true)], args := [d1, d2, d3, d4] }
  | _ => none }
def sturmHalvesRow : OpenClaim := { program := "ytcbgamclcgcodaagreat", sum := "425abfbed17d304e51e77ee4544fcf8029c5d5bf16c37b2f379d4c78eae2136e", func := "dspcompiler/dspcompilerlaw06.SturmHalves", spec := "sturmHalves", unfollowed := true, recurses := true, apart := false }
def SturmHalvesSaid : Prop := sturmHalvesRow.holds Tryz.pinned (OpenSpec.ofChange sturmHalvesSpec)

/-- ITS FALSE NEIGHBOUR: 'it returns false'. Refute it at one input. -/
def sturmHalvesWrong : ChangeSpec := { name := "sturmHalves", fn := fun _ => fun
  | [d1, d2, d3, d4] => { results := [.lit (.bool false)], args := [d1, d2, d3, d4] }
  | _ => none }
def SturmHalvesWrongFalsely : Prop := sturmHalvesRow.holds Tryz.pinned (OpenSpec.ofChange sturmHalvesWrong)

/-- 'dspcompilerlaw06.SturmValues': WHATEVER THE INPUT: true; the input reads as it did. -/
def sturmValuesSpec : ChangeSpec := { name := "sturmValues", fn := fun _ => fun
  | [d1, d2, d3, d4] => { results := [.lit (.bool true)], args := [d1, d2, d3, d4] }
  | _ => none }
def sturmValuesRow : OpenClaim := { program := "ytcbgamclcgcodaagreat", sum := "425abfbed17d304e51e77ee4544fcf8029c5d5bf16c37b2f379d4c78eae2136e", func := "dspcompiler/dspcompilerlaw06.SturmValues", spec := "sturmValues", unfollowed := true, recurses := true, apart := false }
def SturmValuesSaid : Prop := sturmValuesRow.holds Tryz.pinned (OpenSpec.ofChange sturmValuesSpec)

/-- ITS FALSE NEIGHBOUR: 'it returns false'. Refute it at one input. -/
def sturmValuesWrong : ChangeSpec := { name := "sturmValues", fn := fun _ => fun
  | [d1, d2, d3, d4] => { results := [.lit (.bool false)], args := [d1, d2, d3, d4] }
  | _ => none }
def SturmValuesWrongFalsely : Prop := sturmValuesRow.holds Tryz.pinned (OpenSpec.ofChange sturmValuesWrong)

/-- 'dspcompilerlaw06.SturmCounts': WHATEVER THE INPUT: true; the input reads as it did. -/
def sturmCountsSpec : ChangeSpec := { name := "sturmCounts", fn := fun _ => fun
  | [d1, d2, d3, d4, d5, d6] => { results := [.lit (.bool true)], args := [d1, d2, d3, d4, d5, d6] }
  | _ => none }
def sturmCountsRow : OpenClaim := { program := "ytcbgamclcgcodaagreat", sum := "425abfbed17d304e51e77ee4544fcf8029c5d5bf16c37b2f379d4c78eae2136e", func := "dspcompiler/dspcompilerlaw06.SturmCounts", spec := "sturmCounts", unfollowed := true, recurses := true, apart := false }
def SturmCountsSaid : Prop := sturmCountsRow.holds Tryz.pinned (OpenSpec.ofChange sturmCountsSpec)

/-- ITS FALSE NEIGHBOUR: 'it returns false'. Refute it at one input. -/
def sturmCountsWrong : ChangeSpec := { name := "sturmCounts", fn := fun _ => fun
  | [d1, d2, d3, d4, d5, d6] => { results := [.lit (.bool false)], args := [d1, d2, d3, d4, d5, d6] }
  | _ => none }
def SturmCountsWrongFalsely : Prop := sturmCountsRow.holds Tryz.pinned (OpenSpec.ofChange sturmCountsWrong)

/-- 'dspcompilerlaw06.SturmSigns': WHATEVER THE INPUT: true; the input reads as it did. -/
def sturmSignsSpec : ChangeSpec := { name := "sturmSigns", fn := fun _ => fun
  | [d1, d2, d3, d4, d5] => { results := [.lit (.bool true)], args := [d1, d2, d3, d4, d5] }
  | _ => none }
def sturmSignsRow : OpenClaim := { program := "ytcbgamclcgcodaagreat", sum := "425abfbed17d304e51e77ee4544fcf8029c5d5bf16c37b2f379d4c78eae2136e", func := "dspcompiler/dspcompilerlaw06.SturmSigns", spec := "sturmSigns", unfollowed := true, recurses := true, apart := false }
def SturmSignsSaid : Prop := sturmSignsRow.holds Tryz.pinned (OpenSpec.ofChange sturmSignsSpec)

/-- ITS FALSE NEIGHBOUR: 'it returns false'. Refute it at one input. -/
def sturmSignsWrong : ChangeSpec := { name := "sturmSigns", fn := fun _ => fun
  | [d1, d2, d3, d4, d5] => { results := [.lit (.bool false)], args := [d1, d2, d3, d4, d5] }
  | _ => none }
def SturmSignsWrongFalsely : Prop := sturmSignsRow.holds Tryz.pinned (OpenSpec.ofChange sturmSignsWrong)

/-- 'dspcompilerlaw20.ResponseLinear': WHATEVER THE INPUT: true; the input reads as it did. -/
def responseLinearSpec : ChangeSpec := { name := "responseLinear", fn := fun _ => fun
  | [d1, d2, d3, d4, d5] => { results := [.lit (.bool true)], args := [d1, d2, d3, d4, d5] }
  | _ => none }
def responseLinearRow : OpenClaim := { program := "ytcbgamclcgcodaagreat", sum := "425abfbed17d304e51e77ee4544fcf8029c5d5bf16c37b2f379d4c78eae2136e", func := "dspcompiler/dspcompilerlaw20.ResponseLinear", spec := "responseLinear", unfollowed := true, recurses := true, apart := false }
def ResponseLinearSaid : Prop := responseLinearRow.holds Tryz.pinned (OpenSpec.ofChange responseLinearSpec)

/-- ITS FALSE NEIGHBOUR: 'it returns false'. Refute it at one input. -/
def responseLinearWrong : ChangeSpec := { name := "responseLinear", fn := fun _ => fun
  | [d1, d2, d3, d4, d5] => { results := [.lit (.bool false)], args := [d1, d2, d3, d4, d5] }
  | _ => none }
def ResponseLinearWrongFalsely : Prop := responseLinearRow.holds Tryz.pinned (OpenSpec.ofChange responseLinearWrong)

/-- 'dspcompilerlaw20.ResponseSpectra': WHATEVER THE INPUT: true; the input reads as it did. -/
def responseSpectraSpec : ChangeSpec := { name := "responseSpectra", fn := fun _ => fun
  | [d1, d2, d3] => { results := [.lit (.bool true)], args := [d1, d2, d3] }
  | _ => none }
def responseSpectraRow : OpenClaim := { program := "ytcbgamclcgcodaagreat", sum := "425abfbed17d304e51e77ee4544fcf8029c5d5bf16c37b2f379d4c78eae2136e", func := "dspcompiler/dspcompilerlaw20.ResponseSpectra", spec := "responseSpectra", unfollowed := true, recurses := true, apart := false }
def ResponseSpectraSaid : Prop := responseSpectraRow.holds Tryz.pinned (OpenSpec.ofChange responseSpectraSpec)

/-- ITS FALSE NEIGHBOUR: 'it returns false'. Refute it at one input. -/
def responseSpectraWrong : ChangeSpec := { name := "responseSpectra", fn := fun _ => fun
  | [d1, d2, d3] => { results := [.lit (.bool false)], args := [d1, d2, d3] }
  | _ => none }
def ResponseSpectraWrongFalsely : Prop := responseSpectraRow.holds Tryz.pinned (OpenSpec.ofChange responseSpectraWrong)

/-- 'dspcompilerlaw20.ResponseDelays': WHATEVER THE INPUT: true; the input reads as it did. -/
def responseDelaysSpec : ChangeSpec := { name := "responseDelays", fn := fun _ => fun
  | [d1, d2, d3, d4] => { results := [.lit (.bool true)], args := [d1, d2, d3, d4] }
  | _ => none }
def responseDelaysRow : OpenClaim := { program := "ytcbgamclcgcodaagreat", sum := "425abfbed17d304e51e77ee4544fcf8029c5d5bf16c37b2f379d4c78eae2136e", func := "dspcompiler/dspcompilerlaw20.ResponseDelays", spec := "responseDelays", unfollowed := true, recurses := true, apart := false }
def ResponseDelaysSaid : Prop := responseDelaysRow.holds Tryz.pinned (OpenSpec.ofChange responseDelaysSpec)

/-- ITS FALSE NEIGHBOUR: 'it returns false'. Refute it at one input. -/
def responseDelaysWrong : ChangeSpec := { name := "responseDelays", fn := fun _ => fun
  | [d1, d2, d3, d4] => { results := [.lit (.bool false)], args := [d1, d2, d3, d4] }
  | _ => none }
def ResponseDelaysWrongFalsely : Prop := responseDelaysRow.holds Tryz.pinned (OpenSpec.ofChange responseDelaysWrong)

/-- 'dspcompilerlaw06.SturmIsolates': WHATEVER THE INPUT: true; the input reads as it did. -/
def sturmIsolatesSpec : ChangeSpec := { name := "sturmIsolates", fn := fun _ => fun
  | [d1, d2, d3, d4, d5, d6] => { results := [.lit (.bool true)], args := [d1, d2, d3, d4, d5, d6] }
  | _ => none }
def sturmIsolatesRow : OpenClaim := { program := "ytcbgamclcgcodaagreat", sum := "425abfbed17d304e51e77ee4544fcf8029c5d5bf16c37b2f379d4c78eae2136e", func := "dspcompiler/dspcompilerlaw06.SturmIsolates", spec := "sturmIsolates", unfollowed := true, recurses := true, apart := false }
def SturmIsolatesSaid : Prop := sturmIsolatesRow.holds Tryz.pinned (OpenSpec.ofChange sturmIsolatesSpec)

/-- ITS FALSE NEIGHBOUR: 'it returns false'. Refute it at one input. -/
def sturmIsolatesWrong : ChangeSpec := { name := "sturmIsolates", fn := fun _ => fun
  | [d1, d2, d3, d4, d5, d6] => { results := [.lit (.bool false)], args := [d1, d2, d3, d4, d5, d6] }
  | _ => none }
def SturmIsolatesWrongFalsely : Prop := sturmIsolatesRow.holds Tryz.pinned (OpenSpec.ofChange sturmIsolatesWrong)

/- THE SECOND FORM. 'bulk': how many values and letters a reading holds, each counted each time it is reached (what is shared counts as often as it is met; a slice's spare places count too). A statement '..UptoSaid' is the law's where the arguments, and the package variables that the reading takes, are together of bulk at most 1048576: NARROWER than '..Said'. Prove '..Said' where nothing that the law and all that it calls make is longer than what came in: it says more and counts as full. Else prove '..UptoSaid'. A law counts once. -/
mutual
def uptoBulk {H : Type} : DataW H → Nat
  | .lit (.string bytes) => bytes.length + 1
  | .lit _ => 1
  | .nil => 1
  | .ptr d => uptoBulk d + 1
  | .slice elems spare => uptoBulkAll elems + uptoBulkAll spare + 1
  | .agg parts => uptoBulkAll parts + 1
  | .iface _ d => uptoBulk d + 1
  | .map entries => uptoBulkEntries entries + 1
  | .held _ => 1
def uptoBulkAll {H : Type} : List (DataW H) → Nat
  | [] => 0
  | d :: r => uptoBulk d + uptoBulkAll r
def uptoBulkEntries {H : Type} : List (Lit × DataW H) → Nat
  | [] => 0
  | x :: r => uptoBulkEntry x + uptoBulkEntries r
def uptoBulkEntry {H : Type} : Lit × DataW H → Nat
  | (.string bytes, d) => bytes.length + uptoBulk d + 1
  | (_, d) => uptoBulk d + 1
 end
def uptoSmall : (H : Type) → List (DataW H) → Bool := fun _ ds => decide (uptoBulkAll ds ≤ 1048576)
def OpenSpec.upto (s : _root_.Go.ChangeSpec) : _root_.Go.OpenSpec := { _root_.Go.OpenSpec.ofChange s with cond := some uptoSmall }

/-- 'dspcompilerlaw08.ChebyshevMagnitudes', WHERE WHAT IT READS IS OF BULK AT MOST 1048576: true; the input reads as it did. -/
def chebyshevMagnitudesUptoRow : OpenClaim := { program := "ytcbgamclcgcodaagreat", sum := "425abfbed17d304e51e77ee4544fcf8029c5d5bf16c37b2f379d4c78eae2136e", func := "dspcompiler/dspcompilerlaw08.ChebyshevMagnitudes", spec := "chebyshevMagnitudes", unfollowed := true, recurses := true, apart := false, narrowed := true }
def ChebyshevMagnitudesUptoSaid : Prop := chebyshevMagnitudesUptoRow.holds Tryz.pinned (OpenSpec.upto chebyshevMagnitudesSpec)

/-- 'dspcompilerlaw07.BernsteinProves', WHERE WHAT IT READS IS OF BULK AT MOST 1048576: true; the input reads as it did. -/
def bernsteinProvesUptoRow : OpenClaim := { program := "ytcbgamclcgcodaagreat", sum := "425abfbed17d304e51e77ee4544fcf8029c5d5bf16c37b2f379d4c78eae2136e", func := "dspcompiler/dspcompilerlaw07.BernsteinProves", spec := "bernsteinProves", unfollowed := true, recurses := true, apart := false, narrowed := true }
def BernsteinProvesUptoSaid : Prop := bernsteinProvesUptoRow.holds Tryz.pinned (OpenSpec.upto bernsteinProvesSpec)

/-- 'dspcompilerlaw07.BernsteinChecks', WHERE WHAT IT READS IS OF BULK AT MOST 1048576: true; the input reads as it did. -/
def bernsteinChecksUptoRow : OpenClaim := { program := "ytcbgamclcgcodaagreat", sum := "425abfbed17d304e51e77ee4544fcf8029c5d5bf16c37b2f379d4c78eae2136e", func := "dspcompiler/dspcompilerlaw07.BernsteinChecks", spec := "bernsteinChecks", unfollowed := true, recurses := true, apart := false, narrowed := true }
def BernsteinChecksUptoSaid : Prop := bernsteinChecksUptoRow.holds Tryz.pinned (OpenSpec.upto bernsteinChecksSpec)

/-- 'dspcompilerlaw06.SturmRoots', WHERE WHAT IT READS IS OF BULK AT MOST 1048576: true; the input reads as it did. -/
def sturmRootsUptoRow : OpenClaim := { program := "ytcbgamclcgcodaagreat", sum := "425abfbed17d304e51e77ee4544fcf8029c5d5bf16c37b2f379d4c78eae2136e", func := "dspcompiler/dspcompilerlaw06.SturmRoots", spec := "sturmRoots", unfollowed := true, recurses := true, apart := false, narrowed := true }
def SturmRootsUptoSaid : Prop := sturmRootsUptoRow.holds Tryz.pinned (OpenSpec.upto sturmRootsSpec)

/-- 'dspcompilerlaw06.SturmHalves', WHERE WHAT IT READS IS OF BULK AT MOST 1048576: true; the input reads as it did. -/
def sturmHalvesUptoRow : OpenClaim := { program := "ytcbgamclcgcodaagreat", sum := "425abfbed17d304e51e77ee4544fcf8029c5d5bf16c37b2f379d4c78eae2136e", func := "dspcompiler/dspcompilerlaw06.SturmHalves", spec := "sturmHalves", unfollowed := true, recurses := true, apart := false, narrowed := true }
def SturmHalvesUptoSaid : Prop := sturmHalvesUptoRow.holds Tryz.pinned (OpenSpec.upto sturmHalvesSpec)

/-- 'dspcompilerlaw06.SturmValues', WHERE WHAT IT READS IS OF BULK AT MOST 1048576: true; the input reads as it did. -/
def sturmValuesUptoRow : OpenClaim := { program := "ytcbgamclcgcodaagreat", sum := "425abfbed17d304e51e77ee4544fcf8029c5d5bf16c37b2f379d4c78eae2136e", func := "dspcompiler/dspcompilerlaw06.SturmValues", spec := "sturmValues", unfollowed := true, recurses := true, apart := false, narrowed := true }
def SturmValuesUptoSaid : Prop := sturmValuesUptoRow.holds Tryz.pinned (OpenSpec.upto sturmValuesSpec)

/-- 'dspcompilerlaw06.SturmCounts', WHERE WHAT IT READS IS OF BULK AT MOST 1048576: true; the input reads as it did. -/
def sturmCountsUptoRow : OpenClaim := { program := "ytcbgamclcgcodaagreat", sum := "425abfbed17d304e51e77ee4544fcf8029c5d5bf16c37b2f379d4c78eae2136e", func := "dspcompiler/dspcompilerlaw06.SturmCounts", spec := "sturmCounts", unfollowed := true, recurses := true, apart := false, narrowed := true }
def SturmCountsUptoSaid : Prop := sturmCountsUptoRow.holds Tryz.pinned (OpenSpec.upto sturmCountsSpec)

/-- 'dspcompilerlaw06.SturmSigns', WHERE WHAT IT READS IS OF BULK AT MOST 1048576: true; the input reads as it did. -/
def sturmSignsUptoRow : OpenClaim := { program := "ytcbgamclcgcodaagreat", sum := "425abfbed17d304e51e77ee4544fcf8029c5d5bf16c37b2f379d4c78eae2136e", func := "dspcompiler/dspcompilerlaw06.SturmSigns", spec := "sturmSigns", unfollowed := true, recurses := true, apart := false, narrowed := true }
def SturmSignsUptoSaid : Prop := sturmSignsUptoRow.holds Tryz.pinned (OpenSpec.upto sturmSignsSpec)

/-- 'dspcompilerlaw20.ResponseLinear', WHERE WHAT IT READS IS OF BULK AT MOST 1048576: true; the input reads as it did. -/
def responseLinearUptoRow : OpenClaim := { program := "ytcbgamclcgcodaagreat", sum := "425abfbed17d304e51e77ee4544fcf8029c5d5bf16c37b2f379d4c78eae2136e", func := "dspcompiler/dspcompilerlaw20.ResponseLinear", spec := "responseLinear", unfollowed := true, recurses := true, apart := false, narrowed := true }
def ResponseLinearUptoSaid : Prop := responseLinearUptoRow.holds Tryz.pinned (OpenSpec.upto responseLinearSpec)

/-- 'dspcompilerlaw20.ResponseSpectra', WHERE WHAT IT READS IS OF BULK AT MOST 1048576: true; the input reads as it did. -/
def responseSpectraUptoRow : OpenClaim := { program := "ytcbgamclcgcodaagreat", sum := "425abfbed17d304e51e77ee4544fcf8029c5d5bf16c37b2f379d4c78eae2136e", func := "dspcompiler/dspcompilerlaw20.ResponseSpectra", spec := "responseSpectra", unfollowed := true, recurses := true, apart := false, narrowed := true }
def ResponseSpectraUptoSaid : Prop := responseSpectraUptoRow.holds Tryz.pinned (OpenSpec.upto responseSpectraSpec)

/-- 'dspcompilerlaw20.ResponseDelays', WHERE WHAT IT READS IS OF BULK AT MOST 1048576: true; the input reads as it did. -/
def responseDelaysUptoRow : OpenClaim := { program := "ytcbgamclcgcodaagreat", sum := "425abfbed17d304e51e77ee4544fcf8029c5d5bf16c37b2f379d4c78eae2136e", func := "dspcompiler/dspcompilerlaw20.ResponseDelays", spec := "responseDelays", unfollowed := true, recurses := true, apart := false, narrowed := true }
def ResponseDelaysUptoSaid : Prop := responseDelaysUptoRow.holds Tryz.pinned (OpenSpec.upto responseDelaysSpec)

/-- 'dspcompilerlaw06.SturmIsolates', WHERE WHAT IT READS IS OF BULK AT MOST 1048576: true; the input reads as it did. -/
def sturmIsolatesUptoRow : OpenClaim := { program := "ytcbgamclcgcodaagreat", sum := "425abfbed17d304e51e77ee4544fcf8029c5d5bf16c37b2f379d4c78eae2136e", func := "dspcompiler/dspcompilerlaw06.SturmIsolates", spec := "sturmIsolates", unfollowed := true, recurses := true, apart := false, narrowed := true }
def SturmIsolatesUptoSaid : Prop := sturmIsolatesUptoRow.holds Tryz.pinned (OpenSpec.upto sturmIsolatesSpec)

end Rows
end Go.Proofs.YtcbgamclcgcodaaGreat
