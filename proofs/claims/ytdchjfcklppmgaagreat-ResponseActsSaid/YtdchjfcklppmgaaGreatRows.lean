/-
  No cell of these rows narrows 'for every input' (looked for: loops, veiled, ifaces, maps, wideKeys, modest, calm, conditions, laid).
  DERIVED. THE GIVEN ROWS OF THIS SEAT. 12 by the template 'for every input the law returns true; each argument reads behind the call as it read before'; 0 by the template 'total and deterministic' (their statements: YtdchjfcklppmgaaGreatTotals.lean).
  GIVEN WITH THE SEED: the statements are not yours to turn. If you find one false, say at which input.
  Laid BY PROGRAM, IN A SANDBOX (cutbox-rows.mjs): the forced cells as the released guide's own fill.sh prints them over the translation 20448ef31776dcb9… (all of the seat's roots in one cut). By AI agents, Wed Nov 11 2026. No macro, syntax, notation, axiom, sorry.
-/
import Derived.Test.YtdchjfcklppmgaaGreatChecked
import GoSem.Claim
import GoSem.ClaimJoined
import GoSem.ClaimMapViews
import Derived.JoinedTies
import Derived.KernelRfl
namespace Go.Proofs.YtdchjfcklppmgaaGreat
/- THE CELL 'sum', in the pinned program and in every row, IS THE sha256 OF THE DUMP (.gsa) THAT YtdchjfcklppmgaaGreatProg.lean LOADS. Nothing in Lean hashes anything: it is a label: what it is worth is what the hold of that sum in a sandbox is worth. -/
noncomputable def Tryz.pinned : Pinned := { name := "ytdchjfcklppmgaagreat", sum := "20448ef31776dcb96904001a8f2dbb14027c5bb6920141e2da862f5788ac0c59", checked := Tryz.checked }
namespace Rows
def none {H : Type} : Left H := { results := [], args := [] }

/-- 'dspcompilerlaw28.QuantiseNearest': WHATEVER THE INPUT: true; the input reads as it did. -/
def quantiseNearestSpec : ChangeSpec := { name := "quantiseNearest", fn := fun _ => fun
  | [d1, d2, d3, d4] => { results := [.lit (.bool true)], args := [d1, d2, d3, d4] }
  | _ => none }
def quantiseNearestRow : OpenClaim := { program := "ytdchjfcklppmgaagreat", sum := "20448ef31776dcb96904001a8f2dbb14027c5bb6920141e2da862f5788ac0c59", func := "dspcompiler/dspcompilerlaw28.QuantiseNearest", spec := "quantiseNearest", unfollowed := true, recurses := true, apart := false }
def QuantiseNearestSaid : Prop := quantiseNearestRow.holds Tryz.pinned (OpenSpec.ofChange quantiseNearestSpec)

/-- ITS FALSE NEIGHBOUR: 'it returns false'. Refute it at one input. -/
def quantiseNearestWrong : ChangeSpec := { name := "quantiseNearest", fn := fun _ => fun
  | [d1, d2, d3, d4] => { results := [.lit (.bool false)], args := [d1, d2, d3, d4] }
  | _ => none }
def QuantiseNearestWrongFalsely : Prop := quantiseNearestRow.holds Tryz.pinned (OpenSpec.ofChange quantiseNearestWrong)

/-- 'dspcompilerlaw08.ChebyshevMagnitudes': WHATEVER THE INPUT: true; the input reads as it did. -/
def chebyshevMagnitudesSpec : ChangeSpec := { name := "chebyshevMagnitudes", fn := fun _ => fun
  | [d1, d2] => { results := [.lit (.bool true)], args := [d1, d2] }
  | _ => none }
def chebyshevMagnitudesRow : OpenClaim := { program := "ytdchjfcklppmgaagreat", sum := "20448ef31776dcb96904001a8f2dbb14027c5bb6920141e2da862f5788ac0c59", func := "dspcompiler/dspcompilerlaw08.ChebyshevMagnitudes", spec := "chebyshevMagnitudes", unfollowed := true, recurses := true, apart := false }
def ChebyshevMagnitudesSaid : Prop := chebyshevMagnitudesRow.holds Tryz.pinned (OpenSpec.ofChange chebyshevMagnitudesSpec)

/-- ITS FALSE NEIGHBOUR: 'it returns false'. Refute it at one input. -/
def chebyshevMagnitudesWrong : ChangeSpec := { name := "chebyshevMagnitudes", fn := fun _ => fun
  | [d1, d2] => { results := [.lit (.bool false)], args := [d1, d2] }
  | _ => none }
def ChebyshevMagnitudesWrongFalsely : Prop := chebyshevMagnitudesRow.holds Tryz.pinned (OpenSpec.ofChange chebyshevMagnitudesWrong)

/-- 'dspcompilerlaw07.BernsteinProves': WHATEVER THE INPUT: true; the input reads as it did. -/
def bernsteinProvesSpec : ChangeSpec := { name := "bernsteinProves", fn := fun _ => fun
  | [d1, d2, d3, d4] => { results := [.lit (.bool true)], args := [d1, d2, d3, d4] }
  | _ => none }
def bernsteinProvesRow : OpenClaim := { program := "ytdchjfcklppmgaagreat", sum := "20448ef31776dcb96904001a8f2dbb14027c5bb6920141e2da862f5788ac0c59", func := "dspcompiler/dspcompilerlaw07.BernsteinProves", spec := "bernsteinProves", unfollowed := true, recurses := true, apart := false }
def BernsteinProvesSaid : Prop := bernsteinProvesRow.holds Tryz.pinned (OpenSpec.ofChange bernsteinProvesSpec)

/-- ITS FALSE NEIGHBOUR: 'it returns false'. Refute it at one input. -/
def bernsteinProvesWrong : ChangeSpec := { name := "bernsteinProves", fn := fun _ => fun
  | [d1, d2, d3, d4] => { results := [.lit (.bool false)], args := [d1, d2, d3, d4] }
  | _ => none }
def BernsteinProvesWrongFalsely : Prop := bernsteinProvesRow.holds Tryz.pinned (OpenSpec.ofChange bernsteinProvesWrong)

/-- 'dspcompilerlaw07.BernsteinChecks': WHATEVER THE INPUT: true; the input reads as it did. -/
def bernsteinChecksSpec : ChangeSpec := { name := "bernsteinChecks", fn := fun _ => fun
  | [d1, d2, d3, d4, d5, d6] => { results := [.lit (.bool true)], args := [d1, d2, d3, d4, d5, d6] }
  | _ => none }
def bernsteinChecksRow : OpenClaim := { program := "ytdchjfcklppmgaagreat", sum := "20448ef31776dcb96904001a8f2dbb14027c5bb6920141e2da862f5788ac0c59", func := "dspcompiler/dspcompilerlaw07.BernsteinChecks", spec := "bernsteinChecks", unfollowed := true, recurses := true, apart := false }
def BernsteinChecksSaid : Prop := bernsteinChecksRow.holds Tryz.pinned (OpenSpec.ofChange bernsteinChecksSpec)

/-- ITS FALSE NEIGHBOUR: 'it returns false'. Refute it at one input. -/
def bernsteinChecksWrong : ChangeSpec := { name := "bernsteinChecks", fn := fun _ => fun
  | [d1, d2, d3, d4, d5, d6] => { results := [.lit (.bool false)], args := [d1, d2, d3, d4, d5, d6] }
  | _ => none }
def BernsteinChecksWrongFalsely : Prop := bernsteinChecksRow.holds Tryz.pinned (OpenSpec.ofChange bernsteinChecksWrong)

/-- 'dspcompilerlaw07.BernsteinActs': WHATEVER THE INPUT: true; the input reads as it did. -/
def bernsteinActsSpec : ChangeSpec := { name := "bernsteinActs", fn := fun _ => fun
  | [d1, d2, d3] => { results := [.lit (.bool true)], args := [d1, d2, d3] }
  | _ => none }
def bernsteinActsRow : OpenClaim := { program := "ytdchjfcklppmgaagreat", sum := "20448ef31776dcb96904001a8f2dbb14027c5bb6920141e2da862f5788ac0c59", func := "dspcompiler/dspcompilerlaw07.BernsteinActs", spec := "bernsteinActs", unfollowed := true, recurses := true, apart := false }
def BernsteinActsSaid : Prop := bernsteinActsRow.holds Tryz.pinned (OpenSpec.ofChange bernsteinActsSpec)

/-- ITS FALSE NEIGHBOUR: 'it returns false'. Refute it at one input. -/
def bernsteinActsWrong : ChangeSpec := { name := "bernsteinActs", fn := fun _ => fun
  | [d1, d2, d3] => { results := [.lit (.bool false)], args := [d1, d2, d3] }
  | _ => none }
def BernsteinActsWrongFalsely : Prop := bernsteinActsRow.holds Tryz.pinned (OpenSpec.ofChange bernsteinActsWrong)

/-- 'dspcompilerlaw07.BernsteinEncloses': WHATEVER THE INPUT: true; the input reads as it did. -/
def bernsteinEnclosesSpec : ChangeSpec := { name := "bernsteinEncloses", fn := fun _ => fun
  | [d1, d2, d3, d4] => { results := [.lit (.bool true)], args := [d1, d2, d3, d4] }
  | _ => none }
def bernsteinEnclosesRow : OpenClaim := { program := "ytdchjfcklppmgaagreat", sum := "20448ef31776dcb96904001a8f2dbb14027c5bb6920141e2da862f5788ac0c59", func := "dspcompiler/dspcompilerlaw07.BernsteinEncloses", spec := "bernsteinEncloses", unfollowed := true, recurses := true, apart := false }
def BernsteinEnclosesSaid : Prop := bernsteinEnclosesRow.holds Tryz.pinned (OpenSpec.ofChange bernsteinEnclosesSpec)

/-- ITS FALSE NEIGHBOUR: 'it returns false'. Refute it at one input. -/
def bernsteinEnclosesWrong : ChangeSpec := { name := "bernsteinEncloses", fn := fun _ => fun
  | [d1, d2, d3, d4] => { results := [.lit (.bool false)], args := [d1, d2, d3, d4] }
  | _ => none }
def BernsteinEnclosesWrongFalsely : Prop := bernsteinEnclosesRow.holds Tryz.pinned (OpenSpec.ofChange bernsteinEnclosesWrong)

/-- 'dspcompilerlaw06.SturmHalves': WHATEVER THE INPUT: true; the input reads as it did. -/
def sturmHalvesSpec : ChangeSpec := { name := "sturmHalves", fn := fun _ => fun
  | [d1, d2, d3, d4] => { results := [.lit (.bool true)], args := [d1, d2, d3, d4] }
  | _ => none }
def sturmHalvesRow : OpenClaim := { program := "ytdchjfcklppmgaagreat", sum := "20448ef31776dcb96904001a8f2dbb14027c5bb6920141e2da862f5788ac0c59", func := "dspcompiler/dspcompilerlaw06.SturmHalves", spec := "sturmHalves", unfollowed := true, recurses := true, apart := false }
def SturmHalvesSaid : Prop := sturmHalvesRow.holds Tryz.pinned (OpenSpec.ofChange sturmHalvesSpec)

/-- ITS FALSE NEIGHBOUR: 'it returns false'. Refute it at one input. -/
def sturmHalvesWrong : ChangeSpec := { name := "sturmHalves", fn := fun _ => fun
  | [d1, d2, d3, d4] => { results := [.lit (.bool false)], args := [d1, d2, d3, d4] }
  | _ => none }
def SturmHalvesWrongFalsely : Prop := sturmHalvesRow.holds Tryz.pinned (OpenSpec.ofChange sturmHalvesWrong)

/-- 'dspcompilerlaw20.ResponseLinear': WHATEVER THE INPUT: true; the input reads as it did. -/
def responseLinearSpec : ChangeSpec := { name := "responseLinear", fn := fun _ => fun
  | [d1, d2, d3, d4, d5] => { results := [.lit (.bool true)], args := [d1, d2, d3, d4, d5] }
  | _ => none }
def responseLinearRow : OpenClaim := { program := "ytdchjfcklppmgaagreat", sum := "20448ef31776dcb96904001a8f2dbb14027c5bb6920141e2da862f5788ac0c59", func := "dspcompiler/dspcompilerlaw20.ResponseLinear", spec := "responseLinear", unfollowed := true, recurses := true, apart := false }
def ResponseLinearSaid : Prop := responseLinearRow.holds Tryz.pinned (OpenSpec.ofChange responseLinearSpec)

/-- ITS FALSE NEIGHBOUR: 'it returns false'. Refute it at one input. -/
def responseLinearWrong : ChangeSpec := { name := "responseLinear", fn := fun _ => fun
  | [d1, d2, d3, d4, d5] => { results := [.lit (.bool false)], args := [d1, d2, d3, d4, d5] }
  | _ => none }
def ResponseLinearWrongFalsely : Prop := responseLinearRow.holds Tryz.pinned (OpenSpec.ofChange responseLinearWrong)

/-- 'dspcompilerlaw20.ResponseSpectra': WHATEVER THE INPUT: true; the input reads as it did. -/
def responseSpectraSpec : ChangeSpec := { name := "responseSpectra", fn := fun _ => fun
  | [d1, d2, d3] => { results := [.lit (.bool true)], args := [d1, d2, d3] }
  | _ => none }
def responseSpectraRow : OpenClaim := { program := "ytdchjfcklppmgaagreat", sum := "20448ef31776dcb96904001a8f2dbb14027c5bb6920141e2da862f5788ac0c59", func := "dspcompiler/dspcompilerlaw20.ResponseSpectra", spec := "responseSpectra", unfollowed := true, recurses := true, apart := false }
def ResponseSpectraSaid : Prop := responseSpectraRow.holds Tryz.pinned (OpenSpec.ofChange responseSpectraSpec)

/-- ITS FALSE NEIGHBOUR: 'it returns false'. Refute it at one input. -/
def responseSpectraWrong : ChangeSpec := { name := "responseSpectra", fn := fun _ => fun
  | [d1, d2, d3] => { results := [.lit (.bool false)], args := [d1, d2, d3] }
  | _ => none }
def ResponseSpectraWrongFalsely : Prop := responseSpectraRow.holds Tryz.pinned (OpenSpec.ofChange responseSpectraWrong)

/-- 'dspcompilerlaw20.ResponseSeries': WHATEVER THE INPUT: true; the input reads as it did. -/
def responseSeriesSpec : ChangeSpec := { name := "responseSeries", fn := fun _ => fun
  | [d1, d2, d3, d4, d5] => { results := [.lit (.bool true)], args := [d1, d2, d3, d4, d5] }
  | _ => none }
def responseSeriesRow : OpenClaim := { program := "ytdchjfcklppmgaagreat", sum := "20448ef31776dcb96904001a8f2dbb14027c5bb6920141e2da862f5788ac0c59", func := "dspcompiler/dspcompilerlaw20.ResponseSeries", spec := "responseSeries", unfollowed := true, recurses := true, apart := false }
def ResponseSeriesSaid : Prop := responseSeriesRow.holds Tryz.pinned (OpenSpec.ofChange responseSeriesSpec)

/-- ITS FALSE NEIGHBOUR: 'it returns false'. Refute it at one input. -/
def responseSeriesWrong : ChangeSpec := { name := "responseSeries", fn := fun _ => fun
  | [d1, d2, d3, d4, d5] => { results := [.lit (.bool false)], args := [d1, d2, d3, d4, d5] }
  | _ => none }
def ResponseSeriesWrongFalsely : Prop := responseSeriesRow.holds Tryz.pinned (OpenSpec.ofChange responseSeriesWrong)

/-- 'dspcompilerlaw20.ResponseActs': WHATEVER THE INPUT: true; the input reads as it did. -/
def responseActsSpec : ChangeSpec := { name := "responseActs", fn := fun _ => fun
  | [d1, d2, d3, d4, d5, d6, d7] => { results := [.lit (.bool true)], args := [d1, d2, d3, d4, d5, d6, d7] }
  | _ => none }
def responseActsRow : OpenClaim := { program := "ytdchjfcklppmgaagreat", sum := "20448ef31776dcb96904001a8f2dbb14027c5bb6920141e2da862f5788ac0c59", func := "dspcompiler/dspcompilerlaw20.ResponseActs", spec := "responseActs", unfollowed := true, recurses := true, apart := false }
def ResponseActsSaid : Prop := responseActsRow.holds Tryz.pinned (OpenSpec.ofChange responseActsSpec)

/-- ITS FALSE NEIGHBOUR: 'it returns false'. Refute it at one input. -/
def responseActsWrong : ChangeSpec := { name := "responseActs", fn := fun _ => fun
  | [d1, d2, d3, d4, d5, d6, d7] => { results := [.lit (.bool false)], args := [d1, d2, d3, d4, d5, d6, d7] }
  | _ => none }
def ResponseActsWrongFalsely : Prop := responseActsRow.holds Tryz.pinned (OpenSpec.ofChange responseActsWrong)

/-- 'dspcompilerlaw17.PrototypeRatios': WHATEVER THE INPUT: true; the input reads as it did. -/
def prototypeRatiosSpec : ChangeSpec := { name := "prototypeRatios", fn := fun _ => fun
  | [d1, d2, d3, d4] => { results := [.lit (.bool true)], args := [d1, d2, d3, d4] }
  | _ => none }
def prototypeRatiosRow : OpenClaim := { program := "ytdchjfcklppmgaagreat", sum := "20448ef31776dcb96904001a8f2dbb14027c5bb6920141e2da862f5788ac0c59", func := "dspcompiler/dspcompilerlaw17.PrototypeRatios", spec := "prototypeRatios", unfollowed := true, recurses := true, apart := false }
def PrototypeRatiosSaid : Prop := prototypeRatiosRow.holds Tryz.pinned (OpenSpec.ofChange prototypeRatiosSpec)

/-- ITS FALSE NEIGHBOUR: 'it returns false'. Refute it at one input. -/
def prototypeRatiosWrong : ChangeSpec := { name := "prototypeRatios", fn := fun _ => fun
  | [d1, d2, d3, d4] => { results := [.lit (.bool false)], args := [d1, d2, d3, d4] }
  | _ => none }
def PrototypeRatiosWrongFalsely : Prop := prototypeRatiosRow.holds Tryz.pinned (OpenSpec.ofChange prototypeRatiosWrong)

/- THE SECOND FORM. 'bulk': how many values and letters a reading holds, each counted each time it is reached (what is shared counts as often as it is met; a slice's spare places count too). A statement '..UptoSaid' is the law's where the arguments, and the package variables that the reading takes, are together of bulk at most 1048576: NARROWER than '..Said'. Prove '..Said' where nothing that the law and all that it calls make is longer than what came in: it says more and counts as full. Else prove '..UptoSaid'. A law counts once. -/
mutual
def uptoBulk {H : Type} : DataW H → Nat
  | .lit (.string bytes) => bytes.length + 1
  | .lit _ => 1
  | .nil => 1
  | .ptr d => uptoBulk d + 1
  | .slice elems spare => uptoBulkAll elems + uptoBulkAll spare + 1
  | .agg parts => uptoBulkAll parts + 1
  | .iface _ d => uptoBulk d + 1
  | .map entries => uptoBulkEntries entries + 1
  | .held _ => 1
def uptoBulkAll {H : Type} : List (DataW H) → Nat
  | [] => 0
  | d :: r => uptoBulk d + uptoBulkAll r
def uptoBulkEntries {H : Type} : List (Lit × DataW H) → Nat
  | [] => 0
  | x :: r => uptoBulkEntry x + uptoBulkEntries r
def uptoBulkEntry {H : Type} : Lit × DataW H → Nat
  | (.string bytes, d) => bytes.length + uptoBulk d + 1
  | (_, d) => uptoBulk d + 1
 end
def uptoSmall : (H : Type) → List (DataW H) → Bool := fun _ ds => decide (uptoBulkAll ds ≤ 1048576)
def OpenSpec.upto (s : _root_.Go.ChangeSpec) : _root_.Go.OpenSpec := { _root_.Go.OpenSpec.ofChange s with cond := some uptoSmall }

/-- 'dspcompilerlaw28.QuantiseNearest', WHERE WHAT IT READS IS OF BULK AT MOST 1048576: true; the input reads as it did. -/
def quantiseNearestUptoRow : OpenClaim := { program := "ytdchjfcklppmgaagreat", sum := "20448ef31776dcb96904001a8f2dbb14027c5bb6920141e2da862f5788ac0c59", func := "dspcompiler/dspcompilerlaw28.QuantiseNearest", spec := "quantiseNearest", unfollowed := true, recurses := true, apart := false, narrowed := true }
def QuantiseNearestUptoSaid : Prop := quantiseNearestUptoRow.holds Tryz.pinned (OpenSpec.upto quantiseNearestSpec)

/-- 'dspcompilerlaw08.ChebyshevMagnitudes', WHERE WHAT IT READS IS OF BULK AT MOST 1048576: true; the input reads as it did. -/
def chebyshevMagnitudesUptoRow : OpenClaim := { program := "ytdchjfcklppmgaagreat", sum := "20448ef31776dcb96904001a8f2dbb14027c5bb6920141e2da862f5788ac0c59", func := "dspcompiler/dspcompilerlaw08.ChebyshevMagnitudes", spec := "chebyshevMagnitudes", unfollowed := true, recurses := true, apart := false, narrowed := true }
def ChebyshevMagnitudesUptoSaid : Prop := chebyshevMagnitudesUptoRow.holds Tryz.pinned (OpenSpec.upto chebyshevMagnitudesSpec)

/-- 'dspcompilerlaw07.BernsteinProves', WHERE WHAT IT READS IS OF BULK AT MOST 1048576: true; the input reads as it did. -/
def bernsteinProvesUptoRow : OpenClaim := { program := "ytdchjfcklppmgaagreat", sum := "20448ef31776dcb96904001a8f2dbb14027c5bb6920141e2da862f5788ac0c59", func := "dspcompiler/dspcompilerlaw07.BernsteinProves", spec := "bernsteinProves", unfollowed := true, recurses := true, apart := false, narrowed := true }
def BernsteinProvesUptoSaid : Prop := bernsteinProvesUptoRow.holds Tryz.pinned (OpenSpec.upto bernsteinProvesSpec)

/-- 'dspcompilerlaw07.BernsteinChecks', WHERE WHAT IT READS IS OF BULK AT MOST 1048576: true; the input reads as it did. -/
def bernsteinChecksUptoRow : OpenClaim := { program := "ytdchjfcklppmgaagreat", sum := "20448ef31776dcb96904001a8f2dbb14027c5bb6920141e2da862f5788ac0c59", func := "dspcompiler/dspcompilerlaw07.BernsteinChecks", spec := "bernsteinChecks", unfollowed := true, recurses := true, apart := false, narrowed := true }
def BernsteinChecksUptoSaid : Prop := bernsteinChecksUptoRow.holds Tryz.pinned (OpenSpec.upto bernsteinChecksSpec)

/-- 'dspcompilerlaw07.BernsteinActs', WHERE WHAT IT READS IS OF BULK AT MOST 1048576: true; the input reads as it did. -/
def bernsteinActsUptoRow : OpenClaim := { program := "ytdchjfcklppmgaagreat", sum := "20448ef31776dcb96904001a8f2dbb14027c5bb6920141e2da862f5788ac0c59", func := "dspcompiler/dspcompilerlaw07.BernsteinActs", spec := "bernsteinActs", unfollowed := true, recurses := true, apart := false, narrowed := true }
def BernsteinActsUptoSaid : Prop := bernsteinActsUptoRow.holds Tryz.pinned (OpenSpec.upto bernsteinActsSpec)

/-- 'dspcompilerlaw07.BernsteinEncloses', WHERE WHAT IT READS IS OF BULK AT MOST 1048576: true; the input reads as it did. -/
def bernsteinEnclosesUptoRow : OpenClaim := { program := "ytdchjfcklppmgaagreat", sum := "20448ef31776dcb96904001a8f2dbb14027c5bb6920141e2da862f5788ac0c59", func := "dspcompiler/dspcompilerlaw07.BernsteinEncloses", spec := "bernsteinEncloses", unfollowed := true, recurses := true, apart := false, narrowed := true }
def BernsteinEnclosesUptoSaid : Prop := bernsteinEnclosesUptoRow.holds Tryz.pinned (OpenSpec.upto bernsteinEnclosesSpec)

/-- 'dspcompilerlaw06.SturmHalves', WHERE WHAT IT READS IS OF BULK AT MOST 1048576: true; the input reads as it did. -/
def sturmHalvesUptoRow : OpenClaim := { program := "ytdchjfcklppmgaagreat", sum := "20448ef31776dcb96904001a8f2dbb14027c5bb6920141e2da862f5788ac0c59", func := "dspcompiler/dspcompilerlaw06.SturmHalves", spec := "sturmHalves", unfollowed := true, recurses := true, apart := false, narrowed := true }
def SturmHalvesUptoSaid : Prop := sturmHalvesUptoRow.holds Tryz.pinned (OpenSpec.upto sturmHalvesSpec)

/-- 'dspcompilerlaw20.ResponseLinear', WHERE WHAT IT READS IS OF BULK AT MOST 1048576: true; the input reads as it did. -/
def responseLinearUptoRow : OpenClaim := { program := "ytdchjfcklppmgaagreat", sum := "20448ef31776dcb96904001a8f2dbb14027c5bb6920141e2da862f5788ac0c59", func := "dspcompiler/dspcompilerlaw20.ResponseLinear", spec := "responseLinear", unfollowed := true, recurses := true, apart := false, narrowed := true }
def ResponseLinearUptoSaid : Prop := responseLinearUptoRow.holds Tryz.pinned (OpenSpec.upto responseLinearSpec)

/-- 'dspcompilerlaw20.ResponseSpectra', WHERE WHAT IT READS IS OF BULK AT MOST 1048576: true; the input reads as it did. -/
def responseSpectraUptoRow : OpenClaim := { program := "ytdchjfcklppmgaagreat", sum := "20448ef31776dcb96904001a8f2dbb14027c5bb6920141e2da862f5788ac0c59", func := "dspcompiler/dspcompilerlaw20.ResponseSpectra", spec := "responseSpectra", unfollowed := true, recurses := true, apart := false, narrowed := true }
def ResponseSpectraUptoSaid : Prop := responseSpectraUptoRow.holds Tryz.pinned (OpenSpec.upto responseSpectraSpec)

/-- 'dspcompilerlaw20.ResponseSeries', WHERE WHAT IT READS IS OF BULK AT MOST 1048576: true; the input reads as it did. -/
def responseSeriesUptoRow : OpenClaim := { program := "ytdchjfcklppmgaagreat", sum := "20448ef31776dcb96904001a8f2dbb14027c5bb6920141e2da862f5788ac0c59", func := "dspcompiler/dspcompilerlaw20.ResponseSeries", spec := "responseSeries", unfollowed := true, recurses := true, apart := false, narrowed := true }
def ResponseSeriesUptoSaid : Prop := responseSeriesUptoRow.holds Tryz.pinned (OpenSpec.upto responseSeriesSpec)

/-- 'dspcompilerlaw20.ResponseActs', WHERE WHAT IT READS IS OF BULK AT MOST 1048576: true; the input reads as it did. -/
def responseActsUptoRow : OpenClaim := { program := "ytdchjfcklppmgaagreat", sum := "20448ef31776dcb96904001a8f2dbb14027c5bb6920141e2da862f5788ac0c59", func := "dspcompiler/dspcompilerlaw20.ResponseActs", spec := "responseActs", unfollowed := true, recurses := true, apart := false, narrowed := true }
def ResponseActsUptoSaid : Prop := responseActsUptoRow.holds Tryz.pinned (OpenSpec.upto responseActsSpec)

/-- 'dspcompilerlaw17.PrototypeRatios', WHERE WHAT IT READS IS OF BULK AT MOST 1048576: true; the input reads as it did. -/
def prototypeRatiosUptoRow : OpenClaim := { program := "ytdchjfcklppmgaagreat", sum := "20448ef31776dcb96904001a8f2dbb14027c5bb6920141e2da862f5788ac0c59", func := "dspcompiler/dspcompilerlaw17.PrototypeRatios", spec := "prototypeRatios", unfollowed := true, recurses := true, apart := false, narrowed := true }
def PrototypeRatiosUptoSaid : Prop := prototypeRatiosUptoRow.holds Tryz.pinned (OpenSpec.upto prototypeRatiosSpec)

end Rows
end Go.Proofs.YtdchjfcklppmgaaGreat
