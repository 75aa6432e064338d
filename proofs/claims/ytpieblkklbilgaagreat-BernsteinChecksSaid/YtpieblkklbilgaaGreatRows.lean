/-
  No cell of these rows narrows 'for every input' (looked for: loops, veiled, ifaces, maps, wideKeys, modest, calm, conditions, laid).
  DERIVED. THE GIVEN ROWS OF THIS SEAT. 9 by the template 'for every input the law returns true; each argument reads behind the call as it read before'; 0 by the template 'total and deterministic' (their statements: YtpieblkklbilgaaGreatTotals.lean).
  GIVEN WITH THE SEED: the statements are not yours to turn. If you find one false, say at which input.
  Laid BY PROGRAM, IN A SANDBOX (cutbox-rows.mjs): the forced cells as the released guide's own fill.sh prints them over the translation 7082ce432159658b… (all of the seat's roots in one cut). By AI agents, Wed Nov 11 2026. No macro, syntax, notation, axiom, sorry.
-/
import Derived.Test.YtpieblkklbilgaaGreatChecked
import GoSem.Claim
import GoSem.ClaimJoined
import GoSem.ClaimMapViews
import Derived.JoinedTies
import Derived.KernelRfl
namespace Go.Proofs.YtpieblkklbilgaaGreat
/- THE CELL 'sum', in the pinned program and in every row, IS THE sha256 OF THE DUMP (.gsa) THAT YtpieblkklbilgaaGreatProg.lean LOADS. Nothing in Lean hashes anything: it is a label: what it is worth is what the hold of that sum in a sandbox is worth. -/
noncomputable def Tryz.pinned : Pinned := { name := "ytpieblkklbilgaagreat", sum := "7082ce432159658b204e79df21bff1f4c5200a7d3464ba229916680231c3bb67", checked := Tryz.checked }
namespace Rows
def none {H : Type} : Left H := { results := [], args := [] }

/-- 'dspcompilerlaw28.QuantiseNearest': WHATEVER THE INPUT: true; the input reads as it did. -/
def quantiseNearestSpec : ChangeSpec := { name := "quantiseNearest", fn := fun _ => fun
  | [d1, d2, d3, d4] => { results := [.lit (.bool true)], args := [d1, d2, d3, d4] }
  | _ => none }
def quantiseNearestRow : OpenClaim := { program := "ytpieblkklbilgaagreat", sum := "7082ce432159658b204e79df21bff1f4c5200a7d3464ba229916680231c3bb67", func := "dspcompiler/dspcompilerlaw28.QuantiseNearest", spec := "quantiseNearest", unfollowed := true, recurses := true, apart := false }
def QuantiseNearestSaid : Prop := quantiseNearestRow.holds Tryz.pinned (OpenSpec.ofChange quantiseNearestSpec)

/-- ITS FALSE NEIGHBOUR: 'it returns false'. Refute it at one input. -/
def quantiseNearestWrong : ChangeSpec := { name := "quantiseNearest", fn := fun _ => fun
  | [d1, d2, d3, d4] => { results := [.lit (.bool false)], args := [d1, d2, d3, d4] }
  | _ => none }
def QuantiseNearestWrongFalsely : Prop := quantiseNearestRow.holds Tryz.pinned (OpenSpec.ofChange quantiseNearestWrong)

/-- 'dspcompilerlaw07.BernsteinProves': WHATEVER THE INPUT: true; the input reads as it did. -/
def bernsteinProvesSpec : ChangeSpec := { name := "bernsteinProves", fn := fun _ => fun
  | [d1, d2, d3, d4] => { results := [.lit (.bool true)], args := [d1, d2, d3, d4] }
  | _ => none }
def bernsteinProvesRow : OpenClaim := { program := "ytpieblkklbilgaagreat", sum := "7082ce432159658b204e79df21bff1f4c5200a7d3464ba229916680231c3bb67", func := "dspcompiler/dspcompilerlaw07.BernsteinProves", spec := "bernsteinProves", unfollowed := true, recurses := true, apart := false }
def BernsteinProvesSaid : Prop := bernsteinProvesRow.holds Tryz.pinned (OpenSpec.ofChange bernsteinProvesSpec)

/-- ITS FALSE NEIGHBOUR: 'it returns false'. Refute it at one input. -/
def bernsteinProvesWrong : ChangeSpec := { name := "bernsteinProves", fn := fun _ => fun
  | [d1, d2, d3, d4] => { results := [.lit (.bool false)], args := [d1, d2, d3, d4] }
  | _ => none }
def BernsteinProvesWrongFalsely : Prop := bernsteinProvesRow.holds Tryz.pinned (OpenSpec.ofChange bernsteinProvesWrong)

/-- 'dspcompilerlaw07.BernsteinChecks': WHATEVER THE INPUT: true; the input reads as it did. -/
def bernsteinChecksSpec : ChangeSpec := { name := "bernsteinChecks", fn := fun _ => fun
  | [d1, d2, d3, d4, d5, d6] => { results := [.lit (.bool true)], args := [d1, d2, d3, d4, d5, d6] }
  | _ => none }
def bernsteinChecksRow : OpenClaim := { program := "ytpieblkklbilgaagreat", sum := "7082ce432159658b204e79df21bff1f4c5200a7d3464ba229916680231c3bb67", func := "dspcompiler/dspcompilerlaw07.BernsteinChecks", spec := "bernsteinChecks", unfollowed := true, recurses := true, apart := false }
def BernsteinChecksSaid : Prop := bernsteinChecksRow.holds Tryz.pinned (OpenSpec.ofChange bernsteinChecksSpec)

/-- ITS FALSE NEIGHBOUR: 'it returns false'. Refute it at one input. -/
def bernsteinChecksWrong : ChangeSpec := { name := "bernsteinChecks", fn := fun _ => fun
  | [d1, d2, d3, d4, d5, d6] => { results := [.lit (.bool false)], args := [d1, d2, d3, d4, d5, d6] }
  | _ => none }
def BernsteinChecksWrongFalsely : Prop := bernsteinChecksRow.holds Tryz.pinned (OpenSpec.ofChange bernsteinChecksWrong)

/-- 'dspcompilerlaw07.BernsteinSound': WHATEVER THE INPUT: true; the input reads as it did. -/
def bernsteinSoundSpec : ChangeSpec := { name := "bernsteinSound", fn := fun _ => fun
  | [d1, d2, d3, d4, d5, d6] => { results := [.lit (.bool true)], args := [d1, d2, d3, d4, d5, d6] }
  | _ => none }
def bernsteinSoundRow : OpenClaim := { program := "ytpieblkklbilgaagreat", sum := "7082ce432159658b204e79df21bff1f4c5200a7d3464ba229916680231c3bb67", func := "dspcompiler/dspcompilerlaw07.BernsteinSound", spec := "bernsteinSound", unfollowed := true, recurses := true, apart := false }
def BernsteinSoundSaid : Prop := bernsteinSoundRow.holds Tryz.pinned (OpenSpec.ofChange bernsteinSoundSpec)

/-- ITS FALSE NEIGHBOUR: 'it returns false'. Refute it at one input. -/
def bernsteinSoundWrong : ChangeSpec := { name := "bernsteinSound", fn := fun _ => fun
  | [d1, d2, d3, d4, d5, d6] => { results := [.lit (.bool false)], args := [d1, d2, d3, d4, d5, d6] }
  | _ => none }
def BernsteinSoundWrongFalsely : Prop := bernsteinSoundRow.holds Tryz.pinned (OpenSpec.ofChange bernsteinSoundWrong)

/-- 'dspcompilerlaw07.BernsteinActs': WHATEVER THE INPUT: true; the input reads as it did. -/
def bernsteinActsSpec : ChangeSpec := { name := "bernsteinActs", fn := fun _ => fun
  | [d1, d2, d3] => { results := [.lit (.bool true)], args := [d1, d2, d3] }
  | _ => none }
def bernsteinActsRow : OpenClaim := { program := "ytpieblkklbilgaagreat", sum := "7082ce432159658b204e79df21bff1f4c5200a7d3464ba229916680231c3bb67", func := "dspcompiler/dspcompilerlaw07.BernsteinActs", spec := "bernsteinActs", unfollowed := true, recurses := true, apart := false }
def BernsteinActsSaid : Prop := bernsteinActsRow.holds Tryz.pinned (OpenSpec.ofChange bernsteinActsSpec)

/-- ITS FALSE NEIGHBOUR: 'it returns false'. Refute it at one input. -/
def bernsteinActsWrong : ChangeSpec := { name := "bernsteinActs", fn := fun _ => fun
  | [d1, d2, d3] => { results := [.lit (.bool false)], args := [d1, d2, d3] }
  | _ => none }
def BernsteinActsWrongFalsely : Prop := bernsteinActsRow.holds Tryz.pinned (OpenSpec.ofChange bernsteinActsWrong)

/-- 'dspcompilerlaw07.BernsteinEncloses': WHATEVER THE INPUT: true; the input reads as it did. -/
def bernsteinEnclosesSpec : ChangeSpec := { name := "bernsteinEncloses", fn := fun _ => fun
  | [d1, d2, d3, d4] => { results := [.lit (.bool true)], args := [d1, d2, d3, d4] }
  | _ => none }
def bernsteinEnclosesRow : OpenClaim := { program := "ytpieblkklbilgaagreat", sum := "7082ce432159658b204e79df21bff1f4c5200a7d3464ba229916680231c3bb67", func := "dspcompiler/dspcompilerlaw07.BernsteinEncloses", spec := "bernsteinEncloses", unfollowed := true, recurses := true, apart := false }
def BernsteinEnclosesSaid : Prop := bernsteinEnclosesRow.holds Tryz.pinned (OpenSpec.ofChange bernsteinEnclosesSpec)

/-- ITS FALSE NEIGHBOUR: 'it returns false'. Refute it at one input. -/
def bernsteinEnclosesWrong : ChangeSpec := { name := "bernsteinEncloses", fn := fun _ => fun
  | [d1, d2, d3, d4] => { results := [.lit (.bool false)], args := [d1, d2, d3, d4] }
  | _ => none }
def BernsteinEnclosesWrongFalsely : Prop := bernsteinEnclosesRow.holds Tryz.pinned (OpenSpec.ofChange bernsteinEnclosesWrong)

/-- 'dspcompilerlaw20.ResponseLinear': WHATEVER THE INPUT: true; the input reads as it did. -/
def responseLinearSpec : ChangeSpec := { name := "responseLinear", fn := fun _ => fun
  | [d1, d2, d3, d4, d5] => { results := [.lit (.bool true)], args := [d1, d2, d3, d4, d5] }
  | _ => none }
def responseLinearRow : OpenClaim := { program := "ytpieblkklbilgaagreat", sum := "7082ce432159658b204e79df21bff1f4c5200a7d3464ba229916680231c3bb67", func := "dspcompiler/dspcompilerlaw20.ResponseLinear", spec := "responseLinear", unfollowed := true, recurses := true, apart := false }
def ResponseLinearSaid : Prop := responseLinearRow.holds Tryz.pinned (OpenSpec.ofChange responseLinearSpec)

/-- ITS FALSE NEIGHBOUR: 'it returns false'. Refute it at one input. -/
def responseLinearWrong : ChangeSpec := { name := "responseLinear", fn := fun _ => fun
  | [d1, d2, d3, d4, d5] => { results := [.lit (.bool false)], args := [d1, d2, d3, d4, d5] }
  | _ => none }
def ResponseLinearWrongFalsely : Prop := responseLinearRow.holds Tryz.pinned (OpenSpec.ofChange responseLinearWrong)

/-- 'dspcompilerlaw20.ResponseSpectra': WHATEVER THE INPUT: true; the input reads as it did. -/
def responseSpectraSpec : ChangeSpec := { name := "responseSpectra", fn := fun _ => fun
  | [d1, d2, d3] => { results := [.lit (.bool true)], args := [d1, d2, d3] }
  | _ => none }
def responseSpectraRow : OpenClaim := { program := "ytpieblkklbilgaagreat", sum := "7082ce432159658b204e79df21bff1f4c5200a7d3464ba229916680231c3bb67", func := "dspcompiler/dspcompilerlaw20.ResponseSpectra", spec := "responseSpectra", unfollowed := true, recurses := true, apart := false }
def ResponseSpectraSaid : Prop := responseSpectraRow.holds Tryz.pinned (OpenSpec.ofChange responseSpectraSpec)

/-- ITS FALSE NEIGHBOUR: 'it returns false'. Refute it at one input. -/
def responseSpectraWrong : ChangeSpec := { name := "responseSpectra", fn := fun _ => fun
  | [d1, d2, d3] => { results := [.lit (.bool false)], args := [d1, d2, d3] }
  | _ => none }
def ResponseSpectraWrongFalsely : Prop := responseSpectraRow.holds Tryz.pinned (OpenSpec.ofChange responseSpectraWrong)

/-- 'dspcompilerlaw20.ResponseDelays': WHATEVER THE INPUT: true; the input reads as it did. -/
def responseDelaysSpec : ChangeSpec := { name := "responseDelays", fn := fun _ => fun
  | [d1, d2, d3, d4] => { results := [.lit (.bool true)], args := [d1, d2, d3, d4] }
  | _ => none }
def responseDelaysRow : OpenClaim := { program := "ytpieblkklbilgaagreat", sum := "7082ce432159658b204e79df21bff1f4c5200a7d3464ba229916680231c3bb67", func := "dspcompiler/dspcompilerlaw20.ResponseDelays", spec := "responseDelays", unfollowed := true, recurses := true, apart := false }
def ResponseDelaysSaid : Prop := responseDelaysRow.holds Tryz.pinned (OpenSpec.ofChange responseDelaysSpec)

/-- ITS FALSE NEIGHBOUR: 'it returns false'. Refute it at one input. -/
def responseDelaysWrong : ChangeSpec := { name := "responseDelays", fn := fun _ => fun
  | [d1, d2, d3, d4] => { results := [.lit (.bool false)], args := [d1, d2, d3, d4] }
  | _ => none }
def ResponseDelaysWrongFalsely : Prop := responseDelaysRow.holds Tryz.pinned (OpenSpec.ofChange responseDelaysWrong)

/- THE SECOND FORM. 'bulk': how many values and letters a reading holds, each counted each time it is reached (what is shared counts as often as it is met; a slice's spare places count too). A statement '..UptoSaid' is the law's where the arguments, and the package variables that the reading takes, are together of bulk at most 1048576: NARROWER than '..Said'. Prove '..Said' where nothing that the law and all that it calls make is longer than what came in: it says more and counts as full. Else prove '..UptoSaid'. A law counts once. -/
mutual
def uptoBulk {H : Type} : DataW H → Nat
  | .lit (.string bytes) => bytes.length + 1
  | .lit _ => 1
  | .nil => 1
  | .ptr d => uptoBulk d + 1
  | .slice elems spare => uptoBulkAll elems + uptoBulkAll spare + 1
  | .agg parts => uptoBulkAll parts + 1
  | .iface _ d => uptoBulk d + 1
  | .map entries => uptoBulkEntries entries + 1
  | .held _ => 1
def uptoBulkAll {H : Type} : List (DataW H) → Nat
  | [] => 0
  | d :: r => uptoBulk d + uptoBulkAll r
def uptoBulkEntries {H : Type} : List (Lit × DataW H) → Nat
  | [] => 0
  | x :: r => uptoBulkEntry x + uptoBulkEntries r
def uptoBulkEntry {H : Type} : Lit × DataW H → Nat
  | (.string bytes, d) => bytes.length + uptoBulk d + 1
  | (_, d) => uptoBulk d + 1
 end
def uptoSmall : (H : Type) → List (DataW H) → Bool := fun _ ds => decide (uptoBulkAll ds ≤ 1048576)
def OpenSpec.upto (s : _root_.Go.ChangeSpec) : _root_.Go.OpenSpec := { _root_.Go.OpenSpec.ofChange s with cond := some uptoSmall }

/-- 'dspcompilerlaw28.QuantiseNearest', WHERE WHAT IT READS IS OF BULK AT MOST 1048576: true; the input reads as it did. -/
def quantiseNearestUptoRow : OpenClaim := { program := "ytpieblkklbilgaagreat", sum := "7082ce432159658b204e79df21bff1f4c5200a7d3464ba229916680231c3bb67", func := "dspcompiler/dspcompilerlaw28.QuantiseNearest", spec := "quantiseNearest", unfollowed := true, recurses := true, apart := false, narrowed := true }
def QuantiseNearestUptoSaid : Prop := quantiseNearestUptoRow.holds Tryz.pinned (OpenSpec.upto quantiseNearestSpec)

/-- 'dspcompilerlaw07.BernsteinProves', WHERE WHAT IT READS IS OF BULK AT MOST 1048576: true; the input reads as it did. -/
def bernsteinProvesUptoRow : OpenClaim := { program := "ytpieblkklbilgaagreat", sum := "7082ce432159658b204e79df21bff1f4c5200a7d3464ba229916680231c3bb67", func := "dspcompiler/dspcompilerlaw07.BernsteinProves", spec := "bernsteinProves", unfollowed := true, recurses := true, apart := false, narrowed := true }
def BernsteinProvesUptoSaid : Prop := bernsteinProvesUptoRow.holds Tryz.pinned (OpenSpec.upto bernsteinProvesSpec)

/-- 'dspcompilerlaw07.BernsteinChecks', WHERE WHAT IT READS IS OF BULK AT MOST 1048576: true; the input reads as it did. -/
def bernsteinChecksUptoRow : OpenClaim := { program := "ytpieblkklbilgaagreat", sum := "7082ce432159658b204e79df21bff1f4c5200a7d3464ba229916680231c3bb67", func := "dspcompiler/dspcompilerlaw07.BernsteinChecks", spec := "bernsteinChecks", unfollowed := true, recurses := true, apart := false, narrowed := true }
def BernsteinChecksUptoSaid : Prop := bernsteinChecksUptoRow.holds Tryz.pinned (OpenSpec.upto bernsteinChecksSpec)

/-- 'dspcompilerlaw07.BernsteinSound', WHERE WHAT IT READS IS OF BULK AT MOST 1048576: true; the input reads as it did. -/
def bernsteinSoundUptoRow : OpenClaim := { program := "ytpieblkklbilgaagreat", sum := "7082ce432159658b204e79df21bff1f4c5200a7d3464ba229916680231c3bb67", func := "dspcompiler/dspcompilerlaw07.BernsteinSound", spec := "bernsteinSound", unfollowed := true, recurses := true, apart := false, narrowed := true }
def BernsteinSoundUptoSaid : Prop := bernsteinSoundUptoRow.holds Tryz.pinned (OpenSpec.upto bernsteinSoundSpec)

/-- 'dspcompilerlaw07.BernsteinActs', WHERE WHAT IT READS IS OF BULK AT MOST 1048576: true; the input reads as it did. -/
def bernsteinActsUptoRow : OpenClaim := { program := "ytpieblkklbilgaagreat", sum := "7082ce432159658b204e79df21bff1f4c5200a7d3464ba229916680231c3bb67", func := "dspcompiler/dspcompilerlaw07.BernsteinActs", spec := "bernsteinActs", unfollowed := true, recurses := true, apart := false, narrowed := true }
def BernsteinActsUptoSaid : Prop := bernsteinActsUptoRow.holds Tryz.pinned (OpenSpec.upto bernsteinActsSpec)

/-- 'dspcompilerlaw07.BernsteinEncloses', WHERE WHAT IT READS IS OF BULK AT MOST 1048576: true; the input reads as it did. -/
def bernsteinEnclosesUptoRow : OpenClaim := { program := "ytpieblkklbilgaagreat", sum := "7082ce432159658b204e79df21bff1f4c5200a7d3464ba229916680231c3bb67", func := "dspcompiler/dspcompilerlaw07.BernsteinEncloses", spec := "bernsteinEncloses", unfollowed := true, recurses := true, apart := false, narrowed := true }
def BernsteinEnclosesUptoSaid : Prop := bernsteinEnclosesUptoRow.holds Tryz.pinned (OpenSpec.upto bernsteinEnclosesSpec)

/-- 'dspcompilerlaw20.ResponseLinear', WHERE WHAT IT READS IS OF BULK AT MOST 1048576: true; the input reads as it did. -/
def responseLinearUptoRow : OpenClaim := { program := "ytpieblkklbilgaagreat", sum := "7082ce432159658b204e79df21bff1f4c5200a7d3464ba229916680231c3bb67", func := "dspcompiler/dspcompilerlaw20.ResponseLinear", spec := "responseLinear", unfollowed := true, recurses := true, apart := false, narrowed := true }
def ResponseLinearUptoSaid : Prop := responseLinearUptoRow.holds Tryz.pinned (OpenSpec.upto responseLinearSpec)

/-- 'dspcompilerlaw20.ResponseSpectra', WHERE WHAT IT READS IS OF BULK AT MOST 1048576: true; the input reads as it did. -/
def responseSpectraUptoRow : OpenClaim := { program := "ytpieblkklbilgaagreat", sum := "7082ce432159658b204e79df21bff1f4c5200a7d3464ba229916680231c3bb67", func := "dspcompiler/dspcompilerlaw20.ResponseSpectra", spec := "responseSpectra", unfollowed := true, recurses := true, apart := false, narrowed := true }
def ResponseSpectraUptoSaid : Prop := responseSpectraUptoRow.holds Tryz.pinned (OpenSpec.upto responseSpectraSpec)

/-- 'dspcompilerlaw20.ResponseDelays', WHERE WHAT IT READS IS OF BULK AT MOST 1048576: true; the input reads as it did. -/
def responseDelaysUptoRow : OpenClaim := { program := "ytpieblkklbilgaagreat", sum := "7082ce432159658b204e79df21bff1f4c5200a7d3464ba229916680231c3bb67", func := "dspcompiler/dspcompilerlaw20.ResponseDelays", spec := "responseDelays", unfollowed := true, recurses := true, apart := false, narrowed := true }
def ResponseDelaysUptoSaid : Prop := responseDelaysUptoRow.holds Tryz.pinned (OpenSpec.upto responseDelaysSpec)

end Rows
end Go.Proofs.YtpieblkklbilgaaGreat
