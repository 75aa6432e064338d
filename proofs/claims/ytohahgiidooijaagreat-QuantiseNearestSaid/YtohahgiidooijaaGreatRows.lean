/-
  No cell of these rows narrows 'for every input' (looked for: loops, veiled, ifaces, maps, wideKeys, modest, calm, conditions, laid).
  DERIVED. THE GIVEN ROWS OF THIS SEAT. 3 by the template 'for every input the law returns true; each argument reads behind the call as it read before'; 0 by the template 'total and deterministic' (their statements: YtohahgiidooijaaGreatTotals.lean).
  GIVEN WITH THE SEED: the statements are not yours to turn. If you find one false, say at which input.
  Laid BY PROGRAM, IN A SANDBOX (cutbox-rows.mjs): the forced cells as the released guide's own fill.sh prints them over the translation 8d95c2b608b55638… (all of the seat's roots in one cut). By AI agents, Wed Nov 11 2026. No macro, syntax, notation, axiom, sorry.
-/
import Derived.Test.YtohahgiidooijaaGreatChecked
import GoSem.Claim
import GoSem.ClaimJoined
import GoSem.ClaimMapViews
import Derived.JoinedTies
import Derived.KernelRfl
namespace Go.Proofs.YtohahgiidooijaaGreat
/- THE CELL 'sum', in the pinned program and in every row, IS THE sha256 OF THE DUMP (.gsa) THAT YtohahgiidooijaaGreatProg.lean LOADS. Nothing in Lean hashes anything: it is a label: what it is worth is what the hold of that sum in a sandbox is worth. -/
noncomputable def Tryz.pinned : Pinned := { name := "ytohahgiidooijaagreat", sum := "8d95c2b608b55638590c5e2ed5f141499076f0bde84e9c25ef5a6af479bed682", checked := Tryz.checked }
namespace Rows
def none {H : Type} : Left H := { results := [], args := [] }

/-- 'dspcompilerlaw28.QuantiseNearest': WHATEVER THE INPUT: true; the input reads as it did. -/
def quantiseNearestSpec : ChangeSpec := { name := "quantiseNearest", fn := fun _ => fun
  | [d1, d2, d3, d4] => { results := [.lit (.bool true)], args := [d1, d2, d3, d4] }
  | _ => none }
def quantiseNearestRow : OpenClaim := { program := "ytohahgiidooijaagreat", sum := "8d95c2b608b55638590c5e2ed5f141499076f0bde84e9c25ef5a6af479bed682", func := "dspcompiler/dspcompilerlaw28.QuantiseNearest", spec := "quantiseNearest", unfollowed := true, recurses := true, apart := false }
def QuantiseNearestSaid : Prop := quantiseNearestRow.holds Tryz.pinned (OpenSpec.ofChange quantiseNearestSpec)

/-- ITS FALSE NEIGHBOUR: 'it returns false'. Refute it at one input. -/
def quantiseNearestWrong : ChangeSpec := { name := "quantiseNearest", fn := fun _ => fun
  | [d1, d2, d3, d4] => { results := [.lit (.bool false)], args := [d1, d2, d3, d4] }
  | _ => none }
def QuantiseNearestWrongFalsely : Prop := quantiseNearestRow.holds Tryz.pinned (OpenSpec.ofChange quantiseNearestWrong)

/-- 'dspcompilerlaw20.ResponseDelays': WHATEVER THE INPUT: true; the input reads as it did. -/
def responseDelaysSpec : ChangeSpec := { name := "responseDelays", fn := fun _ => fun
  | [d1, d2, d3, d4] => { results := [.lit (.bool true)], args := [d1, d2, d3, d4] }
  | _ => none }
def responseDelaysRow : OpenClaim := { program := "ytohahgiidooijaagreat", sum := "8d95c2b608b55638590c5e2ed5f141499076f0bde84e9c25ef5a6af479bed682", func := "dspcompiler/dspcompilerlaw20.ResponseDelays", spec := "responseDelays", unfollowed := true, recurses := true, apart := false }
def ResponseDelaysSaid : Prop := responseDelaysRow.holds Tryz.pinned (OpenSpec.ofChange responseDelaysSpec)

/-- ITS FALSE NEIGHBOUR: 'it returns false'. Refute it at one input. -/
def responseDelaysWrong : ChangeSpec := { name := "responseDelays", fn := fun _ => fun
  | [d1, d2, d3, d4] => { results := [.lit (.bool false)], args := [d1, d2, d3, d4] }
  | _ => none }
def ResponseDelaysWrongFalsely : Prop := responseDelaysRow.holds Tryz.pinned (OpenSpec.ofChange responseDelaysWrong)

/-- 'dspcompilerlaw17.PrototypeRatios': WHATEVER THE INPUT: true; the input reads as it did. -/
def prototypeRatiosSpec : ChangeSpec := { name := "prototypeRatios", fn := fun _ => fun
  | [d1, d2, d3, d4] => { results := [.lit (.bool true)], args := [d1, d2, d3, d4] }
  | _ => none }
def prototypeRatiosRow : OpenClaim := { program := "ytohahgiidooijaagreat", sum := "8d95c2b608b55638590c5e2ed5f141499076f0bde84e9c25ef5a6af479bed682", func := "dspcompiler/dspcompilerlaw17.PrototypeRatios", spec := "prototypeRatios", unfollowed := true, recurses := true, apart := false }
def PrototypeRatiosSaid : Prop := prototypeRatiosRow.holds Tryz.pinned (OpenSpec.ofChange prototypeRatiosSpec)

/-- ITS FALSE NEIGHBOUR: 'it returns false'. Refute it at one input. -/
def prototypeRatiosWrong : ChangeSpec := { name := "prototypeRatios", fn := fun _ => fun
  | [d1, d2, d3, d4] => { results := [.lit (.bool false)], args := [d1, d2, d3, d4] }
  | _ => none }
def PrototypeRatiosWrongFalsely : Prop := prototypeRatiosRow.holds Tryz.pinned (OpenSpec.ofChange prototypeRatiosWrong)

/- THE SECOND FORM. 'bulk': how many values and letters a reading holds, each counted each time it is reached (what is shared counts as often as it is met; a slice's spare places count too). A statement '..UptoSaid' is the law's where the arguments, and the package variables that the reading takes, are together of bulk at most 1048576: NARROWER than '..Said'. Prove '..Said' where nothing that the law and all that it calls make is longer than what came in: it says more and counts as full. Else prove '..UptoSaid'. A law counts once. -/
mutual
def uptoBulk {H : Type} : DataW H → Nat
  | .lit (.string bytes) => bytes.length + 1
  | .lit _ => 1
  | .nil => 1
  | .ptr d => uptoBulk d + 1
  | .slice elems spare => uptoBulkAll elems + uptoBulkAll spare + 1
  | .agg parts => uptoBulkAll parts + 1
  | .iface _ d => uptoBulk d + 1
  | .map entries => uptoBulkEntries entries + 1
  | .held _ => 1
def uptoBulkAll {H : Type} : List (DataW H) → Nat
  | [] => 0
  | d :: r => uptoBulk d + uptoBulkAll r
def uptoBulkEntries {H : Type} : List (Lit × DataW H) → Nat
  | [] => 0
  | x :: r => uptoBulkEntry x + uptoBulkEntries r
def uptoBulkEntry {H : Type} : Lit × DataW H → Nat
  | (.string bytes, d) => bytes.length + uptoBulk d + 1
  | (_, d) => uptoBulk d + 1
 end
def uptoSmall : (H : Type) → List (DataW H) → Bool := fun _ ds => decide (uptoBulkAll ds ≤ 1048576)
def OpenSpec.upto (s : _root_.Go.ChangeSpec) : _root_.Go.OpenSpec := { _root_.Go.OpenSpec.ofChange s with cond := some uptoSmall }

/-- 'dspcompilerlaw28.QuantiseNearest', WHERE WHAT IT READS IS OF BULK AT MOST 1048576: true; the input reads as it did. -/
def quantiseNearestUptoRow : OpenClaim := { program := "ytohahgiidooijaagreat", sum := "8d95c2b608b55638590c5e2ed5f141499076f0bde84e9c25ef5a6af479bed682", func := "dspcompiler/dspcompilerlaw28.QuantiseNearest", spec := "quantiseNearest", unfollowed := true, recurses := true, apart := false, narrowed := true }
def QuantiseNearestUptoSaid : Prop := quantiseNearestUptoRow.holds Tryz.pinned (OpenSpec.upto quantiseNearestSpec)

/-- 'dspcompilerlaw20.ResponseDelays', WHERE WHAT IT READS IS OF BULK AT MOST 1048576: true; the input reads as it did. -/
def responseDelaysUptoRow : OpenClaim := { program := "ytohahgiidooijaagreat", sum := "8d95c2b608b55638590c5e2ed5f141499076f0bde84e9c25ef5a6af479bed682", func := "dspcompiler/dspcompilerlaw20.ResponseDelays", spec := "responseDelays", unfollowed := true, recurses := true, apart := false, narrowed := true }
def ResponseDelaysUptoSaid : Prop := responseDelaysUptoRow.holds Tryz.pinned (OpenSpec.upto responseDelaysSpec)

/-- 'dspcompilerlaw17.PrototypeRatios', WHERE WHAT IT READS IS OF BULK AT MOST 1048576: true; the input reads as it did. -/
def prototypeRatiosUptoRow : OpenClaim := { program := "ytohahgiidooijaagreat", sum := "8d95c2b608b55638590c5e2ed5f141499076f0bde84e9c25ef5a6af479bed682", func := "dspcompiler/dspcompilerlaw17.PrototypeRatios", spec := "prototypeRatios", unfollowed := true, recurses := true, apart := false, narrowed := true }
def PrototypeRatiosUptoSaid : Prop := prototypeRatiosUptoRow.holds Tryz.pinned (OpenSpec.upto prototypeRatiosSpec)

end Rows
end Go.Proofs.YtohahgiidooijaaGreat
