/-
  No cell of these rows narrows 'for every input' (looked for: loops, veiled, ifaces, maps, wideKeys, modest, calm, conditions, laid).
  DERIVED. THE GIVEN ROWS OF THIS SEAT. 2 by the template 'for every input the law returns true; each argument reads behind the call as it read before'; 0 by the template 'total and deterministic' (their statements: YteafdebcihbjdaaGreatTotals.lean).
  GIVEN WITH THE SEED: the statements are not yours to turn. If you find one false, say at which input.
  Laid BY PROGRAM, IN A SANDBOX (cutbox-rows.mjs): the forced cells as the released guide's own fill.sh prints them over the translation a91cce557353f150… (all of the seat's roots in one cut). By AI agents, Wed Nov 11 2026. No macro, syntax, notation, axiom, sorry.
-/
import Derived.Test.YteafdebcihbjdaaGreatChecked
import GoSem.Claim
import GoSem.ClaimJoined
import GoSem.ClaimMapViews
import Derived.JoinedTies
import Derived.KernelRfl
namespace Go.Proofs.YteafdebcihbjdaaGreat
/- THE CELL 'sum', in the pinned program and in every row, IS THE sha256 OF THE DUMP (.gsa) THAT YteafdebcihbjdaaGreatProg.lean LOADS. Nothing in Lean hashes anything: it is a label: what it is worth is what the hold of that sum in a sandbox is worth. -/
noncomputable def Tryz.pinned : Pinned := { name := "yteafdebcihbjdaagreat", sum := "a91cce557353f150dae6bf3fd5b35be1c1e49db87bc04424e41a0a9a5483b9b1", checked := Tryz.checked }
namespace Rows
def none {H : Type} : Left H := { results := [], args := [] }

/-- 'dspcompilerlaw28.QuantiseNearest': WHATEVER THE INPUT: true; the input reads as it did. -/
def quantiseNearestSpec : ChangeSpec := { name := "quantiseNearest", fn := fun _ => fun
  | [d1, d2, d3, d4] => { results := [.lit (.bool true)], args := [d1, d2, d3, d4] }
  | _ => none }
def quantiseNearestRow : OpenClaim := { program := "yteafdebcihbjdaagreat", sum := "a91cce557353f150dae6bf3fd5b35be1c1e49db87bc04424e41a0a9a5483b9b1", func := "dspcompiler/dspcompilerlaw28.QuantiseNearest", spec := "quantiseNearest", unfollowed := true, recurses := true, apart := false }
def QuantiseNearestSaid : Prop := quantiseNearestRow.holds Tryz.pinned (OpenSpec.ofChange quantiseNearestSpec)

/-- ITS FALSE NEIGHBOUR: 'it returns false'. Refute it at one input. -/
def quantiseNearestWrong : ChangeSpec := { name := "quantiseNearest", fn := fun _ => fun
  | [d1, d2, d3, d4] => { results := [.lit (.bool false)], args := [d1, d2, d3, d4] }
  | _ => none }
def QuantiseNearestWrongFalsely : Prop := quantiseNearestRow.holds Tryz.pinned (OpenSpec.ofChange quantiseNearestWrong)

/-- 'dspcompilerlaw18.StabilityBounds': WHATEVER THE INPUT: true; the input reads as it did. -/
def stabilityBoundsSpec : ChangeSpec := { name := "stabilityBounds", fn := fun _ => fun
  | [d1, d2, d3] => { results := [.lit (.bool true)], args := [d1, d2, d3] }
  | _ => none }
def stabilityBoundsRow : OpenClaim := { program := "yteafdebcihbjdaagreat", sum := "a91cce557353f150dae6bf3fd5b35be1c1e49db87bc04424e41a0a9a5483b9b1", func := "dspcompiler/dspcompilerlaw18.StabilityBounds", spec := "stabilityBounds", unfollowed := true, recurses := true, apart := false }
def StabilityBoundsSaid : Prop := stabilityBoundsRow.holds Tryz.pinned (OpenSpec.ofChange stabilityBoundsSpec)

/-- ITS FALSE NEIGHBOUR: 'it returns false'. Refute it at one input. -/
def stabilityBoundsWrong : ChangeSpec := { name := "stabilityBounds", fn := fun _ => fun
  | [d1, d2, d3] => { results := [.lit (.bool false)], args := [d1, d2, d3] }
  | _ => none }
def StabilityBoundsWrongFalsely : Prop := stabilityBoundsRow.holds Tryz.pinned (OpenSpec.ofChange stabilityBoundsWrong)

/- THE SECOND FORM. 'bulk': how many values and letters a reading holds, each counted each time it is reached (what is shared counts as often as it is met; a slice's spare places count too). A statement '..UptoSaid' is the law's where the arguments, and the package variables that the reading takes, are together of bulk at most 1048576: NARROWER than '..Said'. Prove '..Said' where nothing that the law and all that it calls make is longer than what came in: it says more and counts as full. Else prove '..UptoSaid'. A law counts once. -/
mutual
def uptoBulk {H : Type} : DataW H → Nat
  | .lit (.string bytes) => bytes.length + 1
  | .lit _ => 1
  | .nil => 1
  | .ptr d => uptoBulk d + 1
  | .slice elems spare => uptoBulkAll elems + uptoBulkAll spare + 1
  | .agg parts => uptoBulkAll parts + 1
  | .iface _ d => uptoBulk d + 1
  | .map entries => uptoBulkEntries entries + 1
  | .held _ => 1
def uptoBulkAll {H : Type} : List (DataW H) → Nat
  | [] => 0
  | d :: r => uptoBulk d + uptoBulkAll r
def uptoBulkEntries {H : Type} : List (Lit × DataW H) → Nat
  | [] => 0
  | x :: r => uptoBulkEntry x + uptoBulkEntries r
def uptoBulkEntry {H : Type} : Lit × DataW H → Nat
  | (.string bytes, d) => bytes.length + uptoBulk d + 1
  | (_, d) => uptoBulk d + 1
 end
def uptoSmall : (H : Type) → List (DataW H) → Bool := fun _ ds => decide (uptoBulkAll ds ≤ 1048576)
def OpenSpec.upto (s : _root_.Go.ChangeSpec) : _root_.Go.OpenSpec := { _root_.Go.OpenSpec.ofChange s with cond := some uptoSmall }

/-- 'dspcompilerlaw28.QuantiseNearest', WHERE WHAT IT READS IS OF BULK AT MOST 1048576: true; the input reads as it did. -/
def quantiseNearestUptoRow : OpenClaim := { program := "yteafdebcihbjdaagreat", sum := "a91cce557353f150dae6bf3fd5b35be1c1e49db87bc04424e41a0a9a5483b9b1", func := "dspcompiler/dspcompilerlaw28.QuantiseNearest", spec := "quantiseNearest", unfollowed := true, recurses := true, apart := false, narrowed := true }
def QuantiseNearestUptoSaid : Prop := quantiseNearestUptoRow.holds Tryz.pinned (OpenSpec.upto quantiseNearestSpec)

/-- 'dspcompilerlaw18.StabilityBounds', WHERE WHAT IT READS IS OF BULK AT MOST 1048576: true; the input reads as it did. -/
def stabilityBoundsUptoRow : OpenClaim := { program := "yteafdebcihbjdaagreat", sum := "a91cce557353f150dae6bf3fd5b35be1c1e49db87bc04424e41a0a9a5483b9b1", func := "dspcompiler/dspcompilerlaw18.StabilityBounds", spec := "stabilityBounds", unfollowed := true, recurses := true, apart := false, narrowed := true }
def StabilityBoundsUptoSaid : Prop := stabilityBoundsUptoRow.holds Tryz.pinned (OpenSpec.upto stabilityBoundsSpec)

end Rows
end Go.Proofs.YteafdebcihbjdaaGreat
