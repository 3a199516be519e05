/-
  No cell of these rows narrows 'for every input' (looked for: loops, veiled, ifaces, maps, wideKeys, modest, calm, conditions, laid).
  DERIVED. THE GIVEN ROWS OF THIS SEAT. 4 by the template 'for every input the law returns true; each argument reads behind the call as it read before'; 0 by the template 'total and deterministic' (their statements: YtpblhcmcldachaaTotals.lean).
  GIVEN WITH THE SEED: the statements are not yours to turn. If you find one false, say at which input.
  Laid BY PROGRAM, IN A SANDBOX (cutbox-rows.mjs): the forced cells as the released guide's own fill.sh prints them over the translation dd08333fb225ca62… (all of the seat's roots in one cut). By AI agents, Wed Nov 11 2026. No macro, syntax, notation, axiom, sorry.
-/
import Derived.Test.YtpblhcmcldachaaChecked
import GoSem.Claim
import GoSem.ClaimJoined
import GoSem.ClaimMapViews
import Derived.JoinedTies
import Derived.KernelRfl
namespace Go.Proofs.Ytpblhcmcldachaa
/- THE CELL 'sum', in the pinned program and in every row, IS THE sha256 OF THE DUMP (.gsa) THAT YtpblhcmcldachaaProg.lean LOADS. Nothing in Lean hashes anything: it is a label: what it is worth is what the hold of that sum in a sandbox is worth. -/
noncomputable def Try.pinned : Pinned := { name := "ytpblhcmcldachaa", sum := "dd08333fb225ca62fc8d1ef3d8d58d2cb6196d78c8b1b004290b699b7e37c464", checked := Try.checked }
namespace Rows
def none {H : Type} : Left H := { results := [], args := [] }

/-- 'dovetaillaw23.AddrAssigns': WHATEVER THE INPUT: true; the input reads as it did. -/
def addrAssignsSpec : ChangeSpec := { name := "addrAssigns", fn := fun _ => fun
  | [d] => { results := [.lit (.bool true)], args := [d] }
  | _ => none }
def addrAssignsRow : OpenClaim := { program := "ytpblhcmcldachaa", sum := "dd08333fb225ca62fc8d1ef3d8d58d2cb6196d78c8b1b004290b699b7e37c464", func := "dovetail/dovetaillaw23.AddrAssigns", spec := "addrAssigns", inPlace := ["math/bits.Add64"], plainKeys := false, apart := false }
def AddrAssignsSaid : Prop := addrAssignsRow.holds Try.pinned (OpenSpec.ofChange addrAssignsSpec)

/-- ITS FALSE NEIGHBOUR: 'it returns false'. Refute it at one input. -/
def addrAssignsWrong : ChangeSpec := { name := "addrAssigns", fn := fun _ => fun
  | [d] => { results := [.lit (.bool false)], args := [d] }
  | _ => none }
def AddrAssignsWrongFalsely : Prop := addrAssignsRow.holds Try.pinned (OpenSpec.ofChange addrAssignsWrong)

/-- 'dovetaillaw23.AddrApart': WHATEVER THE INPUT: true; the input reads as it did. -/
def addrApartSpec : ChangeSpec := { name := "addrApart", fn := fun _ => fun
  | [d] => { results := [.lit (.bool true)], args := [d] }
  | _ => none }
def addrApartRow : OpenClaim := { program := "ytpblhcmcldachaa", sum := "dd08333fb225ca62fc8d1ef3d8d58d2cb6196d78c8b1b004290b699b7e37c464", func := "dovetail/dovetaillaw23.AddrApart", spec := "addrApart", inPlace := ["math/bits.Add64"], plainKeys := false, apart := false }
def AddrApartSaid : Prop := addrApartRow.holds Try.pinned (OpenSpec.ofChange addrApartSpec)

/-- ITS FALSE NEIGHBOUR: 'it returns false'. Refute it at one input. -/
def addrApartWrong : ChangeSpec := { name := "addrApart", fn := fun _ => fun
  | [d] => { results := [.lit (.bool false)], args := [d] }
  | _ => none }
def AddrApartWrongFalsely : Prop := addrApartRow.holds Try.pinned (OpenSpec.ofChange addrApartWrong)

/-- 'dovetaillaw23.AddrGaps': WHATEVER THE INPUT: true; the input reads as it did. -/
def addrGapsSpec : ChangeSpec := { name := "addrGaps", fn := fun _ => fun
  | [d] => { results := [.lit (.bool true)], args := [d] }
  | _ => none }
def addrGapsRow : OpenClaim := { program := "ytpblhcmcldachaa", sum := "dd08333fb225ca62fc8d1ef3d8d58d2cb6196d78c8b1b004290b699b7e37c464", func := "dovetail/dovetaillaw23.AddrGaps", spec := "addrGaps", inPlace := ["math/bits.Add64"], plainKeys := false, apart := false }
def AddrGapsSaid : Prop := addrGapsRow.holds Try.pinned (OpenSpec.ofChange addrGapsSpec)

/-- ITS FALSE NEIGHBOUR: 'it returns false'. Refute it at one input. -/
def addrGapsWrong : ChangeSpec := { name := "addrGaps", fn := fun _ => fun
  | [d] => { results := [.lit (.bool false)], args := [d] }
  | _ => none }
def AddrGapsWrongFalsely : Prop := addrGapsRow.holds Try.pinned (OpenSpec.ofChange addrGapsWrong)

/-- 'dovetaillaw23.AddrGreat': WHATEVER THE INPUT: true; the input reads as it did. -/
def addrGreatSpec : ChangeSpec := { name := "addrGreat", fn := fun _ => fun
  | [d1, d2, d3] => { results := [.lit (.bool true)], args := [d1, d2, d3] }
  | _ => none }
def addrGreatRow : OpenClaim := { program := "ytpblhcmcldachaa", sum := "dd08333fb225ca62fc8d1ef3d8d58d2cb6196d78c8b1b004290b699b7e37c464", func := "dovetail/dovetaillaw23.AddrGreat", spec := "addrGreat", inPlace := ["math/bits.Add64"], plainKeys := false, apart := false }
def AddrGreatSaid : Prop := addrGreatRow.holds Try.pinned (OpenSpec.ofChange addrGreatSpec)

/-- ITS FALSE NEIGHBOUR: 'it returns false'. Refute it at one input. -/
def addrGreatWrong : ChangeSpec := { name := "addrGreat", fn := fun _ => fun
  | [d1, d2, d3] => { results := [.lit (.bool false)], args := [d1, d2, d3] }
  | _ => none }
def AddrGreatWrongFalsely : Prop := addrGreatRow.holds Try.pinned (OpenSpec.ofChange addrGreatWrong)

/- THE SECOND FORM. 'bulk': how many values and letters a reading holds, each counted each time it is reached (what is shared counts as often as it is met; a slice's spare places count too). A statement '..UptoSaid' is the law's where the arguments, and the package variables that the reading takes, are together of bulk at most 1048576: NARROWER than '..Said'. Prove '..Said' where nothing that the law and all that it calls make is longer than what came in: it says more and counts as full. Else prove '..UptoSaid'. A law counts once. -/
mutual
def uptoBulk {H : Type} : DataW H → Nat
  | .lit (.string bytes) => bytes.length + 1
  | .lit _ => 1
  | .nil => 1
  | .ptr d => uptoBulk d + 1
  | .slice elems spare => uptoBulkAll elems + uptoBulkAll spare + 1
  | .agg parts => uptoBulkAll parts + 1
  | .iface _ d => uptoBulk d + 1
  | .map entries => uptoBulkEntries entries + 1
  | .held _ => 1
def uptoBulkAll {H : Type} : List (DataW H) → Nat
  | [] => 0
  | d :: r => uptoBulk d + uptoBulkAll r
def uptoBulkEntries {H : Type} : List (Lit × DataW H) → Nat
  | [] => 0
  | x :: r => uptoBulkEntry x + uptoBulkEntries r
def uptoBulkEntry {H : Type} : Lit × DataW H → Nat
  | (.string bytes, d) => bytes.length + uptoBulk d + 1
  | (_, d) => uptoBulk d + 1
 end
def uptoSmall : (H : Type) → List (DataW H) → Bool := fun _ ds => decide (uptoBulkAll ds ≤ 1048576)
def OpenSpec.upto (s : _root_.Go.ChangeSpec) : _root_.Go.OpenSpec := { _root_.Go.OpenSpec.ofChange s with cond := some uptoSmall }

/-- 'dovetaillaw23.AddrAssigns', WHERE WHAT IT READS IS OF BULK AT MOST 1048576: true; the input reads as it did. -/
def addrAssignsUptoRow : OpenClaim := { program := "ytpblhcmcldachaa", sum := "dd08333fb225ca62fc8d1ef3d8d58d2cb6196d78c8b1b004290b699b7e37c464", func := "dovetail/dovetaillaw23.AddrAssigns", spec := "addrAssigns", inPlace := ["math/bits.Add64"], plainKeys := false, apart := false, narrowed := true }
def AddrAssignsUptoSaid : Prop := addrAssignsUptoRow.holds Try.pinned (OpenSpec.upto addrAssignsSpec)

/-- 'dovetaillaw23.AddrApart', WHERE WHAT IT READS IS OF BULK AT MOST 1048576: true; the input reads as it did. -/
def addrApartUptoRow : OpenClaim := { program := "ytpblhcmcldachaa", sum := "dd08333fb225ca62fc8d1ef3d8d58d2cb6196d78c8b1b004290b699b7e37c464", func := "dovetail/dovetaillaw23.AddrApart", spec := "addrApart", inPlace := ["math/bits.Add64"], plainKeys := false, apart := false, narrowed := true }
def AddrApartUptoSaid : Prop := addrApartUptoRow.holds Try.pinned (OpenSpec.upto addrApartSpec)

/-- 'dovetaillaw23.AddrGaps', WHERE WHAT IT READS IS OF BULK AT MOST 1048576: true; the input reads as it did. -/
def addrGapsUptoRow : OpenClaim := { program := "ytpblhcmcldachaa", sum := "dd08333fb225ca62fc8d1ef3d8d58d2cb6196d78c8b1b004290b699b7e37c464", func := "dovetail/dovetaillaw23.AddrGaps", spec := "addrGaps", inPlace := ["math/bits.Add64"], plainKeys := false, apart := false, narrowed := true }
def AddrGapsUptoSaid : Prop := addrGapsUptoRow.holds Try.pinned (OpenSpec.upto addrGapsSpec)

/-- 'dovetaillaw23.AddrGreat', WHERE WHAT IT READS IS OF BULK AT MOST 1048576: true; the input reads as it did. -/
def addrGreatUptoRow : OpenClaim := { program := "ytpblhcmcldachaa", sum := "dd08333fb225ca62fc8d1ef3d8d58d2cb6196d78c8b1b004290b699b7e37c464", func := "dovetail/dovetaillaw23.AddrGreat", spec := "addrGreat", inPlace := ["math/bits.Add64"], plainKeys := false, apart := false, narrowed := true }
def AddrGreatUptoSaid : Prop := addrGreatUptoRow.holds Try.pinned (OpenSpec.upto addrGreatSpec)

end Rows
end Go.Proofs.Ytpblhcmcldachaa
