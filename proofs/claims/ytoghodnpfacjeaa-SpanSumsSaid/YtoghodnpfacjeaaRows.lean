/-
  No cell of these rows narrows 'for every input' (looked for: loops, veiled, ifaces, maps, wideKeys, modest, calm, conditions, laid).
  DERIVED. THE GIVEN ROWS OF THIS SEAT. 5 by the template 'for every input the law returns true; each argument reads behind the call as it read before'; 0 by the template 'total and deterministic' (their statements: YtoghodnpfacjeaaTotals.lean).
  GIVEN WITH THE SEED: the statements are not yours to turn. If you find one false, say at which input.
  Laid BY PROGRAM, IN A SANDBOX (cutbox-rows.mjs): the forced cells as the released guide's own fill.sh prints them over the translation 1980e5d8f9e585b3… (all of the seat's roots in one cut). By AI agents, Wed Nov 11 2026. No macro, syntax, notation, axiom, sorry.
-/
import Derived.Test.YtoghodnpfacjeaaChecked
import GoSem.Claim
import GoSem.ClaimJoined
import GoSem.ClaimMapViews
import Derived.JoinedTies
import Derived.KernelRfl
namespace Go.Proofs.Ytoghodnpfacjeaa
/- THE CELL 'sum', in the pinned program and in every row, IS THE sha256 OF THE DUMP (.gsa) THAT YtoghodnpfacjeaaProg.lean LOADS. Nothing in Lean hashes anything: it is a label: what it is worth is what the hold of that sum in a sandbox is worth. -/
noncomputable def Try.pinned : Pinned := { name := "ytoghodnpfacjeaa", sum := "1980e5d8f9e585b32128f4b0fb781688ef4901af7b30b140b6aee5e05eece026", checked := Try.checked }
namespace Rows
def none {H : Type} : Left H := { results := [], args := [] }

/-- 'dovetaillaw2.SpanTells': WHATEVER THE INPUT: true; the input reads as it did. -/
def spanTellsSpec : ChangeSpec := { name := "spanTells", fn := fun _ => fun
  | [d1, d2, d3, d4, d5] => { results := [.lit (.bool true)], args := [d1, d2, d3, d4, d5] }
  | _ => none }
def spanTellsRow : OpenClaim := { program := "ytoghodnpfacjeaa", sum := "1980e5d8f9e585b32128f4b0fb781688ef4901af7b30b140b6aee5e05eece026", func := "dovetail/dovetaillaw2.SpanTells", spec := "spanTells", inPlace := ["math/bits.Add64"], apart := false }
def SpanTellsSaid : Prop := spanTellsRow.holds Try.pinned (OpenSpec.ofChange spanTellsSpec)

/-- ITS FALSE NEIGHBOUR: 'it returns false'. Refute it at one input. -/
def spanTellsWrong : ChangeSpec := { name := "spanTells", fn := fun _ => fun
  | [d1, d2, d3, d4, d5] => { results := [.lit (.bool false)], args := [d1, d2, d3, d4, d5] }
  | _ => none }
def SpanTellsWrongFalsely : Prop := spanTellsRow.holds Try.pinned (OpenSpec.ofChange spanTellsWrong)

/-- 'dovetaillaw2.SpanUps': WHATEVER THE INPUT: true; the input reads as it did. -/
def spanUpsSpec : ChangeSpec := { name := "spanUps", fn := fun _ => fun
  | [d1, d2] => { results := [.lit (.bool true)], args := [d1, d2] }
  | _ => none }
def spanUpsRow : OpenClaim := { program := "ytoghodnpfacjeaa", sum := "1980e5d8f9e585b32128f4b0fb781688ef4901af7b30b140b6aee5e05eece026", func := "dovetail/dovetaillaw2.SpanUps", spec := "spanUps", inPlace := ["math/bits.Add64"], apart := false }
def SpanUpsSaid : Prop := spanUpsRow.holds Try.pinned (OpenSpec.ofChange spanUpsSpec)

/-- ITS FALSE NEIGHBOUR: 'it returns false'. Refute it at one input. -/
def spanUpsWrong : ChangeSpec := { name := "spanUps", fn := fun _ => fun
  | [d1, d2] => { results := [.lit (.bool false)], args := [d1, d2] }
  | _ => none }
def SpanUpsWrongFalsely : Prop := spanUpsRow.holds Try.pinned (OpenSpec.ofChange spanUpsWrong)

/-- 'dovetaillaw2.SpanOverlaps': WHATEVER THE INPUT: true; the input reads as it did. -/
def spanOverlapsSpec : ChangeSpec := { name := "spanOverlaps", fn := fun _ => fun
  | [d1, d2, d3, d4, d5] => { results := [.lit (.bool true)], args := [d1, d2, d3, d4, d5] }
  | _ => none }
def spanOverlapsRow : OpenClaim := { program := "ytoghodnpfacjeaa", sum := "1980e5d8f9e585b32128f4b0fb781688ef4901af7b30b140b6aee5e05eece026", func := "dovetail/dovetaillaw2.SpanOverlaps", spec := "spanOverlaps", inPlace := ["math/bits.Add64"], apart := false }
def SpanOverlapsSaid : Prop := spanOverlapsRow.holds Try.pinned (OpenSpec.ofChange spanOverlapsSpec)

/-- ITS FALSE NEIGHBOUR: 'it returns false'. Refute it at one input. -/
def spanOverlapsWrong : ChangeSpec := { name := "spanOverlaps", fn := fun _ => fun
  | [d1, d2, d3, d4, d5] => { results := [.lit (.bool false)], args := [d1, d2, d3, d4, d5] }
  | _ => none }
def SpanOverlapsWrongFalsely : Prop := spanOverlapsRow.holds Try.pinned (OpenSpec.ofChange spanOverlapsWrong)

/-- 'dovetaillaw2.SpanWithin': WHATEVER THE INPUT: true; the input reads as it did. -/
def spanWithinSpec : ChangeSpec := { name := "spanWithin", fn := fun _ => fun
  | [d1, d2, d3, d4] => { results := [.lit (.bool true)], args := [d1, d2, d3, d4] }
  | _ => none }
def spanWithinRow : OpenClaim := { program := "ytoghodnpfacjeaa", sum := "1980e5d8f9e585b32128f4b0fb781688ef4901af7b30b140b6aee5e05eece026", func := "dovetail/dovetaillaw2.SpanWithin", spec := "spanWithin", inPlace := ["math/bits.Add64"], apart := false }
def SpanWithinSaid : Prop := spanWithinRow.holds Try.pinned (OpenSpec.ofChange spanWithinSpec)

/-- ITS FALSE NEIGHBOUR: 'it returns false'. Refute it at one input. -/
def spanWithinWrong : ChangeSpec := { name := "spanWithin", fn := fun _ => fun
  | [d1, d2, d3, d4] => { results := [.lit (.bool false)], args := [d1, d2, d3, d4] }
  | _ => none }
def SpanWithinWrongFalsely : Prop := spanWithinRow.holds Try.pinned (OpenSpec.ofChange spanWithinWrong)

/-- 'dovetaillaw2.SpanSums': WHATEVER THE INPUT: true; the input reads as it did. -/
def spanSumsSpec : ChangeSpec := { name := "spanSums", fn := fun _ => fun
  | [d1, d2] => { results := [.lit (.bool true)], args := [d1, d2] }
  | _ => none }
def spanSumsRow : OpenClaim := { program := "ytoghodnpfacjeaa", sum := "1980e5d8f9e585b32128f4b0fb781688ef4901af7b30b140b6aee5e05eece026", func := "dovetail/dovetaillaw2.SpanSums", spec := "spanSums", inPlace := ["math/bits.Add64"], apart := false }
def SpanSumsSaid : Prop := spanSumsRow.holds Try.pinned (OpenSpec.ofChange spanSumsSpec)

/-- ITS FALSE NEIGHBOUR: 'it returns false'. Refute it at one input. -/
def spanSumsWrong : ChangeSpec := { name := "spanSums", fn := fun _ => fun
  | [d1, d2] => { results := [.lit (.bool false)], args := [d1, d2] }
  | _ => none }
def SpanSumsWrongFalsely : Prop := spanSumsRow.holds Try.pinned (OpenSpec.ofChange spanSumsWrong)

/- THE SECOND FORM. 'bulk': how many values and letters a reading holds, each counted each time it is reached (what is shared counts as often as it is met; a slice's spare places count too). A statement '..UptoSaid' is the law's where the arguments, and the package variables that the reading takes, are together of bulk at most 1048576: NARROWER than '..Said'. Prove '..Said' where nothing that the law and all that it calls make is longer than what came in: it says more and counts as full. Else prove '..UptoSaid'. A law counts once. -/
mutual
def uptoBulk {H : Type} : DataW H → Nat
  | .lit (.string bytes) => bytes.length + 1
  | .lit _ => 1
  | .nil => 1
  | .ptr d => uptoBulk d + 1
  | .slice elems spare => uptoBulkAll elems + uptoBulkAll spare + 1
  | .agg parts => uptoBulkAll parts + 1
  | .iface _ d => uptoBulk d + 1
  | .map entries => uptoBulkEntries entries + 1
  | .held _ => 1
def uptoBulkAll {H : Type} : List (DataW H) → Nat
  | [] => 0
  | d :: r => uptoBulk d + uptoBulkAll r
def uptoBulkEntries {H : Type} : List (Lit × DataW H) → Nat
  | [] => 0
  | x :: r => uptoBulkEntry x + uptoBulkEntries r
def uptoBulkEntry {H : Type} : Lit × DataW H → Nat
  | (.string bytes, d) => bytes.length + uptoBulk d + 1
  | (_, d) => uptoBulk d + 1
 end
def uptoSmall : (H : Type) → List (DataW H) → Bool := fun _ ds => decide (uptoBulkAll ds ≤ 1048576)
def OpenSpec.upto (s : _root_.Go.ChangeSpec) : _root_.Go.OpenSpec := { _root_.Go.OpenSpec.ofChange s with cond := some uptoSmall }

/-- 'dovetaillaw2.SpanTells', WHERE WHAT IT READS IS OF BULK AT MOST 1048576: true; the input reads as it did. -/
def spanTellsUptoRow : OpenClaim := { program := "ytoghodnpfacjeaa", sum := "1980e5d8f9e585b32128f4b0fb781688ef4901af7b30b140b6aee5e05eece026", func := "dovetail/dovetaillaw2.SpanTells", spec := "spanTells", inPlace := ["math/bits.Add64"], apart := false, narrowed := true }
def SpanTellsUptoSaid : Prop := spanTellsUptoRow.holds Try.pinned (OpenSpec.upto spanTellsSpec)

/-- 'dovetaillaw2.SpanUps', WHERE WHAT IT READS IS OF BULK AT MOST 1048576: true; the input reads as it did. -/
def spanUpsUptoRow : OpenClaim := { program := "ytoghodnpfacjeaa", sum := "1980e5d8f9e585b32128f4b0fb781688ef4901af7b30b140b6aee5e05eece026", func := "dovetail/dovetaillaw2.SpanUps", spec := "spanUps", inPlace := ["math/bits.Add64"], apart := false, narrowed := true }
def SpanUpsUptoSaid : Prop := spanUpsUptoRow.holds Try.pinned (OpenSpec.upto spanUpsSpec)

/-- 'dovetaillaw2.SpanOverlaps', WHERE WHAT IT READS IS OF BULK AT MOST 1048576: true; the input reads as it did. -/
def spanOverlapsUptoRow : OpenClaim := { program := "ytoghodnpfacjeaa", sum := "1980e5d8f9e585b32128f4b0fb781688ef4901af7b30b140b6aee5e05eece026", func := "dovetail/dovetaillaw2.SpanOverlaps", spec := "spanOverlaps", inPlace := ["math/bits.Add64"], apart := false, narrowed := true }
def SpanOverlapsUptoSaid : Prop := spanOverlapsUptoRow.holds Try.pinned (OpenSpec.upto spanOverlapsSpec)

/-- 'dovetaillaw2.SpanWithin', WHERE WHAT IT READS IS OF BULK AT MOST 1048576: true; the input reads as it did. -/
def spanWithinUptoRow : OpenClaim := { program := "ytoghodnpfacjeaa", sum := "1980e5d8f9e585b32128f4b0fb781688ef4901af7b30b140b6aee5e05eece026", func := "dovetail/dovetaillaw2.SpanWithin", spec := "spanWithin", inPlace := ["math/bits.Add64"], apart := false, narrowed := true }
def SpanWithinUptoSaid : Prop := spanWithinUptoRow.holds Try.pinned (OpenSpec.upto spanWithinSpec)

/-- 'dovetaillaw2.SpanSums', WHERE WHAT IT READS IS OF BULK AT MOST 1048576: true; the input reads as it did. -/
def spanSumsUptoRow : OpenClaim := { program := "ytoghodnpfacjeaa", sum := "1980e5d8f9e585b32128f4b0fb781688ef4901af7b30b140b6aee5e05eece026", func := "dovetail/dovetaillaw2.SpanSums", spec := "spanSums", inPlace := ["math/bits.Add64"], apart := false, narrowed := true }
def SpanSumsUptoSaid : Prop := spanSumsUptoRow.holds Try.pinned (OpenSpec.upto spanSumsSpec)

end Rows
end Go.Proofs.Ytoghodnpfacjeaa
