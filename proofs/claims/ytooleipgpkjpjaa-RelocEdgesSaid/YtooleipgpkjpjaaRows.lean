/-
  No cell of these rows narrows 'for every input' (looked for: loops, veiled, ifaces, maps, wideKeys, modest, calm, conditions, laid).
  DERIVED. THE GIVEN ROWS OF THIS SEAT. 7 by the template 'for every input the law returns true; each argument reads behind the call as it read before'; 0 by the template 'total and deterministic' (their statements: YtooleipgpkjpjaaTotals.lean).
  GIVEN WITH THE SEED: the statements are not yours to turn. If you find one false, say at which input.
  Laid BY PROGRAM, IN A SANDBOX (cutbox-rows.mjs): the forced cells as the released guide's own fill.sh prints them over the translation a406d3e20cd211b1… (all of the seat's roots in one cut). By AI agents, Wed Nov 11 2026. No macro, syntax, notation, axiom, sorry.
-/
import Derived.Test.YtooleipgpkjpjaaChecked
import GoSem.Claim
import GoSem.ClaimJoined
import GoSem.ClaimMapViews
import Derived.JoinedTies
import Derived.KernelRfl
namespace Go.Proofs.Ytooleipgpkjpjaa
/- THE CELL 'sum', in the pinned program and in every row, IS THE sha256 OF THE DUMP (.gsa) THAT YtooleipgpkjpjaaProg.lean LOADS. Nothing in Lean hashes anything: it is a label: what it is worth is what the hold of that sum in a sandbox is worth. -/
noncomputable def Try.pinned : Pinned := { name := "ytooleipgpkjpjaa", sum := "a406d3e20cd211b124e24778b5f76930f7f299e9900bbee581fd0f9ca716462c", checked := Try.checked }
namespace Rows
def none {H : Type} : Left H := { results := [], args := [] }

/-- 'dovetaillaw24.RelocValues': WHATEVER THE INPUT: true; the input reads as it did. -/
def relocValuesSpec : ChangeSpec := { name := "relocValues", fn := fun _ => fun
  | [d1, d2, d3, d4] => { results := [.lit (.bool true)], args := [d1, d2, d3, d4] }
  | _ => none }
def relocValuesRow : OpenClaim := { program := "ytooleipgpkjpjaa", sum := "a406d3e20cd211b124e24778b5f76930f7f299e9900bbee581fd0f9ca716462c", func := "dovetail/dovetaillaw24.RelocValues", spec := "relocValues", apart := false }
def RelocValuesSaid : Prop := relocValuesRow.holds Try.pinned (OpenSpec.ofChange relocValuesSpec)

/-- ITS FALSE NEIGHBOUR: 'it returns false'. Refute it at one input. -/
def relocValuesWrong : ChangeSpec := { name := "relocValues", fn := fun _ => fun
  | [d1, d2, d3, d4] => { results := [.lit (.bool false)], args := [d1, d2, d3, d4] }
  | _ => none }
def RelocValuesWrongFalsely : Prop := relocValuesRow.holds Try.pinned (OpenSpec.ofChange relocValuesWrong)

/-- 'dovetaillaw24.RelocApplies': WHATEVER THE INPUT: true; the input reads as it did. -/
def relocAppliesSpec : ChangeSpec := { name := "relocApplies", fn := fun _ => fun
  | [d1, d2, d3, d4] => { results := [.lit (.bool true)], args := [d1, d2, d3, d4] }
  | _ => none }
def relocAppliesRow : OpenClaim := { program := "ytooleipgpkjpjaa", sum := "a406d3e20cd211b124e24778b5f76930f7f299e9900bbee581fd0f9ca716462c", func := "dovetail/dovetaillaw24.RelocApplies", spec := "relocApplies", apart := false }
def RelocAppliesSaid : Prop := relocAppliesRow.holds Try.pinned (OpenSpec.ofChange relocAppliesSpec)

/-- ITS FALSE NEIGHBOUR: 'it returns false'. Refute it at one input. -/
def relocAppliesWrong : ChangeSpec := { name := "relocApplies", fn := fun _ => fun
  | [d1, d2, d3, d4] => { results := [.lit (.bool false)], args := [d1, d2, d3, d4] }
  | _ => none }
def RelocAppliesWrongFalsely : Prop := relocAppliesRow.holds Try.pinned (OpenSpec.ofChange relocAppliesWrong)

/-- 'dovetaillaw24.RelocEdges': WHATEVER THE INPUT: true; the input reads as it did. -/
def relocEdgesSpec : ChangeSpec := { name := "relocEdges", fn := fun _ => fun
  | [d1, d2, d3] => { results := [.lit (.bool true)], args := [d1, d2, d3] }
  | _ => none }
def relocEdgesRow : OpenClaim := { program := "ytooleipgpkjpjaa", sum := "a406d3e20cd211b124e24778b5f76930f7f299e9900bbee581fd0f9ca716462c", func := "dovetail/dovetaillaw24.RelocEdges", spec := "relocEdges", apart := false }
def RelocEdgesSaid : Prop := relocEdgesRow.holds Try.pinned (OpenSpec.ofChange relocEdgesSpec)

/-- ITS FALSE NEIGHBOUR: 'it returns false'. Refute it at one input. -/
def relocEdgesWrong : ChangeSpec := { name := "relocEdges", fn := fun _ => fun
  | [d1, d2, d3] => { results := [.lit (.bool false)], args := [d1, d2, d3] }
  | _ => none }
def RelocEdgesWrongFalsely : Prop := relocEdgesRow.holds Try.pinned (OpenSpec.ofChange relocEdgesWrong)

/-- 'dovetaillaw24.RelocHalves': WHATEVER THE INPUT: true; the input reads as it did. -/
def relocHalvesSpec : ChangeSpec := { name := "relocHalves", fn := fun _ => fun
  | [d1, d2, d3] => { results := [.lit (.bool true)], args := [d1, d2, d3] }
  | _ => none }
def relocHalvesRow : OpenClaim := { program := "ytooleipgpkjpjaa", sum := "a406d3e20cd211b124e24778b5f76930f7f299e9900bbee581fd0f9ca716462c", func := "dovetail/dovetaillaw24.RelocHalves", spec := "relocHalves", apart := false }
def RelocHalvesSaid : Prop := relocHalvesRow.holds Try.pinned (OpenSpec.ofChange relocHalvesSpec)

/-- ITS FALSE NEIGHBOUR: 'it returns false'. Refute it at one input. -/
def relocHalvesWrong : ChangeSpec := { name := "relocHalves", fn := fun _ => fun
  | [d1, d2, d3] => { results := [.lit (.bool false)], args := [d1, d2, d3] }
  | _ => none }
def RelocHalvesWrongFalsely : Prop := relocHalvesRow.holds Try.pinned (OpenSpec.ofChange relocHalvesWrong)

/-- 'dovetaillaw24.RelocLater': WHATEVER THE INPUT: true; the input reads as it did. -/
def relocLaterSpec : ChangeSpec := { name := "relocLater", fn := fun _ => fun
  | [d1, d2, d3, d4, d5] => { results := [.lit (.bool true)], args := [d1, d2, d3, d4, d5] }
  | _ => none }
def relocLaterRow : OpenClaim := { program := "ytooleipgpkjpjaa", sum := "a406d3e20cd211b124e24778b5f76930f7f299e9900bbee581fd0f9ca716462c", func := "dovetail/dovetaillaw24.RelocLater", spec := "relocLater", apart := false }
def RelocLaterSaid : Prop := relocLaterRow.holds Try.pinned (OpenSpec.ofChange relocLaterSpec)

/-- ITS FALSE NEIGHBOUR: 'it returns false'. Refute it at one input. -/
def relocLaterWrong : ChangeSpec := { name := "relocLater", fn := fun _ => fun
  | [d1, d2, d3, d4, d5] => { results := [.lit (.bool false)], args := [d1, d2, d3, d4, d5] }
  | _ => none }
def RelocLaterWrongFalsely : Prop := relocLaterRow.holds Try.pinned (OpenSpec.ofChange relocLaterWrong)

/-- 'dovetaillaw24.RelocAgain': WHATEVER THE INPUT: true; the input reads as it did. -/
def relocAgainSpec : ChangeSpec := { name := "relocAgain", fn := fun _ => fun
  | [d1, d2, d3, d4] => { results := [.lit (.bool true)], args := [d1, d2, d3, d4] }
  | _ => none }
def relocAgainRow : OpenClaim := { program := "ytooleipgpkjpjaa", sum := "a406d3e20cd211b124e24778b5f76930f7f299e9900bbee581fd0f9ca716462c", func := "dovetail/dovetaillaw24.RelocAgain", spec := "relocAgain", apart := false }
def RelocAgainSaid : Prop := relocAgainRow.holds Try.pinned (OpenSpec.ofChange relocAgainSpec)

/-- ITS FALSE NEIGHBOUR: 'it returns false'. Refute it at one input. -/
def relocAgainWrong : ChangeSpec := { name := "relocAgain", fn := fun _ => fun
  | [d1, d2, d3, d4] => { results := [.lit (.bool false)], args := [d1, d2, d3, d4] }
  | _ => none }
def RelocAgainWrongFalsely : Prop := relocAgainRow.holds Try.pinned (OpenSpec.ofChange relocAgainWrong)

/-- 'dovetaillaw24.RelocJumps': WHATEVER THE INPUT: true; the input reads as it did. -/
def relocJumpsSpec : ChangeSpec := { name := "relocJumps", fn := fun _ => fun
  | [d1, d2, d3, d4] => { results := [.lit (.bool true)], args := [d1, d2, d3, d4] }
  | _ => none }
def relocJumpsRow : OpenClaim := { program := "ytooleipgpkjpjaa", sum := "a406d3e20cd211b124e24778b5f76930f7f299e9900bbee581fd0f9ca716462c", func := "dovetail/dovetaillaw24.RelocJumps", spec := "relocJumps", apart := false }
def RelocJumpsSaid : Prop := relocJumpsRow.holds Try.pinned (OpenSpec.ofChange relocJumpsSpec)

/-- ITS FALSE NEIGHBOUR: 'it returns false'. Refute it at one input. -/
def relocJumpsWrong : ChangeSpec := { name := "relocJumps", fn := fun _ => fun
  | [d1, d2, d3, d4] => { results := [.lit (.bool false)], args := [d1, d2, d3, d4] }
  | _ => none }
def RelocJumpsWrongFalsely : Prop := relocJumpsRow.holds Try.pinned (OpenSpec.ofChange relocJumpsWrong)

/- THE SECOND FORM. 'bulk': how many values and letters a reading holds, each counted each time it is reached (what is shared counts as often as it is met; a slice's spare places count too). A statement '..UptoSaid' is the law's where the arguments, and the package variables that the reading takes, are together of bulk at most 1048576: NARROWER than '..Said'. Prove '..Said' where nothing that the law and all that it calls make is longer than what came in: it says more and counts as full. Else prove '..UptoSaid'. A law counts once. -/
mutual
def uptoBulk {H : Type} : DataW H → Nat
  | .lit (.string bytes) => bytes.length + 1
  | .lit _ => 1
  | .nil => 1
  | .ptr d => uptoBulk d + 1
  | .slice elems spare => uptoBulkAll elems + uptoBulkAll spare + 1
  | .agg parts => uptoBulkAll parts + 1
  | .iface _ d => uptoBulk d + 1
  | .map entries => uptoBulkEntries entries + 1
  | .held _ => 1
def uptoBulkAll {H : Type} : List (DataW H) → Nat
  | [] => 0
  | d :: r => uptoBulk d + uptoBulkAll r
def uptoBulkEntries {H : Type} : List (Lit × DataW H) → Nat
  | [] => 0
  | x :: r => uptoBulkEntry x + uptoBulkEntries r
def uptoBulkEntry {H : Type} : Lit × DataW H → Nat
  | (.string bytes, d) => bytes.length + uptoBulk d + 1
  | (_, d) => uptoBulk d + 1
 end
def uptoSmall : (H : Type) → List (DataW H) → Bool := fun _ ds => decide (uptoBulkAll ds ≤ 1048576)
def OpenSpec.upto (s : _root_.Go.ChangeSpec) : _root_.Go.OpenSpec := { _root_.Go.OpenSpec.ofChange s with cond := some uptoSmall }

/-- 'dovetaillaw24.RelocValues', WHERE WHAT IT READS IS OF BULK AT MOST 1048576: true; the input reads as it did. -/
def relocValuesUptoRow : OpenClaim := { program := "ytooleipgpkjpjaa", sum := "a406d3e20cd211b124e24778b5f76930f7f299e9900bbee581fd0f9ca716462c", func := "dovetail/dovetaillaw24.RelocValues", spec := "relocValues", apart := false, narrowed := true }
def RelocValuesUptoSaid : Prop := relocValuesUptoRow.holds Try.pinned (OpenSpec.upto relocValuesSpec)

/-- 'dovetaillaw24.RelocApplies', WHERE WHAT IT READS IS OF BULK AT MOST 1048576: true; the input reads as it did. -/
def relocAppliesUptoRow : OpenClaim := { program := "ytooleipgpkjpjaa", sum := "a406d3e20cd211b124e24778b5f76930f7f299e9900bbee581fd0f9ca716462c", func := "dovetail/dovetaillaw24.RelocApplies", spec := "relocApplies", apart := false, narrowed := true }
def RelocAppliesUptoSaid : Prop := relocAppliesUptoRow.holds Try.pinned (OpenSpec.upto relocAppliesSpec)

/-- 'dovetaillaw24.RelocEdges', WHERE WHAT IT READS IS OF BULK AT MOST 1048576: true; the input reads as it did. -/
def relocEdgesUptoRow : OpenClaim := { program := "ytooleipgpkjpjaa", sum := "a406d3e20cd211b124e24778b5f76930f7f299e9900bbee581fd0f9ca716462c", func := "dovetail/dovetaillaw24.RelocEdges", spec := "relocEdges", apart := false, narrowed := true }
def RelocEdgesUptoSaid : Prop := relocEdgesUptoRow.holds Try.pinned (OpenSpec.upto relocEdgesSpec)

/-- 'dovetaillaw24.RelocHalves', WHERE WHAT IT READS IS OF BULK AT MOST 1048576: true; the input reads as it did. -/
def relocHalvesUptoRow : OpenClaim := { program := "ytooleipgpkjpjaa", sum := "a406d3e20cd211b124e24778b5f76930f7f299e9900bbee581fd0f9ca716462c", func := "dovetail/dovetaillaw24.RelocHalves", spec := "relocHalves", apart := false, narrowed := true }
def RelocHalvesUptoSaid : Prop := relocHalvesUptoRow.holds Try.pinned (OpenSpec.upto relocHalvesSpec)

/-- 'dovetaillaw24.RelocLater', WHERE WHAT IT READS IS OF BULK AT MOST 1048576: true; the input reads as it did. -/
def relocLaterUptoRow : OpenClaim := { program := "ytooleipgpkjpjaa", sum := "a406d3e20cd211b124e24778b5f76930f7f299e9900bbee581fd0f9ca716462c", func := "dovetail/dovetaillaw24.RelocLater", spec := "relocLater", apart := false, narrowed := true }
def RelocLaterUptoSaid : Prop := relocLaterUptoRow.holds Try.pinned (OpenSpec.upto relocLaterSpec)

/-- 'dovetaillaw24.RelocAgain', WHERE WHAT IT READS IS OF BULK AT MOST 1048576: true; the input reads as it did. -/
def relocAgainUptoRow : OpenClaim := { program := "ytooleipgpkjpjaa", sum := "a406d3e20cd211b124e24778b5f76930f7f299e9900bbee581fd0f9ca716462c", func := "dovetail/dovetaillaw24.RelocAgain", spec := "relocAgain", apart := false, narrowed := true }
def RelocAgainUptoSaid : Prop := relocAgainUptoRow.holds Try.pinned (OpenSpec.upto relocAgainSpec)

/-- 'dovetaillaw24.RelocJumps', WHERE WHAT IT READS IS OF BULK AT MOST 1048576: true; the input reads as it did. -/
def relocJumpsUptoRow : OpenClaim := { program := "ytooleipgpkjpjaa", sum := "a406d3e20cd211b124e24778b5f76930f7f299e9900bbee581fd0f9ca716462c", func := "dovetail/dovetaillaw24.RelocJumps", spec := "relocJumps", apart := false, narrowed := true }
def RelocJumpsUptoSaid : Prop := relocJumpsUptoRow.holds Try.pinned (OpenSpec.upto relocJumpsSpec)

end Rows
end Go.Proofs.Ytooleipgpkjpjaa
