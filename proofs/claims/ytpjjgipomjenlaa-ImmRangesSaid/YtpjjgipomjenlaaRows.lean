/-
  No cell of these rows narrows 'for every input' (looked for: loops, veiled, ifaces, maps, wideKeys, modest, calm, conditions, laid).
  DERIVED. THE GIVEN ROWS OF THIS SEAT. 5 by the template 'for every input the law returns true; each argument reads behind the call as it read before'; 0 by the template 'total and deterministic' (their statements: YtpjjgipomjenlaaTotals.lean).
  GIVEN WITH THE SEED: the statements are not yours to turn. If you find one false, say at which input.
  Laid BY PROGRAM, IN A SANDBOX (cutbox-rows.mjs): the forced cells as the released guide's own fill.sh prints them over the translation 9c5b8a7b2268b710… (all of the seat's roots in one cut). By AI agents, Wed Nov 11 2026. No macro, syntax, notation, axiom, sorry.
-/
import Derived.Test.YtpjjgipomjenlaaChecked
import GoSem.Claim
import GoSem.ClaimJoined
import GoSem.ClaimMapViews
import Derived.JoinedTies
import Derived.KernelRfl
namespace Go.Proofs.Ytpjjgipomjenlaa
/- THE CELL 'sum', in the pinned program and in every row, IS THE sha256 OF THE DUMP (.gsa) THAT YtpjjgipomjenlaaProg.lean LOADS. Nothing in Lean hashes anything: it is a label: what it is worth is what the hold of that sum in a sandbox is worth. -/
noncomputable def Try.pinned : Pinned := { name := "ytpjjgipomjenlaa", sum := "9c5b8a7b2268b710dc51c306dab4f70738c595ac567f4d64858b344a47972369", checked := Try.checked }
namespace Rows
def none {H : Type} : Left H := { results := [], args := [] }

/-- 'dovetaillaw3.ImmTells': WHATEVER THE INPUT: true; the input reads as it did. -/
def immTellsSpec : ChangeSpec := { name := "immTells", fn := fun _ => fun
  | [d1, d2, d3, d4, d5] => { results := [.lit (.bool true)], args := [d1, d2, d3, d4, d5] }
  | _ => none }
def immTellsRow : OpenClaim := { program := "ytpjjgipomjenlaa", sum := "9c5b8a7b2268b710dc51c306dab4f70738c595ac567f4d64858b344a47972369", func := "dovetail/dovetaillaw3.ImmTells", spec := "immTells", apart := false }
def ImmTellsSaid : Prop := immTellsRow.holds Try.pinned (OpenSpec.ofChange immTellsSpec)

/-- ITS FALSE NEIGHBOUR: 'it returns false'. Refute it at one input. -/
def immTellsWrong : ChangeSpec := { name := "immTells", fn := fun _ => fun
  | [d1, d2, d3, d4, d5] => { results := [.lit (.bool false)], args := [d1, d2, d3, d4, d5] }
  | _ => none }
def ImmTellsWrongFalsely : Prop := immTellsRow.holds Try.pinned (OpenSpec.ofChange immTellsWrong)

/-- 'dovetaillaw3.ImmBack': WHATEVER THE INPUT: true; the input reads as it did. -/
def immBackSpec : ChangeSpec := { name := "immBack", fn := fun _ => fun
  | [d1, d2, d3, d4] => { results := [.lit (.bool true)], args := [d1, d2, d3, d4] }
  | _ => none }
def immBackRow : OpenClaim := { program := "ytpjjgipomjenlaa", sum := "9c5b8a7b2268b710dc51c306dab4f70738c595ac567f4d64858b344a47972369", func := "dovetail/dovetaillaw3.ImmBack", spec := "immBack", apart := false }
def ImmBackSaid : Prop := immBackRow.holds Try.pinned (OpenSpec.ofChange immBackSpec)

/-- ITS FALSE NEIGHBOUR: 'it returns false'. Refute it at one input. -/
def immBackWrong : ChangeSpec := { name := "immBack", fn := fun _ => fun
  | [d1, d2, d3, d4] => { results := [.lit (.bool false)], args := [d1, d2, d3, d4] }
  | _ => none }
def ImmBackWrongFalsely : Prop := immBackRow.holds Try.pinned (OpenSpec.ofChange immBackWrong)

/-- 'dovetaillaw3.ImmSplits': WHATEVER THE INPUT: true; the input reads as it did. -/
def immSplitsSpec : ChangeSpec := { name := "immSplits", fn := fun _ => fun
  | [d] => { results := [.lit (.bool true)], args := [d] }
  | _ => none }
def immSplitsRow : OpenClaim := { program := "ytpjjgipomjenlaa", sum := "9c5b8a7b2268b710dc51c306dab4f70738c595ac567f4d64858b344a47972369", func := "dovetail/dovetaillaw3.ImmSplits", spec := "immSplits", apart := false }
def ImmSplitsSaid : Prop := immSplitsRow.holds Try.pinned (OpenSpec.ofChange immSplitsSpec)

/-- ITS FALSE NEIGHBOUR: 'it returns false'. Refute it at one input. -/
def immSplitsWrong : ChangeSpec := { name := "immSplits", fn := fun _ => fun
  | [d] => { results := [.lit (.bool false)], args := [d] }
  | _ => none }
def ImmSplitsWrongFalsely : Prop := immSplitsRow.holds Try.pinned (OpenSpec.ofChange immSplitsWrong)

/-- 'dovetaillaw3.ImmRanges': WHATEVER THE INPUT: true; the input reads as it did. -/
def immRangesSpec : ChangeSpec := { name := "immRanges", fn := fun _ => fun
  | [d1, d2, d3] => { results := [.lit (.bool true)], args := [d1, d2, d3] }
  | _ => none }
def immRangesRow : OpenClaim := { program := "ytpjjgipomjenlaa", sum := "9c5b8a7b2268b710dc51c306dab4f70738c595ac567f4d64858b344a47972369", func := "dovetail/dovetaillaw3.ImmRanges", spec := "immRanges", apart := false }
def ImmRangesSaid : Prop := immRangesRow.holds Try.pinned (OpenSpec.ofChange immRangesSpec)

/-- ITS FALSE NEIGHBOUR: 'it returns false'. Refute it at one input. -/
def immRangesWrong : ChangeSpec := { name := "immRanges", fn := fun _ => fun
  | [d1, d2, d3] => { results := [.lit (.bool false)], args := [d1, d2, d3] }
  | _ => none }
def ImmRangesWrongFalsely : Prop := immRangesRow.holds Try.pinned (OpenSpec.ofChange immRangesWrong)

/-- 'dovetaillaw3.ImmSigns': WHATEVER THE INPUT: true; the input reads as it did. -/
def immSignsSpec : ChangeSpec := { name := "immSigns", fn := fun _ => fun
  | [d1, d2] => { results := [.lit (.bool true)], args := [d1, d2] }
  | _ => none }
def immSignsRow : OpenClaim := { program := "ytpjjgipomjenlaa", sum := "9c5b8a7b2268b710dc51c306dab4f70738c595ac567f4d64858b344a47972369", func := "dovetail/dovetaillaw3.ImmSigns", spec := "immSigns", apart := false }
def ImmSignsSaid : Prop := immSignsRow.holds Try.pinned (OpenSpec.ofChange immSignsSpec)

/-- ITS FALSE NEIGHBOUR: 'it returns false'. Refute it at one input. -/
def immSignsWrong : ChangeSpec := { name := "immSigns", fn := fun _ => fun
  | [d1, d2] => { results := [.lit (.bool false)], args := [d1, d2] }
  | _ => none }
def ImmSignsWrongFalsely : Prop := immSignsRow.holds Try.pinned (OpenSpec.ofChange immSignsWrong)

/- THE SECOND FORM. 'bulk': how many values and letters a reading holds, each counted each time it is reached (what is shared counts as often as it is met; a slice's spare places count too). A statement '..UptoSaid' is the law's where the arguments, and the package variables that the reading takes, are together of bulk at most 1048576: NARROWER than '..Said'. Prove '..Said' where nothing that the law and all that it calls make is longer than what came in: it says more and counts as full. Else prove '..UptoSaid'. A law counts once. -/
mutual
def uptoBulk {H : Type} : DataW H → Nat
  | .lit (.string bytes) => bytes.length + 1
  | .lit _ => 1
  | .nil => 1
  | .ptr d => uptoBulk d + 1
  | .slice elems spare => uptoBulkAll elems + uptoBulkAll spare + 1
  | .agg parts => uptoBulkAll parts + 1
  | .iface _ d => uptoBulk d + 1
  | .map entries => uptoBulkEntries entries + 1
  | .held _ => 1
def uptoBulkAll {H : Type} : List (DataW H) → Nat
  | [] => 0
  | d :: r => uptoBulk d + uptoBulkAll r
def uptoBulkEntries {H : Type} : List (Lit × DataW H) → Nat
  | [] => 0
  | x :: r => uptoBulkEntry x + uptoBulkEntries r
def uptoBulkEntry {H : Type} : Lit × DataW H → Nat
  | (.string bytes, d) => bytes.length + uptoBulk d + 1
  | (_, d) => uptoBulk d + 1
 end
def uptoSmall : (H : Type) → List (DataW H) → Bool := fun _ ds => decide (uptoBulkAll ds ≤ 1048576)
def OpenSpec.upto (s : _root_.Go.ChangeSpec) : _root_.Go.OpenSpec := { _root_.Go.OpenSpec.ofChange s with cond := some uptoSmall }

/-- 'dovetaillaw3.ImmTells', WHERE WHAT IT READS IS OF BULK AT MOST 1048576: true; the input reads as it did. -/
def immTellsUptoRow : OpenClaim := { program := "ytpjjgipomjenlaa", sum := "9c5b8a7b2268b710dc51c306dab4f70738c595ac567f4d64858b344a47972369", func := "dovetail/dovetaillaw3.ImmTells", spec := "immTells", apart := false, narrowed := true }
def ImmTellsUptoSaid : Prop := immTellsUptoRow.holds Try.pinned (OpenSpec.upto immTellsSpec)

/-- 'dovetaillaw3.ImmBack', WHERE WHAT IT READS IS OF BULK AT MOST 1048576: true; the input reads as it did. -/
def immBackUptoRow : OpenClaim := { program := "ytpjjgipomjenlaa", sum := "9c5b8a7b2268b710dc51c306dab4f70738c595ac567f4d64858b344a47972369", func := "dovetail/dovetaillaw3.ImmBack", spec := "immBack", apart := false, narrowed := true }
def ImmBackUptoSaid : Prop := immBackUptoRow.holds Try.pinned (OpenSpec.upto immBackSpec)

/-- 'dovetaillaw3.ImmSplits', WHERE WHAT IT READS IS OF BULK AT MOST 1048576: true; the input reads as it did. -/
def immSplitsUptoRow : OpenClaim := { program := "ytpjjgipomjenlaa", sum := "9c5b8a7b2268b710dc51c306dab4f70738c595ac567f4d64858b344a47972369", func := "dovetail/dovetaillaw3.ImmSplits", spec := "immSplits", apart := false, narrowed := true }
def ImmSplitsUptoSaid : Prop := immSplitsUptoRow.holds Try.pinned (OpenSpec.upto immSplitsSpec)

/-- 'dovetaillaw3.ImmRanges', WHERE WHAT IT READS IS OF BULK AT MOST 1048576: true; the input reads as it did. -/
def immRangesUptoRow : OpenClaim := { program := "ytpjjgipomjenlaa", sum := "9c5b8a7b2268b710dc51c306dab4f70738c595ac567f4d64858b344a47972369", func := "dovetail/dovetaillaw3.ImmRanges", spec := "immRanges", apart := false, narrowed := true }
def ImmRangesUptoSaid : Prop := immRangesUptoRow.holds Try.pinned (OpenSpec.upto immRangesSpec)

/-- 'dovetaillaw3.ImmSigns', WHERE WHAT IT READS IS OF BULK AT MOST 1048576: true; the input reads as it did. -/
def immSignsUptoRow : OpenClaim := { program := "ytpjjgipomjenlaa", sum := "9c5b8a7b2268b710dc51c306dab4f70738c595ac567f4d64858b344a47972369", func := "dovetail/dovetaillaw3.ImmSigns", spec := "immSigns", apart := false, narrowed := true }
def ImmSignsUptoSaid : Prop := immSignsUptoRow.holds Try.pinned (OpenSpec.upto immSignsSpec)

end Rows
end Go.Proofs.Ytpjjgipomjenlaa
