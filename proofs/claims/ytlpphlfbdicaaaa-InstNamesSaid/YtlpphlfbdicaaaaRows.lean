/-
  No cell of these rows narrows 'for every input' (looked for: loops, veiled, ifaces, maps, wideKeys, modest, calm, conditions, laid).
  DERIVED. THE GIVEN ROWS OF THIS SEAT. 3 by the template 'for every input the law returns true; each argument reads behind the call as it read before'; 0 by the template 'total and deterministic' (their statements: YtlpphlfbdicaaaaTotals.lean).
  GIVEN WITH THE SEED: the statements are not yours to turn. If you find one false, say at which input.
  Laid BY PROGRAM, IN A SANDBOX (cutbox-rows.mjs): the forced cells as the released guide's own fill.sh prints them over the translation 9002eb5e41162af3… (all of the seat's roots in one cut). By AI agents, Wed Nov 11 2026. No macro, syntax, notation, axiom, sorry.
-/
import Derived.Test.YtlpphlfbdicaaaaChecked
import GoSem.Claim
import GoSem.ClaimJoined
import GoSem.ClaimMapViews
import Derived.JoinedTies
import Derived.KernelRfl
namespace Go.Proofs.Ytlpphlfbdicaaaa
/- THE CELL 'sum', in the pinned program and in every row, IS THE sha256 OF THE DUMP (.gsa) THAT YtlpphlfbdicaaaaProg.lean LOADS. Nothing in Lean hashes anything: it is a label: what it is worth is what the hold of that sum in a sandbox is worth. -/
noncomputable def Try.pinned : Pinned := { name := "ytlpphlfbdicaaaa", sum := "9002eb5e41162af33325e4f8e50b387f0832fb30dcb530aed53276f430ef18e5", checked := Try.checked }
namespace Rows
def none {H : Type} : Left H := { results := [], args := [] }

/-- 'dovetaillaw4.InstDecodes': WHATEVER THE INPUT: true; the input reads as it did. -/
def instDecodesSpec : ChangeSpec := { name := "instDecodes", fn := fun _ => fun
  | [d] => { results := [.lit (.bool true)], args := [d] }
  | _ => none }
def instDecodesRow : OpenClaim := { program := "ytlpphlfbdicaaaa", sum := "9002eb5e41162af33325e4f8e50b387f0832fb30dcb530aed53276f430ef18e5", func := "dovetail/dovetaillaw4.InstDecodes", spec := "instDecodes", plainKeys := false, apart := false }
def InstDecodesSaid : Prop := instDecodesRow.holds Try.pinned (OpenSpec.ofChange instDecodesSpec)

/-- ITS FALSE NEIGHBOUR: 'it returns false'. Refute it at one input. -/
def instDecodesWrong : ChangeSpec := { name := "instDecodes", fn := fun _ => fun
  | [d] => { results := [.lit (.bool false)], args := [d] }
  | _ => none }
def InstDecodesWrongFalsely : Prop := instDecodesRow.holds Try.pinned (OpenSpec.ofChange instDecodesWrong)

/-- 'dovetaillaw4.InstBack': WHATEVER THE INPUT: true; the input reads as it did. -/
def instBackSpec : ChangeSpec := { name := "instBack", fn := fun _ => fun
  | [d1, d2, d3, d4, d5] => { results := [.lit (.bool true)], args := [d1, d2, d3, d4, d5] }
  | _ => none }
def instBackRow : OpenClaim := { program := "ytlpphlfbdicaaaa", sum := "9002eb5e41162af33325e4f8e50b387f0832fb30dcb530aed53276f430ef18e5", func := "dovetail/dovetaillaw4.InstBack", spec := "instBack", plainKeys := false, apart := false }
def InstBackSaid : Prop := instBackRow.holds Try.pinned (OpenSpec.ofChange instBackSpec)

/-- ITS FALSE NEIGHBOUR: 'it returns false'. Refute it at one input. -/
def instBackWrong : ChangeSpec := { name := "instBack", fn := fun _ => fun
  | [d1, d2, d3, d4, d5] => { results := [.lit (.bool false)], args := [d1, d2, d3, d4, d5] }
  | _ => none }
def InstBackWrongFalsely : Prop := instBackRow.holds Try.pinned (OpenSpec.ofChange instBackWrong)

/-- 'dovetaillaw4.InstNames': WHATEVER THE INPUT: true; the input reads as it did. -/
def instNamesSpec : ChangeSpec := { name := "instNames", fn := fun _ => fun
  | [d1, d2, d3] => { results := [.lit (.bool true)], args := [d1, d2, d3] }
  | _ => none }
def instNamesRow : OpenClaim := { program := "ytlpphlfbdicaaaa", sum := "9002eb5e41162af33325e4f8e50b387f0832fb30dcb530aed53276f430ef18e5", func := "dovetail/dovetaillaw4.InstNames", spec := "instNames", plainKeys := false, apart := false }
def InstNamesSaid : Prop := instNamesRow.holds Try.pinned (OpenSpec.ofChange instNamesSpec)

/-- ITS FALSE NEIGHBOUR: 'it returns false'. Refute it at one input. -/
def instNamesWrong : ChangeSpec := { name := "instNames", fn := fun _ => fun
  | [d1, d2, d3] => { results := [.lit (.bool false)], args := [d1, d2, d3] }
  | _ => none }
def InstNamesWrongFalsely : Prop := instNamesRow.holds Try.pinned (OpenSpec.ofChange instNamesWrong)

/- THE SECOND FORM. 'bulk': how many values and letters a reading holds, each counted each time it is reached (what is shared counts as often as it is met; a slice's spare places count too). A statement '..UptoSaid' is the law's where the arguments, and the package variables that the reading takes, are together of bulk at most 1048576: NARROWER than '..Said'. Prove '..Said' where nothing that the law and all that it calls make is longer than what came in: it says more and counts as full. Else prove '..UptoSaid'. A law counts once. -/
mutual
def uptoBulk {H : Type} : DataW H → Nat
  | .lit (.string bytes) => bytes.length + 1
  | .lit _ => 1
  | .nil => 1
  | .ptr d => uptoBulk d + 1
  | .slice elems spare => uptoBulkAll elems + uptoBulkAll spare + 1
  | .agg parts => uptoBulkAll parts + 1
  | .iface _ d => uptoBulk d + 1
  | .map entries => uptoBulkEntries entries + 1
  | .held _ => 1
def uptoBulkAll {H : Type} : List (DataW H) → Nat
  | [] => 0
  | d :: r => uptoBulk d + uptoBulkAll r
def uptoBulkEntries {H : Type} : List (Lit × DataW H) → Nat
  | [] => 0
  | x :: r => uptoBulkEntry x + uptoBulkEntries r
def uptoBulkEntry {H : Type} : Lit × DataW H → Nat
  | (.string bytes, d) => bytes.length + uptoBulk d + 1
  | (_, d) => uptoBulk d + 1
 end
def uptoSmall : (H : Type) → List (DataW H) → Bool := fun _ ds => decide (uptoBulkAll ds ≤ 1048576)
def OpenSpec.upto (s : _root_.Go.ChangeSpec) : _root_.Go.OpenSpec := { _root_.Go.OpenSpec.ofChange s with cond := some uptoSmall }

/-- 'dovetaillaw4.InstDecodes', WHERE WHAT IT READS IS OF BULK AT MOST 1048576: true; the input reads as it did. -/
def instDecodesUptoRow : OpenClaim := { program := "ytlpphlfbdicaaaa", sum := "9002eb5e41162af33325e4f8e50b387f0832fb30dcb530aed53276f430ef18e5", func := "dovetail/dovetaillaw4.InstDecodes", spec := "instDecodes", plainKeys := false, apart := false, narrowed := true }
def InstDecodesUptoSaid : Prop := instDecodesUptoRow.holds Try.pinned (OpenSpec.upto instDecodesSpec)

/-- 'dovetaillaw4.InstBack', WHERE WHAT IT READS IS OF BULK AT MOST 1048576: true; the input reads as it did. -/
def instBackUptoRow : OpenClaim := { program := "ytlpphlfbdicaaaa", sum := "9002eb5e41162af33325e4f8e50b387f0832fb30dcb530aed53276f430ef18e5", func := "dovetail/dovetaillaw4.InstBack", spec := "instBack", plainKeys := false, apart := false, narrowed := true }
def InstBackUptoSaid : Prop := instBackUptoRow.holds Try.pinned (OpenSpec.upto instBackSpec)

/-- 'dovetaillaw4.InstNames', WHERE WHAT IT READS IS OF BULK AT MOST 1048576: true; the input reads as it did. -/
def instNamesUptoRow : OpenClaim := { program := "ytlpphlfbdicaaaa", sum := "9002eb5e41162af33325e4f8e50b387f0832fb30dcb530aed53276f430ef18e5", func := "dovetail/dovetaillaw4.InstNames", spec := "instNames", plainKeys := false, apart := false, narrowed := true }
def InstNamesUptoSaid : Prop := instNamesUptoRow.holds Try.pinned (OpenSpec.upto instNamesSpec)

end Rows
end Go.Proofs.Ytlpphlfbdicaaaa
