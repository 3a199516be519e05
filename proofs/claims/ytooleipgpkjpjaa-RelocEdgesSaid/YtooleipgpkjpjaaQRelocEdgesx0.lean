/- Contracts of what a law reaches, each function as a plain Lean function: written by a program of this claim's repo (myprint.py); conditions: those of each theorem. -/
import Derived.Test.YtooleipgpkjpjaaProg
import Derived.Below
import Derived.Deep.Draws
import Derived.Deep.AppendLies
import Derived.Maps.AppendAt
import Derived.OwnWalk
import Derived.Laws.BytesArg
import Derived.Laws.MakeOwn
import Derived.Laws.OwnMore
import Derived.Deep.OwnRows
import Derived.Tactics
import Derived.Lib.ConvBytes
import Derived.Laws.Slices
import Derived.WalkKit
import Derived.KernelRfl
import Derived.RowKit3
import Derived.Deep.LoopGhost
import Derived.Deep.QuietTactic
import Derived.BigQuiet
import Derived.WideLaws
import Derived.Deep.DeepCutAuto
import Derived.Deep.CutBlock
import Derived.Deep.RegionHeld3
import Derived.Laws.Rows
import Derived.Lib.AppendStr
import Derived.ArgAppend
import Derived.Laws.IdiomCopy
import Derived.OrdersHeld
import Derived.Laws.BitsLemmas
import Derived.RowKit
import Derived.Laws.CopyOwn
import Derived.Test.YtooleipgpkjpjaaManClone
import Derived.Test.YtooleipgpkjpjaaWWords
import Derived.Test.YtooleipgpkjpjaaWLast
import Derived.Test.YtooleipgpkjpjaaWTab
import Derived.Test.YtooleipgpkjpjaaWFour
import Derived.Test.YtooleipgpkjpjaaWQPut
import Derived.Test.YtooleipgpkjpjaaWApart
import Derived.Test.YtooleipgpkjpjaaWArr
import Derived.Test.YtooleipgpkjpjaaWZeros
import Derived.Test.YtooleipgpkjpjaaWFoot
import Derived.Test.YtooleipgpkjpjaaWKept
import Derived.Test.YtooleipgpkjpjaaWShare
import Derived.Test.YtooleipgpkjpjaaWN
import Derived.Test.YtooleipgpkjpjaaWFootNe
import Derived.Test.YtooleipgpkjpjaaWAt
import Derived.Test.YtooleipgpkjpjaaWEqStruct
import Derived.Test.YtooleipgpkjpjaaWRepsOne
import Derived.Test.YtooleipgpkjpjaaWInv
import Derived.Test.YtooleipgpkjpjaaWInvWords
import Derived.Test.YtooleipgpkjpjaaWGuard
import Derived.Test.YtooleipgpkjpjaaWNEv
import Derived.Test.YtooleipgpkjpjaaWMore
namespace Go.Proofs.Ytooleipgpkjpjaa.QRelocEdges
open Go.Proofs.Ytooleipgpkjpjaa.Man
open Go.RowKit Go.Proofs.YtooleipgpkjpjaaW.PrintWords Go.Proofs.YtooleipgpkjpjaaW.PrintLast Go.Proofs.YtooleipgpkjpjaaW.PrintMore
attribute [local go_sem] max2_int min2_int max_two min_two max_three min_three max_four min_four   -- for this text's walks alone
set_option linter.unusedVariables false
set_option linter.unusedSimpArgs false



def errW : Option Int → Value
  | none => .nilIface
  | some c => .iface 0 (.int .i64 c)
theorem errW_none : errW none = .nilIface := rfl
theorem errW_some (c : Int) : errW (some c) = .iface 0 (.int .i64 c) := rfl

theorem info2 : (Try.prog.info? 2).map (fun i => (i.zero, i.size, i.bytes)) = some (some (.int .i64 0), 1, 8) := by kernel_rfl
theorem info5 : (Try.prog.info? 5).map (fun i => (i.zero, i.size, i.bytes)) = some (some (.int .u8 0), 1, 1) := by kernel_rfl
theorem info22 : (Try.prog.info? 22).map (fun i => (i.zero, i.size, i.bytes)) = some (some (.int .u32 0), 1, 4) := by kernel_rfl
theorem info86 : (Try.prog.info? 86).map (fun i => (i.zero, i.size, i.bytes)) = some (some (.agg #[(.int .i64 0), (.int .i64 0), (.int .i64 0)]), 3, 24) := by kernel_rfl
-- the values' own types
/-! #### struct type 86 -/
structure S86 where
  f0 : Int
  f1 : Int
  f2 : Int
def z86 : S86 := ⟨(0 : Int), (0 : Int), (0 : Int)⟩
def k86 : Kd S86 := Kd.iso (Kd.pair (Kd.int .i64) (Kd.pair (Kd.int .i64) (Kd.int .i64))) (fun x : S86 => (x.f0, x.f1, x.f2))
theorem k86_open {w : World} {x : S86} {cs : List Value} (h : k86.K w x cs) : cs = [.int .i64 x.f0, .int .i64 x.f1, .int .i64 x.f2] := by
  obtain ⟨_, _, rfl, rfl, ⟨_, _, rfl, rfl, rfl⟩⟩ := h
  exact rfl
theorem k86_openM {w : World} {base : Nat} {ok : Nat → Prop} {x : S86} {cs : List Value} (h : k86.M w base ok x cs) : cs = [.int .i64 x.f0, .int .i64 x.f1, .int .i64 x.f2] := by
  obtain ⟨_, _, rfl, rfl, ⟨_, _, rfl, rfl, rfl⟩⟩ := h
  exact rfl
theorem k86_mk (w : World) (x : S86)  : k86.K w x [.int .i64 x.f0, .int .i64 x.f1, .int .i64 x.f2] := ⟨[.int .i64 x.f0], [.int .i64 x.f1, .int .i64 x.f2], rfl, rfl, ⟨[.int .i64 x.f1], [.int .i64 x.f2], rfl, rfl, rfl⟩⟩
theorem k86_mkM (w : World) (base : Nat) (ok : Nat → Prop) (x : S86)  : k86.M w base ok x [.int .i64 x.f0, .int .i64 x.f1, .int .i64 x.f2] := ⟨[.int .i64 x.f0], [.int .i64 x.f1, .int .i64 x.f2], rfl, rfl, ⟨[.int .i64 x.f1], [.int .i64 x.f2], rfl, rfl, rfl⟩⟩
def rd_T86 (xs : List S86) (i : Int) : S86 := xs.getD i.toNat z86
theorem at_T86 {w : World} {A : Option Addr} {n : Nat} {xs : List S86} (h : Kd.C k86 w A n xs) (i : Int) (h0 : 0 ≤ i) (h1 : i < n) : ∃ ad , A = some ad ∧ w.cell? (ad.add (i.toNat * 3)) = some (.int .i64 (rd_T86 xs i).f0) ∧ w.cell? ⟨(ad.add (i.toNat * 3)).block, (ad.add (i.toNat * 3)).off + 1, none⟩ = some (.int .i64 (rd_T86 xs i).f1) ∧ w.cell? ⟨(ad.add (i.toNat * 3)).block, (ad.add (i.toNat * 3)).off + 2, none⟩ = some (.int .i64 (rd_T86 xs i).f2) := by
  obtain ⟨ad, c, e, _, hK, hc0⟩ := Kd.C_get h z86 i h0 h1
  have hc : ∀ j u, c[j]? = some u → w.cell? (ad.add (i.toNat * 3 + j)) = some u := hc0
  obtain rfl := k86_open hK
  exact ⟨ad, e, hc 0 _ rfl, by rw [← add_field _ _ 1 (by omega)]; exact hc 1 _ rfl, by rw [← add_field _ _ 2 (by omega)]; exact hc 2 _ rfl⟩

end Go.Proofs.Ytooleipgpkjpjaa.QRelocEdges
