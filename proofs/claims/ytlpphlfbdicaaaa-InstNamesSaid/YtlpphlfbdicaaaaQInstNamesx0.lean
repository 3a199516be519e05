/- Contracts of what a law reaches, each function as a plain Lean function: written by a program of this claim's repo (myprint.py); conditions: those of each theorem. -/
import Derived.Test.YtlpphlfbdicaaaaProg
import Derived.Below
import Derived.Deep.Draws
import Derived.Deep.AppendLies
import Derived.Maps.AppendAt
import Derived.OwnWalk
import Derived.Laws.BytesArg
import Derived.Laws.MakeOwn
import Derived.Laws.OwnMore
import Derived.Deep.OwnRows
import Derived.Tactics
import Derived.Lib.ConvBytes
import Derived.Laws.Slices
import Derived.WalkKit
import Derived.KernelRfl
import Derived.RowKit3
import Derived.Deep.LoopGhost
import Derived.Deep.QuietTactic
import Derived.BigQuiet
import Derived.WideLaws
import Derived.Deep.DeepCutAuto
import Derived.Deep.CutBlock
import Derived.Deep.RegionHeld3
import Derived.Laws.Rows
import Derived.Lib.AppendStr
import Derived.ArgAppend
import Derived.Laws.IdiomCopy
import Derived.OrdersHeld
import Derived.Laws.BitsLemmas
import Derived.RowKit
import Derived.Laws.CopyOwn
import Derived.Maps.OwnSet
import Derived.Maps.OwnOps
import Derived.DeepKeys4
import Derived.Test.YtlpphlfbdicaaaaWWords
import Derived.Test.YtlpphlfbdicaaaaWLast
import Derived.Test.YtlpphlfbdicaaaaWTab
import Derived.Test.YtlpphlfbdicaaaaWFour
import Derived.Test.YtlpphlfbdicaaaaWQPut
import Derived.Test.YtlpphlfbdicaaaaWApart
import Derived.Test.YtlpphlfbdicaaaaWArr
import Derived.Test.YtlpphlfbdicaaaaWZeros
import Derived.Test.YtlpphlfbdicaaaaWFoot
import Derived.Test.YtlpphlfbdicaaaaWKept
import Derived.Test.YtlpphlfbdicaaaaWShare
import Derived.Test.YtlpphlfbdicaaaaWN
import Derived.Test.YtlpphlfbdicaaaaWFootNe
import Derived.Test.YtlpphlfbdicaaaaWAt
import Derived.Test.YtlpphlfbdicaaaaWEqStruct
import Derived.Test.YtlpphlfbdicaaaaWRepsOne
import Derived.Test.YtlpphlfbdicaaaaWInv
import Derived.Test.YtlpphlfbdicaaaaWInvWords
import Derived.Test.YtlpphlfbdicaaaaWGuard
import Derived.Test.YtlpphlfbdicaaaaWNEv
import Derived.Test.YtlpphlfbdicaaaaWMore
namespace Go.Proofs.Ytlpphlfbdicaaaa.QInstNames
open Go.RowKit Go.Proofs.YtlpphlfbdicaaaaW.PrintWords Go.Proofs.YtlpphlfbdicaaaaW.PrintLast Go.Proofs.YtlpphlfbdicaaaaW.PrintMore
attribute [local go_sem] max2_int min2_int max_two min_two max_three min_three max_four min_four   -- for this text's walks alone
set_option linter.unusedVariables false
set_option linter.unusedSimpArgs false



def errW : Option Int → Value
  | none => .nilIface
  | some c => .iface 0 (.int .i64 c)
theorem errW_none : errW none = .nilIface := rfl
theorem errW_some (c : Int) : errW (some c) = .iface 0 (.int .i64 c) := rfl

theorem info3 : (Try.prog.info? 3).map (fun i => (i.zero, i.size, i.bytes)) = some (some (.int .i64 0), 1, 8) := by kernel_rfl
theorem info37 : (Try.prog.info? 37).map (fun i => (i.zero, i.size, i.bytes)) = some (some (.int .u64 0), 1, 8) := by kernel_rfl
theorem info65 : (Try.prog.info? 65).map (fun i => (i.zero, i.size, i.bytes)) = some (some (.agg #[(.int .i64 0), (.int .i64 0), (.int .i64 0)]), 3, 24) := by kernel_rfl
-- the values' own types
/-! #### struct type 65 -/
structure S65 where
  f0 : Int
  f1 : Int
  f2 : Int
def z65 : S65 := ⟨(0 : Int), (0 : Int), (0 : Int)⟩
def k65 : Kd S65 := Kd.iso (Kd.pair (Kd.int .i64) (Kd.pair (Kd.int .i64) (Kd.int .i64))) (fun x : S65 => (x.f0, x.f1, x.f2))
theorem k65_open {w : World} {x : S65} {cs : List Value} (h : k65.K w x cs) : cs = [.int .i64 x.f0, .int .i64 x.f1, .int .i64 x.f2] := by
  obtain ⟨_, _, rfl, rfl, ⟨_, _, rfl, rfl, rfl⟩⟩ := h
  exact rfl
theorem k65_openM {w : World} {base : Nat} {ok : Nat → Prop} {x : S65} {cs : List Value} (h : k65.M w base ok x cs) : cs = [.int .i64 x.f0, .int .i64 x.f1, .int .i64 x.f2] := by
  obtain ⟨_, _, rfl, rfl, ⟨_, _, rfl, rfl, rfl⟩⟩ := h
  exact rfl
theorem k65_mk (w : World) (x : S65)  : k65.K w x [.int .i64 x.f0, .int .i64 x.f1, .int .i64 x.f2] := ⟨[.int .i64 x.f0], [.int .i64 x.f1, .int .i64 x.f2], rfl, rfl, ⟨[.int .i64 x.f1], [.int .i64 x.f2], rfl, rfl, rfl⟩⟩
theorem k65_mkM (w : World) (base : Nat) (ok : Nat → Prop) (x : S65)  : k65.M w base ok x [.int .i64 x.f0, .int .i64 x.f1, .int .i64 x.f2] := ⟨[.int .i64 x.f0], [.int .i64 x.f1, .int .i64 x.f2], rfl, rfl, ⟨[.int .i64 x.f1], [.int .i64 x.f2], rfl, rfl, rfl⟩⟩
def rd_T65 (xs : List S65) (i : Int) : S65 := xs.getD i.toNat z65
theorem at_T65 {w : World} {A : Option Addr} {n : Nat} {xs : List S65} (h : Kd.C k65 w A n xs) (i : Int) (h0 : 0 ≤ i) (h1 : i < n) : ∃ ad , A = some ad ∧ w.cell? (ad.add (i.toNat * 3)) = some (.int .i64 (rd_T65 xs i).f0) ∧ w.cell? ⟨(ad.add (i.toNat * 3)).block, (ad.add (i.toNat * 3)).off + 1, none⟩ = some (.int .i64 (rd_T65 xs i).f1) ∧ w.cell? ⟨(ad.add (i.toNat * 3)).block, (ad.add (i.toNat * 3)).off + 2, none⟩ = some (.int .i64 (rd_T65 xs i).f2) := by
  obtain ⟨ad, c, e, _, hK, hc0⟩ := Kd.C_get h z65 i h0 h1
  have hc : ∀ j u, c[j]? = some u → w.cell? (ad.add (i.toNat * 3 + j)) = some u := hc0
  obtain rfl := k65_open hK
  exact ⟨ad, e, hc 0 _ rfl, by rw [← add_field _ _ 1 (by omega)]; exact hc 1 _ rfl, by rw [← add_field _ _ 2 (by omega)]; exact hc 2 _ rfl⟩

/-! #### struct type 42 -/
structure S42 where
  f0 : Int
  f1 : Int
  f2 : ByteArray
  f3 : Int
  f4 : Int
  f5 : Int
  f6 : Bool
  f7 : Bool
def z42 : S42 := ⟨(0 : Int), (0 : Int), (⟨#[]⟩ : ByteArray), (0 : Int), (0 : Int), (0 : Int), false, false⟩
def k42 : Kd S42 := Kd.iso (Kd.pair (Kd.int .i64) (Kd.pair (Kd.int .i64) (Kd.pair Kd.string (Kd.pair (Kd.int .u32) (Kd.pair (Kd.int .u32) (Kd.pair (Kd.int .u32) (Kd.pair Kd.bool Kd.bool))))))) (fun x : S42 => (x.f0, x.f1, x.f2, x.f3, x.f4, x.f5, x.f6, x.f7))
theorem k42_open {w : World} {x : S42} {cs : List Value} (h : k42.K w x cs) : cs = [.int .i64 x.f0, .int .i64 x.f1, .string x.f2, .int .u32 x.f3, .int .u32 x.f4, .int .u32 x.f5, .bool x.f6, .bool x.f7] := by
  obtain ⟨_, _, rfl, rfl, ⟨_, _, rfl, rfl, ⟨_, _, rfl, rfl, ⟨_, _, rfl, rfl, ⟨_, _, rfl, rfl, ⟨_, _, rfl, rfl, ⟨_, _, rfl, rfl, rfl⟩⟩⟩⟩⟩⟩⟩ := h
  exact rfl
theorem k42_openM {w : World} {base : Nat} {ok : Nat → Prop} {x : S42} {cs : List Value} (h : k42.M w base ok x cs) : cs = [.int .i64 x.f0, .int .i64 x.f1, .string x.f2, .int .u32 x.f3, .int .u32 x.f4, .int .u32 x.f5, .bool x.f6, .bool x.f7] := by
  obtain ⟨_, _, rfl, rfl, ⟨_, _, rfl, rfl, ⟨_, _, rfl, rfl, ⟨_, _, rfl, rfl, ⟨_, _, rfl, rfl, ⟨_, _, rfl, rfl, ⟨_, _, rfl, rfl, rfl⟩⟩⟩⟩⟩⟩⟩ := h
  exact rfl
theorem k42_mk (w : World) (x : S42)  : k42.K w x [.int .i64 x.f0, .int .i64 x.f1, .string x.f2, .int .u32 x.f3, .int .u32 x.f4, .int .u32 x.f5, .bool x.f6, .bool x.f7] := ⟨[.int .i64 x.f0], [.int .i64 x.f1, .string x.f2, .int .u32 x.f3, .int .u32 x.f4, .int .u32 x.f5, .bool x.f6, .bool x.f7], rfl, rfl, ⟨[.int .i64 x.f1], [.string x.f2, .int .u32 x.f3, .int .u32 x.f4, .int .u32 x.f5, .bool x.f6, .bool x.f7], rfl, rfl, ⟨[.string x.f2], [.int .u32 x.f3, .int .u32 x.f4, .int .u32 x.f5, .bool x.f6, .bool x.f7], rfl, rfl, ⟨[.int .u32 x.f3], [.int .u32 x.f4, .int .u32 x.f5, .bool x.f6, .bool x.f7], rfl, rfl, ⟨[.int .u32 x.f4], [.int .u32 x.f5, .bool x.f6, .bool x.f7], rfl, rfl, ⟨[.int .u32 x.f5], [.bool x.f6, .bool x.f7], rfl, rfl, ⟨[.bool x.f6], [.bool x.f7], rfl, rfl, rfl⟩⟩⟩⟩⟩⟩⟩
theorem k42_mkM (w : World) (base : Nat) (ok : Nat → Prop) (x : S42)  : k42.M w base ok x [.int .i64 x.f0, .int .i64 x.f1, .string x.f2, .int .u32 x.f3, .int .u32 x.f4, .int .u32 x.f5, .bool x.f6, .bool x.f7] := ⟨[.int .i64 x.f0], [.int .i64 x.f1, .string x.f2, .int .u32 x.f3, .int .u32 x.f4, .int .u32 x.f5, .bool x.f6, .bool x.f7], rfl, rfl, ⟨[.int .i64 x.f1], [.string x.f2, .int .u32 x.f3, .int .u32 x.f4, .int .u32 x.f5, .bool x.f6, .bool x.f7], rfl, rfl, ⟨[.string x.f2], [.int .u32 x.f3, .int .u32 x.f4, .int .u32 x.f5, .bool x.f6, .bool x.f7], rfl, rfl, ⟨[.int .u32 x.f3], [.int .u32 x.f4, .int .u32 x.f5, .bool x.f6, .bool x.f7], rfl, rfl, ⟨[.int .u32 x.f4], [.int .u32 x.f5, .bool x.f6, .bool x.f7], rfl, rfl, ⟨[.int .u32 x.f5], [.bool x.f6, .bool x.f7], rfl, rfl, ⟨[.bool x.f6], [.bool x.f7], rfl, rfl, rfl⟩⟩⟩⟩⟩⟩⟩
def rd_T42 (xs : List S42) (i : Int) : S42 := xs.getD i.toNat z42
theorem at_T42 {w : World} {A : Option Addr} {n : Nat} {xs : List S42} (h : Kd.C k42 w A n xs) (i : Int) (h0 : 0 ≤ i) (h1 : i < n) : ∃ ad , A = some ad ∧ w.cell? (ad.add (i.toNat * 8)) = some (.int .i64 (rd_T42 xs i).f0) ∧ w.cell? ⟨(ad.add (i.toNat * 8)).block, (ad.add (i.toNat * 8)).off + 1, none⟩ = some (.int .i64 (rd_T42 xs i).f1) ∧ w.cell? ⟨(ad.add (i.toNat * 8)).block, (ad.add (i.toNat * 8)).off + 2, none⟩ = some (.string (rd_T42 xs i).f2) ∧ w.cell? ⟨(ad.add (i.toNat * 8)).block, (ad.add (i.toNat * 8)).off + 3, none⟩ = some (.int .u32 (rd_T42 xs i).f3) ∧ w.cell? ⟨(ad.add (i.toNat * 8)).block, (ad.add (i.toNat * 8)).off + 4, none⟩ = some (.int .u32 (rd_T42 xs i).f4) ∧ w.cell? ⟨(ad.add (i.toNat * 8)).block, (ad.add (i.toNat * 8)).off + 5, none⟩ = some (.int .u32 (rd_T42 xs i).f5) ∧ w.cell? ⟨(ad.add (i.toNat * 8)).block, (ad.add (i.toNat * 8)).off + 6, none⟩ = some (.bool (rd_T42 xs i).f6) ∧ w.cell? ⟨(ad.add (i.toNat * 8)).block, (ad.add (i.toNat * 8)).off + 7, none⟩ = some (.bool (rd_T42 xs i).f7) := by
  obtain ⟨ad, c, e, _, hK, hc0⟩ := Kd.C_get h z42 i h0 h1
  have hc : ∀ j u, c[j]? = some u → w.cell? (ad.add (i.toNat * 8 + j)) = some u := hc0
  obtain rfl := k42_open hK
  exact ⟨ad, e, hc 0 _ rfl, by rw [← add_field _ _ 1 (by omega)]; exact hc 1 _ rfl, by rw [← add_field _ _ 2 (by omega)]; exact hc 2 _ rfl, by rw [← add_field _ _ 3 (by omega)]; exact hc 3 _ rfl, by rw [← add_field _ _ 4 (by omega)]; exact hc 4 _ rfl, by rw [← add_field _ _ 5 (by omega)]; exact hc 5 _ rfl, by rw [← add_field _ _ 6 (by omega)]; exact hc 6 _ rfl, by rw [← add_field _ _ 7 (by omega)]; exact hc 7 _ rfl⟩

end Go.Proofs.Ytlpphlfbdicaaaa.QInstNames
