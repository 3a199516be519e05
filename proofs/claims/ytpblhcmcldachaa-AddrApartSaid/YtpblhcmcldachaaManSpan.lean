/- The contract of span.Add: the sum of numbers, and that it is one. No condition. -/
import Derived.Test.YtpblhcmcldachaaProg
import Derived.WalkKit
import Derived.Deep.LoopGhost
import Derived.KernelRfl
import Derived.Laws.Externs
import Derived.Test.YtpblhcmcldachaaWMore
namespace Go.Proofs.Ytpblhcmcldachaa.Man
open Go.RowKit Go.Proofs.YtpblhcmcldachaaW.PrintWords Go.Proofs.YtpblhcmcldachaaW.PrintLast Go.Proofs.YtpblhcmcldachaaW.PrintMore
set_option linter.unusedVariables false
set_option linter.unusedSimpArgs false

/-! ### span_Add: function 21 (its contract by hand; math/bits.Add64 has no body: the model's entry is used) -/
def a64s (x y : Int) : Int := (((x.toNat + y.toNat) % 18446744073709551616 : Nat) : Int)
def a64c (x y : Int) : Int := (((x.toNat + y.toNat) / 18446744073709551616 : Nat) : Int)
theorem add64_run (x y : Int) (w : World) : (callFunc 24 #[.int .u64 x, .int .u64 y, .int .u64 0]).run Try.prog w = .ok (.value (.tuple #[.int .u64 (a64s x y), .int .u64 (a64c x y)])) w := by
  rw [run_callFunc_extern (fn := Try.f24) (e := fun args => do
    let (x, y, c) ← Go.Extern.MathBitsCarry.three "Add64" args
    pure (Go.Extern.MathBitsCarry.pair ((x + y + c) % Go.Extern.MathBitsCarry.m64) ((x + y + c) / Go.Extern.MathBitsCarry.m64))) Try.func24 (by kernel_rfl) (by kernel_rfl) (by kernel_rfl) (by kernel_rfl)]
  rfl
/-- The sum of numbers from a number on, and that it is one. -/
def span_addl : Int → List Int → Option (Int × Bool)
  | s, [] => some (s, true)
  | s, x :: xs => if a64c s x = 0 then span_addl (a64s s x) xs else some (0, false)
def span_Add.f (l0 : List Int) : Option (Int × Bool) := span_addl 0 l0
theorem span_addl_at (l : List Int) (k : Nat) (s : Int) (h : k < l.length) : span_addl s (l.drop k) = if a64c s (rd l k) = 0 then span_addl (a64s s (rd l k)) (l.drop (k + 1)) else some (0, false) := by
  rw [List.drop_eq_getElem_cons h]
  have e : rd l k = l[k] := by unfold rd; simp [List.getD, h]
  rw [e]; rfl
set_option maxHeartbeats 1000000 in
set_option maxRecDepth 100000 in
theorem span_Add.calls (A0 : Option Addr) (c0 : Nat) (l0 : List Int) (r1 : Int) (r2 : Bool) (w : World) (hr0 : Kd.C (Kd.int .u64) w A0 l0.length l0) (hc0 : l0.length ≤ c0) (h : span_Add.f l0 = some (r1, r2)) :
    Calls Try.prog 21 #[.slice A0 l0.length c0] w fun e w' => e = .returned (.tuple #[.int .u64 r1, .bool r2]) ∧ Drawn0 w w' := by
  have HR0 := Aside0.mk hr0
  have hmax : l0.length ≤ 9223372036854775807 := hr0.2.1
  clear hr0
  have H : Aside0 (span_addl 0 (l0.drop 0) = some (r1, r2)) := ⟨h⟩
  clear h
  have hadd := add64_run
  go_enter Try.func21, Try.ntmps21
  go_wp2
  go_loop [4, 11] (fun v4 v11 => ∃ (k : Nat) (s : Int), v11 = .int .i64 (k : Int) ∧ v4 = .int .u64 s ∧ k ≤ l0.length ∧ Aside0 (span_addl s (l0.drop k) = some (r1, r2))) (fun _ i => l0.length - (intOf i).toNat)
  case atStart => exact ⟨0, 0, rfl, rfl, Nat.zero_le _, H⟩
  case round =>
    clear H
    obtain ⟨k, s, rfl, rfl, hk, HA⟩ := hrel
    by_cases hlt : k < l0.length
    · obtain ⟨ad, e1, hx⟩ := Kd.at_int HR0.out (k : Int) (by omega) (by omega)
      cases e1
      rw [Int.toNat_natCast] at hx
      have HS := HA.out
      rw [span_addl_at _ _ _ hlt] at HS
      by_cases hc : a64c s (rd l0 k) = 0
      · rw [if_pos hc] at HS
        have HS' := Aside0.mk HS
        clear HS HA
        have hn : (a64c s (rd l0 k) != 0) = false := by rw [hc]; rfl
        have HC := Aside0.mk hc
        clear hc
        go_wp2
        go_round
        case rel => exact ⟨k + 1, _, by go_num, rfl, by omega, HS'⟩
        case measure => simp [intOf]; omega
      · rw [if_neg hc] at HS
        have hn : (a64c s (rd l0 k) != 0) = true := by rw [bne_iff_ne]; exact hc
        clear HA hc
        simp only [Option.some.injEq, Prod.mk.injEq] at HS
        obtain ⟨rfl, rfl⟩ := HS
        go_wp2
        go_ret2
        exact ⟨rfl, Drawn0.refl _⟩
    · have hke : k = l0.length := by omega
      have HS := HA.out
      rw [hke, List.drop_length] at HS
      clear HA hke
      have HS2 : (some (s, true) : Option (Int × Bool)) = some (r1, r2) := HS
      clear HS
      simp only [Option.some.injEq, Prod.mk.injEq] at HS2
      obtain ⟨rfl, rfl⟩ := HS2
      go_wp2
      go_ret2
      exact ⟨rfl, Drawn0.refl _⟩

end Go.Proofs.Ytpblhcmcldachaa.Man
