/- SpanUps: what a number goes up to is a multiple, not below it, and less than one step above. No condition beside the statement's own. -/
import Derived.Test.YtoghodnpfacjeaaSpanKSpanUps
namespace Go.Proofs.Ytoghodnpfacjeaa.Pure
open Go.Proofs.Ytoghodnpfacjeaa.Man
open Go.RowKit Go.Proofs.Ytoghodnpfacjeaa.QSpanUps Go.Proofs.YtoghodnpfacjeaaW.PrintWords Go.Proofs.YtoghodnpfacjeaaW.PrintLast Go.Proofs.YtoghodnpfacjeaaW.PrintMore Go.Proofs.Ytoghodnpfacjeaa.Bv Go.Proofs.Ytoghodnpfacjeaa.Spn Go.Proofs.Ytoghodnpfacjeaa.SpnSpanUps
set_option linter.unusedSimpArgs false
set_option linter.unusedVariables false

theorem SpanUps : dovetaillaw2_SpanUps.Pure := by
  intro a0 a1 w0 w1
  have b0 := bd_u64 w0
  have b1 := bd_u8 w1
  refine ⟨10, ?_⟩
  have hk : dovetaillaw2_known.f 10 = some true := by decide +kernel
  obtain ⟨x, rfl⟩ : ∃ x : Nat, a0 = x := ⟨a0.toNat, by omega⟩
  have hm : Int.tmod a1 64 = a1 % 64 := Int.tmod_eq_emod_of_nonneg b1.1
  obtain ⟨n, hn⟩ : ∃ n : Nat, a1 % 64 = n := ⟨(a1 % 64).toNat, by omega⟩
  have hn64 : n < 64 := by omega
  have hp : 0 < 2 ^ n := Nat.two_pow_pos n
  have hq : (2 : Nat) ^ n ≤ 2 ^ 63 := Nat.pow_le_pow_right (by decide) (by omega)
  have h63 : (2 : Nat) ^ 63 = 9223372036854775808 := rfl
  have hs : shl .u64 1 (n : Int) = ((2 ^ n : Nat) : Int) := by
    unfold shl
    rw [Int.toNat_natCast, show min n IntKind.u64.bits = n by simp [IntKind.bits]; omega, Int.one_mul, show ((2 : Int) ^ n) = ((2 ^ n : Nat) : Int) by rw [Int.natCast_pow]; rfl]
    exact uw64 (by omega) (by omega)
  have e : IntKind.u64.wrap (((2 ^ n : Nat) : Int) - 1) = ((2 ^ n - 1 : Nat) : Int) := by rw [uw64 (by omega) (by omega)]; omega
  have hr : x % 2 ^ n < 2 ^ n := Nat.mod_lt _ hp
  have hxe := Nat.div_add_mod x (2 ^ n)
  have hxm : (x / 2 ^ n + 1) * 2 ^ n = 2 ^ n * (x / 2 ^ n) + 2 ^ n := by rw [Nat.succ_mul, Nat.mul_comm]
  have hx : x < 18446744073709551616 := by omega
  have tail : ∀ v : Nat, x ≤ v → v < 18446744073709551616 → v < x + 2 ^ n → v % 2 ^ n = 0 → (if ((v : Int), true).2 = true then (if ((v : Int), true).1 ≥ (x : Int) then (if (IntKind.u64.wrap (((v : Int), true).1 - (x : Int))) < ((2 ^ n : Nat) : Int) then (if (Go.bits .and .u64 ((v : Int), true).1 ((2 ^ n - 1 : Nat) : Int)) = 0 then (some true : Option Bool) else some false) else some false) else some false) else some false) = some true := by
    intro v h1 h2 h3 h4
    simp only [if_true]
    rw [if_pos (by omega), uw64 (by omega) (by omega), if_pos (by omega), bits_and _ _ h2 (by omega), and_mask, h4]; rfl
  unfold dovetaillaw2_SpanUps.f
  rw [hk]
  simp only [Option.bind_some, if_true]
  rw [hm, hn, if_pos (by omega), hs, up_tells x n hx hn64, pow2_yes n hn64, log2_tells n hn64, e]
  simp only [Option.bind_some, if_true]
  rw [w64 (by omega) (by omega)]
  by_cases h0 : x % 2 ^ n = 0
  · simp only [h0, if_true]
    have ht := tail x (Nat.le_refl _) hx (by omega) h0
    simp only [if_true] at ht
    simpa using ht
  · simp only [h0, if_false]
    by_cases h1 : (x / 2 ^ n + 1) * 2 ^ n < 18446744073709551616
    · simp only [h1, if_true]
      have ht := tail ((x / 2 ^ n + 1) * 2 ^ n) (by omega) h1 (by omega) (Nat.mul_mod_left _ _)
      simp only [if_true] at ht
      simpa using ht
    · simp only [h1, if_false, Bool.false_eq_true, if_true]
      rw [uw64 (by omega) (by omega)]
      congr 1
      rw [decide_eq_true_iff]
      have hd : (18446744073709551616 : Nat) = 2 ^ (64 - n) * 2 ^ n := by rw [← Nat.pow_add, show 64 - n + n = 64 by omega]
      have hqm : x / 2 ^ n < 2 ^ (64 - n) := by
        apply Nat.lt_of_mul_lt_mul_right (a := 2 ^ n)
        rw [← hd]
        have : x / 2 ^ n * 2 ^ n ≤ x := Nat.div_mul_le_self _ _
        omega
      have hle : (x / 2 ^ n + 1) * 2 ^ n ≤ 18446744073709551616 := by rw [hd]; exact Nat.mul_le_mul_right _ hqm
      omega

end Go.Proofs.Ytoghodnpfacjeaa.Pure
