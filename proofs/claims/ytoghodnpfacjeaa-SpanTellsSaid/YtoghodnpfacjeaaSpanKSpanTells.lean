/- Plain facts on package span's functions, as the print of SpanTells spells them. Conditions: those of each theorem (numbers of 64 bits). -/
import Derived.Test.YtoghodnpfacjeaaQSpanTellsx1
import Derived.Test.YtoghodnpfacjeaaSpan
namespace Go.Proofs.Ytoghodnpfacjeaa.SpnSpanTells
open Go.Proofs.Ytoghodnpfacjeaa.Man
open Go.RowKit Go.Proofs.Ytoghodnpfacjeaa.QSpanTells Go.Proofs.YtoghodnpfacjeaaW.PrintWords Go.Proofs.YtoghodnpfacjeaaW.PrintLast Go.Proofs.YtoghodnpfacjeaaW.PrintMore Go.Proofs.Ytoghodnpfacjeaa.Bv Go.Proofs.Ytoghodnpfacjeaa.Spn
set_option linter.unusedSimpArgs false
set_option linter.unusedVariables false

theorem pow2_yes (n : Nat) (hn : n < 64) : span_Pow2.f ((2 ^ n : Nat) : Int) = some true := by
  have hp : 0 < 2 ^ n := Nat.two_pow_pos n
  have hq : (2 : Nat) ^ n ≤ 2 ^ 63 := Nat.pow_le_pow_right (by decide) (by omega)
  have h63 : (2 : Nat) ^ 63 = 9223372036854775808 := rfl
  have e : IntKind.u64.wrap (((2 ^ n : Nat) : Int) - 1) = ((2 ^ n - 1 : Nat) : Int) := by rw [uw64 (by omega) (by omega)]; omega
  unfold span_Pow2.f
  rw [if_neg (by omega), e, bits_and _ _ (by omega) (by omega), and_mask, Nat.mod_self]; rfl
theorem pow2_no (a : Nat) (ha : a < 18446744073709551616) (h : ¬ ∃ n, n < 64 ∧ a = 2 ^ n) : span_Pow2.f (a : Int) = some false := by
  unfold span_Pow2.f
  by_cases h0 : a = 0
  · subst h0; rfl
  · have e : IntKind.u64.wrap ((a : Int) - 1) = ((a - 1 : Nat) : Int) := by rw [uw64 (by omega) (by omega)]; omega
    rw [if_neg (by omega), e, bits_and _ _ ha (by omega)]
    have hne : a &&& (a - 1) ≠ 0 := fun hz => h (pow_of_and a h0 ha hz)
    rw [Option.some.injEq, beq_eq_false_iff_ne]
    omega
theorem up_tells (x n : Nat) (hx : x < 18446744073709551616) (hn : n < 64) :
    span_Up.f (x : Int) ((2 ^ n : Nat) : Int) = some (if x % 2 ^ n = 0 then ((x : Int), true) else if (x / 2 ^ n + 1) * 2 ^ n < 18446744073709551616 then ((((x / 2 ^ n + 1) * 2 ^ n : Nat) : Int), true) else (0, false)) := by
  have hp : 0 < 2 ^ n := Nat.two_pow_pos n
  have hq : (2 : Nat) ^ n ≤ 2 ^ 63 := Nat.pow_le_pow_right (by decide) (by omega)
  have h63 : (2 : Nat) ^ 63 = 9223372036854775808 := rfl
  have e : IntKind.u64.wrap (((2 ^ n : Nat) : Int) - 1) = ((2 ^ n - 1 : Nat) : Int) := by rw [uw64 (by omega) (by omega)]; omega
  have e2 : IntKind.u64.wrap (IntKind.u64.wrap ((x : Int) + ((2 ^ n : Nat) : Int)) - 1) = (((x + 2 ^ n - 1) % 18446744073709551616 : Nat) : Int) := by
    simp only [IntKind.wrap, IntKind.bits, IntKind.signed]
    simp only [Bool.false_and, Bool.false_eq_true, if_false]
    omega
  have ha := up_arith x n hx hn
  simp only at ha
  have hr : x % 2 ^ n < 2 ^ n := Nat.mod_lt _ hp
  have hxe := Nat.div_add_mod x (2 ^ n)
  have hxm : (x / 2 ^ n + 1) * 2 ^ n = 2 ^ n * (x / 2 ^ n) + 2 ^ n := by rw [Nat.succ_mul, Nat.mul_comm]
  unfold span_Up.f
  rw [pow2_yes n hn]
  simp only [Option.bind_some, if_true]
  rw [e, e2, bits_andNot_mask _ n (Nat.mod_lt _ (by decide)) hn, ha]
  by_cases h0 : x % 2 ^ n = 0
  · rw [if_pos h0, if_pos h0, if_neg (by omega)]
  · rw [if_neg h0, if_neg h0]
    by_cases h1 : (x / 2 ^ n + 1) * 2 ^ n < 18446744073709551616
    · rw [if_pos h1, if_pos h1, if_neg (by omega)]
    · rw [if_neg h1, if_neg h1, if_pos (by omega)]
theorem within_tells (a b c : Int) (ha : 0 ≤ a ∧ a < 18446744073709551616) (hb : 0 ≤ b ∧ b < 18446744073709551616) (hc : 0 ≤ c ∧ c < 18446744073709551616) : span_Within.f a b c = some (decide (a + b ≤ c)) := by
  unfold span_Within.f
  by_cases h : b ≤ c
  · rw [if_pos h, uw64 (by omega) (by omega)]
    congr 1
    rw [Bool.eq_iff_iff, decide_eq_true_iff, decide_eq_true_iff]; omega
  · rw [if_neg h, decide_eq_false (by omega)]
theorem log2_tells (n : Nat) (hn : n < 64) : span_Log2.f ((2 ^ n : Nat) : Int) = some (n : Int) := by
  have hp : 0 < 2 ^ n := Nat.two_pow_pos n
  have hq : (2 : Nat) ^ n ≤ 2 ^ 63 := Nat.pow_le_pow_right (by decide) (by omega)
  have h63 : (2 : Nat) ^ 63 = 9223372036854775808 := rfl
  have hb : Lib.bitLen (2 ^ n) = n + 1 := by
    have all : ∀ k : Fin 64, Lib.bitLen (2 ^ k.val) = k.val + 1 := by decide +kernel
    exact all ⟨n, hn⟩
  unfold span_Log2.f bits_Len64.f
  rw [if_pos (by omega), Int.toNat_natCast, hb]
  simp only [Option.bind_some]
  rw [w64 (by omega) (by omega)]
  congr 1; omega
theorem overlap_tells (k : Nat) (a n b m : Int) (ha : 0 ≤ a ∧ a < 18446744073709551616) (hn : 0 ≤ n ∧ n < 18446744073709551616) (hb : 0 ≤ b ∧ b < 18446744073709551616) (hm : 0 ≤ m ∧ m < 18446744073709551616) :
    span_Overlap.f (k + 1) a n b m = some (decide (n ≠ 0 ∧ m ≠ 0 ∧ (if a ≤ b then b - a < n else a - b < m))) := by
  unfold span_Overlap.f
  by_cases h1 : n = 0
  · rw [if_pos h1]; simp [span_Overlap.j0, h1]
  · rw [if_neg h1]
    by_cases h2 : m = 0
    · simp [span_Overlap.j0, h2]
    · have e : (m == 0) = false := by rw [beq_eq_false_iff_ne]; exact h2
      rw [e]
      simp only [span_Overlap.j0, Bool.false_eq_true, if_false]
      by_cases h3 : a ≤ b
      · rw [if_pos h3, uw64 (by omega) (by omega)]; simp [h1, h2, h3]
      · rw [if_neg h3, uw64 (by omega) (by omega)]; simp [h1, h2, h3]

end Go.Proofs.Ytoghodnpfacjeaa.SpnSpanTells
