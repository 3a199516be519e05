/- Plain facts on the program's ranges (package span): what a sum comes to, what a number goes up to. Conditions: those of each theorem (numbers of 64 bits). -/
import Derived.Test.YtpblhcmcldachaaBv
import Derived.Test.YtpblhcmcldachaaManSpan
namespace Go.Proofs.Ytpblhcmcldachaa.Spn
open Go.RowKit Go.Proofs.YtpblhcmcldachaaW.PrintWords Go.Proofs.YtpblhcmcldachaaW.PrintLast Go.Proofs.YtpblhcmcldachaaW.PrintMore Go.Proofs.Ytpblhcmcldachaa.Bv Go.Proofs.Ytpblhcmcldachaa.Man
set_option linter.unusedSimpArgs false
set_option linter.unusedVariables false

theorem sum_nonneg (l : List Int) (h : ∀ x ∈ l, 0 ≤ x) : 0 ≤ l.sum := by
  induction l with
  | nil => simp
  | cons a l ih =>
    have h1 := h a (by simp)
    have h2 := ih (fun x hx => h x (by simp [hx]))
    simp only [List.sum_cons]; omega
theorem addl_tells (l : List Int) : ∀ s : Int, 0 ≤ s → s < 18446744073709551616 → (∀ x ∈ l, 0 ≤ x ∧ x < 18446744073709551616) → span_addl s l = if s + l.sum < 18446744073709551616 then some (s + l.sum, true) else some (0, false) := by
  induction l with
  | nil => intro s h0 h1 _; simp [span_addl]; omega
  | cons a l ih =>
    intro s h0 h1 h
    have ha := h a (by simp)
    have hl : ∀ x ∈ l, 0 ≤ x ∧ x < 18446744073709551616 := fun x hx => h x (by simp [hx])
    have hn := sum_nonneg l (fun x hx => (hl x hx).1)
    have e1 : a64c s a = 0 ↔ s + a < 18446744073709551616 := by unfold a64c; omega
    have e2 : s + a < 18446744073709551616 → a64s s a = s + a := by intro h; unfold a64s; omega
    have hs : (a :: l).sum = a + l.sum := List.sum_cons
    simp only [span_addl]
    by_cases hc : s + a < 18446744073709551616
    · rw [if_pos (e1.2 hc), e2 hc, ih (s + a) (by omega) hc hl]
      by_cases hf : s + a + l.sum < 18446744073709551616
      · rw [if_pos hf, if_pos (by rw [hs]; omega), hs, Int.add_assoc]
      · rw [if_neg hf, if_neg (by rw [hs]; omega)]
    · rw [if_neg (mt e1.1 hc), if_neg (by rw [hs]; omega)]
theorem add_tells (l : List Int) (h : ∀ x ∈ l, 0 ≤ x ∧ x < 18446744073709551616) : span_Add.f l = if l.sum < 18446744073709551616 then some (l.sum, true) else some (0, false) := by
  unfold span_Add.f
  rw [addl_tells l 0 (by omega) (by omega) h, Int.zero_add]
theorem add2_tells (a b : Int) (ha : 0 ≤ a ∧ a < 18446744073709551616) (hb : 0 ≤ b ∧ b < 18446744073709551616) : span_Add.f [a, b] = if a + b < 18446744073709551616 then some (a + b, true) else some (0, false) := by
  rw [add_tells [a, b] (by intro x hx; simp at hx; rcases hx with rfl | rfl <;> assumption)]
  simp

/-- A number that shares no bit with the one below it is a power. -/
theorem pow_of_and (a : Nat) (h0 : a ≠ 0) (h1 : a < 18446744073709551616) (h : a &&& (a - 1) = 0) : ∃ n, n < 64 ∧ a = 2 ^ n := by
  have hl := Nat.log2_self_le h0
  have hu : a < 2 ^ (a.log2 + 1) := Nat.lt_log2_self
  have hn : a.log2 < 64 := (Nat.log2_lt h0).2 (by exact h1)
  refine ⟨a.log2, hn, ?_⟩
  rcases Nat.lt_or_ge (2 ^ a.log2) a with hlt | hge
  · exfalso
    have hb : (a &&& (a - 1)).testBit a.log2 = true := by
      rw [Nat.testBit_and, Nat.testBit_eq_decide_div_mod_eq, Nat.testBit_eq_decide_div_mod_eq]
      have p : 0 < 2 ^ a.log2 := Nat.two_pow_pos _
      have hu' : a < 2 * 2 ^ a.log2 := by rw [Nat.pow_succ] at hu; omega
      have d1 : a / 2 ^ a.log2 = 1 := by rw [Nat.div_eq_iff p]; omega
      have d2 : (a - 1) / 2 ^ a.log2 = 1 := by rw [Nat.div_eq_iff p]; omega
      rw [d1, d2]; rfl
    rw [h] at hb
    simp at hb
  · omega
theorem and_mask (x n : Nat) : x &&& (2 ^ n - 1) = x % 2 ^ n := Nat.and_two_pow_sub_one_eq_mod x n

theorem bits_and (x y : Nat) (hx : x < 18446744073709551616) (hy : y < 18446744073709551616) : Go.bits .and .u64 (x : Int) (y : Int) = ((x &&& y : Nat) : Int) := by
  rw [and_u64, BitVec.toNat_and, BitVec.ofInt_natCast, BitVec.ofInt_natCast, BitVec.toNat_ofNat, BitVec.toNat_ofNat, Nat.mod_eq_of_lt (by exact hx), Nat.mod_eq_of_lt (by exact hy)]
theorem bits_andNot_mask (x n : Nat) (hx : x < 18446744073709551616) (hn : n < 64) : Go.bits .andNot .u64 (x : Int) (((2 ^ n - 1 : Nat)) : Int) = ((x - x % 2 ^ n : Nat) : Int) := by
  have hp : (2 : Nat) ^ n ≤ 2 ^ 63 := Nat.pow_le_pow_right (by decide) (by omega)
  have h63 : (2 : Nat) ^ 63 = 9223372036854775808 := rfl
  rw [andNot_u64]
  congr 1
  have h1 : (BitVec.ofInt 64 (x : Int) &&& ~~~BitVec.ofInt 64 ((2 ^ n - 1 : Nat) : Int)).toNat + (BitVec.ofInt 64 (x : Int) &&& BitVec.ofInt 64 ((2 ^ n - 1 : Nat) : Int)).toNat = x := by
    have key : ∀ X M : BitVec 64, (X &&& ~~~M).toNat + (X &&& M).toNat = X.toNat := by
      intro X M
      have ho : (X &&& ~~~M) &&& (X &&& M) = 0#64 := by
        apply BitVec.eq_of_getLsbD_eq; intro i hi
        simp only [BitVec.getLsbD_and, BitVec.getLsbD_not, BitVec.getLsbD_zero]
        cases X.getLsbD i <;> cases M.getLsbD i <;> simp
      have ha : (X &&& ~~~M) ||| (X &&& M) = X := by
        apply BitVec.eq_of_getLsbD_eq; intro i hi
        simp only [BitVec.getLsbD_and, BitVec.getLsbD_or, BitVec.getLsbD_not, hi, decide_true, Bool.true_and]
        cases X.getLsbD i <;> cases M.getLsbD i <;> simp
      have hs : (X &&& ~~~M) + (X &&& M) = X := by rw [BitVec.add_eq_or_of_and_eq_zero _ _ ho, ha]
      rw [← BitVec.toNat_add_of_and_eq_zero ho, hs]
    have hk := key (BitVec.ofInt 64 (x : Int)) (BitVec.ofInt 64 ((2 ^ n - 1 : Nat) : Int))
    rw [hk, BitVec.ofInt_natCast, BitVec.toNat_ofNat, Nat.mod_eq_of_lt (by exact hx)]
  have h2 : (BitVec.ofInt 64 (x : Int) &&& BitVec.ofInt 64 ((2 ^ n - 1 : Nat) : Int)).toNat = x % 2 ^ n := by
    rw [BitVec.toNat_and, BitVec.ofInt_natCast, BitVec.ofInt_natCast, BitVec.toNat_ofNat, BitVec.toNat_ofNat, Nat.mod_eq_of_lt (by exact hx), Nat.mod_eq_of_lt (by show 2 ^ n - 1 < 2 ^ 64; omega), and_mask]
  omega

theorem mam (q P c : Nat) (h : c < P) : (q * P + c) % P = c := by
  rw [Nat.add_comm, Nat.add_mul_mod_self_right]; exact Nat.mod_eq_of_lt h
/-- Going up in steps of a power: where it lies, or that it is too great. -/
theorem up_arith (x n : Nat) (hx : x < 18446744073709551616) (hn : n < 64) :
    let u := (x + 2 ^ n - 1) % 18446744073709551616
    let q := x / 2 ^ n
    u - u % 2 ^ n = if x % 2 ^ n = 0 then x else if (q + 1) * 2 ^ n < 18446744073709551616 then (q + 1) * 2 ^ n else 0 := by
  have hp : 0 < 2 ^ n := Nat.two_pow_pos n
  intro u q
  have hq : x = q * 2 ^ n + x % 2 ^ n := by have := Nat.div_add_mod x (2 ^ n); rw [Nat.mul_comm] at this; exact this.symm
  have hr : x % 2 ^ n < 2 ^ n := Nat.mod_lt _ hp
  have hd : (18446744073709551616 : Nat) = 2 ^ (64 - n) * 2 ^ n := by
    rw [← Nat.pow_add, show 64 - n + n = 64 by omega]
  have hqm : q < 2 ^ (64 - n) := by
    apply Nat.lt_of_mul_lt_mul_right (a := 2 ^ n)
    rw [← hd]; omega
  have hqP : (q + 1) * 2 ^ n = q * 2 ^ n + 2 ^ n := Nat.succ_mul _ _
  by_cases h0 : x % 2 ^ n = 0
  · rw [if_pos h0]
    have hle : (q + 1) * 2 ^ n ≤ 18446744073709551616 := by rw [hd]; exact Nat.mul_le_mul_right _ hqm
    have hu : u = q * 2 ^ n + (2 ^ n - 1) := by show (x + 2 ^ n - 1) % _ = _; rw [Nat.mod_eq_of_lt (by omega)]; omega
    rw [hu, mam _ _ _ (by omega)]; omega
  · rw [if_neg h0]
    by_cases h1 : (q + 1) * 2 ^ n < 18446744073709551616
    · rw [if_pos h1]
      have hle : (q + 2) * 2 ^ n ≤ 18446744073709551616 := by
        rw [hd] at h1 ⊢; exact Nat.mul_le_mul_right _ (Nat.lt_of_mul_lt_mul_right h1)
      have hq2 : (q + 2) * 2 ^ n = (q + 1) * 2 ^ n + 2 ^ n := Nat.succ_mul _ _
      have hu : u = (q + 1) * 2 ^ n + (x % 2 ^ n - 1) := by show (x + 2 ^ n - 1) % _ = _; rw [Nat.mod_eq_of_lt (by omega)]; omega
      rw [hu, mam _ _ _ (by omega)]; omega
    · rw [if_neg h1]
      have hle : (q + 1) * 2 ^ n ≤ 18446744073709551616 := by rw [hd]; exact Nat.mul_le_mul_right _ hqm
      have he : (q + 1) * 2 ^ n = 18446744073709551616 := by omega
      have hu : u = x % 2 ^ n - 1 := by
        show (x + 2 ^ n - 1) % _ = _
        rw [show x + 2 ^ n - 1 = 18446744073709551616 + (x % 2 ^ n - 1) by omega, Nat.add_mod_left]
        exact Nat.mod_eq_of_lt (by omega)
      rw [hu, Nat.mod_eq_of_lt (show x % 2 ^ n - 1 < 2 ^ n by omega)]; omega

end Go.Proofs.Ytpblhcmcldachaa.Spn
