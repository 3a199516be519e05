/- SpanTells: any numbers are powers, have logarithms, go up, are summed, lie within and overlap as the document says. No condition beside the statement's own. -/
import Derived.Test.YtoghodnpfacjeaaQSpanTellsx2
import Derived.Test.YtoghodnpfacjeaaSpanKSpanTells
namespace Go.Proofs.Ytoghodnpfacjeaa.Pure
open Go.Proofs.Ytoghodnpfacjeaa.Man
open Go.RowKit Go.Proofs.Ytoghodnpfacjeaa.QSpanTells Go.Proofs.YtoghodnpfacjeaaW.PrintWords Go.Proofs.YtoghodnpfacjeaaW.PrintLast Go.Proofs.YtoghodnpfacjeaaW.PrintMore Go.Proofs.Ytoghodnpfacjeaa.Bv Go.Proofs.Ytoghodnpfacjeaa.Spn Go.Proofs.Ytoghodnpfacjeaa.SpnSpanTells
set_option linter.unusedSimpArgs false
set_option linter.unusedVariables false

theorem ref_up (x n : Nat) (hx : x < 18446744073709551616) (hn : n < 64) :
    dovetailref1_Up.f (x : Int) ((2 ^ n : Nat) : Int) = some (if x % 2 ^ n = 0 then ((x : Int), true) else if (x / 2 ^ n + 1) * 2 ^ n < 18446744073709551616 then ((((x / 2 ^ n + 1) * 2 ^ n : Nat) : Int), true) else (0, false)) := by
  have hp : 0 < 2 ^ n := Nat.two_pow_pos n
  have hq : (2 : Nat) ^ n ≤ 2 ^ 63 := Nat.pow_le_pow_right (by decide) (by omega)
  have h63 : (2 : Nat) ^ 63 = 9223372036854775808 := rfl
  have e : IntKind.u64.wrap (((2 ^ n : Nat) : Int) - 1) = ((2 ^ n - 1 : Nat) : Int) := by rw [uw64 (by omega) (by omega)]; omega
  have hr : x % 2 ^ n < 2 ^ n := Nat.mod_lt _ hp
  have hxe := Nat.div_add_mod x (2 ^ n)
  have hxm : (x / 2 ^ n + 1) * 2 ^ n = 2 ^ n * (x / 2 ^ n) + 2 ^ n := by rw [Nat.succ_mul, Nat.mul_comm]
  have hd : (18446744073709551616 : Nat) = 2 ^ (64 - n) * 2 ^ n := by rw [← Nat.pow_add, show 64 - n + n = 64 by omega]
  have hqm : x / 2 ^ n < 2 ^ (64 - n) := by
    apply Nat.lt_of_mul_lt_mul_right (a := 2 ^ n)
    rw [← hd]
    have : x / 2 ^ n * 2 ^ n ≤ x := Nat.div_mul_le_self _ _
    omega
  have hle : (x / 2 ^ n + 1) * 2 ^ n ≤ 18446744073709551616 := by rw [hd]; exact Nat.mul_le_mul_right _ hqm
  unfold dovetailref1_Up.f
  rw [show dovetailref1_Pow2.f ((2 ^ n : Nat) : Int) = some true from pow2_yes n hn, Option.bind_some, if_pos rfl, e, bits_and _ _ hx (by omega), and_mask]
  by_cases h0 : x % 2 ^ n = 0
  · rw [if_pos (by omega), if_pos h0]
  · rw [if_neg (by omega), if_neg h0, uw64 (x := ((2 ^ n : Nat) : Int) - ((x % 2 ^ n : Nat) : Int)) (by omega) (by omega)]
    by_cases h1 : (x / 2 ^ n + 1) * 2 ^ n < 18446744073709551616
    · rw [if_pos h1, uw64 (by omega) (by omega), if_neg (by omega), Option.some.injEq, Prod.mk.injEq]
      exact ⟨by omega, rfl⟩
    · rw [if_neg h1]
      have hw : IntKind.u64.wrap ((x : Int) + (((2 ^ n : Nat) : Int) - ((x % 2 ^ n : Nat) : Int))) = 0 := by
        simp only [IntKind.wrap, IntKind.bits, IntKind.signed, Bool.false_and, Bool.false_eq_true, if_false]
        omega
      rw [hw, if_pos (by omega)]
theorem up_eq (x a : Nat) (hx : x < 18446744073709551616) (ha : a < 18446744073709551616) : ∃ p, span_Up.f (x : Int) (a : Int) = some p ∧ dovetailref1_Up.f (x : Int) (a : Int) = some p := by
  by_cases h : ∃ n, n < 64 ∧ a = 2 ^ n
  · obtain ⟨n, hn, rfl⟩ := h
    exact ⟨_, up_tells x n hx hn, ref_up x n hx hn⟩
  · refine ⟨(0, false), ?_, ?_⟩
    · unfold span_Up.f; rw [pow2_no a ha h]; rfl
    · unfold dovetailref1_Up.f; rw [show dovetailref1_Pow2.f (a : Int) = some false from pow2_no a ha h]; rfl
theorem ref_add (l : List Int) (hb : ∀ x ∈ l, 0 ≤ x ∧ x < 18446744073709551616) (hl : l.length ≤ 20) : ∀ (d : Nat) (k i : Nat) (s : Int), i + d = l.length → d < k → 0 ≤ s → s < 18446744073709551616 → dovetailref1_Add.l0 k l s (i : Int) = span_addl s (l.drop i) := by
  intro d
  induction d with
  | zero =>
    intro k i s hi hk h0 h1
    obtain ⟨k, rfl⟩ : ∃ m, k = m + 1 := ⟨k - 1, by omega⟩
    rw [dovetailref1_Add.l0, if_neg (by omega), show i = l.length by omega, List.drop_length]; rfl
  | succ d ih =>
    intro k i s hi hk h0 h1
    obtain ⟨k, rfl⟩ : ∃ m, k = m + 1 := ⟨k - 1, by omega⟩
    have hx : 0 ≤ rd l i ∧ rd l i < 18446744073709551616 := by
      have e : rd l i = l[i]'(by omega) := by unfold rd; simp [List.getD, show i < l.length by omega]
      rw [e]; exact hb _ (List.getElem_mem _)
    rw [dovetailref1_Add.l0, if_pos (by omega), if_pos (by omega), span_addl_at _ _ _ (by omega)]
    by_cases hc : s + rd l i < 18446744073709551616
    · have e1 : a64c s (rd l i) = 0 := by unfold a64c; omega
      have e2 : a64s s (rd l i) = s + rd l i := by unfold a64s; omega
      rw [uw64 (by omega) hc, if_neg (by omega), if_pos e1, e2, w64 (by omega) (by omega)]
      exact ih k (i + 1) _ (by omega) (by omega) (by omega) hc
    · have e1 : ¬ a64c s (rd l i) = 0 := by unfold a64c; omega
      have e2 : IntKind.u64.wrap (s + rd l i) = s + rd l i - 18446744073709551616 := by
        simp only [IntKind.wrap, IntKind.bits, IntKind.signed, Bool.false_and, Bool.false_eq_true, if_false]
        omega
      rw [e2, if_pos (by omega), if_neg e1]
theorem ref_log (f : Nat) : ∀ (x : Nat) (k : Nat) (n : Int), x < 2 ^ f → f < k → -1 ≤ n → n + f < 1000 → dovetailref1_Log2.l0 k (x : Int) n = some (n + (Lib.bitLenAux f x : Nat)) := by
  induction f with
  | zero =>
    intro x k n hx hk h0 h1
    obtain ⟨k, rfl⟩ : ∃ m, k = m + 1 := ⟨k - 1, by omega⟩
    have : x = 0 := by omega
    subst this
    rw [dovetailref1_Log2.l0, if_neg (by omega)]; simp [Lib.bitLenAux]
  | succ f ih =>
    intro x k n hx hk h0 h1
    obtain ⟨k, rfl⟩ : ∃ m, k = m + 1 := ⟨k - 1, by omega⟩
    rw [dovetailref1_Log2.l0]
    by_cases hz : x = 0
    · subst hz; rw [if_neg (by omega)]; simp [Lib.bitLenAux]
    · rw [if_pos (by omega), w64 (by omega) (by omega), show ((x : Int) / 2) = ((x / 2 : Nat) : Int) by omega, ih (x / 2) k (n + 1) (by rw [Nat.pow_succ] at hx; omega) (by omega) (by omega) (by omega)]
      rw [Option.some.injEq]
      simp only [Lib.bitLenAux, if_neg hz]
      omega
theorem log_eq (x : Nat) (hx : x < 18446744073709551616) : ∃ p, span_Log2.f (x : Int) = some p ∧ dovetailref1_Log2.f 80 (x : Int) = some p := by
  have hle : ∀ f y, Lib.bitLenAux f y ≤ f := by
    intro f
    induction f with
    | zero => intro y; simp [Lib.bitLenAux]
    | succ f ih => intro y; have := ih (y / 2); simp only [Lib.bitLenAux]; split <;> omega
  refine ⟨-1 + (Lib.bitLenAux 64 x : Nat), ?_, ?_⟩
  · have := hle 64 x
    unfold span_Log2.f bits_Len64.f
    rw [if_pos (by omega), Int.toNat_natCast, Option.bind_some]
    rw [show Lib.bitLen x = Lib.bitLenAux 64 x from rfl, w64 (by omega) (by omega), Option.some.injEq]; omega
  · unfold dovetailref1_Log2.f
    exact ref_log 64 x 80 (-1) hx (by omega) (by omega) (by omega)
theorem ref_within (a b c : Int) (ha : 0 ≤ a ∧ a < 18446744073709551616) (hb : 0 ≤ b ∧ b < 18446744073709551616) (hc : 0 ≤ c ∧ c < 18446744073709551616) : dovetailref1_Within.f a b c = some (decide (a + b ≤ c)) := by
  unfold dovetailref1_Within.f
  by_cases h : a ≤ c
  · rw [if_pos h, uw64 (by omega) (by omega)]
    congr 1
    rw [Bool.eq_iff_iff, decide_eq_true_iff, decide_eq_true_iff]; omega
  · rw [if_neg h, decide_eq_false (by omega)]
theorem ref_overlap (k : Nat) (a n b m : Int) (ha : 0 ≤ a ∧ a < 18446744073709551616) (hn : 0 ≤ n ∧ n < 18446744073709551616) (hb : 0 ≤ b ∧ b < 18446744073709551616) (hm : 0 ≤ m ∧ m < 18446744073709551616) :
    dovetailref1_Overlap.f (k + 1) a n b m = some (decide (n ≠ 0 ∧ m ≠ 0 ∧ (if a ≤ b then b - a < n else a - b < m))) := by
  unfold dovetailref1_Overlap.f
  by_cases h1 : n = 0
  · rw [if_pos h1]; simp [dovetailref1_Overlap.j0, h1]
  · rw [if_neg h1]
    by_cases h2 : m = 0
    · simp [dovetailref1_Overlap.j0, h2]
    · have e : (m == 0) = false := by rw [beq_eq_false_iff_ne]; exact h2
      rw [e]
      simp only [dovetailref1_Overlap.j0, Bool.false_eq_true, if_false]
      by_cases h3 : a ≤ b
      · rw [if_pos h3, uw64 (by omega) (by omega)]; simp [h1, h2, h3]
      · rw [if_neg h3, uw64 (by omega) (by omega)]; simp [h1, h2, h3]
theorem pow_some (a : Nat) (ha : a < 18446744073709551616) : ∃ b, span_Pow2.f (a : Int) = some b := by
  by_cases h : ∃ n, n < 64 ∧ a = 2 ^ n
  · obtain ⟨n, hn, rfl⟩ := h; exact ⟨true, pow2_yes n hn⟩
  · exact ⟨false, pow2_no a ha h⟩
theorem add_some (l : List Int) (hb : ∀ x ∈ l, 0 ≤ x ∧ x < 18446744073709551616) : ∃ p, span_Add.f l = some p := by
  rw [add_tells l hb]
  by_cases h : l.sum < 18446744073709551616
  · exact ⟨_, if_pos h⟩
  · exact ⟨_, if_neg h⟩

theorem SpanTells : dovetaillaw2_SpanTells.Pure := by
  intro a0 a1 a2 a3 l w0 w1 w2 w3 _ _ wl
  have h0 := bd_u64 w0
  have h1 := bd_u64 w1
  have h2 := bd_u64 w2
  have h3 := bd_u64 w3
  have hb : ∀ x ∈ l, 0 ≤ x ∧ x < 18446744073709551616 := fun x hx => bd_u64 (wl x hx)
  have hk : dovetaillaw2_known.f 80 = some true := by decide +kernel
  refine ⟨80, ?_⟩
  unfold dovetaillaw2_SpanTells.f
  rw [hk, Option.bind_some, if_pos rfl]
  by_cases hlen : (l.length : Int) > 20
  · rw [if_pos hlen]
  · rw [if_neg hlen]
    obtain ⟨x, rfl⟩ : ∃ x : Nat, a0 = x := ⟨a0.toNat, by omega⟩
    obtain ⟨a, rfl⟩ : ∃ a : Nat, a1 = a := ⟨a1.toNat, by omega⟩
    obtain ⟨p1, e1, f1⟩ := up_eq x a (by omega) (by omega)
    obtain ⟨p2, e2⟩ := add_some l hb
    have f2 : dovetailref1_Add.f 80 l = some p2 := by
      unfold dovetailref1_Add.f
      rw [← e2]
      exact ref_add l hb (by omega) l.length 80 0 0 (by omega) (by omega) (by omega) (by omega)
    obtain ⟨b, e3⟩ := pow_some x (by omega)
    have f3 : dovetailref1_Pow2.f (x : Int) = some b := e3
    obtain ⟨p4, e4, f4⟩ := log_eq x (by omega)
    have e5 := within_tells (x : Int) (a : Int) a2 h0 h1 h2
    have f5 := ref_within (x : Int) (a : Int) a2 h0 h1 h2
    have e6 := overlap_tells 79 (x : Int) (a : Int) a2 a3 h0 h1 h2 h3
    have f6 := ref_overlap 79 (x : Int) (a : Int) a2 a3 h0 h1 h2 h3
    rw [e1, Option.bind_some, f1, Option.bind_some, e2, Option.bind_some, f2, Option.bind_some, e3, Option.bind_some, f3, Option.bind_some, if_pos (beq_self_eq_true b), e4, Option.bind_some, f4, Option.bind_some, if_pos rfl, if_pos rfl, if_pos (beq_self_eq_true _), if_pos rfl, if_pos (beq_self_eq_true _), e5, Option.bind_some, f5, Option.bind_some, if_pos (beq_self_eq_true _), e6, Option.bind_some, f6, Option.bind_some, beq_self_eq_true]

end Go.Proofs.Ytoghodnpfacjeaa.Pure
