/- SpanOverlaps: it says nothing which of two ranges is named first, a number in both is found, and what lies within a range overlaps it. No condition beside the statement's own. -/
import Derived.Test.YtoghodnpfacjeaaQSpanOverlapsx2
import Derived.Test.YtoghodnpfacjeaaSpanKSpanOverlaps
namespace Go.Proofs.Ytoghodnpfacjeaa.Pure
open Go.Proofs.Ytoghodnpfacjeaa.Man
open Go.RowKit Go.Proofs.Ytoghodnpfacjeaa.QSpanOverlaps Go.Proofs.YtoghodnpfacjeaaW.PrintWords Go.Proofs.YtoghodnpfacjeaaW.PrintLast Go.Proofs.YtoghodnpfacjeaaW.PrintMore Go.Proofs.Ytoghodnpfacjeaa.Bv Go.Proofs.Ytoghodnpfacjeaa.Spn Go.Proofs.Ytoghodnpfacjeaa.SpnSpanOverlaps
set_option linter.unusedSimpArgs false
set_option linter.unusedVariables false

set_option maxHeartbeats 1000000 in
theorem SpanOverlaps : dovetaillaw2_SpanOverlaps.Pure := by
  intro a n b m x wa wn wb wm wx
  have ha := bd_u64 wa
  have hn := bd_u64 wn
  have hb := bd_u64 wb
  have hm := bd_u64 wm
  have hx := bd_u64 wx
  refine ⟨10, ?_⟩
  have hk : dovetaillaw2_known.f 10 = some true := by decide +kernel
  have h1 := overlap_tells 9 a n b m ha hn hb hm
  have h2 := overlap_tells 9 b m a n hb hm ha hn
  have hsym : (n ≠ 0 ∧ m ≠ 0 ∧ (if a ≤ b then b - a < n else a - b < m)) ↔ (m ≠ 0 ∧ n ≠ 0 ∧ (if b ≤ a then a - b < m else b - a < n)) := by
    split <;> split <;> omega
  have e : decide (m ≠ 0 ∧ n ≠ 0 ∧ (if b ≤ a then a - b < m else b - a < n)) = decide (n ≠ 0 ∧ m ≠ 0 ∧ (if a ≤ b then b - a < n else a - b < m)) := by
    rw [Bool.eq_iff_iff, decide_eq_true_iff, decide_eq_true_iff]; exact hsym.symm
  rw [e] at h2
  unfold dovetaillaw2_SpanOverlaps.f
  rw [hk, h1, h2]
  simp only [Option.bind_some, if_true, bne_self_eq_false, Bool.false_eq_true, if_false]
  by_cases hP : (n ≠ 0 ∧ m ≠ 0 ∧ (if a ≤ b then b - a < n else a - b < m))
  · rw [decide_eq_true hP]
    obtain ⟨p1, p2, p3⟩ := hP
    rw [if_neg p1, if_neg p2]
    simp only [dovetaillaw2_SpanOverlaps.j0, Bool.false_eq_true, if_false, if_true]
    split at p3
    · by_cases q1 : x ≥ a <;> by_cases q2 : x ≥ b <;> by_cases q3 : a ≥ b <;> simp only [q1, q2, q3, if_true, if_false, uw64 (show 0 ≤ b - a by omega) (show b - a < 18446744073709551616 by omega)]
      all_goals (repeat' split)
      all_goals first | rfl | (rw [Option.some.injEq, decide_eq_true_iff]; omega) | omega
    · by_cases q1 : x ≥ a <;> by_cases q2 : x ≥ b <;> by_cases q3 : a ≥ b <;> simp only [q1, q2, q3, if_true, if_false, uw64 (show 0 ≤ a - b by omega) (show a - b < 18446744073709551616 by omega)]
      all_goals (repeat' split)
      all_goals first | rfl | (rw [Option.some.injEq, decide_eq_true_iff]; omega) | omega
  · rw [decide_eq_false hP]
    have hj : ∀ q : Bool, q = false → dovetaillaw2_SpanOverlaps.j0 10 a n b m x false q = some true := by
      intro q hq
      subst hq
      simp only [dovetaillaw2_SpanOverlaps.j0, Bool.false_eq_true, if_false, if_true]
      by_cases q1 : x ≥ a
      · rw [if_pos q1, uw64 (show 0 ≤ x - a by omega) (by omega)]
        by_cases q2 : x - a < n
        · rw [if_pos q2]
          by_cases q3 : x ≥ b
          · rw [if_pos q3, uw64 (show 0 ≤ x - b by omega) (by omega)]
            by_cases q4 : x - b < m
            · exact absurd ⟨by omega, by omega, by split <;> omega⟩ hP
            · rw [if_neg q4]
          · rw [if_neg q3]
        · rw [if_neg q2]
      · rw [if_neg q1]
    split
    · exact hj _ rfl
    · split
      · exact hj _ rfl
      · exact hj _ rfl

end Go.Proofs.Ytoghodnpfacjeaa.Pure
