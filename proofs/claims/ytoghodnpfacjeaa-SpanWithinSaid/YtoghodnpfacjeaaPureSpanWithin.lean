/- SpanWithin: what lies within a size does so piece by piece, and its sum is no more than the size. No condition beside the statement's own. -/
import Derived.Test.YtoghodnpfacjeaaSpanKSpanWithin
namespace Go.Proofs.Ytoghodnpfacjeaa.Pure
open Go.Proofs.Ytoghodnpfacjeaa.Man
open Go.RowKit Go.Proofs.Ytoghodnpfacjeaa.QSpanWithin Go.Proofs.YtoghodnpfacjeaaW.PrintWords Go.Proofs.YtoghodnpfacjeaaW.PrintLast Go.Proofs.YtoghodnpfacjeaaW.PrintMore Go.Proofs.Ytoghodnpfacjeaa.Bv Go.Proofs.Ytoghodnpfacjeaa.Spn Go.Proofs.Ytoghodnpfacjeaa.SpnSpanWithin
set_option linter.unusedSimpArgs false
set_option linter.unusedVariables false

theorem SpanWithin : dovetaillaw2_SpanWithin.Pure := by
  intro off n size k w0 w1 w2 w3
  have h0 := bd_u64 w0
  have h1 := bd_u64 w1
  have h2 := bd_u64 w2
  have h3 := bd_u64 w3
  refine ⟨10, ?_⟩
  have hk : dovetaillaw2_known.f 10 = some true := by decide +kernel
  have j1 : ∀ b : Bool, (b = false → n ≠ 0 ∧ off + n ≤ size) → dovetaillaw2_SpanWithin.j1 9 off n size k b = some true := by
    intro b hb
    cases b with
    | true => simp [dovetaillaw2_SpanWithin.j1]
    | false =>
      obtain ⟨hn, hs⟩ := hb rfl
      have hm : Int.tmod k n = k % n := Int.tmod_eq_emod_of_nonneg h3.1
      have hlt : k % n < n := Int.emod_lt_of_pos _ (by omega)
      have hge : 0 ≤ k % n := Int.emod_nonneg _ hn
      simp only [dovetaillaw2_SpanWithin.j1, Bool.false_eq_true, if_false]
      rw [if_neg hn, hm, uw64 (x := off + k % n) (by omega) (by omega), uw64 (x := n - k % n) (by omega) (by omega), within_tells _ _ _ h0 (by omega) h2, within_tells _ _ _ (by omega) (by omega) h2, decide_eq_true (by omega), decide_eq_true (by omega)]
      rfl
  have j0 : dovetaillaw2_SpanWithin.j0 10 off n size k (decide (off + n ≤ size)) false = some true := by
    by_cases hs : off + n ≤ size
    · rw [decide_eq_true hs]
      simp only [dovetaillaw2_SpanWithin.j0, Bool.false_eq_true, if_false, if_true]
      exact j1 _ (fun hb => ⟨by simpa using hb, hs⟩)
    · rw [decide_eq_false hs]
      simp only [dovetaillaw2_SpanWithin.j0, Bool.false_eq_true, if_false, if_true]
      exact j1 _ (fun hb => by cases hb)
  unfold dovetaillaw2_SpanWithin.f
  rw [hk, within_tells _ _ _ h0 h1 h2, add2_tells _ _ h0 h1]
  simp only [Option.bind_some, if_true]
  by_cases hs : off + n < 18446744073709551616
  · rw [if_pos hs]
    simp only [Option.bind_some, if_true, bne_self_eq_false]
    exact j0
  · rw [if_neg hs]
    simp only [Option.bind_some, Bool.false_eq_true, if_false]
    rw [decide_eq_false (by omega)] at j0 ⊢
    exact j0

end Go.Proofs.Ytoghodnpfacjeaa.Pure
