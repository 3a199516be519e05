/- The walk of InstNames, over what the plain law (XPureInstNames) tells of its functions. -/
import Derived.Test.YtlpphlfbdicaaaaPureInstNames
namespace Go.Proofs.Ytlpphlfbdicaaaa.Man
open Go.RowKit Go.Proofs.Ytlpphlfbdicaaaa.QInstNames Go.Proofs.Ytlpphlfbdicaaaa.Pure Go.Proofs.YtlpphlfbdicaaaaW.PrintWords Go.Proofs.YtlpphlfbdicaaaaW.PrintLast Go.Proofs.YtlpphlfbdicaaaaW.PrintMore
attribute [local go_sem] max2_int min2_int max_two min_two max_three min_three max_four min_four
set_option linter.unusedVariables false
set_option linter.unusedSimpArgs false
set_option maxHeartbeats 4000000
set_option maxRecDepth 100000
theorem known_calls (w : World) : Calls Try.prog 6 #[] w fun e w' => e = .returned (.bool true) ∧ Below w.heap.size w w' := dovetaillaw4_known.calls 400 true w known_ok
theorem great (a0 a1 : Int) (s : ByteArray) (w : World) (hs : 30 < s.size) :
    Calls Try.prog 5 #[.int .i64 a0, .int .i64 a1, .string s] w fun e w' => e = .returned (.bool true) ∧ Below w.heap.size w w' := by
  have c0 : decide (30 < (s.size : Int)) = true := decide_eq_true (by omega)
  have c1 : decide (30 < s.size) = true := decide_eq_true hs
  go_enter Try.func5, Try.ntmps5
  go_wp2_with fail
  refine (known_calls w).mono ?_
  rintro e w1 ⟨rfl, hb⟩
  go_wp2_with fail
  go_ret
  exact ⟨rfl, hb⟩
/-- The law's end: both searches of the text tell the same. -/
theorem small (a0 a1 : Int) (x y s : ByteArray) (op p : Int) (ok is : Bool) (w : World) (hs : ¬ 30 < s.size)
    (h1 : inst_Name.f a0 = some x) (h2 : inst_Name.f a1 = some y) (h3 : inst_Find.f 600 x = some (op, ok)) (h4 : inst_Find.f 600 s = some (p, is)) (h5 : dovetailref3_Find.f 600 s = some (p, is))
    (hc : (x.toList ≠ [] ∧ 1 ≤ a0 ∧ a0 < 66 ∧ ok = true ∧ op = a0 ∧ ((x.toList = y.toList ∧ a1 = a0) ∨ x.toList ≠ y.toList)) ∨ (x.toList = [] ∧ ¬ (1 ≤ a0 ∧ a0 < 66))) :
    Calls Try.prog 5 #[.int .i64 a0, .int .i64 a1, .string s] w fun e w' => e = .returned (.bool true) ∧ Below w.heap.size w w' := by
  have c0 : decide (30 < (s.size : Int)) = false := decide_eq_false (by omega)
  have c1 : decide (30 < s.size) = false := decide_eq_false hs
  have H1 := fun w => inst_Name.calls a0 x w h1
  have H2 := fun w => inst_Name.calls a1 y w h2
  have H3 := fun w => inst_Find.calls 600 x op ok w h3
  have H4 := fun w => inst_Find.calls 600 s p is w h4
  have H5 := fun w => dovetailref3_Find.calls 600 s p is w h5
  clear h1 h2 h3 h4 h5
  rcases hc with ⟨e1, e2, e3, rfl, rfl, ⟨e4, rfl⟩ | e4⟩ | ⟨e1, e2⟩
  · have d0 : (x.toList == y.toList) = true := beq_iff_eq.2 e4
    have d1 : (x.toList == ([] : List UInt8)) = false := beq_eq_false_iff_ne.2 e1
    have d2 : (x.toList != ([] : List UInt8)) = true := bne_iff_ne.2 e1
    have d3 : decide (1 ≤ a1) = true := decide_eq_true e2
    have d4 : decide (a1 < 66) = true := decide_eq_true e3
    clear e1 e4
    go_enter Try.func5, Try.ntmps5
    go_wp2_with fail
    refine (known_calls w).mono ?_
    rintro e w1 ⟨rfl, b1⟩
    go_wp2_with fail
    refine (H1 w1).mono ?_
    rintro e w2 ⟨rfl, b2⟩
    go_wp2_with fail
    refine (H2 w2).mono ?_
    rintro e w3 ⟨rfl, b3⟩
    go_wp2_with fail
    refine (H3 w3).mono ?_
    rintro e w4 ⟨rfl, b4⟩
    go_wp2_with fail
    refine (H4 w4).mono ?_
    rintro e w5 ⟨rfl, b5⟩
    go_wp2_with fail
    refine (H5 w5).mono ?_
    rintro e w6 ⟨rfl, b6⟩
    go_wp2_with fail
    go_ret
    exact ⟨rfl, below_step (below_step (below_step (below_step (below_step b1 b2) b3) b4) b5) b6.below⟩
  · have d0 : (x.toList == y.toList) = false := beq_eq_false_iff_ne.2 e4
    have d1 : (x.toList == ([] : List UInt8)) = false := beq_eq_false_iff_ne.2 e1
    have d2 : (x.toList != ([] : List UInt8)) = true := bne_iff_ne.2 e1
    have d3 : decide (1 ≤ op) = true := decide_eq_true e2
    have d4 : decide (op < 66) = true := decide_eq_true e3
    clear e1 e4
    go_enter Try.func5, Try.ntmps5
    go_wp2_with fail
    refine (known_calls w).mono ?_
    rintro e w1 ⟨rfl, b1⟩
    go_wp2_with fail
    refine (H1 w1).mono ?_
    rintro e w2 ⟨rfl, b2⟩
    go_wp2_with fail
    refine (H2 w2).mono ?_
    rintro e w3 ⟨rfl, b3⟩
    go_wp2_with fail
    refine (H3 w3).mono ?_
    rintro e w4 ⟨rfl, b4⟩
    go_wp2_with fail
    refine (H4 w4).mono ?_
    rintro e w5 ⟨rfl, b5⟩
    go_wp2_with fail
    refine (H5 w5).mono ?_
    rintro e w6 ⟨rfl, b6⟩
    go_wp2_with fail
    go_ret
    exact ⟨rfl, below_step (below_step (below_step (below_step (below_step b1 b2) b3) b4) b5) b6.below⟩
  · have d1 : (x.toList == ([] : List UInt8)) = true := beq_iff_eq.2 e1
    have d2 : (x.toList != ([] : List UInt8)) = false := bne_eq_false_iff_eq.2 e1
    obtain ⟨d3, d4⟩ | d3 : ((decide (1 ≤ a0) = true) ∧ decide (a0 < 66) = false) ∨ decide (1 ≤ a0) = false := by
      by_cases h : 1 ≤ a0
      · exact .inl ⟨decide_eq_true h, decide_eq_false (fun h' => e2 ⟨h, h'⟩)⟩
      · exact .inr (decide_eq_false h)
    all_goals
      obtain d0 | d0 : (x.toList == y.toList) = true ∨ (x.toList == y.toList) = false := by cases (x.toList == y.toList) <;> simp
      all_goals
        clear e1
        go_enter Try.func5, Try.ntmps5
        go_wp2_with fail
        refine (known_calls w).mono ?_
        rintro e w1 ⟨rfl, b1⟩
        go_wp2_with fail
        refine (H1 w1).mono ?_
        rintro e w2 ⟨rfl, b2⟩
        go_wp2_with fail
        refine (H2 w2).mono ?_
        rintro e w3 ⟨rfl, b3⟩
        go_wp2_with fail
        refine (H3 w3).mono ?_
        rintro e w4 ⟨rfl, b4⟩
        go_wp2_with fail
        refine (H4 w4).mono ?_
        rintro e w5 ⟨rfl, b5⟩
        go_wp2_with fail
        refine (H5 w5).mono ?_
        rintro e w6 ⟨rfl, b6⟩
        go_wp2_with fail
        go_ret
        exact ⟨rfl, below_step (below_step (below_step (below_step (below_step b1 b2) b3) b4) b5) b6.below⟩
/-- The law's call. -/
theorem instNamesWalk (a0 a1 : Int) (s : ByteArray) (w : World) :
    Calls Try.prog 5 #[.int .i64 a0, .int .i64 a1, .string s] w fun e w' => e = .returned (.bool true) ∧ Below w.heap.size w w' := by
  by_cases hs : 30 < s.size
  · exact great a0 a1 s w hs
  obtain ⟨⟨p, is⟩, h4, h5⟩ := Find_same s
  have g4 := h4 600 (by omega)
  have g5 := h5 600 (by omega)
  rcases Name_is a0 with ⟨i, hi, rfl, e0⟩ | ⟨h0, e0⟩
  · rcases Name_is a1 with ⟨j, hj, rfl, e1⟩ | ⟨h1, e1⟩
    · refine small _ _ _ _ s _ p true is w hs e0 e1 (Find_nm hi (by omega)) g4 g5 (.inl ⟨by rw [toList_bl]; exact nm_ne hi, by omega, by omega, rfl, rfl, ?_⟩)
      by_cases hq : (nm i).toList = (nm j).toList
      · refine .inl ⟨hq, ?_⟩
        rw [toList_bl, toList_bl] at hq
        rcases Nat.lt_trichotomy i j with h | h | h
        · exact absurd hq (nm_apart hj h)
        · rw [h]
        · exact absurd hq.symm (nm_apart hi h)
      · exact .inr hq
    · exact small _ _ _ _ s _ p true is w hs e0 e1 (Find_nm hi (by omega)) g4 g5 (.inl ⟨by rw [toList_bl]; exact nm_ne hi, by omega, by omega, rfl, rfl, .inr (by rw [toList_bl, toList_bl]; exact nm_ne hi)⟩)
  · obtain ⟨⟨op, ok⟩, h3, _⟩ := Find_same ⟨#[]⟩
    have he : (⟨#[]⟩ : ByteArray).toList = [] := by rw [toList_bl]; rfl
    rcases Name_is a1 with ⟨j, hj, rfl, e1⟩ | ⟨h1, e1⟩
    · exact small _ _ _ _ s _ p _ is w hs e0 e1 (h3 600 (by omega)) g4 g5 (.inr ⟨he, h0⟩)
    · exact small _ _ _ _ s _ p _ is w hs e0 e1 (h3 600 (by omega)) g4 g5 (.inr ⟨he, h0⟩)
end Go.Proofs.Ytlpphlfbdicaaaa.Man
