/- Contracts of what a law reaches, each function as a plain Lean function: written by a program of this claim's repo (myprint.py); conditions: those of each theorem. -/
import Derived.Test.YtoghodnpfacjeaaQSpanOverlapsx0
import Derived.Test.YtoghodnpfacjeaaQSpanOverlapsx1
namespace Go.Proofs.Ytoghodnpfacjeaa.QSpanOverlaps
open Go.Proofs.Ytoghodnpfacjeaa.Man
open Go.RowKit Go.Proofs.YtoghodnpfacjeaaW.PrintWords Go.Proofs.YtoghodnpfacjeaaW.PrintLast Go.Proofs.YtoghodnpfacjeaaW.PrintMore
attribute [local go_sem] max2_int min2_int max_two min_two max_three min_three max_four min_four   -- for this text's walks alone
set_option linter.unusedVariables false
set_option linter.unusedSimpArgs false

/-! ### dovetaillaw2_SpanOverlaps: function 5 -/
def dovetaillaw2_SpanOverlaps.j0 : Nat → Int → Int → Int → Int → Int → Bool → Bool → Option (Bool)
  | 0, _, _, _, _, _, _, _ => none
  | k + 1, x0, x1, x2, x3, x4, x11, x36 => if x36 = true then (some false) else (if x4 ≥ x0 then (if (IntKind.u64.wrap (x4 - x0)) < x1 then (if x4 ≥ x2 then (if (IntKind.u64.wrap (x4 - x2)) < x3 then (if x11 = true then (if x0 ≥ x2 then (if (IntKind.u64.wrap (x0 - x2)) < x3 then (some true) else (if x2 ≥ x0 then (some (decide ((IntKind.u64.wrap (x2 - x0)) < x1))) else (some false))) else (if x2 ≥ x0 then (some (decide ((IntKind.u64.wrap (x2 - x0)) < x1))) else (some false))) else (some false)) else (if x11 = true then (if x0 ≥ x2 then (if (IntKind.u64.wrap (x0 - x2)) < x3 then (some true) else (if x2 ≥ x0 then (some (decide ((IntKind.u64.wrap (x2 - x0)) < x1))) else (some false))) else (if x2 ≥ x0 then (some (decide ((IntKind.u64.wrap (x2 - x0)) < x1))) else (some false))) else (some true))) else (if x11 = true then (if x0 ≥ x2 then (if (IntKind.u64.wrap (x0 - x2)) < x3 then (some true) else (if x2 ≥ x0 then (some (decide ((IntKind.u64.wrap (x2 - x0)) < x1))) else (some false))) else (if x2 ≥ x0 then (some (decide ((IntKind.u64.wrap (x2 - x0)) < x1))) else (some false))) else (some true))) else (if x11 = true then (if x0 ≥ x2 then (if (IntKind.u64.wrap (x0 - x2)) < x3 then (some true) else (if x2 ≥ x0 then (some (decide ((IntKind.u64.wrap (x2 - x0)) < x1))) else (some false))) else (if x2 ≥ x0 then (some (decide ((IntKind.u64.wrap (x2 - x0)) < x1))) else (some false))) else (some true))) else (if x11 = true then (if x0 ≥ x2 then (if (IntKind.u64.wrap (x0 - x2)) < x3 then (some true) else (if x2 ≥ x0 then (some (decide ((IntKind.u64.wrap (x2 - x0)) < x1))) else (some false))) else (if x2 ≥ x0 then (some (decide ((IntKind.u64.wrap (x2 - x0)) < x1))) else (some false))) else (some true)))
def dovetaillaw2_SpanOverlaps.f (k : Nat) (a0 : Int) (a1 : Int) (a2 : Int) (a3 : Int) (a4 : Int) : Option (Bool) := (dovetaillaw2_known.f k).bind fun t117 => (if t117 = true then ((span_Overlap.f k a0 a1 a2 a3).bind fun t118 => ((span_Overlap.f k a2 a3 a0 a1).bind fun t119 => (if (t118 != t119) = true then (dovetaillaw2_SpanOverlaps.j0 k a0 a1 a2 a3 a4 t118 true) else (if a1 = 0 then (dovetaillaw2_SpanOverlaps.j0 k a0 a1 a2 a3 a4 t118 t118) else (if a3 = 0 then (dovetaillaw2_SpanOverlaps.j0 k a0 a1 a2 a3 a4 t118 t118) else (dovetaillaw2_SpanOverlaps.j0 k a0 a1 a2 a3 a4 t118 false)))))) else (some false))
theorem dovetaillaw2_SpanOverlaps.mono_l : ∀ k, (∀ y0 y1 y2 y3 y4 y5 y6, LeO (dovetaillaw2_SpanOverlaps.j0 k y0 y1 y2 y3 y4 y5 y6) (dovetaillaw2_SpanOverlaps.j0 (k + 1) y0 y1 y2 y3 y4 y5 y6))
  | 0 => fun _ _ _ _ _ _ _ r h => by simp [dovetaillaw2_SpanOverlaps.j0] at h
  | k + 1 => by
    have ih0 := dovetaillaw2_SpanOverlaps.mono_l k
    · intro y0 y1 y2 y3 y4 y5 y6
      unfold dovetaillaw2_SpanOverlaps.j0
      repeat' first
      | (with_reducible exact ih0 _ _ _ _ _ _ _)
      | (with_reducible exact dovetaillaw2_known.mono _)
      | (with_reducible exact span_Overlap.mono _ _ _ _ _)
      | (with_reducible exact LeO.refl _)
      | (with_reducible exact LeO.none _)
      | (with_reducible refine LeO.ite ?_ ?_)
      | (with_reducible refine LeO.bind ?_ (fun _ => ?_))
      | exact ih0 _ _ _ _ _ _ _
      | exact dovetaillaw2_known.mono _
      | exact span_Overlap.mono _ _ _ _ _
      | exact LeO.none _
      | refine LeO.ite ?_ ?_
      | refine LeO.bind ?_ (fun _ => ?_)
theorem dovetaillaw2_SpanOverlaps.mono : ∀ a0 a1 a2 a3 a4 k, LeO (dovetaillaw2_SpanOverlaps.f k a0 a1 a2 a3 a4) (dovetaillaw2_SpanOverlaps.f (k + 1) a0 a1 a2 a3 a4) := by
  intro a0 a1 a2 a3 a4 k
  have ih0 := dovetaillaw2_SpanOverlaps.mono_l k
  unfold dovetaillaw2_SpanOverlaps.f
  repeat' first
      | (with_reducible exact ih0 _ _ _ _ _ _ _)
      | (with_reducible exact dovetaillaw2_known.mono _)
      | (with_reducible exact span_Overlap.mono _ _ _ _ _)
      | (with_reducible exact LeO.refl _)
      | (with_reducible exact LeO.none _)
      | (with_reducible refine LeO.ite ?_ ?_)
      | (with_reducible refine LeO.bind ?_ (fun _ => ?_))
      | exact ih0 _ _ _ _ _ _ _
      | exact dovetaillaw2_known.mono _
      | exact span_Overlap.mono _ _ _ _ _
      | exact LeO.none _
      | refine LeO.ite ?_ ?_
      | refine LeO.bind ?_ (fun _ => ?_)
set_option maxHeartbeats 8000000 in
set_option maxRecDepth 100000 in
theorem dovetaillaw2_SpanOverlaps.calls (k : Nat) (a0 : Int) (a1 : Int) (a2 : Int) (a3 : Int) (a4 : Int) (r : Bool) (w : World) (h : dovetaillaw2_SpanOverlaps.f k a0 a1 a2 a3 a4 = some r) :
    Calls Try.prog 5 #[.int .u64 a0, .int .u64 a1, .int .u64 a2, .int .u64 a3, .int .u64 a4] w fun e w' => e = .returned (.bool r) ∧ Below w.heap.size w w' := by
  have HB := Aside0.mk (Below.refl w.heap.size w)
  have H : ((dovetaillaw2_known.f k).bind fun t117 => (if t117 = true then ((span_Overlap.f k a0 a1 a2 a3).bind fun t118 => ((span_Overlap.f k a2 a3 a0 a1).bind fun t119 => (if (t118 != t119) = true then (dovetaillaw2_SpanOverlaps.j0 k a0 a1 a2 a3 a4 t118 true) else (if a1 = 0 then (dovetaillaw2_SpanOverlaps.j0 k a0 a1 a2 a3 a4 t118 t118) else (if a3 = 0 then (dovetaillaw2_SpanOverlaps.j0 k a0 a1 a2 a3 a4 t118 t118) else (dovetaillaw2_SpanOverlaps.j0 k a0 a1 a2 a3 a4 t118 false)))))) else (some false))) = some r := h
  clear h
  replace H := Option.bind_eq_some_iff.mp H
  obtain ⟨t117, A60, H⟩ := H
  replace H : (if t117 = true then ((span_Overlap.f k a0 a1 a2 a3).bind fun t118 => ((span_Overlap.f k a2 a3 a0 a1).bind fun t119 => (if (t118 != t119) = true then (dovetaillaw2_SpanOverlaps.j0 k a0 a1 a2 a3 a4 t118 true) else (if a1 = 0 then (dovetaillaw2_SpanOverlaps.j0 k a0 a1 a2 a3 a4 t118 t118) else (if a3 = 0 then (dovetaillaw2_SpanOverlaps.j0 k a0 a1 a2 a3 a4 t118 t118) else (dovetaillaw2_SpanOverlaps.j0 k a0 a1 a2 a3 a4 t118 false)))))) else (some false)) = some r := H
  have A6 := Aside0.mk A60
  clear A60
  by_cases c7 : t117 = true
  · subst c7
    have H1 : ((span_Overlap.f k a0 a1 a2 a3).bind fun t118 => ((span_Overlap.f k a2 a3 a0 a1).bind fun t119 => (if (t118 != t119) = true then (dovetaillaw2_SpanOverlaps.j0 k a0 a1 a2 a3 a4 t118 true) else (if a1 = 0 then (dovetaillaw2_SpanOverlaps.j0 k a0 a1 a2 a3 a4 t118 t118) else (if a3 = 0 then (dovetaillaw2_SpanOverlaps.j0 k a0 a1 a2 a3 a4 t118 t118) else (dovetaillaw2_SpanOverlaps.j0 k a0 a1 a2 a3 a4 t118 false)))))) = some r := by rw [if_pos rfl] at H; exact H
    clear H
    have H := H1
    clear H1
    replace H := Option.bind_eq_some_iff.mp H
    obtain ⟨t118, A80, H⟩ := H
    replace H : ((span_Overlap.f k a2 a3 a0 a1).bind fun t119 => (if (t118 != t119) = true then (dovetaillaw2_SpanOverlaps.j0 k a0 a1 a2 a3 a4 t118 true) else (if a1 = 0 then (dovetaillaw2_SpanOverlaps.j0 k a0 a1 a2 a3 a4 t118 t118) else (if a3 = 0 then (dovetaillaw2_SpanOverlaps.j0 k a0 a1 a2 a3 a4 t118 t118) else (dovetaillaw2_SpanOverlaps.j0 k a0 a1 a2 a3 a4 t118 false))))) = some r := H
    have A8 := Aside0.mk A80
    clear A80
    have HC9 := Aside0.mk H
    clear H
    go_enter Try.func5, Try.ntmps5
    go_upto_region 4 with (first | ((with_reducible refine gate_callee (f := 8) rfl ?_); refine goesL_ (some 12) rfl rfl Try.func8 (by kernel_rfl) rfl #[] rfl (by (try simp only [List.map_toArray, List.map_cons, List.map_nil]); first | done | rfl | (simp only [List.length_drop, List.length_take]; rfl)) ?_; (with_reducible refine (dovetaillaw2_known.calls k  true _ A6.out).mono ?_); rintro e w10 ⟨rfl, hb⟩; refine ⟨_, rfl, ?_⟩; have n0_ := Aside0.mk (below_step (by repeat (first | (with_reducible first | exact HB.out | apply below_alloc | apply pw_below_drewN | apply below_drew1) | exact HB.out)) hb); clear HB; have HB := n0_; clear n0_; (try clear hb); (try clear hb2); (try clear hk); (try clear hi)) | ((with_reducible refine gate_callee (f := 19) rfl ?_); refine goesL_ (some 18) rfl rfl Try.func19 (by kernel_rfl) rfl #[.int .u64 a0, .int .u64 a1, .int .u64 a2, .int .u64 a3] rfl (by (try simp only [List.map_toArray, List.map_cons, List.map_nil]); first | done | rfl | (simp only [List.length_drop, List.length_take]; rfl)) ?_; (with_reducible refine (span_Overlap.calls k a0 a1 a2 a3 t118 _ A8.out).mono ?_); rintro e w' ⟨rfl, ⟨nd, rfl⟩⟩; refine ⟨_, rfl, ?_⟩))
    (try simp only [Act.put, List.setIfInBounds_toArray, List.set_cons_zero, List.set_cons_succ])
    go_cut [36] (fun v36 wc => ∃ (kq : Nat) (x36_8 : Bool), v36 = .bool x36_8 ∧ Aside0 (dovetaillaw2_SpanOverlaps.j0 kq a0 a1 a2 a3 a4 t118 x36_8 = some r) ∧ Aside0 (kq ≤ k) ∧ Aside0 (Below w.heap.size w wc))
    case first =>
      have H := HC9.out
      clear HC9
      replace H := Option.bind_eq_some_iff.mp H
      obtain ⟨t119, A110, H⟩ := H
      replace H : (if (t118 != t119) = true then (dovetaillaw2_SpanOverlaps.j0 k a0 a1 a2 a3 a4 t118 true) else (if a1 = 0 then (dovetaillaw2_SpanOverlaps.j0 k a0 a1 a2 a3 a4 t118 t118) else (if a3 = 0 then (dovetaillaw2_SpanOverlaps.j0 k a0 a1 a2 a3 a4 t118 t118) else (dovetaillaw2_SpanOverlaps.j0 k a0 a1 a2 a3 a4 t118 false)))) = some r := H
      have A11 := Aside0.mk A110
      clear A110
      by_cases c12 : (t118 != t119) = true
      · rw [if_pos c12] at H
        have c12b0 : (t118 != t119) = true := c12
        (try (have c12b1 : decide (t118 = t119) = false := by simpa using c12))
        (try (have c12b2 : (t118 == t119) = false := by simpa using c12))
        (try (have c12b3 : ¬ (t118 = t119) := by simpa using c12))
        clear c12
        (first | rw [c12b0] | (simp only [i64_w, i32_w]; rw [c12b0]) | skip)
        have H' := Aside0.mk H
        clear H
        go_wp2_with (first | ((with_reducible refine gate_callee (f := 19) rfl ?_); refine goesL_ (some 24) rfl rfl Try.func19 (by kernel_rfl) rfl #[.int .u64 a2, .int .u64 a3, .int .u64 a0, .int .u64 a1] rfl (by (try simp only [List.map_toArray, List.map_cons, List.map_nil]); first | done | rfl | (simp only [List.length_drop, List.length_take]; rfl)) ?_; (with_reducible refine (span_Overlap.calls k a2 a3 a0 a1 t119 _ A11.out).mono ?_); rintro e w' ⟨rfl, ⟨nd, rfl⟩⟩; refine ⟨_, rfl, ?_⟩))
        go_meet
        case rel => exact ⟨_, (true), (by first | rfl | (simp; done) | (simp [*]; done)), H', ⟨by first | omega | exact Nat.le_refl _⟩, ⟨by repeat (first | (with_reducible first | exact HB.out | apply below_alloc | apply pw_below_drewN | apply below_drew1) | exact HB.out)⟩⟩
      · rw [if_neg c12] at H
        have c12b0 : (t118 != t119) = false := by simpa using c12
        (try (have c12b1 : decide (t118 = t119) = true := by simpa using c12))
        (try (have c12b2 : (t118 == t119) = true := by simpa using c12))
        clear c12
        (first | rw [c12b0] | (simp only [i64_w, i32_w]; rw [c12b0]) | skip)
        by_cases c13 : a1 = 0
        · rw [if_pos c13] at H
          have c13b0 : (a1 == 0) = true := beq_iff_eq.mpr c13
          have c13b1 : (a1 != 0) = false := bne_eq_false_iff_eq.mpr c13
          clear c13
          have H' := Aside0.mk H
          clear H
          go_wp2_with (first | ((with_reducible refine gate_callee (f := 19) rfl ?_); refine goesL_ (some 24) rfl rfl Try.func19 (by kernel_rfl) rfl #[.int .u64 a2, .int .u64 a3, .int .u64 a0, .int .u64 a1] rfl (by (try simp only [List.map_toArray, List.map_cons, List.map_nil]); first | done | rfl | (simp only [List.length_drop, List.length_take]; rfl)) ?_; (with_reducible refine (span_Overlap.calls k a2 a3 a0 a1 t119 _ A11.out).mono ?_); rintro e w' ⟨rfl, ⟨nd, rfl⟩⟩; refine ⟨_, rfl, ?_⟩))
          go_meet
          case rel => exact ⟨_, (t118), (by first | rfl | (simp; done) | (simp [*]; done)), H', ⟨by first | omega | exact Nat.le_refl _⟩, ⟨by repeat (first | (with_reducible first | exact HB.out | apply below_alloc | apply pw_below_drewN | apply below_drew1) | exact HB.out)⟩⟩
        · rw [if_neg c13] at H
          have c13b0 : (a1 == 0) = false := beq_eq_false_iff_ne.mpr c13
          have c13b1 : (a1 != 0) = true := bne_iff_ne.mpr c13
          by_cases c14 : a3 = 0
          · rw [if_pos c14] at H
            have c14b0 : (a3 == 0) = true := beq_iff_eq.mpr c14
            have c14b1 : (a3 != 0) = false := bne_eq_false_iff_eq.mpr c14
            clear c14
            have H' := Aside0.mk H
            clear H
            go_wp2_with (first | ((with_reducible refine gate_callee (f := 19) rfl ?_); refine goesL_ (some 24) rfl rfl Try.func19 (by kernel_rfl) rfl #[.int .u64 a2, .int .u64 a3, .int .u64 a0, .int .u64 a1] rfl (by (try simp only [List.map_toArray, List.map_cons, List.map_nil]); first | done | rfl | (simp only [List.length_drop, List.length_take]; rfl)) ?_; (with_reducible refine (span_Overlap.calls k a2 a3 a0 a1 t119 _ A11.out).mono ?_); rintro e w' ⟨rfl, ⟨nd, rfl⟩⟩; refine ⟨_, rfl, ?_⟩))
            go_meet
            case rel => exact ⟨_, (t118), (by first | rfl | (simp; done) | (simp [*]; done)), H', ⟨by first | omega | exact Nat.le_refl _⟩, ⟨by repeat (first | (with_reducible first | exact HB.out | apply below_alloc | apply pw_below_drewN | apply below_drew1) | exact HB.out)⟩⟩
          · rw [if_neg c14] at H
            have c14b0 : (a3 == 0) = false := beq_eq_false_iff_ne.mpr c14
            have c14b1 : (a3 != 0) = true := bne_iff_ne.mpr c14
            have H' := Aside0.mk H
            clear H
            go_wp2_with (first | ((with_reducible refine gate_callee (f := 19) rfl ?_); refine goesL_ (some 24) rfl rfl Try.func19 (by kernel_rfl) rfl #[.int .u64 a2, .int .u64 a3, .int .u64 a0, .int .u64 a1] rfl (by (try simp only [List.map_toArray, List.map_cons, List.map_nil]); first | done | rfl | (simp only [List.length_drop, List.length_take]; rfl)) ?_; (with_reducible refine (span_Overlap.calls k a2 a3 a0 a1 t119 _ A11.out).mono ?_); rintro e w' ⟨rfl, ⟨nd, rfl⟩⟩; refine ⟨_, rfl, ?_⟩))
            go_meet
            case rel => exact ⟨_, (false), (by first | rfl | (simp; done) | (simp [*]; done)), H', ⟨by first | omega | exact Nat.le_refl _⟩, ⟨by repeat (first | (with_reducible first | exact HB.out | apply below_alloc | apply pw_below_drewN | apply below_drew1) | exact HB.out)⟩⟩
    case rest =>
      clear HC9
      try clear c1
      try clear p2
      try clear c5
      try clear c7
      try clear c8
      try clear c12
      try clear c12b0
      try clear c12b1
      try clear c12b2
      try clear c13
      try clear c13b0
      try clear c13b1
      try clear c14
      try clear c14b0
      try clear c14b1
      obtain ⟨kq, x36_8, rfl, HA, HJ8, HB⟩ := hcut
      cases kq with
      | zero => exact absurd HA.out (by simp [dovetaillaw2_SpanOverlaps.j0])
      | succ kj8 =>
        have H := HA.out
        clear HA
        simp only [dovetaillaw2_SpanOverlaps.j0] at H
        by_cases c15 : x36_8 = true
        · subst c15
          have H1 : (some false) = some r := by rw [if_pos rfl] at H; exact H
          clear H
          have H := H1
          clear H1
          obtain rfl := Option.some.inj H
          go_wp2
          go_ret
          exact ⟨by first | rfl | (simp [errW_none, errW_some] <;> rfl) | (simp [*, errW_none, errW_some] <;> rfl), by repeat (first | (with_reducible first | exact HB.out | apply below_alloc | apply pw_below_drewN | apply below_drew1) | exact HB.out)⟩
        · replace c15 := Bool.eq_false_iff.mpr c15
          subst c15
          have H1 : (if a4 ≥ a0 then (if (IntKind.u64.wrap (a4 - a0)) < a1 then (if a4 ≥ a2 then (if (IntKind.u64.wrap (a4 - a2)) < a3 then (if t118 = true then (if a0 ≥ a2 then (if (IntKind.u64.wrap (a0 - a2)) < a3 then (some true) else (if a2 ≥ a0 then (some (decide ((IntKind.u64.wrap (a2 - a0)) < a1))) else (some false))) else (if a2 ≥ a0 then (some (decide ((IntKind.u64.wrap (a2 - a0)) < a1))) else (some false))) else (some false)) else (if t118 = true then (if a0 ≥ a2 then (if (IntKind.u64.wrap (a0 - a2)) < a3 then (some true) else (if a2 ≥ a0 then (some (decide ((IntKind.u64.wrap (a2 - a0)) < a1))) else (some false))) else (if a2 ≥ a0 then (some (decide ((IntKind.u64.wrap (a2 - a0)) < a1))) else (some false))) else (some true))) else (if t118 = true then (if a0 ≥ a2 then (if (IntKind.u64.wrap (a0 - a2)) < a3 then (some true) else (if a2 ≥ a0 then (some (decide ((IntKind.u64.wrap (a2 - a0)) < a1))) else (some false))) else (if a2 ≥ a0 then (some (decide ((IntKind.u64.wrap (a2 - a0)) < a1))) else (some false))) else (some true))) else (if t118 = true then (if a0 ≥ a2 then (if (IntKind.u64.wrap (a0 - a2)) < a3 then (some true) else (if a2 ≥ a0 then (some (decide ((IntKind.u64.wrap (a2 - a0)) < a1))) else (some false))) else (if a2 ≥ a0 then (some (decide ((IntKind.u64.wrap (a2 - a0)) < a1))) else (some false))) else (some true))) else (if t118 = true then (if a0 ≥ a2 then (if (IntKind.u64.wrap (a0 - a2)) < a3 then (some true) else (if a2 ≥ a0 then (some (decide ((IntKind.u64.wrap (a2 - a0)) < a1))) else (some false))) else (if a2 ≥ a0 then (some (decide ((IntKind.u64.wrap (a2 - a0)) < a1))) else (some false))) else (some true))) = some r := by rw [if_neg (show ¬ (false = true) by decide)] at H; exact H
          clear H
          have H := H1
          clear H1
          by_cases c16 : a4 ≥ a0
          · rw [if_pos c16] at H
            have c16b0 : decide (a0 ≤ a4) = true := decide_eq_true c16
            clear c16
            by_cases c17 : (IntKind.u64.wrap (a4 - a0)) < a1
            · rw [if_pos c17] at H
              have c17b0 : decide ((IntKind.u64.wrap (a4 - a0)) < a1) = true := decide_eq_true c17
              clear c17
              by_cases c18 : a4 ≥ a2
              · rw [if_pos c18] at H
                have c18b0 : decide (a2 ≤ a4) = true := decide_eq_true c18
                clear c18
                by_cases c19 : (IntKind.u64.wrap (a4 - a2)) < a3
                · rw [if_pos c19] at H
                  have c19b0 : decide ((IntKind.u64.wrap (a4 - a2)) < a3) = true := decide_eq_true c19
                  clear c19
                  by_cases c20 : t118 = true
                  · subst c20
                    have H1 : (if a0 ≥ a2 then (if (IntKind.u64.wrap (a0 - a2)) < a3 then (some true) else (if a2 ≥ a0 then (some (decide ((IntKind.u64.wrap (a2 - a0)) < a1))) else (some false))) else (if a2 ≥ a0 then (some (decide ((IntKind.u64.wrap (a2 - a0)) < a1))) else (some false))) = some r := by rw [if_pos rfl] at H; exact H
                    clear H
                    have H := H1
                    clear H1
                    by_cases c21 : a0 ≥ a2
                    · rw [if_pos c21] at H
                      have c21b0 : decide (a2 ≤ a0) = true := decide_eq_true c21
                      clear c21
                      by_cases c22 : (IntKind.u64.wrap (a0 - a2)) < a3
                      · rw [if_pos c22] at H
                        have c22b0 : decide ((IntKind.u64.wrap (a0 - a2)) < a3) = true := decide_eq_true c22
                        clear c22
                        obtain rfl := Option.some.inj H
                        go_wp2
                        go_ret
                        exact ⟨by first | rfl | (simp [errW_none, errW_some] <;> rfl) | (simp [*, errW_none, errW_some] <;> rfl), by repeat (first | (with_reducible first | exact HB.out | apply below_alloc | apply pw_below_drewN | apply below_drew1) | exact HB.out)⟩
                      · rw [if_neg c22] at H
                        have c22b0 : decide ((IntKind.u64.wrap (a0 - a2)) < a3) = false := decide_eq_false c22
                        clear c22
                        by_cases c23 : a2 ≥ a0
                        · rw [if_pos c23] at H
                          have c23b0 : decide (a0 ≤ a2) = true := decide_eq_true c23
                          clear c23
                          obtain rfl := Option.some.inj H
                          go_wp2
                          go_ret
                          exact ⟨by first | rfl | (simp [errW_none, errW_some] <;> rfl) | (simp [*, errW_none, errW_some] <;> rfl), by repeat (first | (with_reducible first | exact HB.out | apply below_alloc | apply pw_below_drewN | apply below_drew1) | exact HB.out)⟩
                        · rw [if_neg c23] at H
                          have c23b0 : decide (a0 ≤ a2) = false := decide_eq_false c23
                          clear c23
                          obtain rfl := Option.some.inj H
                          go_wp2
                          go_ret
                          exact ⟨by first | rfl | (simp [errW_none, errW_some] <;> rfl) | (simp [*, errW_none, errW_some] <;> rfl), by repeat (first | (with_reducible first | exact HB.out | apply below_alloc | apply pw_below_drewN | apply below_drew1) | exact HB.out)⟩
                    · rw [if_neg c21] at H
                      have c21b0 : decide (a2 ≤ a0) = false := decide_eq_false c21
                      clear c21
                      by_cases c24 : a2 ≥ a0
                      · rw [if_pos c24] at H
                        have c24b0 : decide (a0 ≤ a2) = true := decide_eq_true c24
                        clear c24
                        obtain rfl := Option.some.inj H
                        go_wp2
                        go_ret
                        exact ⟨by first | rfl | (simp [errW_none, errW_some] <;> rfl) | (simp [*, errW_none, errW_some] <;> rfl), by repeat (first | (with_reducible first | exact HB.out | apply below_alloc | apply pw_below_drewN | apply below_drew1) | exact HB.out)⟩
                      · rw [if_neg c24] at H
                        have c24b0 : decide (a0 ≤ a2) = false := decide_eq_false c24
                        clear c24
                        obtain rfl := Option.some.inj H
                        go_wp2
                        go_ret
                        exact ⟨by first | rfl | (simp [errW_none, errW_some] <;> rfl) | (simp [*, errW_none, errW_some] <;> rfl), by repeat (first | (with_reducible first | exact HB.out | apply below_alloc | apply pw_below_drewN | apply below_drew1) | exact HB.out)⟩
                  · replace c20 := Bool.eq_false_iff.mpr c20
                    subst c20
                    have H1 : (some false) = some r := by rw [if_neg (show ¬ (false = true) by decide)] at H; exact H
                    clear H
                    have H := H1
                    clear H1
                    obtain rfl := Option.some.inj H
                    go_wp2
                    go_ret
                    exact ⟨by first | rfl | (simp [errW_none, errW_some] <;> rfl) | (simp [*, errW_none, errW_some] <;> rfl), by repeat (first | (with_reducible first | exact HB.out | apply below_alloc | apply pw_below_drewN | apply below_drew1) | exact HB.out)⟩
                · rw [if_neg c19] at H
                  have c19b0 : decide ((IntKind.u64.wrap (a4 - a2)) < a3) = false := decide_eq_false c19
                  clear c19
                  by_cases c25 : t118 = true
                  · subst c25
                    have H1 : (if a0 ≥ a2 then (if (IntKind.u64.wrap (a0 - a2)) < a3 then (some true) else (if a2 ≥ a0 then (some (decide ((IntKind.u64.wrap (a2 - a0)) < a1))) else (some false))) else (if a2 ≥ a0 then (some (decide ((IntKind.u64.wrap (a2 - a0)) < a1))) else (some false))) = some r := by rw [if_pos rfl] at H; exact H
                    clear H
                    have H := H1
                    clear H1
                    by_cases c26 : a0 ≥ a2
                    · rw [if_pos c26] at H
                      have c26b0 : decide (a2 ≤ a0) = true := decide_eq_true c26
                      clear c26
                      by_cases c27 : (IntKind.u64.wrap (a0 - a2)) < a3
                      · rw [if_pos c27] at H
                        have c27b0 : decide ((IntKind.u64.wrap (a0 - a2)) < a3) = true := decide_eq_true c27
                        clear c27
                        obtain rfl := Option.some.inj H
                        go_wp2
                        go_ret
                        exact ⟨by first | rfl | (simp [errW_none, errW_some] <;> rfl) | (simp [*, errW_none, errW_some] <;> rfl), by repeat (first | (with_reducible first | exact HB.out | apply below_alloc | apply pw_below_drewN | apply below_drew1) | exact HB.out)⟩
                      · rw [if_neg c27] at H
                        have c27b0 : decide ((IntKind.u64.wrap (a0 - a2)) < a3) = false := decide_eq_false c27
                        clear c27
                        by_cases c28 : a2 ≥ a0
                        · rw [if_pos c28] at H
                          have c28b0 : decide (a0 ≤ a2) = true := decide_eq_true c28
                          clear c28
                          obtain rfl := Option.some.inj H
                          go_wp2
                          go_ret
                          exact ⟨by first | rfl | (simp [errW_none, errW_some] <;> rfl) | (simp [*, errW_none, errW_some] <;> rfl), by repeat (first | (with_reducible first | exact HB.out | apply below_alloc | apply pw_below_drewN | apply below_drew1) | exact HB.out)⟩
                        · rw [if_neg c28] at H
                          have c28b0 : decide (a0 ≤ a2) = false := decide_eq_false c28
                          clear c28
                          obtain rfl := Option.some.inj H
                          go_wp2
                          go_ret
                          exact ⟨by first | rfl | (simp [errW_none, errW_some] <;> rfl) | (simp [*, errW_none, errW_some] <;> rfl), by repeat (first | (with_reducible first | exact HB.out | apply below_alloc | apply pw_below_drewN | apply below_drew1) | exact HB.out)⟩
                    · rw [if_neg c26] at H
                      have c26b0 : decide (a2 ≤ a0) = false := decide_eq_false c26
                      clear c26
                      by_cases c29 : a2 ≥ a0
                      · rw [if_pos c29] at H
                        have c29b0 : decide (a0 ≤ a2) = true := decide_eq_true c29
                        clear c29
                        obtain rfl := Option.some.inj H
                        go_wp2
                        go_ret
                        exact ⟨by first | rfl | (simp [errW_none, errW_some] <;> rfl) | (simp [*, errW_none, errW_some] <;> rfl), by repeat (first | (with_reducible first | exact HB.out | apply below_alloc | apply pw_below_drewN | apply below_drew1) | exact HB.out)⟩
                      · rw [if_neg c29] at H
                        have c29b0 : decide (a0 ≤ a2) = false := decide_eq_false c29
                        clear c29
                        obtain rfl := Option.some.inj H
                        go_wp2
                        go_ret
                        exact ⟨by first | rfl | (simp [errW_none, errW_some] <;> rfl) | (simp [*, errW_none, errW_some] <;> rfl), by repeat (first | (with_reducible first | exact HB.out | apply below_alloc | apply pw_below_drewN | apply below_drew1) | exact HB.out)⟩
                  · replace c25 := Bool.eq_false_iff.mpr c25
                    subst c25
                    have H1 : (some true) = some r := by rw [if_neg (show ¬ (false = true) by decide)] at H; exact H
                    clear H
                    have H := H1
                    clear H1
                    obtain rfl := Option.some.inj H
                    go_wp2
                    go_ret
                    exact ⟨by first | rfl | (simp [errW_none, errW_some] <;> rfl) | (simp [*, errW_none, errW_some] <;> rfl), by repeat (first | (with_reducible first | exact HB.out | apply below_alloc | apply pw_below_drewN | apply below_drew1) | exact HB.out)⟩
              · rw [if_neg c18] at H
                have c18b0 : decide (a2 ≤ a4) = false := decide_eq_false c18
                clear c18
                by_cases c30 : t118 = true
                · subst c30
                  have H1 : (if a0 ≥ a2 then (if (IntKind.u64.wrap (a0 - a2)) < a3 then (some true) else (if a2 ≥ a0 then (some (decide ((IntKind.u64.wrap (a2 - a0)) < a1))) else (some false))) else (if a2 ≥ a0 then (some (decide ((IntKind.u64.wrap (a2 - a0)) < a1))) else (some false))) = some r := by rw [if_pos rfl] at H; exact H
                  clear H
                  have H := H1
                  clear H1
                  by_cases c31 : a0 ≥ a2
                  · rw [if_pos c31] at H
                    have c31b0 : decide (a2 ≤ a0) = true := decide_eq_true c31
                    clear c31
                    by_cases c32 : (IntKind.u64.wrap (a0 - a2)) < a3
                    · rw [if_pos c32] at H
                      have c32b0 : decide ((IntKind.u64.wrap (a0 - a2)) < a3) = true := decide_eq_true c32
                      clear c32
                      obtain rfl := Option.some.inj H
                      go_wp2
                      go_ret
                      exact ⟨by first | rfl | (simp [errW_none, errW_some] <;> rfl) | (simp [*, errW_none, errW_some] <;> rfl), by repeat (first | (with_reducible first | exact HB.out | apply below_alloc | apply pw_below_drewN | apply below_drew1) | exact HB.out)⟩
                    · rw [if_neg c32] at H
                      have c32b0 : decide ((IntKind.u64.wrap (a0 - a2)) < a3) = false := decide_eq_false c32
                      clear c32
                      by_cases c33 : a2 ≥ a0
                      · rw [if_pos c33] at H
                        have c33b0 : decide (a0 ≤ a2) = true := decide_eq_true c33
                        clear c33
                        obtain rfl := Option.some.inj H
                        go_wp2
                        go_ret
                        exact ⟨by first | rfl | (simp [errW_none, errW_some] <;> rfl) | (simp [*, errW_none, errW_some] <;> rfl), by repeat (first | (with_reducible first | exact HB.out | apply below_alloc | apply pw_below_drewN | apply below_drew1) | exact HB.out)⟩
                      · rw [if_neg c33] at H
                        have c33b0 : decide (a0 ≤ a2) = false := decide_eq_false c33
                        clear c33
                        obtain rfl := Option.some.inj H
                        go_wp2
                        go_ret
                        exact ⟨by first | rfl | (simp [errW_none, errW_some] <;> rfl) | (simp [*, errW_none, errW_some] <;> rfl), by repeat (first | (with_reducible first | exact HB.out | apply below_alloc | apply pw_below_drewN | apply below_drew1) | exact HB.out)⟩
                  · rw [if_neg c31] at H
                    have c31b0 : decide (a2 ≤ a0) = false := decide_eq_false c31
                    clear c31
                    by_cases c34 : a2 ≥ a0
                    · rw [if_pos c34] at H
                      have c34b0 : decide (a0 ≤ a2) = true := decide_eq_true c34
                      clear c34
                      obtain rfl := Option.some.inj H
                      go_wp2
                      go_ret
                      exact ⟨by first | rfl | (simp [errW_none, errW_some] <;> rfl) | (simp [*, errW_none, errW_some] <;> rfl), by repeat (first | (with_reducible first | exact HB.out | apply below_alloc | apply pw_below_drewN | apply below_drew1) | exact HB.out)⟩
                    · rw [if_neg c34] at H
                      have c34b0 : decide (a0 ≤ a2) = false := decide_eq_false c34
                      clear c34
                      obtain rfl := Option.some.inj H
                      go_wp2
                      go_ret
                      exact ⟨by first | rfl | (simp [errW_none, errW_some] <;> rfl) | (simp [*, errW_none, errW_some] <;> rfl), by repeat (first | (with_reducible first | exact HB.out | apply below_alloc | apply pw_below_drewN | apply below_drew1) | exact HB.out)⟩
                · replace c30 := Bool.eq_false_iff.mpr c30
                  subst c30
                  have H1 : (some true) = some r := by rw [if_neg (show ¬ (false = true) by decide)] at H; exact H
                  clear H
                  have H := H1
                  clear H1
                  obtain rfl := Option.some.inj H
                  go_wp2
                  go_ret
                  exact ⟨by first | rfl | (simp [errW_none, errW_some] <;> rfl) | (simp [*, errW_none, errW_some] <;> rfl), by repeat (first | (with_reducible first | exact HB.out | apply below_alloc | apply pw_below_drewN | apply below_drew1) | exact HB.out)⟩
            · rw [if_neg c17] at H
              have c17b0 : decide ((IntKind.u64.wrap (a4 - a0)) < a1) = false := decide_eq_false c17
              clear c17
              by_cases c35 : t118 = true
              · subst c35
                have H1 : (if a0 ≥ a2 then (if (IntKind.u64.wrap (a0 - a2)) < a3 then (some true) else (if a2 ≥ a0 then (some (decide ((IntKind.u64.wrap (a2 - a0)) < a1))) else (some false))) else (if a2 ≥ a0 then (some (decide ((IntKind.u64.wrap (a2 - a0)) < a1))) else (some false))) = some r := by rw [if_pos rfl] at H; exact H
                clear H
                have H := H1
                clear H1
                by_cases c36 : a0 ≥ a2
                · rw [if_pos c36] at H
                  have c36b0 : decide (a2 ≤ a0) = true := decide_eq_true c36
                  clear c36
                  by_cases c37 : (IntKind.u64.wrap (a0 - a2)) < a3
                  · rw [if_pos c37] at H
                    have c37b0 : decide ((IntKind.u64.wrap (a0 - a2)) < a3) = true := decide_eq_true c37
                    clear c37
                    obtain rfl := Option.some.inj H
                    go_wp2
                    go_ret
                    exact ⟨by first | rfl | (simp [errW_none, errW_some] <;> rfl) | (simp [*, errW_none, errW_some] <;> rfl), by repeat (first | (with_reducible first | exact HB.out | apply below_alloc | apply pw_below_drewN | apply below_drew1) | exact HB.out)⟩
                  · rw [if_neg c37] at H
                    have c37b0 : decide ((IntKind.u64.wrap (a0 - a2)) < a3) = false := decide_eq_false c37
                    clear c37
                    by_cases c38 : a2 ≥ a0
                    · rw [if_pos c38] at H
                      have c38b0 : decide (a0 ≤ a2) = true := decide_eq_true c38
                      clear c38
                      obtain rfl := Option.some.inj H
                      go_wp2
                      go_ret
                      exact ⟨by first | rfl | (simp [errW_none, errW_some] <;> rfl) | (simp [*, errW_none, errW_some] <;> rfl), by repeat (first | (with_reducible first | exact HB.out | apply below_alloc | apply pw_below_drewN | apply below_drew1) | exact HB.out)⟩
                    · rw [if_neg c38] at H
                      have c38b0 : decide (a0 ≤ a2) = false := decide_eq_false c38
                      clear c38
                      obtain rfl := Option.some.inj H
                      go_wp2
                      go_ret
                      exact ⟨by first | rfl | (simp [errW_none, errW_some] <;> rfl) | (simp [*, errW_none, errW_some] <;> rfl), by repeat (first | (with_reducible first | exact HB.out | apply below_alloc | apply pw_below_drewN | apply below_drew1) | exact HB.out)⟩
                · rw [if_neg c36] at H
                  have c36b0 : decide (a2 ≤ a0) = false := decide_eq_false c36
                  clear c36
                  by_cases c39 : a2 ≥ a0
                  · rw [if_pos c39] at H
                    have c39b0 : decide (a0 ≤ a2) = true := decide_eq_true c39
                    clear c39
                    obtain rfl := Option.some.inj H
                    go_wp2
                    go_ret
                    exact ⟨by first | rfl | (simp [errW_none, errW_some] <;> rfl) | (simp [*, errW_none, errW_some] <;> rfl), by repeat (first | (with_reducible first | exact HB.out | apply below_alloc | apply pw_below_drewN | apply below_drew1) | exact HB.out)⟩
                  · rw [if_neg c39] at H
                    have c39b0 : decide (a0 ≤ a2) = false := decide_eq_false c39
                    clear c39
                    obtain rfl := Option.some.inj H
                    go_wp2
                    go_ret
                    exact ⟨by first | rfl | (simp [errW_none, errW_some] <;> rfl) | (simp [*, errW_none, errW_some] <;> rfl), by repeat (first | (with_reducible first | exact HB.out | apply below_alloc | apply pw_below_drewN | apply below_drew1) | exact HB.out)⟩
              · replace c35 := Bool.eq_false_iff.mpr c35
                subst c35
                have H1 : (some true) = some r := by rw [if_neg (show ¬ (false = true) by decide)] at H; exact H
                clear H
                have H := H1
                clear H1
                obtain rfl := Option.some.inj H
                go_wp2
                go_ret
                exact ⟨by first | rfl | (simp [errW_none, errW_some] <;> rfl) | (simp [*, errW_none, errW_some] <;> rfl), by repeat (first | (with_reducible first | exact HB.out | apply below_alloc | apply pw_below_drewN | apply below_drew1) | exact HB.out)⟩
          · rw [if_neg c16] at H
            have c16b0 : decide (a0 ≤ a4) = false := decide_eq_false c16
            clear c16
            by_cases c40 : t118 = true
            · subst c40
              have H1 : (if a0 ≥ a2 then (if (IntKind.u64.wrap (a0 - a2)) < a3 then (some true) else (if a2 ≥ a0 then (some (decide ((IntKind.u64.wrap (a2 - a0)) < a1))) else (some false))) else (if a2 ≥ a0 then (some (decide ((IntKind.u64.wrap (a2 - a0)) < a1))) else (some false))) = some r := by rw [if_pos rfl] at H; exact H
              clear H
              have H := H1
              clear H1
              by_cases c41 : a0 ≥ a2
              · rw [if_pos c41] at H
                have c41b0 : decide (a2 ≤ a0) = true := decide_eq_true c41
                clear c41
                by_cases c42 : (IntKind.u64.wrap (a0 - a2)) < a3
                · rw [if_pos c42] at H
                  have c42b0 : decide ((IntKind.u64.wrap (a0 - a2)) < a3) = true := decide_eq_true c42
                  clear c42
                  obtain rfl := Option.some.inj H
                  go_wp2
                  go_ret
                  exact ⟨by first | rfl | (simp [errW_none, errW_some] <;> rfl) | (simp [*, errW_none, errW_some] <;> rfl), by repeat (first | (with_reducible first | exact HB.out | apply below_alloc | apply pw_below_drewN | apply below_drew1) | exact HB.out)⟩
                · rw [if_neg c42] at H
                  have c42b0 : decide ((IntKind.u64.wrap (a0 - a2)) < a3) = false := decide_eq_false c42
                  clear c42
                  by_cases c43 : a2 ≥ a0
                  · rw [if_pos c43] at H
                    have c43b0 : decide (a0 ≤ a2) = true := decide_eq_true c43
                    clear c43
                    obtain rfl := Option.some.inj H
                    go_wp2
                    go_ret
                    exact ⟨by first | rfl | (simp [errW_none, errW_some] <;> rfl) | (simp [*, errW_none, errW_some] <;> rfl), by repeat (first | (with_reducible first | exact HB.out | apply below_alloc | apply pw_below_drewN | apply below_drew1) | exact HB.out)⟩
                  · rw [if_neg c43] at H
                    have c43b0 : decide (a0 ≤ a2) = false := decide_eq_false c43
                    clear c43
                    obtain rfl := Option.some.inj H
                    go_wp2
                    go_ret
                    exact ⟨by first | rfl | (simp [errW_none, errW_some] <;> rfl) | (simp [*, errW_none, errW_some] <;> rfl), by repeat (first | (with_reducible first | exact HB.out | apply below_alloc | apply pw_below_drewN | apply below_drew1) | exact HB.out)⟩
              · rw [if_neg c41] at H
                have c41b0 : decide (a2 ≤ a0) = false := decide_eq_false c41
                clear c41
                by_cases c44 : a2 ≥ a0
                · rw [if_pos c44] at H
                  have c44b0 : decide (a0 ≤ a2) = true := decide_eq_true c44
                  clear c44
                  obtain rfl := Option.some.inj H
                  go_wp2
                  go_ret
                  exact ⟨by first | rfl | (simp [errW_none, errW_some] <;> rfl) | (simp [*, errW_none, errW_some] <;> rfl), by repeat (first | (with_reducible first | exact HB.out | apply below_alloc | apply pw_below_drewN | apply below_drew1) | exact HB.out)⟩
                · rw [if_neg c44] at H
                  have c44b0 : decide (a0 ≤ a2) = false := decide_eq_false c44
                  clear c44
                  obtain rfl := Option.some.inj H
                  go_wp2
                  go_ret
                  exact ⟨by first | rfl | (simp [errW_none, errW_some] <;> rfl) | (simp [*, errW_none, errW_some] <;> rfl), by repeat (first | (with_reducible first | exact HB.out | apply below_alloc | apply pw_below_drewN | apply below_drew1) | exact HB.out)⟩
            · replace c40 := Bool.eq_false_iff.mpr c40
              subst c40
              have H1 : (some true) = some r := by rw [if_neg (show ¬ (false = true) by decide)] at H; exact H
              clear H
              have H := H1
              clear H1
              obtain rfl := Option.some.inj H
              go_wp2
              go_ret
              exact ⟨by first | rfl | (simp [errW_none, errW_some] <;> rfl) | (simp [*, errW_none, errW_some] <;> rfl), by repeat (first | (with_reducible first | exact HB.out | apply below_alloc | apply pw_below_drewN | apply below_drew1) | exact HB.out)⟩
  · replace c7 := Bool.eq_false_iff.mpr c7
    subst c7
    have H1 : (some false) = some r := by rw [if_neg (show ¬ (false = true) by decide)] at H; exact H
    clear H
    have H := H1
    clear H1
    obtain rfl := Option.some.inj H
    go_enter Try.func5, Try.ntmps5
    go_wp2_with (first | ((with_reducible refine gate_callee (f := 8) rfl ?_); refine goesL_ (some 12) rfl rfl Try.func8 (by kernel_rfl) rfl #[] rfl (by (try simp only [List.map_toArray, List.map_cons, List.map_nil]); first | done | rfl | (simp only [List.length_drop, List.length_take]; rfl)) ?_; (with_reducible refine (dovetaillaw2_known.calls k  false _ A6.out).mono ?_); rintro e w45 ⟨rfl, hb⟩; refine ⟨_, rfl, ?_⟩; have n0_ := Aside0.mk (below_step (by repeat (first | (with_reducible first | exact HB.out | apply below_alloc | apply pw_below_drewN | apply below_drew1) | exact HB.out)) hb); clear HB; have HB := n0_; clear n0_; (try clear hb); (try clear hb2); (try clear hk); (try clear hi)))
    go_ret
    exact ⟨by first | rfl | (simp [errW_none, errW_some] <;> rfl) | (simp [*, errW_none, errW_some] <;> rfl), by repeat (first | (with_reducible first | exact HB.out | apply below_alloc | apply pw_below_drewN | apply below_drew1) | exact HB.out)⟩

/-- THE ONE PURE STATEMENT of dovetaillaw2_SpanOverlaps: yours. -/
def dovetaillaw2_SpanOverlaps.Pure : Prop := ∀ (a0 : Int) (a1 : Int) (a2 : Int) (a3 : Int) (a4 : Int), (Lit.int .u64 a0).wf = true → (Lit.int .u64 a1).wf = true → (Lit.int .u64 a2).wf = true → (Lit.int .u64 a3).wf = true → (Lit.int .u64 a4).wf = true → ∃ k, dovetaillaw2_SpanOverlaps.f k a0 a1 a2 a3 a4 = some true
theorem dovetaillaw2_SpanOverlaps.walk (P : dovetaillaw2_SpanOverlaps.Pure) (a0 : Int) (a1 : Int) (a2 : Int) (a3 : Int) (a4 : Int) (w : World) (w0 : (Lit.int .u64 a0).wf = true) (w1 : (Lit.int .u64 a1).wf = true) (w2 : (Lit.int .u64 a2).wf = true) (w3 : (Lit.int .u64 a3).wf = true) (w4 : (Lit.int .u64 a4).wf = true) :
    Calls Try.prog 5 #[.int .u64 a0, .int .u64 a1, .int .u64 a2, .int .u64 a3, .int .u64 a4] w fun e w' => e = .returned (.bool true) ∧ Below w.heap.size w w' := by
  obtain ⟨k, h⟩ := P a0 a1 a2 a3 a4 w0 w1 w2 w3 w4
  refine (dovetaillaw2_SpanOverlaps.calls k a0 a1 a2 a3 a4 true w h).mono ?_
  rintro e w' ⟨rfl, hd⟩
  exact ⟨rfl, hd⟩

end Go.Proofs.Ytoghodnpfacjeaa.QSpanOverlaps
