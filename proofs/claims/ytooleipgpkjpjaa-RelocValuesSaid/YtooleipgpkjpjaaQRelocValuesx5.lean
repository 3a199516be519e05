/- Contracts of what a law reaches, each function as a plain Lean function: written by a program of this claim's repo (myprint.py); conditions: those of each theorem. -/
import Derived.Test.YtooleipgpkjpjaaQRelocValuesx0
import Derived.Test.YtooleipgpkjpjaaQRelocValuesx4
namespace Go.Proofs.Ytooleipgpkjpjaa.QRelocValues
open Go.Proofs.Ytooleipgpkjpjaa.Man
open Go.RowKit Go.Proofs.YtooleipgpkjpjaaW.PrintWords Go.Proofs.YtooleipgpkjpjaaW.PrintLast Go.Proofs.YtooleipgpkjpjaaW.PrintMore
attribute [local go_sem] max2_int min2_int max_two min_two max_three min_three max_four min_four   -- for this text's walks alone
set_option linter.unusedVariables false
set_option linter.unusedSimpArgs false

/-! ### dovetailref3_Fits: function 24 -/
def dovetailref3_Fits.j0 : Nat → Int → Int → Bool → Option (Bool)
  | 0, _, _, _ => none
  | k + 1, x1, x5, x6 => if x6 = true then (if x1 ≥ (-2048) then (some (decide (x1 ≤ 2047))) else (some false)) else (if x5 = 3 then (if x1 ≥ (-4096) then (if x1 ≤ 4095 then (some ((Go.bits .and .i64 x1 1) == 0)) else (some false)) else (some false)) else (if x5 = 4 then (if x1 ≥ (-524288) then (some (decide (x1 < 524288))) else (some false)) else (if x5 = 5 then (if x1 ≥ (-1048576) then (if x1 < 1048576 then (some ((Go.bits .and .i64 x1 1) == 0)) else (some false)) else (some false)) else (some (x1 == 0)))))
def dovetailref3_Fits.f (k : Nat) (a0 : Int) (a1 : Int) : Option (Bool) := if a0 = 1 then (dovetailref3_Fits.j0 k a1 a0 (a0 == 1)) else (dovetailref3_Fits.j0 k a1 a0 (a0 == 2))
theorem dovetailref3_Fits.mono_l : ∀ k, (∀ y0 y1 y2, LeO (dovetailref3_Fits.j0 k y0 y1 y2) (dovetailref3_Fits.j0 (k + 1) y0 y1 y2))
  | 0 => fun _ _ _ r h => by simp [dovetailref3_Fits.j0] at h
  | k + 1 => by
    have ih0 := dovetailref3_Fits.mono_l k
    · intro y0 y1 y2
      unfold dovetailref3_Fits.j0
      repeat' first
      | (with_reducible exact ih0 _ _ _)
      | (with_reducible exact LeO.refl _)
      | (with_reducible exact LeO.none _)
      | (with_reducible refine LeO.ite ?_ ?_)
      | (with_reducible refine LeO.bind ?_ (fun _ => ?_))
      | exact ih0 _ _ _
      | exact LeO.none _
      | refine LeO.ite ?_ ?_
      | refine LeO.bind ?_ (fun _ => ?_)
theorem dovetailref3_Fits.mono : ∀ a0 a1 k, LeO (dovetailref3_Fits.f k a0 a1) (dovetailref3_Fits.f (k + 1) a0 a1) := by
  intro a0 a1 k
  have ih0 := dovetailref3_Fits.mono_l k
  unfold dovetailref3_Fits.f
  repeat' first
      | (with_reducible exact ih0 _ _ _)
      | (with_reducible exact LeO.refl _)
      | (with_reducible exact LeO.none _)
      | (with_reducible refine LeO.ite ?_ ?_)
      | (with_reducible refine LeO.bind ?_ (fun _ => ?_))
      | exact ih0 _ _ _
      | exact LeO.none _
      | refine LeO.ite ?_ ?_
      | refine LeO.bind ?_ (fun _ => ?_)
set_option maxHeartbeats 8000000 in
set_option maxRecDepth 100000 in
theorem dovetailref3_Fits.calls (k : Nat) (a0 : Int) (a1 : Int) (r : Bool) (w : World) (h : dovetailref3_Fits.f k a0 a1 = some r) :
    Calls Try.prog 24 #[.int .i64 a0, .int .i64 a1] w fun e w' => e = .returned (.bool r) ∧ Drawn0 w w' := by
  have H : (if a0 = 1 then (dovetailref3_Fits.j0 k a1 a0 (a0 == 1)) else (dovetailref3_Fits.j0 k a1 a0 (a0 == 2))) = some r := h
  clear h
  have HC3 := Aside0.mk H
  clear H
  go_enter Try.func24, Try.ntmps24
  go_upto_if 6 with (fail)
  go_cut [6] (fun v6 wc => ∃ (kq : Nat) (x6_2 : Bool), v6 = .bool x6_2 ∧ Aside0 (dovetailref3_Fits.j0 kq a1 a0 x6_2 = some r) ∧ Aside0 (kq ≤ k) ∧ Drawn0 w wc)
  case first =>
    have H := HC3.out
    clear HC3
    by_cases c4 : a0 = 1
    · rw [if_pos c4] at H
      have c4b0 : (a0 == 1) = true := beq_iff_eq.mpr c4
      have c4b1 : (a0 != 1) = false := bne_eq_false_iff_eq.mpr c4
      clear c4
      (first | rw [c4b0] | (simp only [i64_w, i32_w]; rw [c4b0]) | skip)
      have H' := Aside0.mk H
      clear H
      go_wp2
      go_meet
      case rel => exact ⟨_, ((a0 == 1)), (by first | rfl | (simp; done) | (simp [*]; done)), H', ⟨by first | omega | exact Nat.le_refl _⟩, by repeat (first | exact Drawn0.refl _ | apply Drawn0.step)⟩
    · rw [if_neg c4] at H
      have c4b0 : (a0 == 1) = false := beq_eq_false_iff_ne.mpr c4
      have c4b1 : (a0 != 1) = true := bne_iff_ne.mpr c4
      (first | rw [c4b0] | (simp only [i64_w, i32_w]; rw [c4b0]) | skip)
      have H' := Aside0.mk H
      clear H
      go_wp2
      go_meet
      case rel => exact ⟨_, ((a0 == 2)), (by first | rfl | (simp; done) | (simp [*]; done)), H', ⟨by first | omega | exact Nat.le_refl _⟩, by repeat (first | exact Drawn0.refl _ | apply Drawn0.step)⟩
  case rest =>
    clear HC3
    try clear c2
    try clear p2
    try clear c4
    try clear c4b0
    try clear c4b1
    obtain ⟨kq, x6_2, rfl, HA, HJ2, ⟨mc2, rfl⟩⟩ := hcut
    cases kq with
    | zero => exact absurd HA.out (by simp [dovetailref3_Fits.j0])
    | succ kj2 =>
      have H := HA.out
      clear HA
      simp only [dovetailref3_Fits.j0] at H
      by_cases c5 : x6_2 = true
      · subst c5
        have H1 : (if a1 ≥ (-2048) then (some (decide (a1 ≤ 2047))) else (some false)) = some r := by rw [if_pos rfl] at H; exact H
        clear H
        have H := H1
        clear H1
        by_cases c6 : a1 ≥ (-2048)
        · rw [if_pos c6] at H
          have c6b0 : decide ((-2048) ≤ a1) = true := decide_eq_true c6
          clear c6
          obtain rfl := Option.some.inj H
          go_wp2
          go_ret
          exact ⟨by first | rfl | (simp; done) | (simp [*]; done), by repeat (first | exact Drawn0.refl _ | apply Drawn0.step)⟩
        · rw [if_neg c6] at H
          have c6b0 : decide ((-2048) ≤ a1) = false := decide_eq_false c6
          clear c6
          obtain rfl := Option.some.inj H
          go_wp2
          go_ret
          exact ⟨by first | rfl | (simp; done) | (simp [*]; done), by repeat (first | exact Drawn0.refl _ | apply Drawn0.step)⟩
      · replace c5 := Bool.eq_false_iff.mpr c5
        subst c5
        have H1 : (if a0 = 3 then (if a1 ≥ (-4096) then (if a1 ≤ 4095 then (some ((Go.bits .and .i64 a1 1) == 0)) else (some false)) else (some false)) else (if a0 = 4 then (if a1 ≥ (-524288) then (some (decide (a1 < 524288))) else (some false)) else (if a0 = 5 then (if a1 ≥ (-1048576) then (if a1 < 1048576 then (some ((Go.bits .and .i64 a1 1) == 0)) else (some false)) else (some false)) else (some (a1 == 0))))) = some r := by rw [if_neg (show ¬ (false = true) by decide)] at H; exact H
        clear H
        have H := H1
        clear H1
        by_cases c7 : a0 = 3
        · rw [if_pos c7] at H
          have c7b0 : (a0 == 3) = true := beq_iff_eq.mpr c7
          have c7b1 : (a0 != 3) = false := bne_eq_false_iff_eq.mpr c7
          clear c7
          by_cases c8 : a1 ≥ (-4096)
          · rw [if_pos c8] at H
            have c8b0 : decide ((-4096) ≤ a1) = true := decide_eq_true c8
            clear c8
            by_cases c9 : a1 ≤ 4095
            · rw [if_pos c9] at H
              have c9b0 : decide (a1 ≤ 4095) = true := decide_eq_true c9
              clear c9
              obtain rfl := Option.some.inj H
              go_wp2
              go_ret
              exact ⟨by first | rfl | (simp; done) | (simp [*]; done), by repeat (first | exact Drawn0.refl _ | apply Drawn0.step)⟩
            · rw [if_neg c9] at H
              have c9b0 : decide (a1 ≤ 4095) = false := decide_eq_false c9
              clear c9
              obtain rfl := Option.some.inj H
              go_wp2
              go_ret
              exact ⟨by first | rfl | (simp; done) | (simp [*]; done), by repeat (first | exact Drawn0.refl _ | apply Drawn0.step)⟩
          · rw [if_neg c8] at H
            have c8b0 : decide ((-4096) ≤ a1) = false := decide_eq_false c8
            clear c8
            obtain rfl := Option.some.inj H
            go_wp2
            go_ret
            exact ⟨by first | rfl | (simp; done) | (simp [*]; done), by repeat (first | exact Drawn0.refl _ | apply Drawn0.step)⟩
        · rw [if_neg c7] at H
          have c7b0 : (a0 == 3) = false := beq_eq_false_iff_ne.mpr c7
          have c7b1 : (a0 != 3) = true := bne_iff_ne.mpr c7
          by_cases c10 : a0 = 4
          · rw [if_pos c10] at H
            have c10b0 : (a0 == 4) = true := beq_iff_eq.mpr c10
            have c10b1 : (a0 != 4) = false := bne_eq_false_iff_eq.mpr c10
            clear c10
            by_cases c11 : a1 ≥ (-524288)
            · rw [if_pos c11] at H
              have c11b0 : decide ((-524288) ≤ a1) = true := decide_eq_true c11
              clear c11
              obtain rfl := Option.some.inj H
              go_wp2
              go_ret
              exact ⟨by first | rfl | (simp; done) | (simp [*]; done), by repeat (first | exact Drawn0.refl _ | apply Drawn0.step)⟩
            · rw [if_neg c11] at H
              have c11b0 : decide ((-524288) ≤ a1) = false := decide_eq_false c11
              clear c11
              obtain rfl := Option.some.inj H
              go_wp2
              go_ret
              exact ⟨by first | rfl | (simp; done) | (simp [*]; done), by repeat (first | exact Drawn0.refl _ | apply Drawn0.step)⟩
          · rw [if_neg c10] at H
            have c10b0 : (a0 == 4) = false := beq_eq_false_iff_ne.mpr c10
            have c10b1 : (a0 != 4) = true := bne_iff_ne.mpr c10
            by_cases c12 : a0 = 5
            · rw [if_pos c12] at H
              have c12b0 : (a0 == 5) = true := beq_iff_eq.mpr c12
              have c12b1 : (a0 != 5) = false := bne_eq_false_iff_eq.mpr c12
              clear c12
              by_cases c13 : a1 ≥ (-1048576)
              · rw [if_pos c13] at H
                have c13b0 : decide ((-1048576) ≤ a1) = true := decide_eq_true c13
                clear c13
                by_cases c14 : a1 < 1048576
                · rw [if_pos c14] at H
                  have c14b0 : decide (a1 < 1048576) = true := decide_eq_true c14
                  clear c14
                  obtain rfl := Option.some.inj H
                  go_wp2
                  go_ret
                  exact ⟨by first | rfl | (simp; done) | (simp [*]; done), by repeat (first | exact Drawn0.refl _ | apply Drawn0.step)⟩
                · rw [if_neg c14] at H
                  have c14b0 : decide (a1 < 1048576) = false := decide_eq_false c14
                  clear c14
                  obtain rfl := Option.some.inj H
                  go_wp2
                  go_ret
                  exact ⟨by first | rfl | (simp; done) | (simp [*]; done), by repeat (first | exact Drawn0.refl _ | apply Drawn0.step)⟩
              · rw [if_neg c13] at H
                have c13b0 : decide ((-1048576) ≤ a1) = false := decide_eq_false c13
                clear c13
                obtain rfl := Option.some.inj H
                go_wp2
                go_ret
                exact ⟨by first | rfl | (simp; done) | (simp [*]; done), by repeat (first | exact Drawn0.refl _ | apply Drawn0.step)⟩
            · rw [if_neg c12] at H
              have c12b0 : (a0 == 5) = false := beq_eq_false_iff_ne.mpr c12
              have c12b1 : (a0 != 5) = true := bne_iff_ne.mpr c12
              obtain rfl := Option.some.inj H
              go_wp2
              go_ret
              exact ⟨by first | rfl | (simp; done) | (simp [*]; done), by repeat (first | exact Drawn0.refl _ | apply Drawn0.step)⟩

/-! ### dovetailref24_Value: function 12 -/
def dovetailref24_Value.j0 : Nat → Int → Int → Int → Int → Int → Bool → Option (Int × Int)
  | 0, _, _, _, _, _, _ => none
  | k + 1, x0, x1, x2, x3, x10, x51 => if x51 = true then ((dovetailref24_near.f x10).bind fun t216 => (if t216 = true then (some (x10, 0)) else (some (0, 61)))) else (if x0 = 16 then ((dovetailref3_Fits.f k 3 (wrap64 (IntKind.u64.wrap ((IntKind.u64.wrap (x1 + (IntKind.u64.wrap (x2)))) - x3)))).bind fun t217 => (if t217 = true then (some (wrap64 (IntKind.u64.wrap ((IntKind.u64.wrap (x1 + (IntKind.u64.wrap (x2)))) - x3)), 0)) else (some (0, 61)))) else (if x0 = 17 then ((dovetailref3_Fits.f k 5 (wrap64 (IntKind.u64.wrap ((IntKind.u64.wrap (x1 + (IntKind.u64.wrap (x2)))) - x3)))).bind fun t218 => (if t218 = true then (some (wrap64 (IntKind.u64.wrap ((IntKind.u64.wrap (x1 + (IntKind.u64.wrap (x2)))) - x3)), 0)) else (some (0, 61)))) else ((dovetailref24_near.f (wrap64 (IntKind.u64.wrap ((IntKind.u64.wrap (x1 + (IntKind.u64.wrap (x2)))) - x3)))).bind fun t219 => (if t219 = true then (some (wrap64 (IntKind.u64.wrap ((IntKind.u64.wrap (x1 + (IntKind.u64.wrap (x2)))) - x3)), 0)) else (some (0, 61))))))
def dovetailref24_Value.f (k : Nat) (a0 : Int) (a1 : Int) (a2 : Int) (a3 : Int) : Option (Int × Int) := (dovetailref9_Known.f a0).bind fun t215 => (if t215 = true then (if a0 = 51 then (some (0, 0)) else (if a0 = 2 then (some (wrap64 (IntKind.u64.wrap (a1 + (IntKind.u64.wrap (a2)))), 0)) else (if a0 = 1 then (if (wrap64 (IntKind.u64.wrap (a1 + (IntKind.u64.wrap (a2))))) ≥ (-2147483648) then (if ((wrap64 (IntKind.u64.wrap (a1 + (IntKind.u64.wrap (a2))))) ≤ 4294967295) then (some (wrap64 (IntKind.u64.wrap (a1 + (IntKind.u64.wrap (a2)))), 0)) else (some (0, 61))) else (some (0, 61))) else (if a0 = 26 then (dovetailref24_Value.j0 k a0 a1 a2 a3 (wrap64 (IntKind.u64.wrap (a1 + (IntKind.u64.wrap (a2))))) (a0 == 26)) else (if a0 = 27 then (dovetailref24_Value.j0 k a0 a1 a2 a3 (wrap64 (IntKind.u64.wrap (a1 + (IntKind.u64.wrap (a2))))) (a0 == 27)) else (dovetailref24_Value.j0 k a0 a1 a2 a3 (wrap64 (IntKind.u64.wrap (a1 + (IntKind.u64.wrap (a2))))) (a0 == 28))))))) else (some (0, 60)))
theorem dovetailref24_Value.mono_l : ∀ k, (∀ y0 y1 y2 y3 y4 y5, LeO (dovetailref24_Value.j0 k y0 y1 y2 y3 y4 y5) (dovetailref24_Value.j0 (k + 1) y0 y1 y2 y3 y4 y5))
  | 0 => fun _ _ _ _ _ _ r h => by simp [dovetailref24_Value.j0] at h
  | k + 1 => by
    have ih0 := dovetailref24_Value.mono_l k
    · intro y0 y1 y2 y3 y4 y5
      unfold dovetailref24_Value.j0
      repeat' first
      | (with_reducible exact ih0 _ _ _ _ _ _)
      | (with_reducible exact dovetailref3_Fits.mono _ _ _)
      | (with_reducible exact LeO.refl _)
      | (with_reducible exact LeO.none _)
      | (with_reducible refine LeO.ite ?_ ?_)
      | (with_reducible refine LeO.bind ?_ (fun _ => ?_))
      | exact ih0 _ _ _ _ _ _
      | exact dovetailref3_Fits.mono _ _ _
      | exact LeO.none _
      | refine LeO.ite ?_ ?_
      | refine LeO.bind ?_ (fun _ => ?_)
theorem dovetailref24_Value.mono : ∀ a0 a1 a2 a3 k, LeO (dovetailref24_Value.f k a0 a1 a2 a3) (dovetailref24_Value.f (k + 1) a0 a1 a2 a3) := by
  intro a0 a1 a2 a3 k
  have ih0 := dovetailref24_Value.mono_l k
  unfold dovetailref24_Value.f
  repeat' first
      | (with_reducible exact ih0 _ _ _ _ _ _)
      | (with_reducible exact dovetailref3_Fits.mono _ _ _)
      | (with_reducible exact LeO.refl _)
      | (with_reducible exact LeO.none _)
      | (with_reducible refine LeO.ite ?_ ?_)
      | (with_reducible refine LeO.bind ?_ (fun _ => ?_))
      | exact ih0 _ _ _ _ _ _
      | exact dovetailref3_Fits.mono _ _ _
      | exact LeO.none _
      | refine LeO.ite ?_ ?_
      | refine LeO.bind ?_ (fun _ => ?_)
set_option maxHeartbeats 8000000 in
set_option maxRecDepth 100000 in
theorem dovetailref24_Value.calls (k : Nat) (a0 : Int) (a1 : Int) (a2 : Int) (a3 : Int) (r1 : Int) (r2 : Int) (w : World) (h : dovetailref24_Value.f k a0 a1 a2 a3 = some (r1, r2)) :
    Calls Try.prog 12 #[.int .u32 a0, .int .u64 a1, .int .i64 a2, .int .u64 a3] w fun e w' => e = .returned (.tuple #[.int .i64 r1, .int .i64 r2]) ∧ Drawn0 w w' := by
  have H : ((dovetailref9_Known.f a0).bind fun t215 => (if t215 = true then (if a0 = 51 then (some (0, 0)) else (if a0 = 2 then (some (wrap64 (IntKind.u64.wrap (a1 + (IntKind.u64.wrap (a2)))), 0)) else (if a0 = 1 then (if (wrap64 (IntKind.u64.wrap (a1 + (IntKind.u64.wrap (a2))))) ≥ (-2147483648) then (if ((wrap64 (IntKind.u64.wrap (a1 + (IntKind.u64.wrap (a2))))) ≤ 4294967295) then (some (wrap64 (IntKind.u64.wrap (a1 + (IntKind.u64.wrap (a2)))), 0)) else (some (0, 61))) else (some (0, 61))) else (if a0 = 26 then (dovetailref24_Value.j0 k a0 a1 a2 a3 (wrap64 (IntKind.u64.wrap (a1 + (IntKind.u64.wrap (a2))))) (a0 == 26)) else (if a0 = 27 then (dovetailref24_Value.j0 k a0 a1 a2 a3 (wrap64 (IntKind.u64.wrap (a1 + (IntKind.u64.wrap (a2))))) (a0 == 27)) else (dovetailref24_Value.j0 k a0 a1 a2 a3 (wrap64 (IntKind.u64.wrap (a1 + (IntKind.u64.wrap (a2))))) (a0 == 28))))))) else (some (0, 60)))) = some (r1, r2) := h
  clear h
  replace H := Option.bind_eq_some_iff.mp H
  obtain ⟨t215, A50, H⟩ := H
  replace H : (if t215 = true then (if a0 = 51 then (some (0, 0)) else (if a0 = 2 then (some (wrap64 (IntKind.u64.wrap (a1 + (IntKind.u64.wrap (a2)))), 0)) else (if a0 = 1 then (if (wrap64 (IntKind.u64.wrap (a1 + (IntKind.u64.wrap (a2))))) ≥ (-2147483648) then (if ((wrap64 (IntKind.u64.wrap (a1 + (IntKind.u64.wrap (a2))))) ≤ 4294967295) then (some (wrap64 (IntKind.u64.wrap (a1 + (IntKind.u64.wrap (a2)))), 0)) else (some (0, 61))) else (some (0, 61))) else (if a0 = 26 then (dovetailref24_Value.j0 k a0 a1 a2 a3 (wrap64 (IntKind.u64.wrap (a1 + (IntKind.u64.wrap (a2))))) (a0 == 26)) else (if a0 = 27 then (dovetailref24_Value.j0 k a0 a1 a2 a3 (wrap64 (IntKind.u64.wrap (a1 + (IntKind.u64.wrap (a2))))) (a0 == 27)) else (dovetailref24_Value.j0 k a0 a1 a2 a3 (wrap64 (IntKind.u64.wrap (a1 + (IntKind.u64.wrap (a2))))) (a0 == 28))))))) else (some (0, 60))) = some (r1, r2) := H
  have A5 := Aside0.mk A50
  clear A50
  by_cases c6 : t215 = true
  · subst c6
    have H1 : (if a0 = 51 then (some (0, 0)) else (if a0 = 2 then (some (wrap64 (IntKind.u64.wrap (a1 + (IntKind.u64.wrap (a2)))), 0)) else (if a0 = 1 then (if (wrap64 (IntKind.u64.wrap (a1 + (IntKind.u64.wrap (a2))))) ≥ (-2147483648) then (if ((wrap64 (IntKind.u64.wrap (a1 + (IntKind.u64.wrap (a2))))) ≤ 4294967295) then (some (wrap64 (IntKind.u64.wrap (a1 + (IntKind.u64.wrap (a2)))), 0)) else (some (0, 61))) else (some (0, 61))) else (if a0 = 26 then (dovetailref24_Value.j0 k a0 a1 a2 a3 (wrap64 (IntKind.u64.wrap (a1 + (IntKind.u64.wrap (a2))))) (a0 == 26)) else (if a0 = 27 then (dovetailref24_Value.j0 k a0 a1 a2 a3 (wrap64 (IntKind.u64.wrap (a1 + (IntKind.u64.wrap (a2))))) (a0 == 27)) else (dovetailref24_Value.j0 k a0 a1 a2 a3 (wrap64 (IntKind.u64.wrap (a1 + (IntKind.u64.wrap (a2))))) (a0 == 28))))))) = some (r1, r2) := by rw [if_pos rfl] at H; exact H
    clear H
    have H := H1
    clear H1
    by_cases c7 : a0 = 51
    · rw [if_pos c7] at H
      have c7b0 : (a0 == 51) = true := beq_iff_eq.mpr c7
      have c7b1 : (a0 != 51) = false := bne_eq_false_iff_eq.mpr c7
      clear c7
      simp only [Option.some.injEq, Prod.mk.injEq] at H
      obtain ⟨rfl, rfl⟩ := H
      go_enter Try.func12, Try.ntmps12
      go_wp2_with (first | ((with_reducible refine gate_callee (f := 20) rfl ?_); refine goesL_ (some 13) rfl rfl Try.func20 (by kernel_rfl) rfl #[.int .u32 a0] rfl (by (try simp only [List.map_toArray, List.map_cons, List.map_nil]); first | done | rfl | (simp only [List.length_drop, List.length_take]; rfl)) ?_; (with_reducible refine (dovetailref9_Known.calls a0 true _ A5.out).mono ?_); rintro e w' ⟨rfl, ⟨nd, rfl⟩⟩; refine ⟨_, rfl, ?_⟩))
      go_ret2
      exact ⟨by first | rfl | (simp; done) | (simp [*]; done), by repeat (first | exact Drawn0.refl _ | apply Drawn0.step)⟩
    · rw [if_neg c7] at H
      have c7b0 : (a0 == 51) = false := beq_eq_false_iff_ne.mpr c7
      have c7b1 : (a0 != 51) = true := bne_iff_ne.mpr c7
      by_cases c8 : a0 = 2
      · rw [if_pos c8] at H
        have c8b0 : (a0 == 2) = true := beq_iff_eq.mpr c8
        have c8b1 : (a0 != 2) = false := bne_eq_false_iff_eq.mpr c8
        clear c8
        simp only [Option.some.injEq, Prod.mk.injEq] at H
        obtain ⟨rfl, rfl⟩ := H
        go_enter Try.func12, Try.ntmps12
        go_wp2_with (first | ((with_reducible refine gate_callee (f := 20) rfl ?_); refine goesL_ (some 13) rfl rfl Try.func20 (by kernel_rfl) rfl #[.int .u32 a0] rfl (by (try simp only [List.map_toArray, List.map_cons, List.map_nil]); first | done | rfl | (simp only [List.length_drop, List.length_take]; rfl)) ?_; (with_reducible refine (dovetailref9_Known.calls a0 true _ A5.out).mono ?_); rintro e w' ⟨rfl, ⟨nd, rfl⟩⟩; refine ⟨_, rfl, ?_⟩))
        go_ret2
        exact ⟨by first | rfl | (simp; done) | (simp [*]; done), by repeat (first | exact Drawn0.refl _ | apply Drawn0.step)⟩
      · rw [if_neg c8] at H
        have c8b0 : (a0 == 2) = false := beq_eq_false_iff_ne.mpr c8
        have c8b1 : (a0 != 2) = true := bne_iff_ne.mpr c8
        by_cases c9 : a0 = 1
        · rw [if_pos c9] at H
          have c9b0 : (a0 == 1) = true := beq_iff_eq.mpr c9
          have c9b1 : (a0 != 1) = false := bne_eq_false_iff_eq.mpr c9
          clear c9
          by_cases c10 : (wrap64 (IntKind.u64.wrap (a1 + (IntKind.u64.wrap (a2))))) ≥ (-2147483648)
          · rw [if_pos c10] at H
            have c10b0 : decide ((-2147483648) ≤ (wrap64 (IntKind.u64.wrap (a1 + (IntKind.u64.wrap (a2)))))) = true := decide_eq_true c10
            clear c10
            by_cases c11 : ((wrap64 (IntKind.u64.wrap (a1 + (IntKind.u64.wrap (a2))))) ≤ 4294967295)
            · rw [if_pos c11] at H
              have c11b0 : decide ((wrap64 (IntKind.u64.wrap (a1 + (IntKind.u64.wrap (a2))))) ≤ 4294967295) = true := decide_eq_true c11
              clear c11
              simp only [Option.some.injEq, Prod.mk.injEq] at H
              obtain ⟨rfl, rfl⟩ := H
              go_enter Try.func12, Try.ntmps12
              go_wp2_with (first | ((with_reducible refine gate_callee (f := 20) rfl ?_); refine goesL_ (some 13) rfl rfl Try.func20 (by kernel_rfl) rfl #[.int .u32 a0] rfl (by (try simp only [List.map_toArray, List.map_cons, List.map_nil]); first | done | rfl | (simp only [List.length_drop, List.length_take]; rfl)) ?_; (with_reducible refine (dovetailref9_Known.calls a0 true _ A5.out).mono ?_); rintro e w' ⟨rfl, ⟨nd, rfl⟩⟩; refine ⟨_, rfl, ?_⟩))
              go_ret2
              exact ⟨by first | rfl | (simp; done) | (simp [*]; done), by repeat (first | exact Drawn0.refl _ | apply Drawn0.step)⟩
            · rw [if_neg c11] at H
              have c11b0 : decide ((wrap64 (IntKind.u64.wrap (a1 + (IntKind.u64.wrap (a2))))) ≤ 4294967295) = false := decide_eq_false c11
              clear c11
              simp only [Option.some.injEq, Prod.mk.injEq] at H
              obtain ⟨rfl, rfl⟩ := H
              go_enter Try.func12, Try.ntmps12
              go_wp2_with (first | ((with_reducible refine gate_callee (f := 20) rfl ?_); refine goesL_ (some 13) rfl rfl Try.func20 (by kernel_rfl) rfl #[.int .u32 a0] rfl (by (try simp only [List.map_toArray, List.map_cons, List.map_nil]); first | done | rfl | (simp only [List.length_drop, List.length_take]; rfl)) ?_; (with_reducible refine (dovetailref9_Known.calls a0 true _ A5.out).mono ?_); rintro e w' ⟨rfl, ⟨nd, rfl⟩⟩; refine ⟨_, rfl, ?_⟩))
              go_ret2
              exact ⟨by first | rfl | (simp; done) | (simp [*]; done), by repeat (first | exact Drawn0.refl _ | apply Drawn0.step)⟩
          · rw [if_neg c10] at H
            have c10b0 : decide ((-2147483648) ≤ (wrap64 (IntKind.u64.wrap (a1 + (IntKind.u64.wrap (a2)))))) = false := decide_eq_false c10
            clear c10
            simp only [Option.some.injEq, Prod.mk.injEq] at H
            obtain ⟨rfl, rfl⟩ := H
            go_enter Try.func12, Try.ntmps12
            go_wp2_with (first | ((with_reducible refine gate_callee (f := 20) rfl ?_); refine goesL_ (some 13) rfl rfl Try.func20 (by kernel_rfl) rfl #[.int .u32 a0] rfl (by (try simp only [List.map_toArray, List.map_cons, List.map_nil]); first | done | rfl | (simp only [List.length_drop, List.length_take]; rfl)) ?_; (with_reducible refine (dovetailref9_Known.calls a0 true _ A5.out).mono ?_); rintro e w' ⟨rfl, ⟨nd, rfl⟩⟩; refine ⟨_, rfl, ?_⟩))
            go_ret2
            exact ⟨by first | rfl | (simp; done) | (simp [*]; done), by repeat (first | exact Drawn0.refl _ | apply Drawn0.step)⟩
        · rw [if_neg c9] at H
          have c9b0 : (a0 == 1) = false := beq_eq_false_iff_ne.mpr c9
          have c9b1 : (a0 != 1) = true := bne_iff_ne.mpr c9
          have HC12 := Aside0.mk H
          clear H
          go_enter Try.func12, Try.ntmps12
          go_upto_if 51 with (first | ((with_reducible refine gate_callee (f := 20) rfl ?_); refine goesL_ (some 13) rfl rfl Try.func20 (by kernel_rfl) rfl #[.int .u32 a0] rfl (by (try simp only [List.map_toArray, List.map_cons, List.map_nil]); first | done | rfl | (simp only [List.length_drop, List.length_take]; rfl)) ?_; (with_reducible refine (dovetailref9_Known.calls a0 true _ A5.out).mono ?_); rintro e w' ⟨rfl, ⟨nd, rfl⟩⟩; refine ⟨_, rfl, ?_⟩))
          (try simp only [Act.put, List.setIfInBounds_toArray, List.set_cons_zero, List.set_cons_succ])
          go_cut [51] (fun v51 wc => ∃ (kq : Nat) (x51_11 : Bool), v51 = .bool x51_11 ∧ Aside0 (dovetailref24_Value.j0 kq a0 a1 a2 a3 (wrap64 (IntKind.u64.wrap (a1 + (IntKind.u64.wrap (a2))))) x51_11 = some (r1, r2)) ∧ Aside0 (kq ≤ k) ∧ Drawn0 w wc)
          case first =>
            have H := HC12.out
            clear HC12
            by_cases c13 : a0 = 26
            · rw [if_pos c13] at H
              have c13b0 : (a0 == 26) = true := beq_iff_eq.mpr c13
              have c13b1 : (a0 != 26) = false := bne_eq_false_iff_eq.mpr c13
              clear c13
              (first | rw [c13b0] | (simp only [i64_w, i32_w]; rw [c13b0]) | skip)
              have H' := Aside0.mk H
              clear H
              go_wp2
              go_meet
              case rel => exact ⟨_, ((a0 == 26)), (by first | rfl | (simp; done) | (simp [*]; done)), H', ⟨by first | omega | exact Nat.le_refl _⟩, by repeat (first | exact Drawn0.refl _ | apply Drawn0.step)⟩
            · rw [if_neg c13] at H
              have c13b0 : (a0 == 26) = false := beq_eq_false_iff_ne.mpr c13
              have c13b1 : (a0 != 26) = true := bne_iff_ne.mpr c13
              (first | rw [c13b0] | (simp only [i64_w, i32_w]; rw [c13b0]) | skip)
              by_cases c14 : a0 = 27
              · rw [if_pos c14] at H
                have c14b0 : (a0 == 27) = true := beq_iff_eq.mpr c14
                have c14b1 : (a0 != 27) = false := bne_eq_false_iff_eq.mpr c14
                clear c14
                have H' := Aside0.mk H
                clear H
                go_wp2
                go_meet
                case rel => exact ⟨_, ((a0 == 27)), (by first | rfl | (simp; done) | (simp [*]; done)), H', ⟨by first | omega | exact Nat.le_refl _⟩, by repeat (first | exact Drawn0.refl _ | apply Drawn0.step)⟩
              · rw [if_neg c14] at H
                have c14b0 : (a0 == 27) = false := beq_eq_false_iff_ne.mpr c14
                have c14b1 : (a0 != 27) = true := bne_iff_ne.mpr c14
                have H' := Aside0.mk H
                clear H
                go_wp2
                go_meet
                case rel => exact ⟨_, ((a0 == 28)), (by first | rfl | (simp; done) | (simp [*]; done)), H', ⟨by first | omega | exact Nat.le_refl _⟩, by repeat (first | exact Drawn0.refl _ | apply Drawn0.step)⟩
          case rest =>
            clear HC12
            try clear c1
            try clear c2
            try clear p2
            try clear c6
            try clear p6
            try clear c7
            try clear c7b0
            try clear c7b1
            try clear c8
            try clear c8b0
            try clear c8b1
            try clear c9
            try clear c9b0
            try clear c9b1
            try clear c10
            try clear c10b0
            try clear c11
            try clear c11b0
            try clear c12
            try clear c13
            try clear c13b0
            try clear c13b1
            try clear c14
            try clear c14b0
            try clear c14b1
            obtain ⟨kq, x51_11, rfl, HA, HJ11, ⟨mc11, rfl⟩⟩ := hcut
            cases kq with
            | zero => exact absurd HA.out (by simp [dovetailref24_Value.j0])
            | succ kj11 =>
              have H := HA.out
              clear HA
              simp only [dovetailref24_Value.j0] at H
              by_cases c15 : x51_11 = true
              · subst c15
                have H1 : ((dovetailref24_near.f (wrap64 (IntKind.u64.wrap (a1 + (IntKind.u64.wrap (a2)))))).bind fun t216 => (if t216 = true then (some ((wrap64 (IntKind.u64.wrap (a1 + (IntKind.u64.wrap (a2))))), 0)) else (some (0, 61)))) = some (r1, r2) := by rw [if_pos rfl] at H; exact H
                clear H
                have H := H1
                clear H1
                replace H := Option.bind_eq_some_iff.mp H
                obtain ⟨t216, A160, H⟩ := H
                replace H : (if t216 = true then (some ((wrap64 (IntKind.u64.wrap (a1 + (IntKind.u64.wrap (a2))))), 0)) else (some (0, 61))) = some (r1, r2) := H
                have A16 := Aside0.mk A160
                clear A160
                by_cases c17 : t216 = true
                · subst c17
                  have H1 : (some ((wrap64 (IntKind.u64.wrap (a1 + (IntKind.u64.wrap (a2))))), 0)) = some (r1, r2) := by rw [if_pos rfl] at H; exact H
                  clear H
                  have H := H1
                  clear H1
                  simp only [Option.some.injEq, Prod.mk.injEq] at H
                  obtain ⟨rfl, rfl⟩ := H
                  go_wp2_with (first | ((with_reducible refine gate_callee (f := 23) rfl ?_); refine goesL_ (some 56) rfl rfl Try.func23 (by kernel_rfl) rfl #[.int .i64 (wrap64 (IntKind.u64.wrap (a1 + (IntKind.u64.wrap (a2)))))] rfl (by (try simp only [List.map_toArray, List.map_cons, List.map_nil]); first | done | rfl | (simp only [List.length_drop, List.length_take]; rfl)) ?_; (with_reducible refine (dovetailref24_near.calls (wrap64 (IntKind.u64.wrap (a1 + (IntKind.u64.wrap (a2))))) true _ A16.out).mono ?_); rintro e w' ⟨rfl, ⟨nd, rfl⟩⟩; refine ⟨_, rfl, ?_⟩))
                  go_ret2
                  exact ⟨by first | rfl | (simp; done) | (simp [*]; done), by repeat (first | exact Drawn0.refl _ | apply Drawn0.step)⟩
                · replace c17 := Bool.eq_false_iff.mpr c17
                  subst c17
                  have H1 : (some (0, 61)) = some (r1, r2) := by rw [if_neg (show ¬ (false = true) by decide)] at H; exact H
                  clear H
                  have H := H1
                  clear H1
                  simp only [Option.some.injEq, Prod.mk.injEq] at H
                  obtain ⟨rfl, rfl⟩ := H
                  go_wp2_with (first | ((with_reducible refine gate_callee (f := 23) rfl ?_); refine goesL_ (some 56) rfl rfl Try.func23 (by kernel_rfl) rfl #[.int .i64 (wrap64 (IntKind.u64.wrap (a1 + (IntKind.u64.wrap (a2)))))] rfl (by (try simp only [List.map_toArray, List.map_cons, List.map_nil]); first | done | rfl | (simp only [List.length_drop, List.length_take]; rfl)) ?_; (with_reducible refine (dovetailref24_near.calls (wrap64 (IntKind.u64.wrap (a1 + (IntKind.u64.wrap (a2))))) false _ A16.out).mono ?_); rintro e w' ⟨rfl, ⟨nd, rfl⟩⟩; refine ⟨_, rfl, ?_⟩))
                  go_ret2
                  exact ⟨by first | rfl | (simp; done) | (simp [*]; done), by repeat (first | exact Drawn0.refl _ | apply Drawn0.step)⟩
              · replace c15 := Bool.eq_false_iff.mpr c15
                subst c15
                have H1 : (if a0 = 16 then ((dovetailref3_Fits.f kj11 3 (wrap64 (IntKind.u64.wrap ((IntKind.u64.wrap (a1 + (IntKind.u64.wrap (a2)))) - a3)))).bind fun t217 => (if t217 = true then (some (wrap64 (IntKind.u64.wrap ((IntKind.u64.wrap (a1 + (IntKind.u64.wrap (a2)))) - a3)), 0)) else (some (0, 61)))) else (if a0 = 17 then ((dovetailref3_Fits.f kj11 5 (wrap64 (IntKind.u64.wrap ((IntKind.u64.wrap (a1 + (IntKind.u64.wrap (a2)))) - a3)))).bind fun t218 => (if t218 = true then (some (wrap64 (IntKind.u64.wrap ((IntKind.u64.wrap (a1 + (IntKind.u64.wrap (a2)))) - a3)), 0)) else (some (0, 61)))) else ((dovetailref24_near.f (wrap64 (IntKind.u64.wrap ((IntKind.u64.wrap (a1 + (IntKind.u64.wrap (a2)))) - a3)))).bind fun t219 => (if t219 = true then (some (wrap64 (IntKind.u64.wrap ((IntKind.u64.wrap (a1 + (IntKind.u64.wrap (a2)))) - a3)), 0)) else (some (0, 61)))))) = some (r1, r2) := by rw [if_neg (show ¬ (false = true) by decide)] at H; exact H
                clear H
                have H := H1
                clear H1
                by_cases c18 : a0 = 16
                · rw [if_pos c18] at H
                  have c18b0 : (a0 == 16) = true := beq_iff_eq.mpr c18
                  have c18b1 : (a0 != 16) = false := bne_eq_false_iff_eq.mpr c18
                  clear c18
                  replace H := Option.bind_eq_some_iff.mp H
                  obtain ⟨t217, A190, H⟩ := H
                  replace H : (if t217 = true then (some (wrap64 (IntKind.u64.wrap ((IntKind.u64.wrap (a1 + (IntKind.u64.wrap (a2)))) - a3)), 0)) else (some (0, 61))) = some (r1, r2) := H
                  have A19 := Aside0.mk A190
                  clear A190
                  by_cases c20 : t217 = true
                  · subst c20
                    have H1 : (some (wrap64 (IntKind.u64.wrap ((IntKind.u64.wrap (a1 + (IntKind.u64.wrap (a2)))) - a3)), 0)) = some (r1, r2) := by rw [if_pos rfl] at H; exact H
                    clear H
                    have H := H1
                    clear H1
                    simp only [Option.some.injEq, Prod.mk.injEq] at H
                    obtain ⟨rfl, rfl⟩ := H
                    go_wp2_with (first | ((with_reducible refine gate_callee (f := 24) rfl ?_); refine goesL_ (some 34) rfl rfl Try.func24 (by kernel_rfl) rfl #[.int .i64 3, .int .i64 (wrap64 (IntKind.u64.wrap ((IntKind.u64.wrap (a1 + (IntKind.u64.wrap (a2)))) - a3)))] rfl (by (try simp only [List.map_toArray, List.map_cons, List.map_nil]); first | done | rfl | (simp only [List.length_drop, List.length_take]; rfl)) ?_; (with_reducible refine (dovetailref3_Fits.calls kj11 3 (wrap64 (IntKind.u64.wrap ((IntKind.u64.wrap (a1 + (IntKind.u64.wrap (a2)))) - a3))) true _ A19.out).mono ?_); rintro e w' ⟨rfl, ⟨nd, rfl⟩⟩; refine ⟨_, rfl, ?_⟩))
                    go_ret2
                    exact ⟨by first | rfl | (simp; done) | (simp [*]; done), by repeat (first | exact Drawn0.refl _ | apply Drawn0.step)⟩
                  · replace c20 := Bool.eq_false_iff.mpr c20
                    subst c20
                    have H1 : (some (0, 61)) = some (r1, r2) := by rw [if_neg (show ¬ (false = true) by decide)] at H; exact H
                    clear H
                    have H := H1
                    clear H1
                    simp only [Option.some.injEq, Prod.mk.injEq] at H
                    obtain ⟨rfl, rfl⟩ := H
                    go_wp2_with (first | ((with_reducible refine gate_callee (f := 24) rfl ?_); refine goesL_ (some 34) rfl rfl Try.func24 (by kernel_rfl) rfl #[.int .i64 3, .int .i64 (wrap64 (IntKind.u64.wrap ((IntKind.u64.wrap (a1 + (IntKind.u64.wrap (a2)))) - a3)))] rfl (by (try simp only [List.map_toArray, List.map_cons, List.map_nil]); first | done | rfl | (simp only [List.length_drop, List.length_take]; rfl)) ?_; (with_reducible refine (dovetailref3_Fits.calls kj11 3 (wrap64 (IntKind.u64.wrap ((IntKind.u64.wrap (a1 + (IntKind.u64.wrap (a2)))) - a3))) false _ A19.out).mono ?_); rintro e w' ⟨rfl, ⟨nd, rfl⟩⟩; refine ⟨_, rfl, ?_⟩))
                    go_ret2
                    exact ⟨by first | rfl | (simp; done) | (simp [*]; done), by repeat (first | exact Drawn0.refl _ | apply Drawn0.step)⟩
                · rw [if_neg c18] at H
                  have c18b0 : (a0 == 16) = false := beq_eq_false_iff_ne.mpr c18
                  have c18b1 : (a0 != 16) = true := bne_iff_ne.mpr c18
                  by_cases c21 : a0 = 17
                  · rw [if_pos c21] at H
                    have c21b0 : (a0 == 17) = true := beq_iff_eq.mpr c21
                    have c21b1 : (a0 != 17) = false := bne_eq_false_iff_eq.mpr c21
                    clear c21
                    replace H := Option.bind_eq_some_iff.mp H
                    obtain ⟨t218, A220, H⟩ := H
                    replace H : (if t218 = true then (some (wrap64 (IntKind.u64.wrap ((IntKind.u64.wrap (a1 + (IntKind.u64.wrap (a2)))) - a3)), 0)) else (some (0, 61))) = some (r1, r2) := H
                    have A22 := Aside0.mk A220
                    clear A220
                    by_cases c23 : t218 = true
                    · subst c23
                      have H1 : (some (wrap64 (IntKind.u64.wrap ((IntKind.u64.wrap (a1 + (IntKind.u64.wrap (a2)))) - a3)), 0)) = some (r1, r2) := by rw [if_pos rfl] at H; exact H
                      clear H
                      have H := H1
                      clear H1
                      simp only [Option.some.injEq, Prod.mk.injEq] at H
                      obtain ⟨rfl, rfl⟩ := H
                      go_wp2_with (first | ((with_reducible refine gate_callee (f := 24) rfl ?_); refine goesL_ (some 38) rfl rfl Try.func24 (by kernel_rfl) rfl #[.int .i64 5, .int .i64 (wrap64 (IntKind.u64.wrap ((IntKind.u64.wrap (a1 + (IntKind.u64.wrap (a2)))) - a3)))] rfl (by (try simp only [List.map_toArray, List.map_cons, List.map_nil]); first | done | rfl | (simp only [List.length_drop, List.length_take]; rfl)) ?_; (with_reducible refine (dovetailref3_Fits.calls kj11 5 (wrap64 (IntKind.u64.wrap ((IntKind.u64.wrap (a1 + (IntKind.u64.wrap (a2)))) - a3))) true _ A22.out).mono ?_); rintro e w' ⟨rfl, ⟨nd, rfl⟩⟩; refine ⟨_, rfl, ?_⟩))
                      go_ret2
                      exact ⟨by first | rfl | (simp; done) | (simp [*]; done), by repeat (first | exact Drawn0.refl _ | apply Drawn0.step)⟩
                    · replace c23 := Bool.eq_false_iff.mpr c23
                      subst c23
                      have H1 : (some (0, 61)) = some (r1, r2) := by rw [if_neg (show ¬ (false = true) by decide)] at H; exact H
                      clear H
                      have H := H1
                      clear H1
                      simp only [Option.some.injEq, Prod.mk.injEq] at H
                      obtain ⟨rfl, rfl⟩ := H
                      go_wp2_with (first | ((with_reducible refine gate_callee (f := 24) rfl ?_); refine goesL_ (some 38) rfl rfl Try.func24 (by kernel_rfl) rfl #[.int .i64 5, .int .i64 (wrap64 (IntKind.u64.wrap ((IntKind.u64.wrap (a1 + (IntKind.u64.wrap (a2)))) - a3)))] rfl (by (try simp only [List.map_toArray, List.map_cons, List.map_nil]); first | done | rfl | (simp only [List.length_drop, List.length_take]; rfl)) ?_; (with_reducible refine (dovetailref3_Fits.calls kj11 5 (wrap64 (IntKind.u64.wrap ((IntKind.u64.wrap (a1 + (IntKind.u64.wrap (a2)))) - a3))) false _ A22.out).mono ?_); rintro e w' ⟨rfl, ⟨nd, rfl⟩⟩; refine ⟨_, rfl, ?_⟩))
                      go_ret2
                      exact ⟨by first | rfl | (simp; done) | (simp [*]; done), by repeat (first | exact Drawn0.refl _ | apply Drawn0.step)⟩
                  · rw [if_neg c21] at H
                    have c21b0 : (a0 == 17) = false := beq_eq_false_iff_ne.mpr c21
                    have c21b1 : (a0 != 17) = true := bne_iff_ne.mpr c21
                    replace H := Option.bind_eq_some_iff.mp H
                    obtain ⟨t219, A240, H⟩ := H
                    replace H : (if t219 = true then (some (wrap64 (IntKind.u64.wrap ((IntKind.u64.wrap (a1 + (IntKind.u64.wrap (a2)))) - a3)), 0)) else (some (0, 61))) = some (r1, r2) := H
                    have A24 := Aside0.mk A240
                    clear A240
                    by_cases c25 : t219 = true
                    · subst c25
                      have H1 : (some (wrap64 (IntKind.u64.wrap ((IntKind.u64.wrap (a1 + (IntKind.u64.wrap (a2)))) - a3)), 0)) = some (r1, r2) := by rw [if_pos rfl] at H; exact H
                      clear H
                      have H := H1
                      clear H1
                      simp only [Option.some.injEq, Prod.mk.injEq] at H
                      obtain ⟨rfl, rfl⟩ := H
                      go_wp2_with (first | ((with_reducible refine gate_callee (f := 23) rfl ?_); refine goesL_ (some 30) rfl rfl Try.func23 (by kernel_rfl) rfl #[.int .i64 (wrap64 (IntKind.u64.wrap ((IntKind.u64.wrap (a1 + (IntKind.u64.wrap (a2)))) - a3)))] rfl (by (try simp only [List.map_toArray, List.map_cons, List.map_nil]); first | done | rfl | (simp only [List.length_drop, List.length_take]; rfl)) ?_; (with_reducible refine (dovetailref24_near.calls (wrap64 (IntKind.u64.wrap ((IntKind.u64.wrap (a1 + (IntKind.u64.wrap (a2)))) - a3))) true _ A24.out).mono ?_); rintro e w' ⟨rfl, ⟨nd, rfl⟩⟩; refine ⟨_, rfl, ?_⟩))
                      go_ret2
                      exact ⟨by first | rfl | (simp; done) | (simp [*]; done), by repeat (first | exact Drawn0.refl _ | apply Drawn0.step)⟩
                    · replace c25 := Bool.eq_false_iff.mpr c25
                      subst c25
                      have H1 : (some (0, 61)) = some (r1, r2) := by rw [if_neg (show ¬ (false = true) by decide)] at H; exact H
                      clear H
                      have H := H1
                      clear H1
                      simp only [Option.some.injEq, Prod.mk.injEq] at H
                      obtain ⟨rfl, rfl⟩ := H
                      go_wp2_with (first | ((with_reducible refine gate_callee (f := 23) rfl ?_); refine goesL_ (some 30) rfl rfl Try.func23 (by kernel_rfl) rfl #[.int .i64 (wrap64 (IntKind.u64.wrap ((IntKind.u64.wrap (a1 + (IntKind.u64.wrap (a2)))) - a3)))] rfl (by (try simp only [List.map_toArray, List.map_cons, List.map_nil]); first | done | rfl | (simp only [List.length_drop, List.length_take]; rfl)) ?_; (with_reducible refine (dovetailref24_near.calls (wrap64 (IntKind.u64.wrap ((IntKind.u64.wrap (a1 + (IntKind.u64.wrap (a2)))) - a3))) false _ A24.out).mono ?_); rintro e w' ⟨rfl, ⟨nd, rfl⟩⟩; refine ⟨_, rfl, ?_⟩))
                      go_ret2
                      exact ⟨by first | rfl | (simp; done) | (simp [*]; done), by repeat (first | exact Drawn0.refl _ | apply Drawn0.step)⟩
  · replace c6 := Bool.eq_false_iff.mpr c6
    subst c6
    have H1 : (some (0, 60)) = some (r1, r2) := by rw [if_neg (show ¬ (false = true) by decide)] at H; exact H
    clear H
    have H := H1
    clear H1
    simp only [Option.some.injEq, Prod.mk.injEq] at H
    obtain ⟨rfl, rfl⟩ := H
    go_enter Try.func12, Try.ntmps12
    go_wp2_with (first | ((with_reducible refine gate_callee (f := 20) rfl ?_); refine goesL_ (some 13) rfl rfl Try.func20 (by kernel_rfl) rfl #[.int .u32 a0] rfl (by (try simp only [List.map_toArray, List.map_cons, List.map_nil]); first | done | rfl | (simp only [List.length_drop, List.length_take]; rfl)) ?_; (with_reducible refine (dovetailref9_Known.calls a0 false _ A5.out).mono ?_); rintro e w' ⟨rfl, ⟨nd, rfl⟩⟩; refine ⟨_, rfl, ?_⟩))
    go_ret2
    exact ⟨by first | rfl | (simp; done) | (simp [*]; done), by repeat (first | exact Drawn0.refl _ | apply Drawn0.step)⟩

end Go.Proofs.Ytooleipgpkjpjaa.QRelocValues
