/- Contracts of what a law reaches, each function as a plain Lean function: written by a program of this claim's repo (myprint.py); conditions: those of each theorem. -/
import Derived.Test.YtooleipgpkjpjaaQRelocValuesx0
import Derived.Test.YtooleipgpkjpjaaQRelocValuesx1
import Derived.Test.YtooleipgpkjpjaaQRelocValuesx2
import Derived.Test.YtooleipgpkjpjaaQRelocValuesx4
import Derived.Test.YtooleipgpkjpjaaQRelocValuesx5
namespace Go.Proofs.Ytooleipgpkjpjaa.QRelocValues
open Go.Proofs.Ytooleipgpkjpjaa.Man
open Go.RowKit Go.Proofs.YtooleipgpkjpjaaW.PrintWords Go.Proofs.YtooleipgpkjpjaaW.PrintLast Go.Proofs.YtooleipgpkjpjaaW.PrintMore
attribute [local go_sem] max2_int min2_int max_two min_two max_three min_three max_four min_four   -- for this text's walks alone
set_option linter.unusedVariables false
set_option linter.unusedSimpArgs false

/-! ### dovetailref24_Field: function 14 -/
mutual
def dovetailref24_Field.j0 : Nat → Int → Bool → Option (ByteArray)
  | 0, _, _ => none
  | k + 1, x3, x12 => if x12 = true then (some (⟨#[99, 97, 108, 108]⟩ : ByteArray)) else (if x3 = 26 then (dovetailref24_Field.j1 k x3 (x3 == 26)) else (dovetailref24_Field.j1 k x3 (x3 == 23)))
def dovetailref24_Field.j1 : Nat → Int → Bool → Option (ByteArray)
  | 0, _, _ => none
  | k + 1, x3, x15 => if x15 = true then (some (⟨#[85]⟩ : ByteArray)) else (if x3 = 27 then (dovetailref24_Field.j2 k x3 (x3 == 27)) else (dovetailref24_Field.j2 k x3 (x3 == 24)))
def dovetailref24_Field.j2 : Nat → Int → Bool → Option (ByteArray)
  | 0, _, _ => none
  | k + 1, x3, x18 => if x18 = true then (some (⟨#[73]⟩ : ByteArray)) else (if x3 = 28 then (some (⟨#[83]⟩ : ByteArray)) else (if x3 = 25 then (some (⟨#[83]⟩ : ByteArray)) else (some (⟨#[]⟩ : ByteArray))))
end
def dovetailref24_Field.f (k : Nat) (a0 : Int) : Option (ByteArray) := if a0 = 1 then (some (⟨#[119, 111, 114, 100, 51, 50]⟩ : ByteArray)) else (if a0 = 2 then (some (⟨#[119, 111, 114, 100, 54, 52]⟩ : ByteArray)) else (if a0 = 16 then (some (⟨#[66]⟩ : ByteArray)) else (if a0 = 17 then (some (⟨#[74]⟩ : ByteArray)) else (if a0 = 18 then (dovetailref24_Field.j0 k a0 (a0 == 18)) else (dovetailref24_Field.j0 k a0 (a0 == 19))))))
theorem dovetailref24_Field.mono_l : ∀ k, (∀ y0 y1, LeO (dovetailref24_Field.j0 k y0 y1) (dovetailref24_Field.j0 (k + 1) y0 y1)) ∧ (∀ y0 y1, LeO (dovetailref24_Field.j1 k y0 y1) (dovetailref24_Field.j1 (k + 1) y0 y1)) ∧ (∀ y0 y1, LeO (dovetailref24_Field.j2 k y0 y1) (dovetailref24_Field.j2 (k + 1) y0 y1))
  | 0 => ⟨fun _ _ r h => by simp [dovetailref24_Field.j0] at h, fun _ _ r h => by simp [dovetailref24_Field.j1] at h, fun _ _ r h => by simp [dovetailref24_Field.j2] at h⟩
  | k + 1 => by
    obtain ⟨ih0, ih1, ih2⟩ := dovetailref24_Field.mono_l k
    refine ⟨?_, ?_, ?_⟩
    · intro y0 y1
      unfold dovetailref24_Field.j0
      repeat' first
      | (with_reducible exact ih0 _ _)
      | (with_reducible exact ih1 _ _)
      | (with_reducible exact ih2 _ _)
      | (with_reducible exact LeO.refl _)
      | (with_reducible exact LeO.none _)
      | (with_reducible refine LeO.ite ?_ ?_)
      | (with_reducible refine LeO.bind ?_ (fun _ => ?_))
      | exact ih0 _ _
      | exact ih1 _ _
      | exact ih2 _ _
      | exact LeO.none _
      | refine LeO.ite ?_ ?_
      | refine LeO.bind ?_ (fun _ => ?_)
    · intro y0 y1
      unfold dovetailref24_Field.j1
      repeat' first
      | (with_reducible exact ih0 _ _)
      | (with_reducible exact ih1 _ _)
      | (with_reducible exact ih2 _ _)
      | (with_reducible exact LeO.refl _)
      | (with_reducible exact LeO.none _)
      | (with_reducible refine LeO.ite ?_ ?_)
      | (with_reducible refine LeO.bind ?_ (fun _ => ?_))
      | exact ih0 _ _
      | exact ih1 _ _
      | exact ih2 _ _
      | exact LeO.none _
      | refine LeO.ite ?_ ?_
      | refine LeO.bind ?_ (fun _ => ?_)
    · intro y0 y1
      unfold dovetailref24_Field.j2
      repeat' first
      | (with_reducible exact ih0 _ _)
      | (with_reducible exact ih1 _ _)
      | (with_reducible exact ih2 _ _)
      | (with_reducible exact LeO.refl _)
      | (with_reducible exact LeO.none _)
      | (with_reducible refine LeO.ite ?_ ?_)
      | (with_reducible refine LeO.bind ?_ (fun _ => ?_))
      | exact ih0 _ _
      | exact ih1 _ _
      | exact ih2 _ _
      | exact LeO.none _
      | refine LeO.ite ?_ ?_
      | refine LeO.bind ?_ (fun _ => ?_)
theorem dovetailref24_Field.mono : ∀ a0 k, LeO (dovetailref24_Field.f k a0) (dovetailref24_Field.f (k + 1) a0) := by
  intro a0 k
  obtain ⟨ih0, ih1, ih2⟩ := dovetailref24_Field.mono_l k
  unfold dovetailref24_Field.f
  repeat' first
      | (with_reducible exact ih0 _ _)
      | (with_reducible exact ih1 _ _)
      | (with_reducible exact ih2 _ _)
      | (with_reducible exact LeO.refl _)
      | (with_reducible exact LeO.none _)
      | (with_reducible refine LeO.ite ?_ ?_)
      | (with_reducible refine LeO.bind ?_ (fun _ => ?_))
      | exact ih0 _ _
      | exact ih1 _ _
      | exact ih2 _ _
      | exact LeO.none _
      | refine LeO.ite ?_ ?_
      | refine LeO.bind ?_ (fun _ => ?_)
set_option maxHeartbeats 8000000 in
set_option maxRecDepth 100000 in
theorem dovetailref24_Field.calls (k : Nat) (a0 : Int) (r : ByteArray) (w : World) (h : dovetailref24_Field.f k a0 = some r) :
    Calls Try.prog 14 #[.int .u32 a0] w fun e w' => e = .returned (.string r) ∧ Drawn0 w w' := by
  have H : (if a0 = 1 then (some (⟨#[119, 111, 114, 100, 51, 50]⟩ : ByteArray)) else (if a0 = 2 then (some (⟨#[119, 111, 114, 100, 54, 52]⟩ : ByteArray)) else (if a0 = 16 then (some (⟨#[66]⟩ : ByteArray)) else (if a0 = 17 then (some (⟨#[74]⟩ : ByteArray)) else (if a0 = 18 then (dovetailref24_Field.j0 k a0 (a0 == 18)) else (dovetailref24_Field.j0 k a0 (a0 == 19))))))) = some r := h
  clear h
  by_cases c2 : a0 = 1
  · rw [if_pos c2] at H
    have c2b0 : (a0 == 1) = true := beq_iff_eq.mpr c2
    have c2b1 : (a0 != 1) = false := bne_eq_false_iff_eq.mpr c2
    clear c2
    obtain rfl := Option.some.inj H
    go_enter Try.func14, Try.ntmps14
    go_wp2
    go_ret
    exact ⟨by first | rfl | (simp; done) | (simp [*]; done), by repeat (first | exact Drawn0.refl _ | apply Drawn0.step)⟩
  · rw [if_neg c2] at H
    have c2b0 : (a0 == 1) = false := beq_eq_false_iff_ne.mpr c2
    have c2b1 : (a0 != 1) = true := bne_iff_ne.mpr c2
    by_cases c3 : a0 = 2
    · rw [if_pos c3] at H
      have c3b0 : (a0 == 2) = true := beq_iff_eq.mpr c3
      have c3b1 : (a0 != 2) = false := bne_eq_false_iff_eq.mpr c3
      clear c3
      obtain rfl := Option.some.inj H
      go_enter Try.func14, Try.ntmps14
      go_wp2
      go_ret
      exact ⟨by first | rfl | (simp; done) | (simp [*]; done), by repeat (first | exact Drawn0.refl _ | apply Drawn0.step)⟩
    · rw [if_neg c3] at H
      have c3b0 : (a0 == 2) = false := beq_eq_false_iff_ne.mpr c3
      have c3b1 : (a0 != 2) = true := bne_iff_ne.mpr c3
      by_cases c4 : a0 = 16
      · rw [if_pos c4] at H
        have c4b0 : (a0 == 16) = true := beq_iff_eq.mpr c4
        have c4b1 : (a0 != 16) = false := bne_eq_false_iff_eq.mpr c4
        clear c4
        obtain rfl := Option.some.inj H
        go_enter Try.func14, Try.ntmps14
        go_wp2
        go_ret
        exact ⟨by first | rfl | (simp; done) | (simp [*]; done), by repeat (first | exact Drawn0.refl _ | apply Drawn0.step)⟩
      · rw [if_neg c4] at H
        have c4b0 : (a0 == 16) = false := beq_eq_false_iff_ne.mpr c4
        have c4b1 : (a0 != 16) = true := bne_iff_ne.mpr c4
        by_cases c5 : a0 = 17
        · rw [if_pos c5] at H
          have c5b0 : (a0 == 17) = true := beq_iff_eq.mpr c5
          have c5b1 : (a0 != 17) = false := bne_eq_false_iff_eq.mpr c5
          clear c5
          obtain rfl := Option.some.inj H
          go_enter Try.func14, Try.ntmps14
          go_wp2
          go_ret
          exact ⟨by first | rfl | (simp; done) | (simp [*]; done), by repeat (first | exact Drawn0.refl _ | apply Drawn0.step)⟩
        · rw [if_neg c5] at H
          have c5b0 : (a0 == 17) = false := beq_eq_false_iff_ne.mpr c5
          have c5b1 : (a0 != 17) = true := bne_iff_ne.mpr c5
          have HC6 := Aside0.mk H
          clear H
          go_enter Try.func14, Try.ntmps14
          go_upto_if 12 with (fail)
          go_cut [12] (fun v12 wc => ∃ (kq : Nat) (x12_5 : Bool), v12 = .bool x12_5 ∧ Aside0 (dovetailref24_Field.j0 kq a0 x12_5 = some r) ∧ Aside0 (kq ≤ k) ∧ Drawn0 w wc)
          case first =>
            have H := HC6.out
            clear HC6
            by_cases c7 : a0 = 18
            · rw [if_pos c7] at H
              have c7b0 : (a0 == 18) = true := beq_iff_eq.mpr c7
              have c7b1 : (a0 != 18) = false := bne_eq_false_iff_eq.mpr c7
              clear c7
              (first | rw [c7b0] | (simp only [i64_w, i32_w]; rw [c7b0]) | skip)
              have H' := Aside0.mk H
              clear H
              go_wp2
              go_meet
              case rel => exact ⟨_, ((a0 == 18)), (by first | rfl | (simp; done) | (simp [*]; done)), H', ⟨by first | omega | exact Nat.le_refl _⟩, by repeat (first | exact Drawn0.refl _ | apply Drawn0.step)⟩
            · rw [if_neg c7] at H
              have c7b0 : (a0 == 18) = false := beq_eq_false_iff_ne.mpr c7
              have c7b1 : (a0 != 18) = true := bne_iff_ne.mpr c7
              (first | rw [c7b0] | (simp only [i64_w, i32_w]; rw [c7b0]) | skip)
              have H' := Aside0.mk H
              clear H
              go_wp2
              go_meet
              case rel => exact ⟨_, ((a0 == 19)), (by first | rfl | (simp; done) | (simp [*]; done)), H', ⟨by first | omega | exact Nat.le_refl _⟩, by repeat (first | exact Drawn0.refl _ | apply Drawn0.step)⟩
          case rest =>
            clear HC6
            try clear c1
            try clear c2
            try clear c2b0
            try clear c2b1
            try clear p2
            try clear c3
            try clear c3b0
            try clear c3b1
            try clear c4
            try clear c4b0
            try clear c4b1
            try clear c5
            try clear c5b0
            try clear c5b1
            try clear c7
            try clear c7b0
            try clear c7b1
            obtain ⟨kq, x12_5, rfl, HA, HJ5, ⟨mc5, rfl⟩⟩ := hcut
            cases kq with
            | zero => exact absurd HA.out (by simp [dovetailref24_Field.j0])
            | succ kj5 =>
              have H := HA.out
              clear HA
              simp only [dovetailref24_Field.j0] at H
              by_cases c8 : x12_5 = true
              · subst c8
                have H1 : (some (⟨#[99, 97, 108, 108]⟩ : ByteArray)) = some r := by rw [if_pos rfl] at H; exact H
                clear H
                have H := H1
                clear H1
                obtain rfl := Option.some.inj H
                go_wp2
                go_ret
                exact ⟨by first | rfl | (simp; done) | (simp [*]; done), by repeat (first | exact Drawn0.refl _ | apply Drawn0.step)⟩
              · replace c8 := Bool.eq_false_iff.mpr c8
                subst c8
                have H1 : (if a0 = 26 then (dovetailref24_Field.j1 kj5 a0 (a0 == 26)) else (dovetailref24_Field.j1 kj5 a0 (a0 == 23))) = some r := by rw [if_neg (show ¬ (false = true) by decide)] at H; exact H
                clear H
                have H := H1
                clear H1
                have HC9 := Aside0.mk H
                clear H
                go_upto_if 15 with (fail)
                go_cut [15] (fun v15 wc => ∃ (kq : Nat) (x15_8 : Bool), v15 = .bool x15_8 ∧ Aside0 (dovetailref24_Field.j1 kq a0 x15_8 = some r) ∧ Aside0 (kq ≤ kj5) ∧ Drawn0 w wc)
                case first =>
                  have H := HC9.out
                  clear HC9
                  by_cases c10 : a0 = 26
                  · rw [if_pos c10] at H
                    have c10b0 : (a0 == 26) = true := beq_iff_eq.mpr c10
                    have c10b1 : (a0 != 26) = false := bne_eq_false_iff_eq.mpr c10
                    clear c10
                    (first | rw [c10b0] | (simp only [i64_w, i32_w]; rw [c10b0]) | skip)
                    have H' := Aside0.mk H
                    clear H
                    go_wp2
                    go_meet
                    case rel => exact ⟨_, ((a0 == 26)), (by first | rfl | (simp; done) | (simp [*]; done)), H', ⟨by have := HJ5.out; first | omega | exact Nat.le_refl _⟩, by repeat (first | exact Drawn0.refl _ | apply Drawn0.step)⟩
                  · rw [if_neg c10] at H
                    have c10b0 : (a0 == 26) = false := beq_eq_false_iff_ne.mpr c10
                    have c10b1 : (a0 != 26) = true := bne_iff_ne.mpr c10
                    (first | rw [c10b0] | (simp only [i64_w, i32_w]; rw [c10b0]) | skip)
                    have H' := Aside0.mk H
                    clear H
                    go_wp2
                    go_meet
                    case rel => exact ⟨_, ((a0 == 23)), (by first | rfl | (simp; done) | (simp [*]; done)), H', ⟨by have := HJ5.out; first | omega | exact Nat.le_refl _⟩, by repeat (first | exact Drawn0.refl _ | apply Drawn0.step)⟩
                case rest =>
                  clear HC9
                  try clear c1
                  try clear c2
                  try clear c2b0
                  try clear c2b1
                  try clear p2
                  try clear c3
                  try clear c3b0
                  try clear c3b1
                  try clear c4
                  try clear c4b0
                  try clear c4b1
                  try clear c5
                  try clear c5b0
                  try clear c5b1
                  try clear c7
                  try clear c7b0
                  try clear c7b1
                  try clear c8
                  try clear c10
                  try clear c10b0
                  try clear c10b1
                  try clear p2
                  obtain ⟨kq, x15_8, rfl, HA, HJ8, ⟨mc8, rfl⟩⟩ := hcut
                  cases kq with
                  | zero => exact absurd HA.out (by simp [dovetailref24_Field.j1])
                  | succ kj8 =>
                    have H := HA.out
                    clear HA
                    simp only [dovetailref24_Field.j1] at H
                    by_cases c11 : x15_8 = true
                    · subst c11
                      have H1 : (some (⟨#[85]⟩ : ByteArray)) = some r := by rw [if_pos rfl] at H; exact H
                      clear H
                      have H := H1
                      clear H1
                      obtain rfl := Option.some.inj H
                      go_wp2
                      go_ret
                      exact ⟨by first | rfl | (simp; done) | (simp [*]; done), by repeat (first | exact Drawn0.refl _ | apply Drawn0.step)⟩
                    · replace c11 := Bool.eq_false_iff.mpr c11
                      subst c11
                      have H1 : (if a0 = 27 then (dovetailref24_Field.j2 kj8 a0 (a0 == 27)) else (dovetailref24_Field.j2 kj8 a0 (a0 == 24))) = some r := by rw [if_neg (show ¬ (false = true) by decide)] at H; exact H
                      clear H
                      have H := H1
                      clear H1
                      have HC12 := Aside0.mk H
                      clear H
                      go_upto_if 18 with (fail)
                      go_cut [18] (fun v18 wc => ∃ (kq : Nat) (x18_11 : Bool), v18 = .bool x18_11 ∧ Aside0 (dovetailref24_Field.j2 kq a0 x18_11 = some r) ∧ Aside0 (kq ≤ kj8) ∧ Drawn0 w wc)
                      case first =>
                        have H := HC12.out
                        clear HC12
                        by_cases c13 : a0 = 27
                        · rw [if_pos c13] at H
                          have c13b0 : (a0 == 27) = true := beq_iff_eq.mpr c13
                          have c13b1 : (a0 != 27) = false := bne_eq_false_iff_eq.mpr c13
                          clear c13
                          (first | rw [c13b0] | (simp only [i64_w, i32_w]; rw [c13b0]) | skip)
                          have H' := Aside0.mk H
                          clear H
                          go_wp2
                          go_meet
                          case rel => exact ⟨_, ((a0 == 27)), (by first | rfl | (simp; done) | (simp [*]; done)), H', ⟨by have := HJ5.out; have := HJ8.out; first | omega | exact Nat.le_refl _⟩, by repeat (first | exact Drawn0.refl _ | apply Drawn0.step)⟩
                        · rw [if_neg c13] at H
                          have c13b0 : (a0 == 27) = false := beq_eq_false_iff_ne.mpr c13
                          have c13b1 : (a0 != 27) = true := bne_iff_ne.mpr c13
                          (first | rw [c13b0] | (simp only [i64_w, i32_w]; rw [c13b0]) | skip)
                          have H' := Aside0.mk H
                          clear H
                          go_wp2
                          go_meet
                          case rel => exact ⟨_, ((a0 == 24)), (by first | rfl | (simp; done) | (simp [*]; done)), H', ⟨by have := HJ5.out; have := HJ8.out; first | omega | exact Nat.le_refl _⟩, by repeat (first | exact Drawn0.refl _ | apply Drawn0.step)⟩
                      case rest =>
                        clear HC12
                        try clear c1
                        try clear c2
                        try clear c2b0
                        try clear c2b1
                        try clear p2
                        try clear c3
                        try clear c3b0
                        try clear c3b1
                        try clear c4
                        try clear c4b0
                        try clear c4b1
                        try clear c5
                        try clear c5b0
                        try clear c5b1
                        try clear c7
                        try clear c7b0
                        try clear c7b1
                        try clear c8
                        try clear c10
                        try clear c10b0
                        try clear c10b1
                        try clear c11
                        try clear c13
                        try clear c13b0
                        try clear c13b1
                        try clear p2
                        obtain ⟨kq, x18_11, rfl, HA, HJ11, ⟨mc11, rfl⟩⟩ := hcut
                        cases kq with
                        | zero => exact absurd HA.out (by simp [dovetailref24_Field.j2])
                        | succ kj11 =>
                          have H := HA.out
                          clear HA
                          simp only [dovetailref24_Field.j2] at H
                          by_cases c14 : x18_11 = true
                          · subst c14
                            have H1 : (some (⟨#[73]⟩ : ByteArray)) = some r := by rw [if_pos rfl] at H; exact H
                            clear H
                            have H := H1
                            clear H1
                            obtain rfl := Option.some.inj H
                            go_wp2
                            go_ret
                            exact ⟨by first | rfl | (simp; done) | (simp [*]; done), by repeat (first | exact Drawn0.refl _ | apply Drawn0.step)⟩
                          · replace c14 := Bool.eq_false_iff.mpr c14
                            subst c14
                            have H1 : (if a0 = 28 then (some (⟨#[83]⟩ : ByteArray)) else (if a0 = 25 then (some (⟨#[83]⟩ : ByteArray)) else (some (⟨#[]⟩ : ByteArray)))) = some r := by rw [if_neg (show ¬ (false = true) by decide)] at H; exact H
                            clear H
                            have H := H1
                            clear H1
                            by_cases c15 : a0 = 28
                            · rw [if_pos c15] at H
                              have c15b0 : (a0 == 28) = true := beq_iff_eq.mpr c15
                              have c15b1 : (a0 != 28) = false := bne_eq_false_iff_eq.mpr c15
                              clear c15
                              obtain rfl := Option.some.inj H
                              go_wp2
                              go_ret
                              exact ⟨by first | rfl | (simp; done) | (simp [*]; done), by repeat (first | exact Drawn0.refl _ | apply Drawn0.step)⟩
                            · rw [if_neg c15] at H
                              have c15b0 : (a0 == 28) = false := beq_eq_false_iff_ne.mpr c15
                              have c15b1 : (a0 != 28) = true := bne_iff_ne.mpr c15
                              by_cases c16 : a0 = 25
                              · rw [if_pos c16] at H
                                have c16b0 : (a0 == 25) = true := beq_iff_eq.mpr c16
                                have c16b1 : (a0 != 25) = false := bne_eq_false_iff_eq.mpr c16
                                clear c16
                                obtain rfl := Option.some.inj H
                                go_wp2
                                go_ret
                                exact ⟨by first | rfl | (simp; done) | (simp [*]; done), by repeat (first | exact Drawn0.refl _ | apply Drawn0.step)⟩
                              · rw [if_neg c16] at H
                                have c16b0 : (a0 == 25) = false := beq_eq_false_iff_ne.mpr c16
                                have c16b1 : (a0 != 25) = true := bne_iff_ne.mpr c16
                                obtain rfl := Option.some.inj H
                                go_wp2
                                go_ret
                                exact ⟨by first | rfl | (simp; done) | (simp [*]; done), by repeat (first | exact Drawn0.refl _ | apply Drawn0.step)⟩

/-! ### dovetaillaw24_RelocValues: function 3 -/
def dovetaillaw24_RelocValues.l0 : Nat → Int → Int → Int → List Int → Int → Int → Option (Bool)
  | 0, _, _, _, _, _, _ => none
  | k + 1, x1, x2, x3, x20, x21, x22 => if x22 < x21 then (if 0 ≤ x22 then (if x22 < (x20.length : Int) then ((reloc_Value.f k (rd x20 x22) x1 x2 x3).bind fun bt225 => ((dovetailref24_Value.f k (rd x20 x22) x1 x2 x3).bind fun bt227 => (if bt225.1 = bt227.1 then (if bt225.2 = bt227.2 then ((reloc_Field.f k (rd x20 x22)).bind fun t229 => ((dovetailref24_Field.f k (rd x20 x22)).bind fun t230 => (if t229.toList = t230.toList then (dovetaillaw24_RelocValues.l0 k x1 x2 x3 x20 x21 (wrap64 (x22 + 1))) else (some false)))) else (some false)) else (some false)))) else (none)) else (none)) else (some true)
def dovetaillaw24_RelocValues.f (k : Nat) (a0 : Int) (a1 : Int) (a2 : Int) (a3 : Int) : Option (Bool) := (dovetaillaw24_known.f k).bind fun t220 => (if t220 = true then ((some (([a0, Int.tmod a0 64] : List Int) : List Int)).bind fun y221 => (dovetaillaw24_RelocValues.l0 k a1 a2 a3 y221 (y221.length : Int) 0)) else (some false))
theorem dovetaillaw24_RelocValues.mono_l : ∀ k, (∀ y0 y1 y2 y3 y4 y5, LeO (dovetaillaw24_RelocValues.l0 k y0 y1 y2 y3 y4 y5) (dovetaillaw24_RelocValues.l0 (k + 1) y0 y1 y2 y3 y4 y5))
  | 0 => fun _ _ _ _ _ _ r h => by simp [dovetaillaw24_RelocValues.l0] at h
  | k + 1 => by
    have ih0 := dovetaillaw24_RelocValues.mono_l k
    · intro y0 y1 y2 y3 y4 y5
      unfold dovetaillaw24_RelocValues.l0
      repeat' first
      | (with_reducible exact ih0 _ _ _ _ _ _)
      | (with_reducible exact dovetaillaw24_known.mono _)
      | (with_reducible exact dovetailref24_Field.mono _ _)
      | (with_reducible exact dovetailref24_Value.mono _ _ _ _ _)
      | (with_reducible exact reloc_Field.mono _ _)
      | (with_reducible exact reloc_Value.mono _ _ _ _ _)
      | (with_reducible exact LeO.refl _)
      | (with_reducible exact LeO.none _)
      | (with_reducible refine LeO.ite ?_ ?_)
      | (with_reducible refine LeO.bind ?_ (fun _ => ?_))
      | exact ih0 _ _ _ _ _ _
      | exact dovetaillaw24_known.mono _
      | exact dovetailref24_Field.mono _ _
      | exact dovetailref24_Value.mono _ _ _ _ _
      | exact reloc_Field.mono _ _
      | exact reloc_Value.mono _ _ _ _ _
      | exact LeO.none _
      | refine LeO.ite ?_ ?_
      | refine LeO.bind ?_ (fun _ => ?_)
theorem dovetaillaw24_RelocValues.mono : ∀ a0 a1 a2 a3 k, LeO (dovetaillaw24_RelocValues.f k a0 a1 a2 a3) (dovetaillaw24_RelocValues.f (k + 1) a0 a1 a2 a3) := by
  intro a0 a1 a2 a3 k
  have ih0 := dovetaillaw24_RelocValues.mono_l k
  unfold dovetaillaw24_RelocValues.f
  repeat' first
      | (with_reducible exact ih0 _ _ _ _ _ _)
      | (with_reducible exact dovetaillaw24_known.mono _)
      | (with_reducible exact dovetailref24_Field.mono _ _)
      | (with_reducible exact dovetailref24_Value.mono _ _ _ _ _)
      | (with_reducible exact reloc_Field.mono _ _)
      | (with_reducible exact reloc_Value.mono _ _ _ _ _)
      | (with_reducible exact LeO.refl _)
      | (with_reducible exact LeO.none _)
      | (with_reducible refine LeO.ite ?_ ?_)
      | (with_reducible refine LeO.bind ?_ (fun _ => ?_))
      | exact ih0 _ _ _ _ _ _
      | exact dovetaillaw24_known.mono _
      | exact dovetailref24_Field.mono _ _
      | exact dovetailref24_Value.mono _ _ _ _ _
      | exact reloc_Field.mono _ _
      | exact reloc_Value.mono _ _ _ _ _
      | exact LeO.none _
      | refine LeO.ite ?_ ?_
      | refine LeO.bind ?_ (fun _ => ?_)
set_option maxHeartbeats 8000000 in
set_option maxRecDepth 100000 in
theorem dovetaillaw24_RelocValues.calls (k : Nat) (a0 : Int) (a1 : Int) (a2 : Int) (a3 : Int) (r : Bool) (w : World) (h : dovetaillaw24_RelocValues.f k a0 a1 a2 a3 = some r) :
    Calls Try.prog 3 #[.int .u32 a0, .int .u64 a1, .int .i64 a2, .int .u64 a3] w fun e w' => e = .returned (.bool r) ∧ Below w.heap.size w w' := by
  have HB := Aside0.mk (Below.refl w.heap.size w)
  have H : ((dovetaillaw24_known.f k).bind fun t220 => (if t220 = true then ((some (([a0, Int.tmod a0 64] : List Int) : List Int)).bind fun y221 => (dovetaillaw24_RelocValues.l0 k a1 a2 a3 y221 (y221.length : Int) 0)) else (some false))) = some r := h
  clear h
  replace H := Option.bind_eq_some_iff.mp H
  obtain ⟨t220, A50, H⟩ := H
  replace H : (if t220 = true then ((some (([a0, Int.tmod a0 64] : List Int) : List Int)).bind fun y221 => (dovetaillaw24_RelocValues.l0 k a1 a2 a3 y221 (y221.length : Int) 0)) else (some false)) = some r := H
  have A5 := Aside0.mk A50
  clear A50
  by_cases c6 : t220 = true
  · subst c6
    have H1 : ((some (([a0, Int.tmod a0 64] : List Int) : List Int)).bind fun y221 => (dovetaillaw24_RelocValues.l0 k a1 a2 a3 y221 (y221.length : Int) 0)) = some r := by rw [if_pos rfl] at H; exact H
    clear H
    have H := H1
    clear H1
    obtain ⟨y221, hy221⟩ : ∃ y_ : List Int, y_ = (([a0, Int.tmod a0 64] : List Int)) := ⟨_, rfl⟩
    replace H : (dovetaillaw24_RelocValues.l0 k a1 a2 a3 y221 (y221.length : Int) 0) = some r := by first | (rw [hy221]; with_reducible exact H) | (have H2_ := (Option.bind_some _ _).symm.trans H; rw [hy221]; with_reducible exact H2_) | (have H2_ := (Option.bind_some _ _).symm.trans H; with_reducible exact H2_) | with_reducible exact H | (rw [hy221]; exact H) | exact H
    have Ny221 := Aside0.mk hy221
    clear hy221
    have H' := Aside0.mk H
    clear H
    go_enter Try.func3, Try.ntmps3
    go_wp2_with (first | ((with_reducible refine gate_callee (f := 10) rfl ?_); refine goesL_ (some 15) rfl rfl Try.func10 (by kernel_rfl) rfl #[] rfl (by (try simp only [List.map_toArray, List.map_cons, List.map_nil]); first | done | rfl | (simp only [List.length_drop, List.length_take]; rfl)) ?_; (with_reducible refine (dovetaillaw24_known.calls k  true _ A5.out).mono ?_); rintro e w7 ⟨rfl, hb⟩; refine ⟨_, rfl, ?_⟩; have n0_ := Aside0.mk (below_step (by repeat (first | (with_reducible first | exact HB.out | apply below_alloc | apply pw_below_drewN | apply below_drew1) | exact HB.out)) hb); clear HB; have HB := n0_; clear n0_; (try clear hb); (try clear hb2); (try clear hk); (try clear hi)) | ((with_reducible refine gate_dst (N := 20) rfl ?_); refine Kd.R_lit (Kd.int .u32) _ 22 ?hg (N := 20) ?hd (xs := ([a0, Int.tmod a0 64] : List Int)) (inner := [.int .u32 a0, .int .u32 (Int.tmod a0 64)]) (ok := fun _ => True) (okp := fun _ => True) ?hr ?hp (fun _ hk => hk) trivial (Below.refl _ _) (Nat.le_refl _) (by simp) ?_; (case hd => rfl); (case hg => rfl); (case hr => first | (go_simp; done) | (go_simp; rfl)); (case hp => exact (Reps.one (show Kd.M (Kd.int .u32) _ _ _ a0 [.int .u32 a0] from rfl) (Reps.one (show Kd.M (Kd.int .u32) _ _ _ (Int.tmod a0 64) [.int .u32 (Int.tmod a0 64)] from rfl) (Reps.none _ _)))); intro v222 w8 ho9 hb hg_ hnew_; clear hg_ hnew_; (first | rw [← Ny221.out] at ho9 | (simp only [Int.reduceToNat] at ho9; rw [← Ny221.out] at ho9)); have n0_ := Aside0.mk (Kd.R_lower ho9 (below_size (by repeat (first | (with_reducible first | exact HB.out | apply below_alloc | apply pw_below_drewN | apply below_drew1) | exact HB.out)))); have n1_ := Aside0.mk (below_step (by repeat (first | (with_reducible first | exact HB.out | apply below_alloc | apply pw_below_drewN | apply below_drew1) | exact HB.out)) hb); clear HB; have HO223 := n0_; have HB := n1_; clear n0_ n1_; clear hb ho9; obtain ⟨Ao10, co10, eo10⟩ := Kd.R_slice HO223.out; subst eo10))
    go_loopg [22] k (fun kq v22 w' => ∃ (x22_1 : Int), v22 = .int .i64 x22_1 ∧ Aside0 (dovetaillaw24_RelocValues.l0 kq a1 a2 a3 y221 (y221.length : Int) x22_1 = some r) ∧ Aside0 (kq ≤ k) ∧ Aside0 (Kd.R (Kd.int .u32) 22 w' w.heap.size (fun _ => True) (.slice Ao10 y221.length co10) y221) ∧ Aside0 (Below w.heap.size w w'))
    case atStart => exact ⟨(0), (by first | rfl | (simp; done) | (simp [*]; done)), H', ⟨Nat.le_refl _⟩, ⟨by (with_reducible repeat (first | apply Kd.R_alloc | apply Kd.R_drewN | apply Kd.R_drew)); exact HO223.out⟩, ⟨by repeat (first | (with_reducible first | exact HB.out | apply below_alloc | apply pw_below_drewN | apply below_drew1) | exact HB.out)⟩⟩
    case round =>
      clear H'
      try clear c1
      try clear p2
      try clear c3
      try clear c6
      try clear c10
      obtain ⟨x22_1, rfl, HA, HK1, HO_20, HB⟩ := hrel
      cases gk with
      | zero => exact absurd HA.out (by simp [dovetaillaw24_RelocValues.l0])
      | succ k1 =>
        have H := HA.out
        clear HA
        simp only [dovetaillaw24_RelocValues.l0] at H
        by_cases c11 : x22_1 < (y221.length : Int)
        · rw [if_pos c11] at H
          have c11b0 : decide (x22_1 < (y221.length : Int)) = true := decide_eq_true c11
          clear c11
          by_cases c12 : 0 ≤ x22_1
          · rw [if_pos c12] at H
            have c12b0 : decide (0 ≤ x22_1) = true := decide_eq_true c12
            clear c12
            by_cases c13 : x22_1 < (y221.length : Int)
            · rw [if_pos c13] at H
              have c13b0 : decide (x22_1 < (y221.length : Int)) = true := decide_eq_true c13
              clear c13
              replace H := Option.bind_eq_some_iff.mp H
              obtain ⟨⟨t225, t226⟩, A140, H⟩ := H
              replace H : ((dovetailref24_Value.f k1 (rd y221 x22_1) a1 a2 a3).bind fun bt227 => (if t225 = bt227.1 then (if t226 = bt227.2 then ((reloc_Field.f k1 (rd y221 x22_1)).bind fun t229 => ((dovetailref24_Field.f k1 (rd y221 x22_1)).bind fun t230 => (if t229.toList = t230.toList then (dovetaillaw24_RelocValues.l0 k1 a1 a2 a3 y221 (y221.length : Int) (wrap64 (x22_1 + 1))) else (some false)))) else (some false)) else (some false))) = some r := H
              have A14 := Aside0.mk A140
              clear A140
              replace H := Option.bind_eq_some_iff.mp H
              obtain ⟨⟨t227, t228⟩, A150, H⟩ := H
              replace H : (if t225 = t227 then (if t226 = t228 then ((reloc_Field.f k1 (rd y221 x22_1)).bind fun t229 => ((dovetailref24_Field.f k1 (rd y221 x22_1)).bind fun t230 => (if t229.toList = t230.toList then (dovetaillaw24_RelocValues.l0 k1 a1 a2 a3 y221 (y221.length : Int) (wrap64 (x22_1 + 1))) else (some false)))) else (some false)) else (some false)) = some r := H
              have A15 := Aside0.mk A150
              clear A150
              by_cases c16 : t225 = t227
              · rw [if_pos c16] at H
                have c16b0 : (t225 == t227) = true := beq_iff_eq.mpr c16
                have c16b1 : (t225 != t227) = false := bne_eq_false_iff_eq.mpr c16
                clear c16
                by_cases c17 : t226 = t228
                · rw [if_pos c17] at H
                  have c17b0 : (t226 == t228) = true := beq_iff_eq.mpr c17
                  have c17b1 : (t226 != t228) = false := bne_eq_false_iff_eq.mpr c17
                  clear c17
                  replace H := Option.bind_eq_some_iff.mp H
                  obtain ⟨t229, A180, H⟩ := H
                  replace H : ((dovetailref24_Field.f k1 (rd y221 x22_1)).bind fun t230 => (if t229.toList = t230.toList then (dovetaillaw24_RelocValues.l0 k1 a1 a2 a3 y221 (y221.length : Int) (wrap64 (x22_1 + 1))) else (some false))) = some r := H
                  have A18 := Aside0.mk A180
                  clear A180
                  replace H := Option.bind_eq_some_iff.mp H
                  obtain ⟨t230, A190, H⟩ := H
                  replace H : (if t229.toList = t230.toList then (dovetaillaw24_RelocValues.l0 k1 a1 a2 a3 y221 (y221.length : Int) (wrap64 (x22_1 + 1))) else (some false)) = some r := H
                  have A19 := Aside0.mk A190
                  clear A190
                  by_cases c20 : t229.toList = t230.toList
                  · rw [if_pos c20] at H
                    have c20b0 : (t229.toList == t230.toList) = true := beq_iff_eq.mpr c20
                    have c20b1 : (t229.toList != t230.toList) = false := bne_eq_false_iff_eq.mpr c20
                    clear c20
                    have H' := Aside0.mk H
                    clear H
                    have p224 : 0 ≤ (x22_1 : Int) := of_decide_eq_true (by first | (with_reducible assumption) | assumption)
                    have q224 : x22_1 < (y221.length : Int) := of_decide_eq_true (by first | (with_reducible assumption) | assumption)
                    obtain ⟨ad224, e224, hx224_0⟩ := Kd.at_int (Kd.R_reads' HO_20.out).2.2 x22_1 p224 q224
                    cases e224
                    replace p224 := eq_true p224
                    replace q224 := eq_true q224
                    go_wp2_with (first | ((with_reducible refine gate_callee (f := 11) rfl ?_); refine goesL_ (some 31) rfl rfl Try.func11 (by kernel_rfl) rfl #[.int .u32 (rd y221 x22_1), .int .u64 a1, .int .i64 a2, .int .u64 a3] rfl (by (try simp only [List.map_toArray, List.map_cons, List.map_nil]); first | done | rfl | (simp only [List.length_drop, List.length_take]; rfl)) ?_; (with_reducible refine (reloc_Value.calls k1 (rd y221 x22_1) a1 a2 a3 t225 t226 _ A14.out).mono ?_); rintro e w21 ⟨rfl, hb⟩; refine ⟨_, rfl, ?_⟩; have n0_ := Aside0.mk (Kd.R_below (by (with_reducible repeat (first | apply Kd.R_alloc | apply Kd.R_drewN | apply Kd.R_drew)); exact HO_20.out) hb); have n1_ := Aside0.mk (below_step (by repeat (first | (with_reducible first | exact HB.out | apply below_alloc | apply pw_below_drewN | apply below_drew1) | exact HB.out)) hb); clear HO_20; clear HB; have HO_20 := n0_; have HB := n1_; clear n0_ n1_; (try clear hb); (try clear hb2); (try clear hk); (try clear hi)) | ((with_reducible refine gate_callee (f := 12) rfl ?_); refine goesL_ (some 39) rfl rfl Try.func12 (by kernel_rfl) rfl #[.int .u32 (rd y221 x22_1), .int .u64 a1, .int .i64 a2, .int .u64 a3] rfl (by (try simp only [List.map_toArray, List.map_cons, List.map_nil]); first | done | rfl | (simp only [List.length_drop, List.length_take]; rfl)) ?_; (with_reducible refine (dovetailref24_Value.calls k1 (rd y221 x22_1) a1 a2 a3 t227 t228 _ A15.out).mono ?_); rintro e w' ⟨rfl, ⟨nd, rfl⟩⟩; refine ⟨_, rfl, ?_⟩) | (go_at_call 13; (with_reducible refine (reloc_Field.calls k1 (rd y221 x22_1) t229 _ A18.out).mono ?_); rintro e w' ⟨rfl, ⟨nd, rfl⟩⟩) | (go_at_call 14; (with_reducible refine (dovetailref24_Field.calls k1 (rd y221 x22_1) t230 _ A19.out).mono ?_); rintro e w' ⟨rfl, ⟨nd, rfl⟩⟩))
                    go_roundg k1
                    case measure => have := HK1.out; omega
                    case rel => exact ⟨(wrap64 (x22_1 + 1)), (by first | rfl | (simp; done) | (simp [*]; done)), H', ⟨by have := HK1.out; omega⟩, ⟨by (with_reducible repeat (first | apply Kd.R_alloc | apply Kd.R_drewN | apply Kd.R_drew)); exact HO_20.out⟩, ⟨by repeat (first | (with_reducible first | exact HB.out | apply below_alloc | apply pw_below_drewN | apply below_drew1) | exact HB.out)⟩⟩
                  · rw [if_neg c20] at H
                    have c20b0 : (t229.toList == t230.toList) = false := beq_eq_false_iff_ne.mpr c20
                    have c20b1 : (t229.toList != t230.toList) = true := bne_iff_ne.mpr c20
                    obtain rfl := Option.some.inj H
                    have p224 : 0 ≤ (x22_1 : Int) := of_decide_eq_true (by first | (with_reducible assumption) | assumption)
                    have q224 : x22_1 < (y221.length : Int) := of_decide_eq_true (by first | (with_reducible assumption) | assumption)
                    obtain ⟨ad224, e224, hx224_0⟩ := Kd.at_int (Kd.R_reads' HO_20.out).2.2 x22_1 p224 q224
                    cases e224
                    replace p224 := eq_true p224
                    replace q224 := eq_true q224
                    go_wp2_with (first | ((with_reducible refine gate_callee (f := 11) rfl ?_); refine goesL_ (some 31) rfl rfl Try.func11 (by kernel_rfl) rfl #[.int .u32 (rd y221 x22_1), .int .u64 a1, .int .i64 a2, .int .u64 a3] rfl (by (try simp only [List.map_toArray, List.map_cons, List.map_nil]); first | done | rfl | (simp only [List.length_drop, List.length_take]; rfl)) ?_; (with_reducible refine (reloc_Value.calls k1 (rd y221 x22_1) a1 a2 a3 t225 t226 _ A14.out).mono ?_); rintro e w22 ⟨rfl, hb⟩; refine ⟨_, rfl, ?_⟩; have n0_ := Aside0.mk (Kd.R_below (by (with_reducible repeat (first | apply Kd.R_alloc | apply Kd.R_drewN | apply Kd.R_drew)); exact HO_20.out) hb); have n1_ := Aside0.mk (below_step (by repeat (first | (with_reducible first | exact HB.out | apply below_alloc | apply pw_below_drewN | apply below_drew1) | exact HB.out)) hb); clear HO_20; clear HB; have HO_20 := n0_; have HB := n1_; clear n0_ n1_; (try clear hb); (try clear hb2); (try clear hk); (try clear hi)) | ((with_reducible refine gate_callee (f := 12) rfl ?_); refine goesL_ (some 39) rfl rfl Try.func12 (by kernel_rfl) rfl #[.int .u32 (rd y221 x22_1), .int .u64 a1, .int .i64 a2, .int .u64 a3] rfl (by (try simp only [List.map_toArray, List.map_cons, List.map_nil]); first | done | rfl | (simp only [List.length_drop, List.length_take]; rfl)) ?_; (with_reducible refine (dovetailref24_Value.calls k1 (rd y221 x22_1) a1 a2 a3 t227 t228 _ A15.out).mono ?_); rintro e w' ⟨rfl, ⟨nd, rfl⟩⟩; refine ⟨_, rfl, ?_⟩) | (go_at_call 13; (with_reducible refine (reloc_Field.calls k1 (rd y221 x22_1) t229 _ A18.out).mono ?_); rintro e w' ⟨rfl, ⟨nd, rfl⟩⟩) | (go_at_call 14; (with_reducible refine (dovetailref24_Field.calls k1 (rd y221 x22_1) t230 _ A19.out).mono ?_); rintro e w' ⟨rfl, ⟨nd, rfl⟩⟩))
                    go_ret
                    exact ⟨by first | rfl | (simp [errW_none, errW_some] <;> rfl) | (simp [*, errW_none, errW_some] <;> rfl), by repeat (first | (with_reducible first | exact HB.out | apply below_alloc | apply pw_below_drewN | apply below_drew1) | exact HB.out)⟩
                · rw [if_neg c17] at H
                  have c17b0 : (t226 == t228) = false := beq_eq_false_iff_ne.mpr c17
                  have c17b1 : (t226 != t228) = true := bne_iff_ne.mpr c17
                  obtain rfl := Option.some.inj H
                  have p224 : 0 ≤ (x22_1 : Int) := of_decide_eq_true (by first | (with_reducible assumption) | assumption)
                  have q224 : x22_1 < (y221.length : Int) := of_decide_eq_true (by first | (with_reducible assumption) | assumption)
                  obtain ⟨ad224, e224, hx224_0⟩ := Kd.at_int (Kd.R_reads' HO_20.out).2.2 x22_1 p224 q224
                  cases e224
                  replace p224 := eq_true p224
                  replace q224 := eq_true q224
                  go_wp2_with (first | ((with_reducible refine gate_callee (f := 11) rfl ?_); refine goesL_ (some 31) rfl rfl Try.func11 (by kernel_rfl) rfl #[.int .u32 (rd y221 x22_1), .int .u64 a1, .int .i64 a2, .int .u64 a3] rfl (by (try simp only [List.map_toArray, List.map_cons, List.map_nil]); first | done | rfl | (simp only [List.length_drop, List.length_take]; rfl)) ?_; (with_reducible refine (reloc_Value.calls k1 (rd y221 x22_1) a1 a2 a3 t225 t226 _ A14.out).mono ?_); rintro e w23 ⟨rfl, hb⟩; refine ⟨_, rfl, ?_⟩; have n0_ := Aside0.mk (Kd.R_below (by (with_reducible repeat (first | apply Kd.R_alloc | apply Kd.R_drewN | apply Kd.R_drew)); exact HO_20.out) hb); have n1_ := Aside0.mk (below_step (by repeat (first | (with_reducible first | exact HB.out | apply below_alloc | apply pw_below_drewN | apply below_drew1) | exact HB.out)) hb); clear HO_20; clear HB; have HO_20 := n0_; have HB := n1_; clear n0_ n1_; (try clear hb); (try clear hb2); (try clear hk); (try clear hi)) | ((with_reducible refine gate_callee (f := 12) rfl ?_); refine goesL_ (some 39) rfl rfl Try.func12 (by kernel_rfl) rfl #[.int .u32 (rd y221 x22_1), .int .u64 a1, .int .i64 a2, .int .u64 a3] rfl (by (try simp only [List.map_toArray, List.map_cons, List.map_nil]); first | done | rfl | (simp only [List.length_drop, List.length_take]; rfl)) ?_; (with_reducible refine (dovetailref24_Value.calls k1 (rd y221 x22_1) a1 a2 a3 t227 t228 _ A15.out).mono ?_); rintro e w' ⟨rfl, ⟨nd, rfl⟩⟩; refine ⟨_, rfl, ?_⟩))
                  go_ret
                  exact ⟨by first | rfl | (simp [errW_none, errW_some] <;> rfl) | (simp [*, errW_none, errW_some] <;> rfl), by repeat (first | (with_reducible first | exact HB.out | apply below_alloc | apply pw_below_drewN | apply below_drew1) | exact HB.out)⟩
              · rw [if_neg c16] at H
                have c16b0 : (t225 == t227) = false := beq_eq_false_iff_ne.mpr c16
                have c16b1 : (t225 != t227) = true := bne_iff_ne.mpr c16
                obtain rfl := Option.some.inj H
                have p224 : 0 ≤ (x22_1 : Int) := of_decide_eq_true (by first | (with_reducible assumption) | assumption)
                have q224 : x22_1 < (y221.length : Int) := of_decide_eq_true (by first | (with_reducible assumption) | assumption)
                obtain ⟨ad224, e224, hx224_0⟩ := Kd.at_int (Kd.R_reads' HO_20.out).2.2 x22_1 p224 q224
                cases e224
                replace p224 := eq_true p224
                replace q224 := eq_true q224
                go_wp2_with (first | ((with_reducible refine gate_callee (f := 11) rfl ?_); refine goesL_ (some 31) rfl rfl Try.func11 (by kernel_rfl) rfl #[.int .u32 (rd y221 x22_1), .int .u64 a1, .int .i64 a2, .int .u64 a3] rfl (by (try simp only [List.map_toArray, List.map_cons, List.map_nil]); first | done | rfl | (simp only [List.length_drop, List.length_take]; rfl)) ?_; (with_reducible refine (reloc_Value.calls k1 (rd y221 x22_1) a1 a2 a3 t225 t226 _ A14.out).mono ?_); rintro e w24 ⟨rfl, hb⟩; refine ⟨_, rfl, ?_⟩; have n0_ := Aside0.mk (Kd.R_below (by (with_reducible repeat (first | apply Kd.R_alloc | apply Kd.R_drewN | apply Kd.R_drew)); exact HO_20.out) hb); have n1_ := Aside0.mk (below_step (by repeat (first | (with_reducible first | exact HB.out | apply below_alloc | apply pw_below_drewN | apply below_drew1) | exact HB.out)) hb); clear HO_20; clear HB; have HO_20 := n0_; have HB := n1_; clear n0_ n1_; (try clear hb); (try clear hb2); (try clear hk); (try clear hi)) | ((with_reducible refine gate_callee (f := 12) rfl ?_); refine goesL_ (some 39) rfl rfl Try.func12 (by kernel_rfl) rfl #[.int .u32 (rd y221 x22_1), .int .u64 a1, .int .i64 a2, .int .u64 a3] rfl (by (try simp only [List.map_toArray, List.map_cons, List.map_nil]); first | done | rfl | (simp only [List.length_drop, List.length_take]; rfl)) ?_; (with_reducible refine (dovetailref24_Value.calls k1 (rd y221 x22_1) a1 a2 a3 t227 t228 _ A15.out).mono ?_); rintro e w' ⟨rfl, ⟨nd, rfl⟩⟩; refine ⟨_, rfl, ?_⟩))
                go_ret
                exact ⟨by first | rfl | (simp [errW_none, errW_some] <;> rfl) | (simp [*, errW_none, errW_some] <;> rfl), by repeat (first | (with_reducible first | exact HB.out | apply below_alloc | apply pw_below_drewN | apply below_drew1) | exact HB.out)⟩
            · rw [if_neg c13] at H
              exact absurd H (by simp)
          · rw [if_neg c12] at H
            exact absurd H (by simp)
        · rw [if_neg c11] at H
          have c11b0 : decide (x22_1 < (y221.length : Int)) = false := decide_eq_false c11
          clear c11
          obtain rfl := Option.some.inj H
          go_wp2
          go_ret
          exact ⟨by first | rfl | (simp [errW_none, errW_some] <;> rfl) | (simp [*, errW_none, errW_some] <;> rfl), by repeat (first | (with_reducible first | exact HB.out | apply below_alloc | apply pw_below_drewN | apply below_drew1) | exact HB.out)⟩
  · replace c6 := Bool.eq_false_iff.mpr c6
    subst c6
    have H1 : (some false) = some r := by rw [if_neg (show ¬ (false = true) by decide)] at H; exact H
    clear H
    have H := H1
    clear H1
    obtain rfl := Option.some.inj H
    go_enter Try.func3, Try.ntmps3
    go_wp2_with (first | ((with_reducible refine gate_callee (f := 10) rfl ?_); refine goesL_ (some 15) rfl rfl Try.func10 (by kernel_rfl) rfl #[] rfl (by (try simp only [List.map_toArray, List.map_cons, List.map_nil]); first | done | rfl | (simp only [List.length_drop, List.length_take]; rfl)) ?_; (with_reducible refine (dovetaillaw24_known.calls k  false _ A5.out).mono ?_); rintro e w25 ⟨rfl, hb⟩; refine ⟨_, rfl, ?_⟩; have n0_ := Aside0.mk (below_step (by repeat (first | (with_reducible first | exact HB.out | apply below_alloc | apply pw_below_drewN | apply below_drew1) | exact HB.out)) hb); clear HB; have HB := n0_; clear n0_; (try clear hb); (try clear hb2); (try clear hk); (try clear hi)))
    go_ret
    exact ⟨by first | rfl | (simp [errW_none, errW_some] <;> rfl) | (simp [*, errW_none, errW_some] <;> rfl), by repeat (first | (with_reducible first | exact HB.out | apply below_alloc | apply pw_below_drewN | apply below_drew1) | exact HB.out)⟩

/-- THE ONE PURE STATEMENT of dovetaillaw24_RelocValues: yours. -/
def dovetaillaw24_RelocValues.Pure : Prop := ∀ (a0 : Int) (a1 : Int) (a2 : Int) (a3 : Int), (Lit.int .u32 a0).wf = true → (Lit.int .u64 a1).wf = true → (Lit.int .i64 a2).wf = true → (Lit.int .u64 a3).wf = true → ∃ k, dovetaillaw24_RelocValues.f k a0 a1 a2 a3 = some true
theorem dovetaillaw24_RelocValues.walk (P : dovetaillaw24_RelocValues.Pure) (a0 : Int) (a1 : Int) (a2 : Int) (a3 : Int) (w : World) (w0 : (Lit.int .u32 a0).wf = true) (w1 : (Lit.int .u64 a1).wf = true) (w2 : (Lit.int .i64 a2).wf = true) (w3 : (Lit.int .u64 a3).wf = true) :
    Calls Try.prog 3 #[.int .u32 a0, .int .u64 a1, .int .i64 a2, .int .u64 a3] w fun e w' => e = .returned (.bool true) ∧ Below w.heap.size w w' := by
  obtain ⟨k, h⟩ := P a0 a1 a2 a3 w0 w1 w2 w3
  refine (dovetaillaw24_RelocValues.calls k a0 a1 a2 a3 true w h).mono ?_
  rintro e w' ⟨rfl, hd⟩
  exact ⟨rfl, hd⟩

end Go.Proofs.Ytooleipgpkjpjaa.QRelocValues
