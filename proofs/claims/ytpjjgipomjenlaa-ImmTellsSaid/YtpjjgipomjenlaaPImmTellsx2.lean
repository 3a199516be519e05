-- PRINTED BY print.sh 35421559b90ae4d0a3588c463048766b98c2df88dd9212a6774a882060cdf62d: not written by this session
import Derived.Test.YtpjjgipomjenlaaPImmTellsx0
namespace Go.Proofs.Ytpjjgipomjenlaa.PImmTells
open Go.RowKit Go.Proofs.YtpjjgipomjenlaaW.PrintWords Go.Proofs.YtpjjgipomjenlaaW.PrintLast Go.Proofs.YtpjjgipomjenlaaW.PrintMore
attribute [local go_sem] max2_int min2_int max_two min_two max_three min_three max_four min_four   -- for this text's walks alone
set_option linter.unusedVariables false
set_option linter.unusedSimpArgs false

/-! ### dovetailref3_Fits: function 14 -/
def dovetailref3_Fits.j0 : Nat → Int → Int → Bool → Option (Bool)
  | 0, _, _, _ => none
  | k + 1, x1, x5, x6 => if x6 = true then (if x1 ≥ (-2048) then (some (decide (x1 ≤ 2047))) else (some false)) else (if x5 = 3 then (if x1 ≥ (-4096) then (if x1 ≤ 4095 then (some ((Go.bits .and .i64 x1 1) == 0)) else (some false)) else (some false)) else (if x5 = 4 then (if x1 ≥ (-524288) then (some (decide (x1 < 524288))) else (some false)) else (if x5 = 5 then (if x1 ≥ (-1048576) then (if x1 < 1048576 then (some ((Go.bits .and .i64 x1 1) == 0)) else (some false)) else (some false)) else (some (x1 == 0)))))
def dovetailref3_Fits.f (k : Nat) (a0 : Int) (a1 : Int) : Option (Bool) := if a0 = 1 then (dovetailref3_Fits.j0 k a1 a0 (a0 == 1)) else (dovetailref3_Fits.j0 k a1 a0 (a0 == 2))
theorem dovetailref3_Fits.mono_l : ∀ k, (∀ y0 y1 y2, LeO (dovetailref3_Fits.j0 k y0 y1 y2) (dovetailref3_Fits.j0 (k + 1) y0 y1 y2))
  | 0 => fun _ _ _ r h => by simp [dovetailref3_Fits.j0] at h
  | k + 1 => by
    have ih0 := dovetailref3_Fits.mono_l k
    · intro y0 y1 y2
      unfold dovetailref3_Fits.j0
      repeat' first
      | (with_reducible exact ih0 _ _ _)
      | (with_reducible exact LeO.refl _)
      | (with_reducible exact LeO.none _)
      | (with_reducible refine LeO.ite ?_ ?_)
      | (with_reducible refine LeO.bind ?_ (fun _ => ?_))
      | exact ih0 _ _ _
      | exact LeO.none _
      | refine LeO.ite ?_ ?_
      | refine LeO.bind ?_ (fun _ => ?_)
theorem dovetailref3_Fits.mono : ∀ a0 a1 k, LeO (dovetailref3_Fits.f k a0 a1) (dovetailref3_Fits.f (k + 1) a0 a1) := by
  intro a0 a1 k
  have ih0 := dovetailref3_Fits.mono_l k
  unfold dovetailref3_Fits.f
  repeat' first
      | (with_reducible exact ih0 _ _ _)
      | (with_reducible exact LeO.refl _)
      | (with_reducible exact LeO.none _)
      | (with_reducible refine LeO.ite ?_ ?_)
      | (with_reducible refine LeO.bind ?_ (fun _ => ?_))
      | exact ih0 _ _ _
      | exact LeO.none _
      | refine LeO.ite ?_ ?_
      | refine LeO.bind ?_ (fun _ => ?_)
set_option maxHeartbeats 8000000 in
set_option maxRecDepth 100000 in
theorem dovetailref3_Fits.calls (k : Nat) (a0 : Int) (a1 : Int) (r : Bool) (w : World) (h : dovetailref3_Fits.f k a0 a1 = some r) :
    Calls Try.prog 14 #[.int .i64 a0, .int .i64 a1] w fun e w' => e = .returned (.bool r) ∧ Drawn0 w w' := by
  have H : (if a0 = 1 then (dovetailref3_Fits.j0 k a1 a0 (a0 == 1)) else (dovetailref3_Fits.j0 k a1 a0 (a0 == 2))) = some r := h
  clear h
  have HC3 := Aside0.mk H
  clear H
  go_enter Try.func14, Try.ntmps14
  go_upto_if 6 with (fail)
  go_cut [6] (fun v6 wc => ∃ (kq : Nat) (x6_2 : Bool), v6 = .bool x6_2 ∧ Aside0 (dovetailref3_Fits.j0 kq a1 a0 x6_2 = some r) ∧ Aside0 (kq ≤ k) ∧ Drawn0 w wc)
  case first =>
    have H := HC3.out
    clear HC3
    by_cases c4 : a0 = 1
    · rw [if_pos c4] at H
      have c4b0 : (a0 == 1) = true := beq_iff_eq.mpr c4
      have c4b1 : (a0 != 1) = false := bne_eq_false_iff_eq.mpr c4
      clear c4
      (first | rw [c4b0] | (simp only [i64_w, i32_w]; rw [c4b0]) | skip)
      have H' := Aside0.mk H
      clear H
      go_wp2
      go_meet
      case rel => exact ⟨_, ((a0 == 1)), (by first | rfl | (simp; done) | (simp [*]; done)), H', ⟨by first | omega | exact Nat.le_refl _⟩, by repeat (first | exact Drawn0.refl _ | apply Drawn0.step)⟩
    · rw [if_neg c4] at H
      have c4b0 : (a0 == 1) = false := beq_eq_false_iff_ne.mpr c4
      have c4b1 : (a0 != 1) = true := bne_iff_ne.mpr c4
      (first | rw [c4b0] | (simp only [i64_w, i32_w]; rw [c4b0]) | skip)
      have H' := Aside0.mk H
      clear H
      go_wp2
      go_meet
      case rel => exact ⟨_, ((a0 == 2)), (by first | rfl | (simp; done) | (simp [*]; done)), H', ⟨by first | omega | exact Nat.le_refl _⟩, by repeat (first | exact Drawn0.refl _ | apply Drawn0.step)⟩
  case rest =>
    clear HC3
    try clear c1
    try clear p2
    try clear c4
    try clear c4b0
    try clear c4b1
    obtain ⟨kq, x6_2, rfl, HA, HJ2, ⟨mc2, rfl⟩⟩ := hcut
    cases kq with
    | zero => exact absurd HA.out (by simp [dovetailref3_Fits.j0])
    | succ kj2 =>
      have H := HA.out
      clear HA
      simp only [dovetailref3_Fits.j0] at H
      by_cases c5 : x6_2 = true
      · subst c5
        have H1 : (if a1 ≥ (-2048) then (some (decide (a1 ≤ 2047))) else (some false)) = some r := by rw [if_pos rfl] at H; exact H
        clear H
        have H := H1
        clear H1
        by_cases c6 : a1 ≥ (-2048)
        · rw [if_pos c6] at H
          have c6b0 : decide ((-2048) ≤ a1) = true := decide_eq_true c6
          clear c6
          obtain rfl := Option.some.inj H
          go_wp2
          go_ret
          exact ⟨by first | rfl | (simp; done) | (simp [*]; done), by repeat (first | exact Drawn0.refl _ | apply Drawn0.step)⟩
        · rw [if_neg c6] at H
          have c6b0 : decide ((-2048) ≤ a1) = false := decide_eq_false c6
          clear c6
          obtain rfl := Option.some.inj H
          go_wp2
          go_ret
          exact ⟨by first | rfl | (simp; done) | (simp [*]; done), by repeat (first | exact Drawn0.refl _ | apply Drawn0.step)⟩
      · replace c5 := Bool.eq_false_iff.mpr c5
        subst c5
        have H1 : (if a0 = 3 then (if a1 ≥ (-4096) then (if a1 ≤ 4095 then (some ((Go.bits .and .i64 a1 1) == 0)) else (some false)) else (some false)) else (if a0 = 4 then (if a1 ≥ (-524288) then (some (decide (a1 < 524288))) else (some false)) else (if a0 = 5 then (if a1 ≥ (-1048576) then (if a1 < 1048576 then (some ((Go.bits .and .i64 a1 1) == 0)) else (some false)) else (some false)) else (some (a1 == 0))))) = some r := by rw [if_neg (show ¬ (false = true) by decide)] at H; exact H
        clear H
        have H := H1
        clear H1
        by_cases c7 : a0 = 3
        · rw [if_pos c7] at H
          have c7b0 : (a0 == 3) = true := beq_iff_eq.mpr c7
          have c7b1 : (a0 != 3) = false := bne_eq_false_iff_eq.mpr c7
          clear c7
          by_cases c8 : a1 ≥ (-4096)
          · rw [if_pos c8] at H
            have c8b0 : decide ((-4096) ≤ a1) = true := decide_eq_true c8
            clear c8
            by_cases c9 : a1 ≤ 4095
            · rw [if_pos c9] at H
              have c9b0 : decide (a1 ≤ 4095) = true := decide_eq_true c9
              clear c9
              obtain rfl := Option.some.inj H
              go_wp2
              go_ret
              exact ⟨by first | rfl | (simp; done) | (simp [*]; done), by repeat (first | exact Drawn0.refl _ | apply Drawn0.step)⟩
            · rw [if_neg c9] at H
              have c9b0 : decide (a1 ≤ 4095) = false := decide_eq_false c9
              clear c9
              obtain rfl := Option.some.inj H
              go_wp2
              go_ret
              exact ⟨by first | rfl | (simp; done) | (simp [*]; done), by repeat (first | exact Drawn0.refl _ | apply Drawn0.step)⟩
          · rw [if_neg c8] at H
            have c8b0 : decide ((-4096) ≤ a1) = false := decide_eq_false c8
            clear c8
            obtain rfl := Option.some.inj H
            go_wp2
            go_ret
            exact ⟨by first | rfl | (simp; done) | (simp [*]; done), by repeat (first | exact Drawn0.refl _ | apply Drawn0.step)⟩
        · rw [if_neg c7] at H
          have c7b0 : (a0 == 3) = false := beq_eq_false_iff_ne.mpr c7
          have c7b1 : (a0 != 3) = true := bne_iff_ne.mpr c7
          by_cases c10 : a0 = 4
          · rw [if_pos c10] at H
            have c10b0 : (a0 == 4) = true := beq_iff_eq.mpr c10
            have c10b1 : (a0 != 4) = false := bne_eq_false_iff_eq.mpr c10
            clear c10
            by_cases c11 : a1 ≥ (-524288)
            · rw [if_pos c11] at H
              have c11b0 : decide ((-524288) ≤ a1) = true := decide_eq_true c11
              clear c11
              obtain rfl := Option.some.inj H
              go_wp2
              go_ret
              exact ⟨by first | rfl | (simp; done) | (simp [*]; done), by repeat (first | exact Drawn0.refl _ | apply Drawn0.step)⟩
            · rw [if_neg c11] at H
              have c11b0 : decide ((-524288) ≤ a1) = false := decide_eq_false c11
              clear c11
              obtain rfl := Option.some.inj H
              go_wp2
              go_ret
              exact ⟨by first | rfl | (simp; done) | (simp [*]; done), by repeat (first | exact Drawn0.refl _ | apply Drawn0.step)⟩
          · rw [if_neg c10] at H
            have c10b0 : (a0 == 4) = false := beq_eq_false_iff_ne.mpr c10
            have c10b1 : (a0 != 4) = true := bne_iff_ne.mpr c10
            by_cases c12 : a0 = 5
            · rw [if_pos c12] at H
              have c12b0 : (a0 == 5) = true := beq_iff_eq.mpr c12
              have c12b1 : (a0 != 5) = false := bne_eq_false_iff_eq.mpr c12
              clear c12
              by_cases c13 : a1 ≥ (-1048576)
              · rw [if_pos c13] at H
                have c13b0 : decide ((-1048576) ≤ a1) = true := decide_eq_true c13
                clear c13
                by_cases c14 : a1 < 1048576
                · rw [if_pos c14] at H
                  have c14b0 : decide (a1 < 1048576) = true := decide_eq_true c14
                  clear c14
                  obtain rfl := Option.some.inj H
                  go_wp2
                  go_ret
                  exact ⟨by first | rfl | (simp; done) | (simp [*]; done), by repeat (first | exact Drawn0.refl _ | apply Drawn0.step)⟩
                · rw [if_neg c14] at H
                  have c14b0 : decide (a1 < 1048576) = false := decide_eq_false c14
                  clear c14
                  obtain rfl := Option.some.inj H
                  go_wp2
                  go_ret
                  exact ⟨by first | rfl | (simp; done) | (simp [*]; done), by repeat (first | exact Drawn0.refl _ | apply Drawn0.step)⟩
              · rw [if_neg c13] at H
                have c13b0 : decide ((-1048576) ≤ a1) = false := decide_eq_false c13
                clear c13
                obtain rfl := Option.some.inj H
                go_wp2
                go_ret
                exact ⟨by first | rfl | (simp; done) | (simp [*]; done), by repeat (first | exact Drawn0.refl _ | apply Drawn0.step)⟩
            · rw [if_neg c12] at H
              have c12b0 : (a0 == 5) = false := beq_eq_false_iff_ne.mpr c12
              have c12b1 : (a0 != 5) = true := bne_iff_ne.mpr c12
              obtain rfl := Option.some.inj H
              go_wp2
              go_ret
              exact ⟨by first | rfl | (simp; done) | (simp [*]; done), by repeat (first | exact Drawn0.refl _ | apply Drawn0.step)⟩

/-! ### dovetailref3_put: function 25 -/
def dovetailref3_put.f (a0 : Int) (a1 : Int) (a2 : Int) (a3 : Int) (a4 : Int) : Option (Int) := if 0 ≤ (wrap64 ((wrap64 (a2 - a3)) + 1)) then (if 0 ≤ a4 then (if 0 ≤ a3 then (some (Go.bits .or .u32 (Go.bits .andNot .u32 a0 (shl .u32 (((shl .u32 1 (wrap64 ((wrap64 (a2 - a3)) + 1))) - 1) % 4294967296) a4)) (Go.bits .and .u32 (shl .u32 ((shr .u64 a1 a3) % 4294967296) a4) (shl .u32 (((shl .u32 1 (wrap64 ((wrap64 (a2 - a3)) + 1))) - 1) % 4294967296) a4)))) else (none)) else (none)) else (none)
set_option maxHeartbeats 8000000 in
set_option maxRecDepth 100000 in
theorem dovetailref3_put.calls (a0 : Int) (a1 : Int) (a2 : Int) (a3 : Int) (a4 : Int) (r : Int) (w : World) (h : dovetailref3_put.f a0 a1 a2 a3 a4 = some r) :
    Calls Try.prog 25 #[.int .u32 a0, .int .u64 a1, .int .i64 a2, .int .i64 a3, .int .i64 a4] w fun e w' => e = .returned (.int .u32 r) ∧ Drawn0 w w' := by
  have H : (if 0 ≤ (wrap64 ((wrap64 (a2 - a3)) + 1)) then (if 0 ≤ a4 then (if 0 ≤ a3 then (some (Go.bits .or .u32 (Go.bits .andNot .u32 a0 (shl .u32 (((shl .u32 1 (wrap64 ((wrap64 (a2 - a3)) + 1))) - 1) % 4294967296) a4)) (Go.bits .and .u32 (shl .u32 ((shr .u64 a1 a3) % 4294967296) a4) (shl .u32 (((shl .u32 1 (wrap64 ((wrap64 (a2 - a3)) + 1))) - 1) % 4294967296) a4)))) else (none)) else (none)) else (none)) = some r := h
  clear h
  obtain ⟨ji6, hji6⟩ : ∃ j_ : Int, (wrap64 ((wrap64 (a2 - a3)) + 1)) = j_ := ⟨_, rfl⟩
  replace H : (if 0 ≤ (ji6) then (if 0 ≤ a4 then (if 0 ≤ a3 then (some (Go.bits .or .u32 (Go.bits .andNot .u32 a0 (shl .u32 (((shl .u32 1 (ji6)) - 1) % 4294967296) a4)) (Go.bits .and .u32 (shl .u32 ((shr .u64 a1 a3) % 4294967296) a4) (shl .u32 (((shl .u32 1 (ji6)) - 1) % 4294967296) a4)))) else (none)) else (none)) else (none)) = some r := by first | (rw [hji6] at H; exact H) | (simp only [hji6] at H ⊢; exact H)
  have hji6w : (IntKind.i64.wrap ((wrap64 (a2 - a3)) + 1)) = ji6 := (i64_w _).trans hji6
  by_cases c7 : 0 ≤ (ji6)
  · rw [if_pos c7] at H
    have c7b0 := eq_true c7
    have c7b1 : decide (0 ≤ (ji6)) = true := decide_eq_true c7
    clear c7
    obtain ⟨ji8, hji8⟩ : ∃ j_ : Int, (shl .u32 1 (ji6)) = j_ := ⟨_, rfl⟩
    replace H : (if 0 ≤ a4 then (if 0 ≤ a3 then (some (Go.bits .or .u32 (Go.bits .andNot .u32 a0 (shl .u32 (((ji8) - 1) % 4294967296) a4)) (Go.bits .and .u32 (shl .u32 ((shr .u64 a1 a3) % 4294967296) a4) (shl .u32 (((ji8) - 1) % 4294967296) a4)))) else (none)) else (none)) = some r := by first | (rw [hji8] at H; exact H) | (simp only [hji8] at H ⊢; exact H)
    have hji8_ : (IntKind.u32.wrap (1 * 2 ^ min (ji6).toNat 32)) = ji8 := hji8
    have hji8z : (ji6) ≤ 32 → (IntKind.u32.wrap (1 * 2 ^ (ji6).toNat)) = ji8 := shl_small hji8
    have hji8u : (IntKind.u32.wrap (2 ^ min (ji6).toNat 32)) = ji8 := by have h_ := hji8_; rw [Int.one_mul] at h_; exact h_
    have hji8v : (ji6) ≤ 32 → (IntKind.u32.wrap (2 ^ (ji6).toNat)) = ji8 := fun hle_ => by have h_ := hji8z hle_; rw [Int.one_mul] at h_; exact h_
    by_cases c9 : 0 ≤ a4
    · rw [if_pos c9] at H
      have c9b0 := eq_true c9
      have c9b1 : decide (0 ≤ a4) = true := decide_eq_true c9
      clear c9
      obtain ⟨ji10, hji10⟩ : ∃ j_ : Int, (shl .u32 (((ji8) - 1) % 4294967296) a4) = j_ := ⟨_, rfl⟩
      replace H : (if 0 ≤ a3 then (some (Go.bits .or .u32 (Go.bits .andNot .u32 a0 (ji10)) (Go.bits .and .u32 (shl .u32 ((shr .u64 a1 a3) % 4294967296) a4) (ji10)))) else (none)) = some r := by first | (rw [hji10] at H; exact H) | (simp only [hji10] at H ⊢; exact H)
      have hji10_ : (IntKind.u32.wrap ((((ji8) - 1) % 4294967296) * 2 ^ min a4.toNat 32)) = ji10 := hji10
      have hji10z : a4 ≤ 32 → (IntKind.u32.wrap ((((ji8) - 1) % 4294967296) * 2 ^ a4.toNat)) = ji10 := shl_small hji10
      by_cases c11 : 0 ≤ a3
      · rw [if_pos c11] at H
        have c11b0 := eq_true c11
        have c11b1 : decide (0 ≤ a3) = true := decide_eq_true c11
        clear c11
        obtain ⟨ji12, hji12⟩ : ∃ j_ : Int, (shr .u64 a1 a3) = j_ := ⟨_, rfl⟩
        replace H : (some (Go.bits .or .u32 (Go.bits .andNot .u32 a0 (ji10)) (Go.bits .and .u32 (shl .u32 ((ji12) % 4294967296) a4) (ji10)))) = some r := by first | (rw [hji12] at H; exact H) | (simp only [hji12] at H ⊢; exact H)
        have hji12_ : (a1 / 2 ^ min a3.toNat 64) = ji12 := hji12
        have hji12z : a3 ≤ 64 → (a1 / 2 ^ a3.toNat) = ji12 := shr_small hji12
        have c13b0 := eq_true (of_decide_eq_true (by first | (with_reducible assumption) | assumption) : 0 ≤ a4)
        obtain ⟨ji14, hji14⟩ : ∃ j_ : Int, (shl .u32 ((ji12) % 4294967296) a4) = j_ := ⟨_, rfl⟩
        replace H : (some (Go.bits .or .u32 (Go.bits .andNot .u32 a0 (ji10)) (Go.bits .and .u32 (ji14) (ji10)))) = some r := by first | (rw [hji14] at H; exact H) | (simp only [hji14] at H ⊢; exact H)
        have hji14_ : (IntKind.u32.wrap (((ji12) % 4294967296) * 2 ^ min a4.toNat 32)) = ji14 := hji14
        have hji14z : a4 ≤ 32 → (IntKind.u32.wrap (((ji12) % 4294967296) * 2 ^ a4.toNat)) = ji14 := shl_small hji14
        obtain rfl := Option.some.inj H
        go_enter Try.func25, Try.ntmps25
        go_wp2
        go_ret
        exact ⟨by first | rfl | (simp; done) | (simp only [← hji6, ← hji8, ← hji10, ← hji12, ← hji14] <;> (first | rfl | simp)) | (simp [*]; done), by repeat (first | exact Drawn0.refl _ | apply Drawn0.step)⟩
      · rw [if_neg c11] at H
        exact absurd H (by simp)
    · rw [if_neg c9] at H
      exact absurd H (by simp)
  · rw [if_neg c7] at H
    exact absurd H (by simp)

/-! ### dovetailref3_Set: function 23 -/
def dovetailref3_Set.f (a0 : Int) (a1 : Int) (a2 : Int) : Option (Int) := if a0 = 1 then ((dovetailref3_put.f a1 (IntKind.u64.wrap (a2)) 11 0 20).bind fun t146 => (some t146)) else (if a0 = 2 then ((dovetailref3_put.f a1 (IntKind.u64.wrap (a2)) 11 5 25).bind fun t147 => ((dovetailref3_put.f t147 (IntKind.u64.wrap (a2)) 4 0 7).bind fun t148 => (some t148))) else (if a0 = 3 then ((dovetailref3_put.f a1 (IntKind.u64.wrap (a2)) 12 12 31).bind fun t149 => ((dovetailref3_put.f t149 (IntKind.u64.wrap (a2)) 11 11 7).bind fun t150 => ((dovetailref3_put.f t150 (IntKind.u64.wrap (a2)) 10 5 25).bind fun t151 => ((dovetailref3_put.f t151 (IntKind.u64.wrap (a2)) 4 1 8).bind fun t152 => (some t152))))) else (if a0 = 4 then ((dovetailref3_put.f a1 (IntKind.u64.wrap (a2)) 19 0 12).bind fun t153 => (some t153)) else (if a0 = 5 then ((dovetailref3_put.f a1 (IntKind.u64.wrap (a2)) 20 20 31).bind fun t154 => ((dovetailref3_put.f t154 (IntKind.u64.wrap (a2)) 19 12 12).bind fun t155 => ((dovetailref3_put.f t155 (IntKind.u64.wrap (a2)) 11 11 20).bind fun t156 => ((dovetailref3_put.f t156 (IntKind.u64.wrap (a2)) 10 1 21).bind fun t157 => (some t157))))) else (some a1)))))
set_option maxHeartbeats 8000000 in
set_option maxRecDepth 100000 in
theorem dovetailref3_Set.calls (a0 : Int) (a1 : Int) (a2 : Int) (r : Int) (w : World) (h : dovetailref3_Set.f a0 a1 a2 = some r) :
    Calls Try.prog 23 #[.int .i64 a0, .int .u32 a1, .int .i64 a2] w fun e w' => e = .returned (.int .u32 r) ∧ Drawn0 w w' := by
  have H : (if a0 = 1 then ((dovetailref3_put.f a1 (IntKind.u64.wrap (a2)) 11 0 20).bind fun t146 => (some t146)) else (if a0 = 2 then ((dovetailref3_put.f a1 (IntKind.u64.wrap (a2)) 11 5 25).bind fun t147 => ((dovetailref3_put.f t147 (IntKind.u64.wrap (a2)) 4 0 7).bind fun t148 => (some t148))) else (if a0 = 3 then ((dovetailref3_put.f a1 (IntKind.u64.wrap (a2)) 12 12 31).bind fun t149 => ((dovetailref3_put.f t149 (IntKind.u64.wrap (a2)) 11 11 7).bind fun t150 => ((dovetailref3_put.f t150 (IntKind.u64.wrap (a2)) 10 5 25).bind fun t151 => ((dovetailref3_put.f t151 (IntKind.u64.wrap (a2)) 4 1 8).bind fun t152 => (some t152))))) else (if a0 = 4 then ((dovetailref3_put.f a1 (IntKind.u64.wrap (a2)) 19 0 12).bind fun t153 => (some t153)) else (if a0 = 5 then ((dovetailref3_put.f a1 (IntKind.u64.wrap (a2)) 20 20 31).bind fun t154 => ((dovetailref3_put.f t154 (IntKind.u64.wrap (a2)) 19 12 12).bind fun t155 => ((dovetailref3_put.f t155 (IntKind.u64.wrap (a2)) 11 11 20).bind fun t156 => ((dovetailref3_put.f t156 (IntKind.u64.wrap (a2)) 10 1 21).bind fun t157 => (some t157))))) else (some a1)))))) = some r := h
  clear h
  by_cases c4 : a0 = 1
  · rw [if_pos c4] at H
    have c4b0 : (a0 == 1) = true := beq_iff_eq.mpr c4
    have c4b1 : (a0 != 1) = false := bne_eq_false_iff_eq.mpr c4
    clear c4
    replace H := Option.bind_eq_some_iff.mp H
    obtain ⟨t146, A50, H⟩ := H
    replace H : (some t146) = some r := H
    have A5 := Aside0.mk A50
    clear A50
    obtain rfl := Option.some.inj H
    go_enter Try.func23, Try.ntmps23
    go_wp2_with (first | ((with_reducible refine gate_callee (f := 25) rfl ?_); refine goesL_ (some 15) rfl rfl Try.func25 (by kernel_rfl) rfl #[.int .u32 a1, .int .u64 (IntKind.u64.wrap (a2)), .int .i64 11, .int .i64 0, .int .i64 20] rfl (by (try simp only [List.map_toArray, List.map_cons, List.map_nil]); first | done | rfl | (simp only [List.length_drop, List.length_take]; rfl)) ?_; (with_reducible refine (dovetailref3_put.calls a1 (IntKind.u64.wrap (a2)) 11 0 20 t146 _ A5.out).mono ?_); rintro e w' ⟨rfl, ⟨nd, rfl⟩⟩; refine ⟨_, rfl, ?_⟩))
    go_ret
    exact ⟨by first | rfl | (simp; done) | (simp [*]; done), by repeat (first | exact Drawn0.refl _ | apply Drawn0.step)⟩
  · rw [if_neg c4] at H
    have c4b0 : (a0 == 1) = false := beq_eq_false_iff_ne.mpr c4
    have c4b1 : (a0 != 1) = true := bne_iff_ne.mpr c4
    by_cases c6 : a0 = 2
    · rw [if_pos c6] at H
      have c6b0 : (a0 == 2) = true := beq_iff_eq.mpr c6
      have c6b1 : (a0 != 2) = false := bne_eq_false_iff_eq.mpr c6
      clear c6
      replace H := Option.bind_eq_some_iff.mp H
      obtain ⟨t147, A70, H⟩ := H
      replace H : ((dovetailref3_put.f t147 (IntKind.u64.wrap (a2)) 4 0 7).bind fun t148 => (some t148)) = some r := H
      have A7 := Aside0.mk A70
      clear A70
      replace H := Option.bind_eq_some_iff.mp H
      obtain ⟨t148, A80, H⟩ := H
      replace H : (some t148) = some r := H
      have A8 := Aside0.mk A80
      clear A80
      obtain rfl := Option.some.inj H
      go_enter Try.func23, Try.ntmps23
      go_wp2_with (first | ((with_reducible refine gate_callee (f := 25) rfl ?_); refine goesL_ (some 20) rfl rfl Try.func25 (by kernel_rfl) rfl #[.int .u32 a1, .int .u64 (IntKind.u64.wrap (a2)), .int .i64 11, .int .i64 5, .int .i64 25] rfl (by (try simp only [List.map_toArray, List.map_cons, List.map_nil]); first | done | rfl | (simp only [List.length_drop, List.length_take]; rfl)) ?_; (with_reducible refine (dovetailref3_put.calls a1 (IntKind.u64.wrap (a2)) 11 5 25 t147 _ A7.out).mono ?_); rintro e w' ⟨rfl, ⟨nd, rfl⟩⟩; refine ⟨_, rfl, ?_⟩) | ((with_reducible refine gate_callee (f := 25) rfl ?_); refine goesL_ (some 22) rfl rfl Try.func25 (by kernel_rfl) rfl #[.int .u32 t147, .int .u64 (IntKind.u64.wrap (a2)), .int .i64 4, .int .i64 0, .int .i64 7] rfl (by (try simp only [List.map_toArray, List.map_cons, List.map_nil]); first | done | rfl | (simp only [List.length_drop, List.length_take]; rfl)) ?_; (with_reducible refine (dovetailref3_put.calls t147 (IntKind.u64.wrap (a2)) 4 0 7 t148 _ A8.out).mono ?_); rintro e w' ⟨rfl, ⟨nd, rfl⟩⟩; refine ⟨_, rfl, ?_⟩))
      go_ret
      exact ⟨by first | rfl | (simp; done) | (simp [*]; done), by repeat (first | exact Drawn0.refl _ | apply Drawn0.step)⟩
    · rw [if_neg c6] at H
      have c6b0 : (a0 == 2) = false := beq_eq_false_iff_ne.mpr c6
      have c6b1 : (a0 != 2) = true := bne_iff_ne.mpr c6
      by_cases c9 : a0 = 3
      · rw [if_pos c9] at H
        have c9b0 : (a0 == 3) = true := beq_iff_eq.mpr c9
        have c9b1 : (a0 != 3) = false := bne_eq_false_iff_eq.mpr c9
        clear c9
        replace H := Option.bind_eq_some_iff.mp H
        obtain ⟨t149, A100, H⟩ := H
        replace H : ((dovetailref3_put.f t149 (IntKind.u64.wrap (a2)) 11 11 7).bind fun t150 => ((dovetailref3_put.f t150 (IntKind.u64.wrap (a2)) 10 5 25).bind fun t151 => ((dovetailref3_put.f t151 (IntKind.u64.wrap (a2)) 4 1 8).bind fun t152 => (some t152)))) = some r := H
        have A10 := Aside0.mk A100
        clear A100
        replace H := Option.bind_eq_some_iff.mp H
        obtain ⟨t150, A110, H⟩ := H
        replace H : ((dovetailref3_put.f t150 (IntKind.u64.wrap (a2)) 10 5 25).bind fun t151 => ((dovetailref3_put.f t151 (IntKind.u64.wrap (a2)) 4 1 8).bind fun t152 => (some t152))) = some r := H
        have A11 := Aside0.mk A110
        clear A110
        replace H := Option.bind_eq_some_iff.mp H
        obtain ⟨t151, A120, H⟩ := H
        replace H : ((dovetailref3_put.f t151 (IntKind.u64.wrap (a2)) 4 1 8).bind fun t152 => (some t152)) = some r := H
        have A12 := Aside0.mk A120
        clear A120
        replace H := Option.bind_eq_some_iff.mp H
        obtain ⟨t152, A130, H⟩ := H
        replace H : (some t152) = some r := H
        have A13 := Aside0.mk A130
        clear A130
        obtain rfl := Option.some.inj H
        go_enter Try.func23, Try.ntmps23
        go_wp2_with (first | ((with_reducible refine gate_callee (f := 25) rfl ?_); refine goesL_ (some 27) rfl rfl Try.func25 (by kernel_rfl) rfl #[.int .u32 a1, .int .u64 (IntKind.u64.wrap (a2)), .int .i64 12, .int .i64 12, .int .i64 31] rfl (by (try simp only [List.map_toArray, List.map_cons, List.map_nil]); first | done | rfl | (simp only [List.length_drop, List.length_take]; rfl)) ?_; (with_reducible refine (dovetailref3_put.calls a1 (IntKind.u64.wrap (a2)) 12 12 31 t149 _ A10.out).mono ?_); rintro e w' ⟨rfl, ⟨nd, rfl⟩⟩; refine ⟨_, rfl, ?_⟩) | ((with_reducible refine gate_callee (f := 25) rfl ?_); refine goesL_ (some 29) rfl rfl Try.func25 (by kernel_rfl) rfl #[.int .u32 t149, .int .u64 (IntKind.u64.wrap (a2)), .int .i64 11, .int .i64 11, .int .i64 7] rfl (by (try simp only [List.map_toArray, List.map_cons, List.map_nil]); first | done | rfl | (simp only [List.length_drop, List.length_take]; rfl)) ?_; (with_reducible refine (dovetailref3_put.calls t149 (IntKind.u64.wrap (a2)) 11 11 7 t150 _ A11.out).mono ?_); rintro e w' ⟨rfl, ⟨nd, rfl⟩⟩; refine ⟨_, rfl, ?_⟩) | ((with_reducible refine gate_callee (f := 25) rfl ?_); refine goesL_ (some 31) rfl rfl Try.func25 (by kernel_rfl) rfl #[.int .u32 t150, .int .u64 (IntKind.u64.wrap (a2)), .int .i64 10, .int .i64 5, .int .i64 25] rfl (by (try simp only [List.map_toArray, List.map_cons, List.map_nil]); first | done | rfl | (simp only [List.length_drop, List.length_take]; rfl)) ?_; (with_reducible refine (dovetailref3_put.calls t150 (IntKind.u64.wrap (a2)) 10 5 25 t151 _ A12.out).mono ?_); rintro e w' ⟨rfl, ⟨nd, rfl⟩⟩; refine ⟨_, rfl, ?_⟩) | ((with_reducible refine gate_callee (f := 25) rfl ?_); refine goesL_ (some 33) rfl rfl Try.func25 (by kernel_rfl) rfl #[.int .u32 t151, .int .u64 (IntKind.u64.wrap (a2)), .int .i64 4, .int .i64 1, .int .i64 8] rfl (by (try simp only [List.map_toArray, List.map_cons, List.map_nil]); first | done | rfl | (simp only [List.length_drop, List.length_take]; rfl)) ?_; (with_reducible refine (dovetailref3_put.calls t151 (IntKind.u64.wrap (a2)) 4 1 8 t152 _ A13.out).mono ?_); rintro e w' ⟨rfl, ⟨nd, rfl⟩⟩; refine ⟨_, rfl, ?_⟩))
        go_ret
        exact ⟨by first | rfl | (simp; done) | (simp [*]; done), by repeat (first | exact Drawn0.refl _ | apply Drawn0.step)⟩
      · rw [if_neg c9] at H
        have c9b0 : (a0 == 3) = false := beq_eq_false_iff_ne.mpr c9
        have c9b1 : (a0 != 3) = true := bne_iff_ne.mpr c9
        by_cases c14 : a0 = 4
        · rw [if_pos c14] at H
          have c14b0 : (a0 == 4) = true := beq_iff_eq.mpr c14
          have c14b1 : (a0 != 4) = false := bne_eq_false_iff_eq.mpr c14
          clear c14
          replace H := Option.bind_eq_some_iff.mp H
          obtain ⟨t153, A150, H⟩ := H
          replace H : (some t153) = some r := H
          have A15 := Aside0.mk A150
          clear A150
          obtain rfl := Option.some.inj H
          go_enter Try.func23, Try.ntmps23
          go_wp2_with (first | ((with_reducible refine gate_callee (f := 25) rfl ?_); refine goesL_ (some 38) rfl rfl Try.func25 (by kernel_rfl) rfl #[.int .u32 a1, .int .u64 (IntKind.u64.wrap (a2)), .int .i64 19, .int .i64 0, .int .i64 12] rfl (by (try simp only [List.map_toArray, List.map_cons, List.map_nil]); first | done | rfl | (simp only [List.length_drop, List.length_take]; rfl)) ?_; (with_reducible refine (dovetailref3_put.calls a1 (IntKind.u64.wrap (a2)) 19 0 12 t153 _ A15.out).mono ?_); rintro e w' ⟨rfl, ⟨nd, rfl⟩⟩; refine ⟨_, rfl, ?_⟩))
          go_ret
          exact ⟨by first | rfl | (simp; done) | (simp [*]; done), by repeat (first | exact Drawn0.refl _ | apply Drawn0.step)⟩
        · rw [if_neg c14] at H
          have c14b0 : (a0 == 4) = false := beq_eq_false_iff_ne.mpr c14
          have c14b1 : (a0 != 4) = true := bne_iff_ne.mpr c14
          by_cases c16 : a0 = 5
          · rw [if_pos c16] at H
            have c16b0 : (a0 == 5) = true := beq_iff_eq.mpr c16
            have c16b1 : (a0 != 5) = false := bne_eq_false_iff_eq.mpr c16
            clear c16
            replace H := Option.bind_eq_some_iff.mp H
            obtain ⟨t154, A170, H⟩ := H
            replace H : ((dovetailref3_put.f t154 (IntKind.u64.wrap (a2)) 19 12 12).bind fun t155 => ((dovetailref3_put.f t155 (IntKind.u64.wrap (a2)) 11 11 20).bind fun t156 => ((dovetailref3_put.f t156 (IntKind.u64.wrap (a2)) 10 1 21).bind fun t157 => (some t157)))) = some r := H
            have A17 := Aside0.mk A170
            clear A170
            replace H := Option.bind_eq_some_iff.mp H
            obtain ⟨t155, A180, H⟩ := H
            replace H : ((dovetailref3_put.f t155 (IntKind.u64.wrap (a2)) 11 11 20).bind fun t156 => ((dovetailref3_put.f t156 (IntKind.u64.wrap (a2)) 10 1 21).bind fun t157 => (some t157))) = some r := H
            have A18 := Aside0.mk A180
            clear A180
            replace H := Option.bind_eq_some_iff.mp H
            obtain ⟨t156, A190, H⟩ := H
            replace H : ((dovetailref3_put.f t156 (IntKind.u64.wrap (a2)) 10 1 21).bind fun t157 => (some t157)) = some r := H
            have A19 := Aside0.mk A190
            clear A190
            replace H := Option.bind_eq_some_iff.mp H
            obtain ⟨t157, A200, H⟩ := H
            replace H : (some t157) = some r := H
            have A20 := Aside0.mk A200
            clear A200
            obtain rfl := Option.some.inj H
            go_enter Try.func23, Try.ntmps23
            go_wp2_with (first | ((with_reducible refine gate_callee (f := 25) rfl ?_); refine goesL_ (some 43) rfl rfl Try.func25 (by kernel_rfl) rfl #[.int .u32 a1, .int .u64 (IntKind.u64.wrap (a2)), .int .i64 20, .int .i64 20, .int .i64 31] rfl (by (try simp only [List.map_toArray, List.map_cons, List.map_nil]); first | done | rfl | (simp only [List.length_drop, List.length_take]; rfl)) ?_; (with_reducible refine (dovetailref3_put.calls a1 (IntKind.u64.wrap (a2)) 20 20 31 t154 _ A17.out).mono ?_); rintro e w' ⟨rfl, ⟨nd, rfl⟩⟩; refine ⟨_, rfl, ?_⟩) | ((with_reducible refine gate_callee (f := 25) rfl ?_); refine goesL_ (some 45) rfl rfl Try.func25 (by kernel_rfl) rfl #[.int .u32 t154, .int .u64 (IntKind.u64.wrap (a2)), .int .i64 19, .int .i64 12, .int .i64 12] rfl (by (try simp only [List.map_toArray, List.map_cons, List.map_nil]); first | done | rfl | (simp only [List.length_drop, List.length_take]; rfl)) ?_; (with_reducible refine (dovetailref3_put.calls t154 (IntKind.u64.wrap (a2)) 19 12 12 t155 _ A18.out).mono ?_); rintro e w' ⟨rfl, ⟨nd, rfl⟩⟩; refine ⟨_, rfl, ?_⟩) | ((with_reducible refine gate_callee (f := 25) rfl ?_); refine goesL_ (some 47) rfl rfl Try.func25 (by kernel_rfl) rfl #[.int .u32 t155, .int .u64 (IntKind.u64.wrap (a2)), .int .i64 11, .int .i64 11, .int .i64 20] rfl (by (try simp only [List.map_toArray, List.map_cons, List.map_nil]); first | done | rfl | (simp only [List.length_drop, List.length_take]; rfl)) ?_; (with_reducible refine (dovetailref3_put.calls t155 (IntKind.u64.wrap (a2)) 11 11 20 t156 _ A19.out).mono ?_); rintro e w' ⟨rfl, ⟨nd, rfl⟩⟩; refine ⟨_, rfl, ?_⟩) | ((with_reducible refine gate_callee (f := 25) rfl ?_); refine goesL_ (some 49) rfl rfl Try.func25 (by kernel_rfl) rfl #[.int .u32 t156, .int .u64 (IntKind.u64.wrap (a2)), .int .i64 10, .int .i64 1, .int .i64 21] rfl (by (try simp only [List.map_toArray, List.map_cons, List.map_nil]); first | done | rfl | (simp only [List.length_drop, List.length_take]; rfl)) ?_; (with_reducible refine (dovetailref3_put.calls t156 (IntKind.u64.wrap (a2)) 10 1 21 t157 _ A20.out).mono ?_); rintro e w' ⟨rfl, ⟨nd, rfl⟩⟩; refine ⟨_, rfl, ?_⟩))
            go_ret
            exact ⟨by first | rfl | (simp; done) | (simp [*]; done), by repeat (first | exact Drawn0.refl _ | apply Drawn0.step)⟩
          · rw [if_neg c16] at H
            have c16b0 : (a0 == 5) = false := beq_eq_false_iff_ne.mpr c16
            have c16b1 : (a0 != 5) = true := bne_iff_ne.mpr c16
            obtain rfl := Option.some.inj H
            go_enter Try.func23, Try.ntmps23
            go_wp2
            go_ret
            exact ⟨by first | rfl | (simp; done) | (simp [*]; done), by repeat (first | exact Drawn0.refl _ | apply Drawn0.step)⟩

/-! ### dovetailref3_Put: function 10 -/
def dovetailref3_Put.f (k : Nat) (a0 : Int) (a1 : Int) (a2 : Int) : Option (Int × Bool) := (dovetailref3_Fits.f k a0 a2).bind fun t158 => (if t158 = true then ((dovetailref3_Set.f a0 a1 a2).bind fun t159 => (some (t159, true))) else (some (0, false)))
theorem dovetailref3_Put.mono : ∀ a0 a1 a2 k, LeO (dovetailref3_Put.f k a0 a1 a2) (dovetailref3_Put.f (k + 1) a0 a1 a2) := by
  intro a0 a1 a2 k
  unfold dovetailref3_Put.f
  repeat' first
      | (with_reducible exact dovetailref3_Fits.mono _ _ _)
      | (with_reducible exact LeO.refl _)
      | (with_reducible exact LeO.none _)
      | (with_reducible refine LeO.ite ?_ ?_)
      | (with_reducible refine LeO.bind ?_ (fun _ => ?_))
      | exact dovetailref3_Fits.mono _ _ _
      | exact LeO.none _
      | refine LeO.ite ?_ ?_
      | refine LeO.bind ?_ (fun _ => ?_)
set_option maxHeartbeats 8000000 in
set_option maxRecDepth 100000 in
theorem dovetailref3_Put.calls (k : Nat) (a0 : Int) (a1 : Int) (a2 : Int) (r1 : Int) (r2 : Bool) (w : World) (h : dovetailref3_Put.f k a0 a1 a2 = some (r1, r2)) :
    Calls Try.prog 10 #[.int .i64 a0, .int .u32 a1, .int .i64 a2] w fun e w' => e = .returned (.tuple #[.int .u32 r1, .bool r2]) ∧ Drawn0 w w' := by
  have H : ((dovetailref3_Fits.f k a0 a2).bind fun t158 => (if t158 = true then ((dovetailref3_Set.f a0 a1 a2).bind fun t159 => (some (t159, true))) else (some (0, false)))) = some (r1, r2) := h
  clear h
  replace H := Option.bind_eq_some_iff.mp H
  obtain ⟨t158, A40, H⟩ := H
  replace H : (if t158 = true then ((dovetailref3_Set.f a0 a1 a2).bind fun t159 => (some (t159, true))) else (some (0, false))) = some (r1, r2) := H
  have A4 := Aside0.mk A40
  clear A40
  by_cases c5 : t158 = true
  · subst c5
    have H1 : ((dovetailref3_Set.f a0 a1 a2).bind fun t159 => (some (t159, true))) = some (r1, r2) := by rw [if_pos rfl] at H; exact H
    clear H
    have H := H1
    clear H1
    replace H := Option.bind_eq_some_iff.mp H
    obtain ⟨t159, A60, H⟩ := H
    replace H : (some (t159, true)) = some (r1, r2) := H
    have A6 := Aside0.mk A60
    clear A60
    simp only [Option.some.injEq, Prod.mk.injEq] at H
    obtain ⟨rfl, rfl⟩ := H
    go_enter Try.func10, Try.ntmps10
    go_wp2_with (first | ((with_reducible refine gate_callee (f := 14) rfl ?_); refine goesL_ (some 10) rfl rfl Try.func14 (by kernel_rfl) rfl #[.int .i64 a0, .int .i64 a2] rfl (by (try simp only [List.map_toArray, List.map_cons, List.map_nil]); first | done | rfl | (simp only [List.length_drop, List.length_take]; rfl)) ?_; (with_reducible refine (dovetailref3_Fits.calls k a0 a2 true _ A4.out).mono ?_); rintro e w' ⟨rfl, ⟨nd, rfl⟩⟩; refine ⟨_, rfl, ?_⟩) | ((with_reducible refine gate_callee (f := 23) rfl ?_); refine goesL_ (some 15) rfl rfl Try.func23 (by kernel_rfl) rfl #[.int .i64 a0, .int .u32 a1, .int .i64 a2] rfl (by (try simp only [List.map_toArray, List.map_cons, List.map_nil]); first | done | rfl | (simp only [List.length_drop, List.length_take]; rfl)) ?_; (with_reducible refine (dovetailref3_Set.calls a0 a1 a2 t159 _ A6.out).mono ?_); rintro e w' ⟨rfl, ⟨nd, rfl⟩⟩; refine ⟨_, rfl, ?_⟩))
    go_ret2
    exact ⟨by first | rfl | (simp; done) | (simp [*]; done), by repeat (first | exact Drawn0.refl _ | apply Drawn0.step)⟩
  · replace c5 := Bool.eq_false_iff.mpr c5
    subst c5
    have H1 : (some (0, false)) = some (r1, r2) := by rw [if_neg (show ¬ (false = true) by decide)] at H; exact H
    clear H
    have H := H1
    clear H1
    simp only [Option.some.injEq, Prod.mk.injEq] at H
    obtain ⟨rfl, rfl⟩ := H
    go_enter Try.func10, Try.ntmps10
    go_wp2_with (first | ((with_reducible refine gate_callee (f := 14) rfl ?_); refine goesL_ (some 10) rfl rfl Try.func14 (by kernel_rfl) rfl #[.int .i64 a0, .int .i64 a2] rfl (by (try simp only [List.map_toArray, List.map_cons, List.map_nil]); first | done | rfl | (simp only [List.length_drop, List.length_take]; rfl)) ?_; (with_reducible refine (dovetailref3_Fits.calls k a0 a2 false _ A4.out).mono ?_); rintro e w' ⟨rfl, ⟨nd, rfl⟩⟩; refine ⟨_, rfl, ?_⟩))
    go_ret2
    exact ⟨by first | rfl | (simp; done) | (simp [*]; done), by repeat (first | exact Drawn0.refl _ | apply Drawn0.step)⟩

/-! ### dovetailref3_Sign: function 16 -/
def dovetailref3_Sign.f (a0 : Int) (a1 : Int) : Option (Int) := if a1 < 1 then (some 0) else (if a1 ≥ 64 then (some (wrap64 (a0))) else (if 0 ≤ (wrap64 (64 - a1)) then (some (shr .i64 (wrap64 (shl .u64 a0 (wrap64 (64 - a1)))) (wrap64 (64 - a1)))) else (none)))
set_option maxHeartbeats 8000000 in
set_option maxRecDepth 100000 in
theorem dovetailref3_Sign.calls (a0 : Int) (a1 : Int) (r : Int) (w : World) (h : dovetailref3_Sign.f a0 a1 = some r) :
    Calls Try.prog 16 #[.int .u64 a0, .int .i64 a1] w fun e w' => e = .returned (.int .i64 r) ∧ Drawn0 w w' := by
  have H : (if a1 < 1 then (some 0) else (if a1 ≥ 64 then (some (wrap64 (a0))) else (if 0 ≤ (wrap64 (64 - a1)) then (some (shr .i64 (wrap64 (shl .u64 a0 (wrap64 (64 - a1)))) (wrap64 (64 - a1)))) else (none)))) = some r := h
  clear h
  by_cases c3 : a1 < 1
  · rw [if_pos c3] at H
    have c3b0 : decide (a1 < 1) = true := decide_eq_true c3
    clear c3
    obtain rfl := Option.some.inj H
    go_enter Try.func16, Try.ntmps16
    go_wp2
    go_ret
    exact ⟨by first | rfl | (simp; done) | (simp [*]; done), by repeat (first | exact Drawn0.refl _ | apply Drawn0.step)⟩
  · rw [if_neg c3] at H
    have c3b0 : decide (a1 < 1) = false := decide_eq_false c3
    clear c3
    by_cases c4 : a1 ≥ 64
    · rw [if_pos c4] at H
      have c4b0 : decide (64 ≤ a1) = true := decide_eq_true c4
      clear c4
      obtain rfl := Option.some.inj H
      go_enter Try.func16, Try.ntmps16
      go_wp2
      go_ret
      exact ⟨by first | rfl | (simp; done) | (simp [*]; done), by repeat (first | exact Drawn0.refl _ | apply Drawn0.step)⟩
    · rw [if_neg c4] at H
      have c4b0 : decide (64 ≤ a1) = false := decide_eq_false c4
      clear c4
      obtain ⟨ji5, hji5⟩ : ∃ j_ : Int, (wrap64 (64 - a1)) = j_ := ⟨_, rfl⟩
      replace H : (if 0 ≤ (ji5) then (some (shr .i64 (wrap64 (shl .u64 a0 (ji5))) (ji5))) else (none)) = some r := by first | (rw [hji5] at H; exact H) | (simp only [hji5] at H ⊢; exact H)
      have hji5w : (IntKind.i64.wrap (64 - a1)) = ji5 := (i64_w _).trans hji5
      by_cases c6 : 0 ≤ (ji5)
      · rw [if_pos c6] at H
        have c6b0 := eq_true c6
        have c6b1 : decide (0 ≤ (ji5)) = true := decide_eq_true c6
        clear c6
        obtain ⟨ji7, hji7⟩ : ∃ j_ : Int, (shl .u64 a0 (ji5)) = j_ := ⟨_, rfl⟩
        replace H : (some (shr .i64 (wrap64 (ji7)) (ji5))) = some r := by first | (rw [hji7] at H; exact H) | (simp only [hji7] at H ⊢; exact H)
        have hji7_ : (IntKind.u64.wrap (a0 * 2 ^ min (ji5).toNat 64)) = ji7 := hji7
        have hji7z : (ji5) ≤ 64 → (IntKind.u64.wrap (a0 * 2 ^ (ji5).toNat)) = ji7 := shl_small hji7
        have c8b0 := eq_true (of_decide_eq_true (by first | (with_reducible assumption) | assumption) : 0 ≤ (ji5))
        obtain ⟨ji9, hji9⟩ : ∃ j_ : Int, (shr .i64 (wrap64 (ji7)) (ji5)) = j_ := ⟨_, rfl⟩
        replace H : (some ji9) = some r := by first | (rw [hji9] at H; exact H) | (simp only [hji9] at H ⊢; exact H)
        have hji9_ : ((wrap64 (ji7)) / 2 ^ min (ji5).toNat 64) = ji9 := hji9
        have hji9z : (ji5) ≤ 64 → ((wrap64 (ji7)) / 2 ^ (ji5).toNat) = ji9 := shr_small hji9
        obtain rfl := Option.some.inj H
        go_enter Try.func16, Try.ntmps16
        go_wp2
        go_ret
        exact ⟨by first | rfl | (simp; done) | (simp only [← hji5, ← hji7, ← hji9] <;> (first | rfl | simp)) | (simp [*]; done), by repeat (first | exact Drawn0.refl _ | apply Drawn0.step)⟩
      · rw [if_neg c6] at H
        exact absurd H (by simp)

/-! ### dovetailref3_bits: function 24 -/
def dovetailref3_bits.f (a0 : Int) (a1 : Int) (a2 : Int) : Option (Int) := if 0 ≤ a2 then (if 0 ≤ (wrap64 ((wrap64 (a1 - a2)) + 1)) then (some (Go.bits .and .u64 (IntKind.u64.wrap (shr .u32 a0 a2)) (IntKind.u64.wrap ((shl .u64 1 (wrap64 ((wrap64 (a1 - a2)) + 1))) - 1)))) else (none)) else (none)
set_option maxHeartbeats 8000000 in
set_option maxRecDepth 100000 in
theorem dovetailref3_bits.calls (a0 : Int) (a1 : Int) (a2 : Int) (r : Int) (w : World) (h : dovetailref3_bits.f a0 a1 a2 = some r) :
    Calls Try.prog 24 #[.int .u32 a0, .int .i64 a1, .int .i64 a2] w fun e w' => e = .returned (.int .u64 r) ∧ Drawn0 w w' := by
  have H : (if 0 ≤ a2 then (if 0 ≤ (wrap64 ((wrap64 (a1 - a2)) + 1)) then (some (Go.bits .and .u64 (IntKind.u64.wrap (shr .u32 a0 a2)) (IntKind.u64.wrap ((shl .u64 1 (wrap64 ((wrap64 (a1 - a2)) + 1))) - 1)))) else (none)) else (none)) = some r := h
  clear h
  by_cases c4 : 0 ≤ a2
  · rw [if_pos c4] at H
    have c4b0 := eq_true c4
    have c4b1 : decide (0 ≤ a2) = true := decide_eq_true c4
    clear c4
    obtain ⟨ji5, hji5⟩ : ∃ j_ : Int, (shr .u32 a0 a2) = j_ := ⟨_, rfl⟩
    replace H : (if 0 ≤ (wrap64 ((wrap64 (a1 - a2)) + 1)) then (some (Go.bits .and .u64 (IntKind.u64.wrap (ji5)) (IntKind.u64.wrap ((shl .u64 1 (wrap64 ((wrap64 (a1 - a2)) + 1))) - 1)))) else (none)) = some r := by first | (rw [hji5] at H; exact H) | (simp only [hji5] at H ⊢; exact H)
    have hji5_ : (a0 / 2 ^ min a2.toNat 32) = ji5 := hji5
    have hji5z : a2 ≤ 32 → (a0 / 2 ^ a2.toNat) = ji5 := shr_small hji5
    obtain ⟨ji6, hji6⟩ : ∃ j_ : Int, (wrap64 ((wrap64 (a1 - a2)) + 1)) = j_ := ⟨_, rfl⟩
    replace H : (if 0 ≤ (ji6) then (some (Go.bits .and .u64 (IntKind.u64.wrap (ji5)) (IntKind.u64.wrap ((shl .u64 1 (ji6)) - 1)))) else (none)) = some r := by first | (rw [hji6] at H; exact H) | (simp only [hji6] at H ⊢; exact H)
    have hji6w : (IntKind.i64.wrap ((wrap64 (a1 - a2)) + 1)) = ji6 := (i64_w _).trans hji6
    by_cases c7 : 0 ≤ (ji6)
    · rw [if_pos c7] at H
      have c7b0 := eq_true c7
      have c7b1 : decide (0 ≤ (ji6)) = true := decide_eq_true c7
      clear c7
      obtain ⟨ji8, hji8⟩ : ∃ j_ : Int, (shl .u64 1 (ji6)) = j_ := ⟨_, rfl⟩
      replace H : (some (Go.bits .and .u64 (IntKind.u64.wrap (ji5)) (IntKind.u64.wrap ((ji8) - 1)))) = some r := by first | (rw [hji8] at H; exact H) | (simp only [hji8] at H ⊢; exact H)
      have hji8_ : (IntKind.u64.wrap (1 * 2 ^ min (ji6).toNat 64)) = ji8 := hji8
      have hji8z : (ji6) ≤ 64 → (IntKind.u64.wrap (1 * 2 ^ (ji6).toNat)) = ji8 := shl_small hji8
      have hji8u : (IntKind.u64.wrap (2 ^ min (ji6).toNat 64)) = ji8 := by have h_ := hji8_; rw [Int.one_mul] at h_; exact h_
      have hji8v : (ji6) ≤ 64 → (IntKind.u64.wrap (2 ^ (ji6).toNat)) = ji8 := fun hle_ => by have h_ := hji8z hle_; rw [Int.one_mul] at h_; exact h_
      obtain rfl := Option.some.inj H
      go_enter Try.func24, Try.ntmps24
      go_wp2
      repeat (go_quiet (fail); try go_wp2)
      go_ret
      exact ⟨by first | rfl | (simp; done) | (simp only [← hji5, ← hji6, ← hji8] <;> (first | rfl | simp)) | (simp [*]; done), by repeat (first | exact Drawn0.refl _ | apply Drawn0.step)⟩
    · rw [if_neg c7] at H
      exact absurd H (by simp)
  · rw [if_neg c4] at H
    exact absurd H (by simp)

/-! ### dovetailref3_Get: function 12 -/
def dovetailref3_Get.f (a0 : Int) (a1 : Int) : Option (Int) := if a0 = 1 then ((dovetailref3_bits.f a1 31 20).bind fun t160 => ((dovetailref3_Sign.f t160 12).bind fun t161 => (some t161))) else (if a0 = 2 then ((dovetailref3_bits.f a1 31 25).bind fun t162 => ((dovetailref3_bits.f a1 11 7).bind fun t163 => ((dovetailref3_Sign.f (Go.bits .or .u64 (IntKind.u64.wrap (t162 * 32)) t163) 12).bind fun t164 => (some t164)))) else (if a0 = 3 then ((dovetailref3_bits.f a1 31 31).bind fun t165 => ((dovetailref3_bits.f a1 7 7).bind fun t166 => ((dovetailref3_bits.f a1 30 25).bind fun t167 => ((dovetailref3_bits.f a1 11 8).bind fun t168 => ((dovetailref3_Sign.f (Go.bits .or .u64 (Go.bits .or .u64 (Go.bits .or .u64 (IntKind.u64.wrap (t165 * 4096)) (IntKind.u64.wrap (t166 * 2048))) (IntKind.u64.wrap (t167 * 32))) (IntKind.u64.wrap (t168 * 2))) 13).bind fun t169 => (some t169)))))) else (if a0 = 4 then ((dovetailref3_bits.f a1 31 12).bind fun t170 => ((dovetailref3_Sign.f t170 20).bind fun t171 => (some t171))) else (if a0 = 5 then ((dovetailref3_bits.f a1 31 31).bind fun t172 => ((dovetailref3_bits.f a1 19 12).bind fun t173 => ((dovetailref3_bits.f a1 20 20).bind fun t174 => ((dovetailref3_bits.f a1 30 21).bind fun t175 => ((dovetailref3_Sign.f (Go.bits .or .u64 (Go.bits .or .u64 (Go.bits .or .u64 (IntKind.u64.wrap (t172 * 1048576)) (IntKind.u64.wrap (t173 * 4096))) (IntKind.u64.wrap (t174 * 2048))) (IntKind.u64.wrap (t175 * 2))) 21).bind fun t176 => (some t176)))))) else (some 0)))))
set_option maxHeartbeats 8000000 in
set_option maxRecDepth 100000 in
theorem dovetailref3_Get.calls (a0 : Int) (a1 : Int) (r : Int) (w : World) (h : dovetailref3_Get.f a0 a1 = some r) :
    Calls Try.prog 12 #[.int .i64 a0, .int .u32 a1] w fun e w' => e = .returned (.int .i64 r) ∧ Drawn0 w w' := by
  have H : (if a0 = 1 then ((dovetailref3_bits.f a1 31 20).bind fun t160 => ((dovetailref3_Sign.f t160 12).bind fun t161 => (some t161))) else (if a0 = 2 then ((dovetailref3_bits.f a1 31 25).bind fun t162 => ((dovetailref3_bits.f a1 11 7).bind fun t163 => ((dovetailref3_Sign.f (Go.bits .or .u64 (IntKind.u64.wrap (t162 * 32)) t163) 12).bind fun t164 => (some t164)))) else (if a0 = 3 then ((dovetailref3_bits.f a1 31 31).bind fun t165 => ((dovetailref3_bits.f a1 7 7).bind fun t166 => ((dovetailref3_bits.f a1 30 25).bind fun t167 => ((dovetailref3_bits.f a1 11 8).bind fun t168 => ((dovetailref3_Sign.f (Go.bits .or .u64 (Go.bits .or .u64 (Go.bits .or .u64 (IntKind.u64.wrap (t165 * 4096)) (IntKind.u64.wrap (t166 * 2048))) (IntKind.u64.wrap (t167 * 32))) (IntKind.u64.wrap (t168 * 2))) 13).bind fun t169 => (some t169)))))) else (if a0 = 4 then ((dovetailref3_bits.f a1 31 12).bind fun t170 => ((dovetailref3_Sign.f t170 20).bind fun t171 => (some t171))) else (if a0 = 5 then ((dovetailref3_bits.f a1 31 31).bind fun t172 => ((dovetailref3_bits.f a1 19 12).bind fun t173 => ((dovetailref3_bits.f a1 20 20).bind fun t174 => ((dovetailref3_bits.f a1 30 21).bind fun t175 => ((dovetailref3_Sign.f (Go.bits .or .u64 (Go.bits .or .u64 (Go.bits .or .u64 (IntKind.u64.wrap (t172 * 1048576)) (IntKind.u64.wrap (t173 * 4096))) (IntKind.u64.wrap (t174 * 2048))) (IntKind.u64.wrap (t175 * 2))) 21).bind fun t176 => (some t176)))))) else (some 0)))))) = some r := h
  clear h
  by_cases c3 : a0 = 1
  · rw [if_pos c3] at H
    have c3b0 : (a0 == 1) = true := beq_iff_eq.mpr c3
    have c3b1 : (a0 != 1) = false := bne_eq_false_iff_eq.mpr c3
    clear c3
    replace H := Option.bind_eq_some_iff.mp H
    obtain ⟨t160, A40, H⟩ := H
    replace H : ((dovetailref3_Sign.f t160 12).bind fun t161 => (some t161)) = some r := H
    have A4 := Aside0.mk A40
    clear A40
    replace H := Option.bind_eq_some_iff.mp H
    obtain ⟨t161, A50, H⟩ := H
    replace H : (some t161) = some r := H
    have A5 := Aside0.mk A50
    clear A50
    obtain rfl := Option.some.inj H
    go_enter Try.func12, Try.ntmps12
    go_wp2_with (first | ((with_reducible refine gate_callee (f := 24) rfl ?_); refine goesL_ (some 9) rfl rfl Try.func24 (by kernel_rfl) rfl #[.int .u32 a1, .int .i64 31, .int .i64 20] rfl (by (try simp only [List.map_toArray, List.map_cons, List.map_nil]); first | done | rfl | (simp only [List.length_drop, List.length_take]; rfl)) ?_; (with_reducible refine (dovetailref3_bits.calls a1 31 20 t160 _ A4.out).mono ?_); rintro e w' ⟨rfl, ⟨nd, rfl⟩⟩; refine ⟨_, rfl, ?_⟩) | ((with_reducible refine gate_callee (f := 16) rfl ?_); refine goesL_ (some 10) rfl rfl Try.func16 (by kernel_rfl) rfl #[.int .u64 t160, .int .i64 12] rfl (by (try simp only [List.map_toArray, List.map_cons, List.map_nil]); first | done | rfl | (simp only [List.length_drop, List.length_take]; rfl)) ?_; (with_reducible refine (dovetailref3_Sign.calls t160 12 t161 _ A5.out).mono ?_); rintro e w' ⟨rfl, ⟨nd, rfl⟩⟩; refine ⟨_, rfl, ?_⟩))
    go_ret
    exact ⟨by first | rfl | (simp; done) | (simp [*]; done), by repeat (first | exact Drawn0.refl _ | apply Drawn0.step)⟩
  · rw [if_neg c3] at H
    have c3b0 : (a0 == 1) = false := beq_eq_false_iff_ne.mpr c3
    have c3b1 : (a0 != 1) = true := bne_iff_ne.mpr c3
    by_cases c6 : a0 = 2
    · rw [if_pos c6] at H
      have c6b0 : (a0 == 2) = true := beq_iff_eq.mpr c6
      have c6b1 : (a0 != 2) = false := bne_eq_false_iff_eq.mpr c6
      clear c6
      replace H := Option.bind_eq_some_iff.mp H
      obtain ⟨t162, A70, H⟩ := H
      replace H : ((dovetailref3_bits.f a1 11 7).bind fun t163 => ((dovetailref3_Sign.f (Go.bits .or .u64 (IntKind.u64.wrap (t162 * 32)) t163) 12).bind fun t164 => (some t164))) = some r := H
      have A7 := Aside0.mk A70
      clear A70
      replace H := Option.bind_eq_some_iff.mp H
      obtain ⟨t163, A80, H⟩ := H
      replace H : ((dovetailref3_Sign.f (Go.bits .or .u64 (IntKind.u64.wrap (t162 * 32)) t163) 12).bind fun t164 => (some t164)) = some r := H
      have A8 := Aside0.mk A80
      clear A80
      replace H := Option.bind_eq_some_iff.mp H
      obtain ⟨t164, A90, H⟩ := H
      replace H : (some t164) = some r := H
      have A9 := Aside0.mk A90
      clear A90
      obtain rfl := Option.some.inj H
      go_enter Try.func12, Try.ntmps12
      go_wp2_with (first | ((with_reducible refine gate_callee (f := 24) rfl ?_); refine goesL_ (some 14) rfl rfl Try.func24 (by kernel_rfl) rfl #[.int .u32 a1, .int .i64 31, .int .i64 25] rfl (by (try simp only [List.map_toArray, List.map_cons, List.map_nil]); first | done | rfl | (simp only [List.length_drop, List.length_take]; rfl)) ?_; (with_reducible refine (dovetailref3_bits.calls a1 31 25 t162 _ A7.out).mono ?_); rintro e w' ⟨rfl, ⟨nd, rfl⟩⟩; refine ⟨_, rfl, ?_⟩) | ((with_reducible refine gate_callee (f := 24) rfl ?_); refine goesL_ (some 17) rfl rfl Try.func24 (by kernel_rfl) rfl #[.int .u32 a1, .int .i64 11, .int .i64 7] rfl (by (try simp only [List.map_toArray, List.map_cons, List.map_nil]); first | done | rfl | (simp only [List.length_drop, List.length_take]; rfl)) ?_; (with_reducible refine (dovetailref3_bits.calls a1 11 7 t163 _ A8.out).mono ?_); rintro e w' ⟨rfl, ⟨nd, rfl⟩⟩; refine ⟨_, rfl, ?_⟩) | ((with_reducible refine gate_callee (f := 16) rfl ?_); refine goesL_ (some 19) rfl rfl Try.func16 (by kernel_rfl) rfl #[.int .u64 (Go.bits .or .u64 (IntKind.u64.wrap (t162 * 32)) t163), .int .i64 12] rfl (by (try simp only [List.map_toArray, List.map_cons, List.map_nil]); first | done | rfl | (simp only [List.length_drop, List.length_take]; rfl)) ?_; (with_reducible refine (dovetailref3_Sign.calls (Go.bits .or .u64 (IntKind.u64.wrap (t162 * 32)) t163) 12 t164 _ A9.out).mono ?_); rintro e w' ⟨rfl, ⟨nd, rfl⟩⟩; refine ⟨_, rfl, ?_⟩))
      go_ret
      exact ⟨by first | rfl | (simp; done) | (simp [*]; done), by repeat (first | exact Drawn0.refl _ | apply Drawn0.step)⟩
    · rw [if_neg c6] at H
      have c6b0 : (a0 == 2) = false := beq_eq_false_iff_ne.mpr c6
      have c6b1 : (a0 != 2) = true := bne_iff_ne.mpr c6
      by_cases c10 : a0 = 3
      · rw [if_pos c10] at H
        have c10b0 : (a0 == 3) = true := beq_iff_eq.mpr c10
        have c10b1 : (a0 != 3) = false := bne_eq_false_iff_eq.mpr c10
        clear c10
        replace H := Option.bind_eq_some_iff.mp H
        obtain ⟨t165, A110, H⟩ := H
        replace H : ((dovetailref3_bits.f a1 7 7).bind fun t166 => ((dovetailref3_bits.f a1 30 25).bind fun t167 => ((dovetailref3_bits.f a1 11 8).bind fun t168 => ((dovetailref3_Sign.f (Go.bits .or .u64 (Go.bits .or .u64 (Go.bits .or .u64 (IntKind.u64.wrap (t165 * 4096)) (IntKind.u64.wrap (t166 * 2048))) (IntKind.u64.wrap (t167 * 32))) (IntKind.u64.wrap (t168 * 2))) 13).bind fun t169 => (some t169))))) = some r := H
        have A11 := Aside0.mk A110
        clear A110
        replace H := Option.bind_eq_some_iff.mp H
        obtain ⟨t166, A120, H⟩ := H
        replace H : ((dovetailref3_bits.f a1 30 25).bind fun t167 => ((dovetailref3_bits.f a1 11 8).bind fun t168 => ((dovetailref3_Sign.f (Go.bits .or .u64 (Go.bits .or .u64 (Go.bits .or .u64 (IntKind.u64.wrap (t165 * 4096)) (IntKind.u64.wrap (t166 * 2048))) (IntKind.u64.wrap (t167 * 32))) (IntKind.u64.wrap (t168 * 2))) 13).bind fun t169 => (some t169)))) = some r := H
        have A12 := Aside0.mk A120
        clear A120
        replace H := Option.bind_eq_some_iff.mp H
        obtain ⟨t167, A130, H⟩ := H
        replace H : ((dovetailref3_bits.f a1 11 8).bind fun t168 => ((dovetailref3_Sign.f (Go.bits .or .u64 (Go.bits .or .u64 (Go.bits .or .u64 (IntKind.u64.wrap (t165 * 4096)) (IntKind.u64.wrap (t166 * 2048))) (IntKind.u64.wrap (t167 * 32))) (IntKind.u64.wrap (t168 * 2))) 13).bind fun t169 => (some t169))) = some r := H
        have A13 := Aside0.mk A130
        clear A130
        replace H := Option.bind_eq_some_iff.mp H
        obtain ⟨t168, A140, H⟩ := H
        replace H : ((dovetailref3_Sign.f (Go.bits .or .u64 (Go.bits .or .u64 (Go.bits .or .u64 (IntKind.u64.wrap (t165 * 4096)) (IntKind.u64.wrap (t166 * 2048))) (IntKind.u64.wrap (t167 * 32))) (IntKind.u64.wrap (t168 * 2))) 13).bind fun t169 => (some t169)) = some r := H
        have A14 := Aside0.mk A140
        clear A140
        replace H := Option.bind_eq_some_iff.mp H
        obtain ⟨t169, A150, H⟩ := H
        replace H : (some t169) = some r := H
        have A15 := Aside0.mk A150
        clear A150
        obtain rfl := Option.some.inj H
        go_enter Try.func12, Try.ntmps12
        go_wp2_with (first | ((with_reducible refine gate_callee (f := 24) rfl ?_); refine goesL_ (some 23) rfl rfl Try.func24 (by kernel_rfl) rfl #[.int .u32 a1, .int .i64 31, .int .i64 31] rfl (by (try simp only [List.map_toArray, List.map_cons, List.map_nil]); first | done | rfl | (simp only [List.length_drop, List.length_take]; rfl)) ?_; (with_reducible refine (dovetailref3_bits.calls a1 31 31 t165 _ A11.out).mono ?_); rintro e w' ⟨rfl, ⟨nd, rfl⟩⟩; refine ⟨_, rfl, ?_⟩) | ((with_reducible refine gate_callee (f := 24) rfl ?_); refine goesL_ (some 26) rfl rfl Try.func24 (by kernel_rfl) rfl #[.int .u32 a1, .int .i64 7, .int .i64 7] rfl (by (try simp only [List.map_toArray, List.map_cons, List.map_nil]); first | done | rfl | (simp only [List.length_drop, List.length_take]; rfl)) ?_; (with_reducible refine (dovetailref3_bits.calls a1 7 7 t166 _ A12.out).mono ?_); rintro e w' ⟨rfl, ⟨nd, rfl⟩⟩; refine ⟨_, rfl, ?_⟩) | ((with_reducible refine gate_callee (f := 24) rfl ?_); refine goesL_ (some 30) rfl rfl Try.func24 (by kernel_rfl) rfl #[.int .u32 a1, .int .i64 30, .int .i64 25] rfl (by (try simp only [List.map_toArray, List.map_cons, List.map_nil]); first | done | rfl | (simp only [List.length_drop, List.length_take]; rfl)) ?_; (with_reducible refine (dovetailref3_bits.calls a1 30 25 t167 _ A13.out).mono ?_); rintro e w' ⟨rfl, ⟨nd, rfl⟩⟩; refine ⟨_, rfl, ?_⟩) | ((with_reducible refine gate_callee (f := 24) rfl ?_); refine goesL_ (some 34) rfl rfl Try.func24 (by kernel_rfl) rfl #[.int .u32 a1, .int .i64 11, .int .i64 8] rfl (by (try simp only [List.map_toArray, List.map_cons, List.map_nil]); first | done | rfl | (simp only [List.length_drop, List.length_take]; rfl)) ?_; (with_reducible refine (dovetailref3_bits.calls a1 11 8 t168 _ A14.out).mono ?_); rintro e w' ⟨rfl, ⟨nd, rfl⟩⟩; refine ⟨_, rfl, ?_⟩) | ((with_reducible refine gate_callee (f := 16) rfl ?_); refine goesL_ (some 37) rfl rfl Try.func16 (by kernel_rfl) rfl #[.int .u64 (Go.bits .or .u64 (Go.bits .or .u64 (Go.bits .or .u64 (IntKind.u64.wrap (t165 * 4096)) (IntKind.u64.wrap (t166 * 2048))) (IntKind.u64.wrap (t167 * 32))) (IntKind.u64.wrap (t168 * 2))), .int .i64 13] rfl (by (try simp only [List.map_toArray, List.map_cons, List.map_nil]); first | done | rfl | (simp only [List.length_drop, List.length_take]; rfl)) ?_; (with_reducible refine (dovetailref3_Sign.calls (Go.bits .or .u64 (Go.bits .or .u64 (Go.bits .or .u64 (IntKind.u64.wrap (t165 * 4096)) (IntKind.u64.wrap (t166 * 2048))) (IntKind.u64.wrap (t167 * 32))) (IntKind.u64.wrap (t168 * 2))) 13 t169 _ A15.out).mono ?_); rintro e w' ⟨rfl, ⟨nd, rfl⟩⟩; refine ⟨_, rfl, ?_⟩))
        go_ret
        exact ⟨by first | rfl | (simp; done) | (simp [*]; done), by repeat (first | exact Drawn0.refl _ | apply Drawn0.step)⟩
      · rw [if_neg c10] at H
        have c10b0 : (a0 == 3) = false := beq_eq_false_iff_ne.mpr c10
        have c10b1 : (a0 != 3) = true := bne_iff_ne.mpr c10
        by_cases c16 : a0 = 4
        · rw [if_pos c16] at H
          have c16b0 : (a0 == 4) = true := beq_iff_eq.mpr c16
          have c16b1 : (a0 != 4) = false := bne_eq_false_iff_eq.mpr c16
          clear c16
          replace H := Option.bind_eq_some_iff.mp H
          obtain ⟨t170, A170, H⟩ := H
          replace H : ((dovetailref3_Sign.f t170 20).bind fun t171 => (some t171)) = some r := H
          have A17 := Aside0.mk A170
          clear A170
          replace H := Option.bind_eq_some_iff.mp H
          obtain ⟨t171, A180, H⟩ := H
          replace H : (some t171) = some r := H
          have A18 := Aside0.mk A180
          clear A180
          obtain rfl := Option.some.inj H
          go_enter Try.func12, Try.ntmps12
          go_wp2_with (first | ((with_reducible refine gate_callee (f := 24) rfl ?_); refine goesL_ (some 41) rfl rfl Try.func24 (by kernel_rfl) rfl #[.int .u32 a1, .int .i64 31, .int .i64 12] rfl (by (try simp only [List.map_toArray, List.map_cons, List.map_nil]); first | done | rfl | (simp only [List.length_drop, List.length_take]; rfl)) ?_; (with_reducible refine (dovetailref3_bits.calls a1 31 12 t170 _ A17.out).mono ?_); rintro e w' ⟨rfl, ⟨nd, rfl⟩⟩; refine ⟨_, rfl, ?_⟩) | ((with_reducible refine gate_callee (f := 16) rfl ?_); refine goesL_ (some 42) rfl rfl Try.func16 (by kernel_rfl) rfl #[.int .u64 t170, .int .i64 20] rfl (by (try simp only [List.map_toArray, List.map_cons, List.map_nil]); first | done | rfl | (simp only [List.length_drop, List.length_take]; rfl)) ?_; (with_reducible refine (dovetailref3_Sign.calls t170 20 t171 _ A18.out).mono ?_); rintro e w' ⟨rfl, ⟨nd, rfl⟩⟩; refine ⟨_, rfl, ?_⟩))
          go_ret
          exact ⟨by first | rfl | (simp; done) | (simp [*]; done), by repeat (first | exact Drawn0.refl _ | apply Drawn0.step)⟩
        · rw [if_neg c16] at H
          have c16b0 : (a0 == 4) = false := beq_eq_false_iff_ne.mpr c16
          have c16b1 : (a0 != 4) = true := bne_iff_ne.mpr c16
          by_cases c19 : a0 = 5
          · rw [if_pos c19] at H
            have c19b0 : (a0 == 5) = true := beq_iff_eq.mpr c19
            have c19b1 : (a0 != 5) = false := bne_eq_false_iff_eq.mpr c19
            clear c19
            replace H := Option.bind_eq_some_iff.mp H
            obtain ⟨t172, A200, H⟩ := H
            replace H : ((dovetailref3_bits.f a1 19 12).bind fun t173 => ((dovetailref3_bits.f a1 20 20).bind fun t174 => ((dovetailref3_bits.f a1 30 21).bind fun t175 => ((dovetailref3_Sign.f (Go.bits .or .u64 (Go.bits .or .u64 (Go.bits .or .u64 (IntKind.u64.wrap (t172 * 1048576)) (IntKind.u64.wrap (t173 * 4096))) (IntKind.u64.wrap (t174 * 2048))) (IntKind.u64.wrap (t175 * 2))) 21).bind fun t176 => (some t176))))) = some r := H
            have A20 := Aside0.mk A200
            clear A200
            replace H := Option.bind_eq_some_iff.mp H
            obtain ⟨t173, A210, H⟩ := H
            replace H : ((dovetailref3_bits.f a1 20 20).bind fun t174 => ((dovetailref3_bits.f a1 30 21).bind fun t175 => ((dovetailref3_Sign.f (Go.bits .or .u64 (Go.bits .or .u64 (Go.bits .or .u64 (IntKind.u64.wrap (t172 * 1048576)) (IntKind.u64.wrap (t173 * 4096))) (IntKind.u64.wrap (t174 * 2048))) (IntKind.u64.wrap (t175 * 2))) 21).bind fun t176 => (some t176)))) = some r := H
            have A21 := Aside0.mk A210
            clear A210
            replace H := Option.bind_eq_some_iff.mp H
            obtain ⟨t174, A220, H⟩ := H
            replace H : ((dovetailref3_bits.f a1 30 21).bind fun t175 => ((dovetailref3_Sign.f (Go.bits .or .u64 (Go.bits .or .u64 (Go.bits .or .u64 (IntKind.u64.wrap (t172 * 1048576)) (IntKind.u64.wrap (t173 * 4096))) (IntKind.u64.wrap (t174 * 2048))) (IntKind.u64.wrap (t175 * 2))) 21).bind fun t176 => (some t176))) = some r := H
            have A22 := Aside0.mk A220
            clear A220
            replace H := Option.bind_eq_some_iff.mp H
            obtain ⟨t175, A230, H⟩ := H
            replace H : ((dovetailref3_Sign.f (Go.bits .or .u64 (Go.bits .or .u64 (Go.bits .or .u64 (IntKind.u64.wrap (t172 * 1048576)) (IntKind.u64.wrap (t173 * 4096))) (IntKind.u64.wrap (t174 * 2048))) (IntKind.u64.wrap (t175 * 2))) 21).bind fun t176 => (some t176)) = some r := H
            have A23 := Aside0.mk A230
            clear A230
            replace H := Option.bind_eq_some_iff.mp H
            obtain ⟨t176, A240, H⟩ := H
            replace H : (some t176) = some r := H
            have A24 := Aside0.mk A240
            clear A240
            obtain rfl := Option.some.inj H
            go_enter Try.func12, Try.ntmps12
            go_wp2_with (first | ((with_reducible refine gate_callee (f := 24) rfl ?_); refine goesL_ (some 46) rfl rfl Try.func24 (by kernel_rfl) rfl #[.int .u32 a1, .int .i64 31, .int .i64 31] rfl (by (try simp only [List.map_toArray, List.map_cons, List.map_nil]); first | done | rfl | (simp only [List.length_drop, List.length_take]; rfl)) ?_; (with_reducible refine (dovetailref3_bits.calls a1 31 31 t172 _ A20.out).mono ?_); rintro e w' ⟨rfl, ⟨nd, rfl⟩⟩; refine ⟨_, rfl, ?_⟩) | ((with_reducible refine gate_callee (f := 24) rfl ?_); refine goesL_ (some 49) rfl rfl Try.func24 (by kernel_rfl) rfl #[.int .u32 a1, .int .i64 19, .int .i64 12] rfl (by (try simp only [List.map_toArray, List.map_cons, List.map_nil]); first | done | rfl | (simp only [List.length_drop, List.length_take]; rfl)) ?_; (with_reducible refine (dovetailref3_bits.calls a1 19 12 t173 _ A21.out).mono ?_); rintro e w' ⟨rfl, ⟨nd, rfl⟩⟩; refine ⟨_, rfl, ?_⟩) | ((with_reducible refine gate_callee (f := 24) rfl ?_); refine goesL_ (some 53) rfl rfl Try.func24 (by kernel_rfl) rfl #[.int .u32 a1, .int .i64 20, .int .i64 20] rfl (by (try simp only [List.map_toArray, List.map_cons, List.map_nil]); first | done | rfl | (simp only [List.length_drop, List.length_take]; rfl)) ?_; (with_reducible refine (dovetailref3_bits.calls a1 20 20 t174 _ A22.out).mono ?_); rintro e w' ⟨rfl, ⟨nd, rfl⟩⟩; refine ⟨_, rfl, ?_⟩) | ((with_reducible refine gate_callee (f := 24) rfl ?_); refine goesL_ (some 57) rfl rfl Try.func24 (by kernel_rfl) rfl #[.int .u32 a1, .int .i64 30, .int .i64 21] rfl (by (try simp only [List.map_toArray, List.map_cons, List.map_nil]); first | done | rfl | (simp only [List.length_drop, List.length_take]; rfl)) ?_; (with_reducible refine (dovetailref3_bits.calls a1 30 21 t175 _ A23.out).mono ?_); rintro e w' ⟨rfl, ⟨nd, rfl⟩⟩; refine ⟨_, rfl, ?_⟩) | ((with_reducible refine gate_callee (f := 16) rfl ?_); refine goesL_ (some 60) rfl rfl Try.func16 (by kernel_rfl) rfl #[.int .u64 (Go.bits .or .u64 (Go.bits .or .u64 (Go.bits .or .u64 (IntKind.u64.wrap (t172 * 1048576)) (IntKind.u64.wrap (t173 * 4096))) (IntKind.u64.wrap (t174 * 2048))) (IntKind.u64.wrap (t175 * 2))), .int .i64 21] rfl (by (try simp only [List.map_toArray, List.map_cons, List.map_nil]); first | done | rfl | (simp only [List.length_drop, List.length_take]; rfl)) ?_; (with_reducible refine (dovetailref3_Sign.calls (Go.bits .or .u64 (Go.bits .or .u64 (Go.bits .or .u64 (IntKind.u64.wrap (t172 * 1048576)) (IntKind.u64.wrap (t173 * 4096))) (IntKind.u64.wrap (t174 * 2048))) (IntKind.u64.wrap (t175 * 2))) 21 t176 _ A24.out).mono ?_); rintro e w' ⟨rfl, ⟨nd, rfl⟩⟩; refine ⟨_, rfl, ?_⟩))
            go_ret
            exact ⟨by first | rfl | (simp; done) | (simp [*]; done), by repeat (first | exact Drawn0.refl _ | apply Drawn0.step)⟩
          · rw [if_neg c19] at H
            have c19b0 : (a0 == 5) = false := beq_eq_false_iff_ne.mpr c19
            have c19b1 : (a0 != 5) = true := bne_iff_ne.mpr c19
            obtain rfl := Option.some.inj H
            go_enter Try.func12, Try.ntmps12
            go_wp2
            go_ret
            exact ⟨by first | rfl | (simp; done) | (simp [*]; done), by repeat (first | exact Drawn0.refl _ | apply Drawn0.step)⟩

/-! ### dovetailref3_Hi: function 18 -/
def dovetailref3_Hi.f (a0 : Int) : Option (Int) := some ((wrap64 (a0 + 2048)) / 4096)
set_option maxHeartbeats 8000000 in
set_option maxRecDepth 100000 in
theorem dovetailref3_Hi.calls (a0 : Int) (r : Int) (w : World) (h : dovetailref3_Hi.f a0 = some r) :
    Calls Try.prog 18 #[.int .i64 a0] w fun e w' => e = .returned (.int .i64 r) ∧ Drawn0 w w' := by
  have H : (some ((wrap64 (a0 + 2048)) / 4096)) = some r := h
  clear h
  obtain rfl := Option.some.inj H
  go_enter Try.func18, Try.ntmps18
  go_wp2
  go_ret
  exact ⟨by first | rfl | (simp; done) | (simp [*]; done), by repeat (first | exact Drawn0.refl _ | apply Drawn0.step)⟩

/-! ### dovetailref3_Lo: function 20 -/
def dovetailref3_Lo.f (a0 : Int) : Option (Int) := (dovetailref3_Sign.f (IntKind.u64.wrap (a0)) 12).bind fun t177 => (some t177)
set_option maxHeartbeats 8000000 in
set_option maxRecDepth 100000 in
theorem dovetailref3_Lo.calls (a0 : Int) (r : Int) (w : World) (h : dovetailref3_Lo.f a0 = some r) :
    Calls Try.prog 20 #[.int .i64 a0] w fun e w' => e = .returned (.int .i64 r) ∧ Drawn0 w w' := by
  have H : ((dovetailref3_Sign.f (IntKind.u64.wrap (a0)) 12).bind fun t177 => (some t177)) = some r := h
  clear h
  replace H := Option.bind_eq_some_iff.mp H
  obtain ⟨t177, A20, H⟩ := H
  replace H : (some t177) = some r := H
  have A2 := Aside0.mk A20
  clear A20
  obtain rfl := Option.some.inj H
  go_enter Try.func20, Try.ntmps20
  go_wp2_with (first | ((with_reducible refine gate_callee (f := 16) rfl ?_); refine goesL_ (some 5) rfl rfl Try.func16 (by kernel_rfl) rfl #[.int .u64 (IntKind.u64.wrap (a0)), .int .i64 12] rfl (by (try simp only [List.map_toArray, List.map_cons, List.map_nil]); first | done | rfl | (simp only [List.length_drop, List.length_take]; rfl)) ?_; (with_reducible refine (dovetailref3_Sign.calls (IntKind.u64.wrap (a0)) 12 t177 _ A2.out).mono ?_); rintro e w' ⟨rfl, ⟨nd, rfl⟩⟩; refine ⟨_, rfl, ?_⟩))
  go_ret
  exact ⟨by first | rfl | (simp; done) | (simp [*]; done), by repeat (first | exact Drawn0.refl _ | apply Drawn0.step)⟩

end Go.Proofs.Ytpjjgipomjenlaa.PImmTells
