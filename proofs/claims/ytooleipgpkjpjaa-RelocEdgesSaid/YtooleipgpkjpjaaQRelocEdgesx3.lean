/- Contracts of what a law reaches, each function as a plain Lean function: written by a program of this claim's repo (myprint.py); conditions: those of each theorem. -/
import Derived.Test.YtooleipgpkjpjaaQRelocEdgesx0
import Derived.Test.YtooleipgpkjpjaaQRelocEdgesx1
import Derived.Test.YtooleipgpkjpjaaQRelocEdgesx2
namespace Go.Proofs.Ytooleipgpkjpjaa.QRelocEdges
open Go.Proofs.Ytooleipgpkjpjaa.Man
open Go.RowKit Go.Proofs.YtooleipgpkjpjaaW.PrintWords Go.Proofs.YtooleipgpkjpjaaW.PrintLast Go.Proofs.YtooleipgpkjpjaaW.PrintMore
attribute [local go_sem] max2_int min2_int max_two min_two max_three min_three max_four min_four   -- for this text's walks alone
set_option linter.unusedVariables false
set_option linter.unusedSimpArgs false

/-! ### le_get: function 55 -/
def le_get.l0 : Nat → List Int → Int → Int → Int → Int → Option (Int × Bool)
  | 0, _, _, _, _, _ => none
  | k + 1, x0, x1, x8, x17, x18 => if x18 < x17 then (if 0 ≤ (IntKind.u64.wrap (x1 + (IntKind.u64.wrap (x18)))) then (if (IntKind.u64.wrap (x1 + (IntKind.u64.wrap (x18)))) < (x0.length : Int) then (if 0 ≤ (IntKind.u64.wrap (wrap64 (8 * x18))) then (le_get.l0 k x0 x1 (Go.bits .or .u64 x8 (shl .u64 (IntKind.u64.wrap (rd x0 (IntKind.u64.wrap (x1 + (IntKind.u64.wrap (x18)))))) (IntKind.u64.wrap (wrap64 (8 * x18))))) x17 (wrap64 (x18 + 1))) else (none)) else (none)) else (none)) else (some (x8, true))
def le_get.f (k : Nat) (l0 : List Int) (a1 : Int) (a2 : Int) : Option (Int × Bool) := (le_within.f a1 (IntKind.u64.wrap (a2)) (l0.length : Int)).bind fun t132 => (if t132 = true then (le_get.l0 k l0 a1 0 a2 0) else (some (0, false)))
theorem le_get.mono_l : ∀ k, (∀ y0 y1 y2 y3 y4, LeO (le_get.l0 k y0 y1 y2 y3 y4) (le_get.l0 (k + 1) y0 y1 y2 y3 y4))
  | 0 => fun _ _ _ _ _ r h => by simp [le_get.l0] at h
  | k + 1 => by
    have ih0 := le_get.mono_l k
    · intro y0 y1 y2 y3 y4
      unfold le_get.l0
      repeat' first
      | (with_reducible exact ih0 _ _ _ _ _)
      | (with_reducible exact LeO.refl _)
      | (with_reducible exact LeO.none _)
      | (with_reducible refine LeO.ite ?_ ?_)
      | (with_reducible refine LeO.bind ?_ (fun _ => ?_))
      | exact ih0 _ _ _ _ _
      | exact LeO.none _
      | refine LeO.ite ?_ ?_
      | refine LeO.bind ?_ (fun _ => ?_)
theorem le_get.mono : ∀ a0 a1 a2 k, LeO (le_get.f k a0 a1 a2) (le_get.f (k + 1) a0 a1 a2) := by
  intro a0 a1 a2 k
  have ih0 := le_get.mono_l k
  unfold le_get.f
  repeat' first
      | (with_reducible exact ih0 _ _ _ _ _)
      | (with_reducible exact LeO.refl _)
      | (with_reducible exact LeO.none _)
      | (with_reducible refine LeO.ite ?_ ?_)
      | (with_reducible refine LeO.bind ?_ (fun _ => ?_))
      | exact ih0 _ _ _ _ _
      | exact LeO.none _
      | refine LeO.ite ?_ ?_
      | refine LeO.bind ?_ (fun _ => ?_)
set_option maxHeartbeats 8000000 in
set_option maxRecDepth 100000 in
theorem le_get.calls (k : Nat) (A0 : Option Addr) (c0 : Nat) (l0 : List Int) (a1 : Int) (a2 : Int) (r1 : Int) (r2 : Bool) (w : World) (hr0 : Kd.C (Kd.int .u8) w A0 l0.length l0) (hc0 : l0.length ≤ c0) (h : le_get.f k l0 a1 a2 = some (r1, r2)) :
    Calls Try.prog 55 #[.slice A0 l0.length c0, .int .u64 a1, .int .i64 a2] w fun e w' => e = .returned (.tuple #[.int .u64 r1, .bool r2]) ∧ Drawn0 w w' := by
  have HR0 := Aside0.mk hr0
  have HC0 := Aside0.mk hc0
  clear hr0 hc0
  have H : ((le_within.f a1 (IntKind.u64.wrap (a2)) (l0.length : Int)).bind fun t132 => (if t132 = true then (le_get.l0 k l0 a1 0 a2 0) else (some (0, false)))) = some (r1, r2) := h
  clear h
  replace H := Option.bind_eq_some_iff.mp H
  obtain ⟨t132, A40, H⟩ := H
  replace H : (if t132 = true then (le_get.l0 k l0 a1 0 a2 0) else (some (0, false))) = some (r1, r2) := H
  have A4 := Aside0.mk A40
  clear A40
  by_cases c5 : t132 = true
  · subst c5
    have H1 : (le_get.l0 k l0 a1 0 a2 0) = some (r1, r2) := by rw [if_pos rfl] at H; exact H
    clear H
    have H := H1
    clear H1
    have H' := Aside0.mk H
    clear H
    go_enter Try.func55, Try.ntmps55
    go_wp2_with (first | ((with_reducible refine gate_callee (f := 46) rfl ?_); refine goesL_ (some 15) rfl rfl Try.func46 (by kernel_rfl) rfl #[.int .u64 a1, .int .u64 (IntKind.u64.wrap (a2)), .int .i64 (l0.length : Int)] rfl (by (try simp only [List.map_toArray, List.map_cons, List.map_nil]); first | done | rfl | (simp only [List.length_drop, List.length_take]; rfl)) ?_; (with_reducible refine (le_within.calls a1 (IntKind.u64.wrap (a2)) (l0.length : Int) true _ A4.out).mono ?_); rintro e w' ⟨rfl, ⟨nd, rfl⟩⟩; refine ⟨_, rfl, ?_⟩))
    go_loopg [8, 18] k (fun kq v8 v18 w' => ∃ (x8_1 : Int) (x18_1 : Int), v8 = .int .u64 x8_1 ∧ v18 = .int .i64 x18_1 ∧ Aside0 (le_get.l0 kq l0 a1 x8_1 a2 x18_1 = some (r1, r2)) ∧ Aside0 (kq ≤ k) ∧ Drawn0 w w')
    case atStart => exact ⟨(0), (0), (by first | rfl | (simp; done) | (simp [*]; done)), (by first | rfl | (simp; done) | (simp [*]; done)), H', ⟨Nat.le_refl _⟩, by repeat (first | exact Drawn0.refl _ | apply Drawn0.step)⟩
    case round =>
      clear H'
      try clear p2
      try clear c4
      try clear c5
      obtain ⟨x8_1, x18_1, rfl, rfl, HA, HK1, ⟨m1, rfl⟩⟩ := hrel
      cases gk with
      | zero => exact absurd HA.out (by simp [le_get.l0])
      | succ k1 =>
        have H := HA.out
        clear HA
        simp only [le_get.l0] at H
        by_cases c6 : x18_1 < a2
        · rw [if_pos c6] at H
          have c6b0 : decide (x18_1 < a2) = true := decide_eq_true c6
          clear c6
          obtain ⟨ji7, hji7⟩ : ∃ j_ : Int, (IntKind.u64.wrap (a1 + (IntKind.u64.wrap (x18_1)))) = j_ := ⟨_, rfl⟩
          replace H : (if 0 ≤ (ji7) then (if (ji7) < (l0.length : Int) then (if 0 ≤ (IntKind.u64.wrap (wrap64 (8 * x18_1))) then (le_get.l0 k1 l0 a1 (Go.bits .or .u64 x8_1 (shl .u64 (IntKind.u64.wrap (rd l0 (ji7))) (IntKind.u64.wrap (wrap64 (8 * x18_1))))) a2 (wrap64 (x18_1 + 1))) else (none)) else (none)) else (none)) = some (r1, r2) := by first | (rw [hji7] at H; exact H) | (simp only [hji7] at H ⊢; exact H)
          by_cases c8 : 0 ≤ (ji7)
          · rw [if_pos c8] at H
            have c8b0 : decide (0 ≤ (ji7)) = true := decide_eq_true c8
            clear c8
            by_cases c9 : (ji7) < (l0.length : Int)
            · rw [if_pos c9] at H
              have c9b0 : decide ((ji7) < (l0.length : Int)) = true := decide_eq_true c9
              clear c9
              obtain ⟨ji10, hji10⟩ : ∃ j_ : Int, (IntKind.u64.wrap (wrap64 (8 * x18_1))) = j_ := ⟨_, rfl⟩
              replace H : (if 0 ≤ (ji10) then (le_get.l0 k1 l0 a1 (Go.bits .or .u64 x8_1 (shl .u64 (IntKind.u64.wrap (rd l0 (ji7))) (ji10))) a2 (wrap64 (x18_1 + 1))) else (none)) = some (r1, r2) := by first | (rw [hji10] at H; exact H) | (simp only [hji10] at H ⊢; exact H)
              by_cases c11 : 0 ≤ (ji10)
              · rw [if_pos c11] at H
                have c11b0 := eq_true c11
                have c11b1 : decide (0 ≤ (ji10)) = true := decide_eq_true c11
                clear c11
                obtain ⟨ji12, hji12⟩ : ∃ j_ : Int, (shl .u64 (IntKind.u64.wrap (rd l0 (ji7))) (ji10)) = j_ := ⟨_, rfl⟩
                replace H : (le_get.l0 k1 l0 a1 (Go.bits .or .u64 x8_1 (ji12)) a2 (wrap64 (x18_1 + 1))) = some (r1, r2) := by first | (rw [hji12] at H; exact H) | (simp only [hji12] at H ⊢; exact H)
                have hji12_ : (IntKind.u64.wrap ((IntKind.u64.wrap (rd l0 (ji7))) * 2 ^ min (ji10).toNat 64)) = ji12 := hji12
                have hji12z : (ji10) ≤ 64 → (IntKind.u64.wrap ((IntKind.u64.wrap (rd l0 (ji7))) * 2 ^ (ji10).toNat)) = ji12 := shl_small hji12
                have H' := Aside0.mk H
                clear H
                have p133 : 0 ≤ ((ji7) : Int) := of_decide_eq_true (by first | (with_reducible assumption) | assumption)
                have q133 : (ji7) < (l0.length : Int) := of_decide_eq_true (by first | (with_reducible assumption) | assumption)
                obtain ⟨ad133, e133, hx133_0⟩ := Kd.at_int HR0.out (ji7) p133 q133
                cases e133
                replace p133 := eq_true p133
                replace q133 := eq_true q133
                go_wp2
                go_roundg k1
                case measure => have := HK1.out; omega
                case rel => exact ⟨(Go.bits .or .u64 x8_1 (ji12)), (wrap64 (x18_1 + 1)), (by first | rfl | (simp; done) | (simp only [← hji12] <;> (first | rfl | simp)) | (simp [*]; done)), (by first | rfl | (simp; done) | (simp [*]; done)), H', ⟨by have := HK1.out; omega⟩, by repeat (first | exact Drawn0.refl _ | apply Drawn0.step)⟩
              · rw [if_neg c11] at H
                exact absurd H (by simp)
            · rw [if_neg c9] at H
              exact absurd H (by simp)
          · rw [if_neg c8] at H
            exact absurd H (by simp)
        · rw [if_neg c6] at H
          have c6b0 : decide (x18_1 < a2) = false := decide_eq_false c6
          clear c6
          simp only [Option.some.injEq, Prod.mk.injEq] at H
          obtain ⟨rfl, rfl⟩ := H
          go_wp2
          go_ret2
          exact ⟨by first | rfl | (simp; done) | (simp [*]; done), by repeat (first | exact Drawn0.refl _ | apply Drawn0.step)⟩
  · replace c5 := Bool.eq_false_iff.mpr c5
    subst c5
    have H1 : (some (0, false)) = some (r1, r2) := by rw [if_neg (show ¬ (false = true) by decide)] at H; exact H
    clear H
    have H := H1
    clear H1
    simp only [Option.some.injEq, Prod.mk.injEq] at H
    obtain ⟨rfl, rfl⟩ := H
    go_enter Try.func55, Try.ntmps55
    go_wp2_with (first | ((with_reducible refine gate_callee (f := 46) rfl ?_); refine goesL_ (some 15) rfl rfl Try.func46 (by kernel_rfl) rfl #[.int .u64 a1, .int .u64 (IntKind.u64.wrap (a2)), .int .i64 (l0.length : Int)] rfl (by (try simp only [List.map_toArray, List.map_cons, List.map_nil]); first | done | rfl | (simp only [List.length_drop, List.length_take]; rfl)) ?_; (with_reducible refine (le_within.calls a1 (IntKind.u64.wrap (a2)) (l0.length : Int) false _ A4.out).mono ?_); rintro e w' ⟨rfl, ⟨nd, rfl⟩⟩; refine ⟨_, rfl, ?_⟩))
    go_ret2
    exact ⟨by first | rfl | (simp; done) | (simp [*]; done), by repeat (first | exact Drawn0.refl _ | apply Drawn0.step)⟩

/-! ### le_U32: function 49 -/
def le_U32.f (k : Nat) (l0 : List Int) (a1 : Int) : Option (Int × Bool) := (le_get.f k l0 a1 4).bind fun bt134 => (some ((bt134.1) % 4294967296, bt134.2))
theorem le_U32.mono : ∀ a0 a1 k, LeO (le_U32.f k a0 a1) (le_U32.f (k + 1) a0 a1) := by
  intro a0 a1 k
  unfold le_U32.f
  repeat' first
      | (with_reducible exact le_get.mono _ _ _ _)
      | (with_reducible exact LeO.refl _)
      | (with_reducible exact LeO.none _)
      | (with_reducible refine LeO.ite ?_ ?_)
      | (with_reducible refine LeO.bind ?_ (fun _ => ?_))
      | exact le_get.mono _ _ _ _
      | exact LeO.none _
      | refine LeO.ite ?_ ?_
      | refine LeO.bind ?_ (fun _ => ?_)
set_option maxHeartbeats 8000000 in
set_option maxRecDepth 100000 in
theorem le_U32.calls (k : Nat) (A0 : Option Addr) (c0 : Nat) (l0 : List Int) (a1 : Int) (r1 : Int) (r2 : Bool) (w : World) (hr0 : Kd.C (Kd.int .u8) w A0 l0.length l0) (hc0 : l0.length ≤ c0) (h : le_U32.f k l0 a1 = some (r1, r2)) :
    Calls Try.prog 49 #[.slice A0 l0.length c0, .int .u64 a1] w fun e w' => e = .returned (.tuple #[.int .u32 r1, .bool r2]) ∧ Drawn0 w w' := by
  have HR0 := Aside0.mk hr0
  have HC0 := Aside0.mk hc0
  clear hr0 hc0
  have H : ((le_get.f k l0 a1 4).bind fun bt134 => (some ((bt134.1) % 4294967296, bt134.2))) = some (r1, r2) := h
  clear h
  replace H := Option.bind_eq_some_iff.mp H
  obtain ⟨⟨t134, t135⟩, A30, H⟩ := H
  replace H : (some ((t134) % 4294967296, t135)) = some (r1, r2) := H
  have A3 := Aside0.mk A30
  clear A30
  simp only [Option.some.injEq, Prod.mk.injEq] at H
  obtain ⟨rfl, rfl⟩ := H
  go_enter Try.func49, Try.ntmps49
  go_wp2_with (first | ((with_reducible refine gate_callee (f := 55) rfl ?_); refine goesL_ (some 11) rfl rfl Try.func55 (by kernel_rfl) rfl #[.slice A0 l0.length c0, .int .u64 a1, .int .i64 4] rfl (by (try simp only [List.map_toArray, List.map_cons, List.map_nil]); first | done | rfl | (simp only [List.length_drop, List.length_take]; rfl)) ?_; (with_reducible refine (le_get.calls k _ _ l0 a1 4 t134 t135 _ ?side1 ?side2 A3.out).mono ?_); (case side1 => repeat (first | exact HR0.out | (with_reducible refine Kd.C_alloc ?_ _) | (with_reducible refine Kd.C_drewN ?_ _) | (with_reducible refine Kd.C_drew ?_))); (case side2 => exact HC0.out); rintro e w' ⟨rfl, ⟨nd, rfl⟩⟩; refine ⟨_, rfl, ?_⟩))
  go_ret2
  exact ⟨by first | rfl | (simp; done) | (simp [*]; done), by repeat (first | exact Drawn0.refl _ | apply Drawn0.step)⟩

/-! ### imm_Put: function 51 -/
def imm_Put.l0 : Nat → Int → Int → List (S86) → Int → Int → Option (Int × Bool)
  | 0, _, _, _, _, _ => none
  | k + 1, x1, x2, x22, x23, x24 => if x24 < x23 then (if 0 ≤ x24 then (if x24 < (x22.length : Int) then (if 0 ≤ (IntKind.u64.wrap ((rd_T86 x22 x24).f2)) then (if 0 ≤ (IntKind.u64.wrap ((rd_T86 x22 x24).f1)) then (if 0 ≤ (IntKind.u64.wrap ((rd_T86 x22 x24).f0)) then (imm_Put.l0 k (Go.bits .or .u32 (Go.bits .andNot .u32 x1 (shl .u32 (((shl .u32 1 (IntKind.u64.wrap ((rd_T86 x22 x24).f2))) - 1) % 4294967296) (IntKind.u64.wrap ((rd_T86 x22 x24).f1)))) (shl .u32 (Go.bits .and .u32 ((shr .u64 (IntKind.u64.wrap (x2)) (IntKind.u64.wrap ((rd_T86 x22 x24).f0))) % 4294967296) (((shl .u32 1 (IntKind.u64.wrap ((rd_T86 x22 x24).f2))) - 1) % 4294967296)) (IntKind.u64.wrap ((rd_T86 x22 x24).f1)))) x2 x22 x23 (wrap64 (x24 + 1))) else (none)) else (none)) else (none)) else (none)) else (none)) else (some (x1, true))
def imm_Put.f (k : Nat) (a0 : Int) (a1 : Int) (a2 : Int) : Option (Int × Bool) := (imm_Fits.f a0 a2).bind fun t136 => (if t136 = true then ((imm_pieces.f a0).bind fun bt137 => (imm_Put.l0 k a1 a2 bt137.1 (bt137.1.length : Int) 0)) else (some (0, false)))
theorem imm_Put.mono_l : ∀ k, (∀ y0 y1 y2 y3 y4, LeO (imm_Put.l0 k y0 y1 y2 y3 y4) (imm_Put.l0 (k + 1) y0 y1 y2 y3 y4))
  | 0 => fun _ _ _ _ _ r h => by simp [imm_Put.l0] at h
  | k + 1 => by
    have ih0 := imm_Put.mono_l k
    · intro y0 y1 y2 y3 y4
      unfold imm_Put.l0
      repeat' first
      | (with_reducible exact ih0 _ _ _ _ _)
      | (with_reducible exact LeO.refl _)
      | (with_reducible exact LeO.none _)
      | (with_reducible refine LeO.ite ?_ ?_)
      | (with_reducible refine LeO.bind ?_ (fun _ => ?_))
      | exact ih0 _ _ _ _ _
      | exact LeO.none _
      | refine LeO.ite ?_ ?_
      | refine LeO.bind ?_ (fun _ => ?_)
theorem imm_Put.mono : ∀ a0 a1 a2 k, LeO (imm_Put.f k a0 a1 a2) (imm_Put.f (k + 1) a0 a1 a2) := by
  intro a0 a1 a2 k
  have ih0 := imm_Put.mono_l k
  unfold imm_Put.f
  repeat' first
      | (with_reducible exact ih0 _ _ _ _ _)
      | (with_reducible exact LeO.refl _)
      | (with_reducible exact LeO.none _)
      | (with_reducible refine LeO.ite ?_ ?_)
      | (with_reducible refine LeO.bind ?_ (fun _ => ?_))
      | exact ih0 _ _ _ _ _
      | exact LeO.none _
      | refine LeO.ite ?_ ?_
      | refine LeO.bind ?_ (fun _ => ?_)
set_option maxHeartbeats 8000000 in
set_option maxRecDepth 100000 in
theorem imm_Put.calls (k : Nat) (a0 : Int) (a1 : Int) (a2 : Int) (r1 : Int) (r2 : Bool) (w : World) (h : imm_Put.f k a0 a1 a2 = some (r1, r2)) :
    Calls Try.prog 51 #[.int .i64 a0, .int .u32 a1, .int .i64 a2] w fun e w' => e = .returned (.tuple #[.int .u32 r1, .bool r2]) ∧ Below w.heap.size w w' := by
  have hu86 := Try.underlying86
  have HB := Aside0.mk (Below.refl w.heap.size w)
  have H : ((imm_Fits.f a0 a2).bind fun t136 => (if t136 = true then ((imm_pieces.f a0).bind fun bt137 => (imm_Put.l0 k a1 a2 bt137.1 (bt137.1.length : Int) 0)) else (some (0, false)))) = some (r1, r2) := h
  clear h
  replace H := Option.bind_eq_some_iff.mp H
  obtain ⟨t136, A40, H⟩ := H
  replace H : (if t136 = true then ((imm_pieces.f a0).bind fun bt137 => (imm_Put.l0 k a1 a2 bt137.1 (bt137.1.length : Int) 0)) else (some (0, false))) = some (r1, r2) := H
  have A4 := Aside0.mk A40
  clear A40
  by_cases c5 : t136 = true
  · subst c5
    have H1 : ((imm_pieces.f a0).bind fun bt137 => (imm_Put.l0 k a1 a2 bt137.1 (bt137.1.length : Int) 0)) = some (r1, r2) := by rw [if_pos rfl] at H; exact H
    clear H
    have H := H1
    clear H1
    replace H := Option.bind_eq_some_iff.mp H
    obtain ⟨⟨t137, t138⟩, A60, H⟩ := H
    replace H : (imm_Put.l0 k a1 a2 t137 (t137.length : Int) 0) = some (r1, r2) := H
    have A6 := Aside0.mk A60
    clear A60
    have H' := Aside0.mk H
    clear H
    go_enter Try.func51, Try.ntmps51
    go_wp2_with (first | ((with_reducible refine gate_callee (f := 45) rfl ?_); refine goesL_ (some 15) rfl rfl Try.func45 (by kernel_rfl) rfl #[.int .i64 a0, .int .i64 a2] rfl (by (try simp only [List.map_toArray, List.map_cons, List.map_nil]); first | done | rfl | (simp only [List.length_drop, List.length_take]; rfl)) ?_; (with_reducible refine (imm_Fits.calls a0 a2 true _ A4.out).mono ?_); rintro e w7 ⟨rfl, hb⟩; refine ⟨_, rfl, ?_⟩; have n0_ := Aside0.mk (below_step (by repeat (first | (with_reducible first | exact HB.out | apply below_alloc | apply pw_below_drewN | apply below_drew1) | exact HB.out)) hb); clear HB; have HB := n0_; clear n0_; (try clear hb); (try clear hb2); (try clear hk); (try clear hi)) | ((with_reducible refine gate_callee (f := 54) rfl ?_); refine goesL_ (some 19) rfl rfl Try.func54 (by kernel_rfl) rfl #[.int .i64 a0] rfl (by (try simp only [List.map_toArray, List.map_cons, List.map_nil]); first | done | rfl | (simp only [List.length_drop, List.length_take]; rfl)) ?_; (with_reducible refine (imm_pieces.calls a0 t137 t138 _ A6.out).mono ?_); rintro e w8 ⟨v139, rfl, ho0, hb⟩; refine ⟨_, rfl, ?_⟩; have n0_ := Aside0.mk (Kd.R_lower ho0 (below_size (by repeat (first | (with_reducible first | exact HB.out | apply below_alloc | apply pw_below_drewN | apply below_drew1) | exact HB.out)))); have n1_ := Aside0.mk (below_step (by repeat (first | (with_reducible first | exact HB.out | apply below_alloc | apply pw_below_drewN | apply below_drew1) | exact HB.out)) hb); clear HB; have HO140 := n0_; have HB := n1_; clear n0_ n1_; (try clear hb); (try clear hb2); (try clear hk); (try clear hi); (try clear ho0); obtain ⟨Ao9, co9, eo9⟩ := Kd.R_slice HO140.out; subst eo9))
    go_loopg [1, 24] k (fun kq v1 v24 w' => ∃ (x1_1 : Int) (x24_1 : Int), v1 = .int .u32 x1_1 ∧ v24 = .int .i64 x24_1 ∧ Aside0 (imm_Put.l0 kq x1_1 a2 t137 (t137.length : Int) x24_1 = some (r1, r2)) ∧ Aside0 (kq ≤ k) ∧ Aside0 (Kd.R k86 86 w' w.heap.size (fun _ => True) (.slice Ao9 t137.length co9) t137) ∧ Aside0 (Below w.heap.size w w'))
    case atStart => exact ⟨(a1), (0), (by first | rfl | (simp; done) | (simp [*]; done)), (by first | rfl | (simp; done) | (simp [*]; done)), H', ⟨Nat.le_refl _⟩, ⟨by (with_reducible repeat (first | apply Kd.R_alloc | apply Kd.R_drewN | apply Kd.R_drew)); exact HO140.out⟩, ⟨by repeat (first | (with_reducible first | exact HB.out | apply below_alloc | apply pw_below_drewN | apply below_drew1) | exact HB.out)⟩⟩
    case round =>
      clear H'
      try clear p2
      try clear c4
      try clear c5
      obtain ⟨x1_1, x24_1, rfl, rfl, HA, HK1, HO_22, HB⟩ := hrel
      cases gk with
      | zero => exact absurd HA.out (by simp [imm_Put.l0])
      | succ k1 =>
        have H := HA.out
        clear HA
        simp only [imm_Put.l0] at H
        by_cases c10 : x24_1 < (t137.length : Int)
        · rw [if_pos c10] at H
          have c10b0 : decide (x24_1 < (t137.length : Int)) = true := decide_eq_true c10
          clear c10
          by_cases c11 : 0 ≤ x24_1
          · rw [if_pos c11] at H
            have c11b0 : decide (0 ≤ x24_1) = true := decide_eq_true c11
            clear c11
            by_cases c12 : x24_1 < (t137.length : Int)
            · rw [if_pos c12] at H
              have c12b0 : decide (x24_1 < (t137.length : Int)) = true := decide_eq_true c12
              clear c12
              obtain ⟨ji13, hji13⟩ : ∃ j_ : Int, (IntKind.u64.wrap ((rd_T86 t137 x24_1).f2)) = j_ := ⟨_, rfl⟩
              replace H : (if 0 ≤ (ji13) then (if 0 ≤ (IntKind.u64.wrap ((rd_T86 t137 x24_1).f1)) then (if 0 ≤ (IntKind.u64.wrap ((rd_T86 t137 x24_1).f0)) then (imm_Put.l0 k1 (Go.bits .or .u32 (Go.bits .andNot .u32 x1_1 (shl .u32 (((shl .u32 1 (ji13)) - 1) % 4294967296) (IntKind.u64.wrap ((rd_T86 t137 x24_1).f1)))) (shl .u32 (Go.bits .and .u32 ((shr .u64 (IntKind.u64.wrap (a2)) (IntKind.u64.wrap ((rd_T86 t137 x24_1).f0))) % 4294967296) (((shl .u32 1 (ji13)) - 1) % 4294967296)) (IntKind.u64.wrap ((rd_T86 t137 x24_1).f1)))) a2 t137 (t137.length : Int) (wrap64 (x24_1 + 1))) else (none)) else (none)) else (none)) = some (r1, r2) := by first | (rw [hji13] at H; exact H) | (simp only [hji13] at H ⊢; exact H)
              by_cases c14 : 0 ≤ (ji13)
              · rw [if_pos c14] at H
                have c14b0 := eq_true c14
                have c14b1 : decide (0 ≤ (ji13)) = true := decide_eq_true c14
                clear c14
                obtain ⟨ji15, hji15⟩ : ∃ j_ : Int, (shl .u32 1 (ji13)) = j_ := ⟨_, rfl⟩
                replace H : (if 0 ≤ (IntKind.u64.wrap ((rd_T86 t137 x24_1).f1)) then (if 0 ≤ (IntKind.u64.wrap ((rd_T86 t137 x24_1).f0)) then (imm_Put.l0 k1 (Go.bits .or .u32 (Go.bits .andNot .u32 x1_1 (shl .u32 (((ji15) - 1) % 4294967296) (IntKind.u64.wrap ((rd_T86 t137 x24_1).f1)))) (shl .u32 (Go.bits .and .u32 ((shr .u64 (IntKind.u64.wrap (a2)) (IntKind.u64.wrap ((rd_T86 t137 x24_1).f0))) % 4294967296) (((ji15) - 1) % 4294967296)) (IntKind.u64.wrap ((rd_T86 t137 x24_1).f1)))) a2 t137 (t137.length : Int) (wrap64 (x24_1 + 1))) else (none)) else (none)) = some (r1, r2) := by first | (rw [hji15] at H; exact H) | (simp only [hji15] at H ⊢; exact H)
                have hji15_ : (IntKind.u32.wrap (1 * 2 ^ min (ji13).toNat 32)) = ji15 := hji15
                have hji15z : (ji13) ≤ 32 → (IntKind.u32.wrap (1 * 2 ^ (ji13).toNat)) = ji15 := shl_small hji15
                have hji15u : (IntKind.u32.wrap (2 ^ min (ji13).toNat 32)) = ji15 := by have h_ := hji15_; rw [Int.one_mul] at h_; exact h_
                have hji15v : (ji13) ≤ 32 → (IntKind.u32.wrap (2 ^ (ji13).toNat)) = ji15 := fun hle_ => by have h_ := hji15z hle_; rw [Int.one_mul] at h_; exact h_
                obtain ⟨ji16, hji16⟩ : ∃ j_ : Int, (IntKind.u64.wrap ((rd_T86 t137 x24_1).f1)) = j_ := ⟨_, rfl⟩
                replace H : (if 0 ≤ (ji16) then (if 0 ≤ (IntKind.u64.wrap ((rd_T86 t137 x24_1).f0)) then (imm_Put.l0 k1 (Go.bits .or .u32 (Go.bits .andNot .u32 x1_1 (shl .u32 (((ji15) - 1) % 4294967296) (ji16))) (shl .u32 (Go.bits .and .u32 ((shr .u64 (IntKind.u64.wrap (a2)) (IntKind.u64.wrap ((rd_T86 t137 x24_1).f0))) % 4294967296) (((ji15) - 1) % 4294967296)) (ji16))) a2 t137 (t137.length : Int) (wrap64 (x24_1 + 1))) else (none)) else (none)) = some (r1, r2) := by first | (rw [hji16] at H; exact H) | (simp only [hji16] at H ⊢; exact H)
                by_cases c17 : 0 ≤ (ji16)
                · rw [if_pos c17] at H
                  have c17b0 := eq_true c17
                  have c17b1 : decide (0 ≤ (ji16)) = true := decide_eq_true c17
                  clear c17
                  obtain ⟨ji18, hji18⟩ : ∃ j_ : Int, (shl .u32 (((ji15) - 1) % 4294967296) (ji16)) = j_ := ⟨_, rfl⟩
                  replace H : (if 0 ≤ (IntKind.u64.wrap ((rd_T86 t137 x24_1).f0)) then (imm_Put.l0 k1 (Go.bits .or .u32 (Go.bits .andNot .u32 x1_1 (ji18)) (shl .u32 (Go.bits .and .u32 ((shr .u64 (IntKind.u64.wrap (a2)) (IntKind.u64.wrap ((rd_T86 t137 x24_1).f0))) % 4294967296) (((ji15) - 1) % 4294967296)) (ji16))) a2 t137 (t137.length : Int) (wrap64 (x24_1 + 1))) else (none)) = some (r1, r2) := by first | (rw [hji18] at H; exact H) | (simp only [hji18] at H ⊢; exact H)
                  have hji18_ : (IntKind.u32.wrap ((((ji15) - 1) % 4294967296) * 2 ^ min (ji16).toNat 32)) = ji18 := hji18
                  have hji18z : (ji16) ≤ 32 → (IntKind.u32.wrap ((((ji15) - 1) % 4294967296) * 2 ^ (ji16).toNat)) = ji18 := shl_small hji18
                  obtain ⟨ji19, hji19⟩ : ∃ j_ : Int, (IntKind.u64.wrap ((rd_T86 t137 x24_1).f0)) = j_ := ⟨_, rfl⟩
                  replace H : (if 0 ≤ (ji19) then (imm_Put.l0 k1 (Go.bits .or .u32 (Go.bits .andNot .u32 x1_1 (ji18)) (shl .u32 (Go.bits .and .u32 ((shr .u64 (IntKind.u64.wrap (a2)) (ji19)) % 4294967296) (((ji15) - 1) % 4294967296)) (ji16))) a2 t137 (t137.length : Int) (wrap64 (x24_1 + 1))) else (none)) = some (r1, r2) := by first | (rw [hji19] at H; exact H) | (simp only [hji19] at H ⊢; exact H)
                  by_cases c20 : 0 ≤ (ji19)
                  · rw [if_pos c20] at H
                    have c20b0 := eq_true c20
                    have c20b1 : decide (0 ≤ (ji19)) = true := decide_eq_true c20
                    clear c20
                    obtain ⟨ji21, hji21⟩ : ∃ j_ : Int, (shr .u64 (IntKind.u64.wrap (a2)) (ji19)) = j_ := ⟨_, rfl⟩
                    replace H : (imm_Put.l0 k1 (Go.bits .or .u32 (Go.bits .andNot .u32 x1_1 (ji18)) (shl .u32 (Go.bits .and .u32 ((ji21) % 4294967296) (((ji15) - 1) % 4294967296)) (ji16))) a2 t137 (t137.length : Int) (wrap64 (x24_1 + 1))) = some (r1, r2) := by first | (rw [hji21] at H; exact H) | (simp only [hji21] at H ⊢; exact H)
                    have hji21_ : ((IntKind.u64.wrap (a2)) / 2 ^ min (ji19).toNat 64) = ji21 := hji21
                    have hji21z : (ji19) ≤ 64 → ((IntKind.u64.wrap (a2)) / 2 ^ (ji19).toNat) = ji21 := shr_small hji21
                    have c22b0 := eq_true (of_decide_eq_true (by first | (with_reducible assumption) | assumption) : 0 ≤ (ji16))
                    obtain ⟨ji23, hji23⟩ : ∃ j_ : Int, (shl .u32 (Go.bits .and .u32 ((ji21) % 4294967296) (((ji15) - 1) % 4294967296)) (ji16)) = j_ := ⟨_, rfl⟩
                    replace H : (imm_Put.l0 k1 (Go.bits .or .u32 (Go.bits .andNot .u32 x1_1 (ji18)) (ji23)) a2 t137 (t137.length : Int) (wrap64 (x24_1 + 1))) = some (r1, r2) := by first | (rw [hji23] at H; exact H) | (simp only [hji23] at H ⊢; exact H)
                    have hji23_ : (IntKind.u32.wrap ((Go.bits .and .u32 ((ji21) % 4294967296) (((ji15) - 1) % 4294967296)) * 2 ^ min (ji16).toNat 32)) = ji23 := hji23
                    have hji23z : (ji16) ≤ 32 → (IntKind.u32.wrap ((Go.bits .and .u32 ((ji21) % 4294967296) (((ji15) - 1) % 4294967296)) * 2 ^ (ji16).toNat)) = ji23 := shl_small hji23
                    have H' := Aside0.mk H
                    clear H
                    have p141 : 0 ≤ (x24_1 : Int) := of_decide_eq_true (by first | (with_reducible assumption) | assumption)
                    have q141 : x24_1 < (t137.length : Int) := of_decide_eq_true (by first | (with_reducible assumption) | assumption)
                    obtain ⟨ad141, e141, hx141_0, hx141_1, hx141_2⟩ := at_T86 (Kd.R_reads' HO_22.out).2.2 x24_1 p141 q141
                    cases e141
                    replace p141 := eq_true p141
                    replace q141 := eq_true q141
                    go_wp2_with (first | ((with_reducible refine gate_dst (N := 11) rfl ?_); refine box_event ?hg (N := 11) ?hd (cs := #[.int .i64 0, .int .i64 0, .int .i64 0]) (t := 86) ?hr ?_; (case hd => rfl); (case hg => rfl); (case hr => first | (go_simp; done) | (go_simp; rfl)); intro gb142 hg w24 hbox hb; have n0_ := Aside0.mk (Kd.R_below (Kd.R_elderB (by (with_reducible repeat (first | apply Kd.R_alloc | apply Kd.R_drewN | apply Kd.R_drew)); exact HO_22.out) gb142 (Nat.le_of_eq hg.symm)) hb); have n1_ := Aside0.mk (below_step (by repeat (first | (with_reducible first | exact HB.out | apply below_alloc | apply pw_below_drewN | apply below_drew1) | exact HB.out)) hb); have n2_ := Aside0.mk (hbox); have n3_ := Aside0.mk ((by rw [hg]; exact (below_size (by repeat (first | (with_reducible first | exact HB.out | apply below_alloc | apply pw_below_drewN | apply below_drew1) | exact HB.out))) : w.heap.size ≤ gb142)); have n4_ := Aside0.mk ((by rw [hg]; exact (below_size (by repeat (first | (with_reducible first | exact HB.out | apply below_alloc | apply pw_below_drewN | apply below_drew1) | exact HB.out))) : w.heap.size ≤ gb142)); clear HO_22; clear HB; have HO_22 := n0_; have HB := n1_; have BK142 := n2_; have GW142 := n3_; have GE142 := n4_; clear n0_ n1_ n2_ n3_ n4_; clear hb hbox hg; have hcz25_0 : w24.cell? ⟨gb142, 0, none⟩ = some (.int .i64 0) := (blk_cell BK142.out 0).trans rfl; have hcz25_1 : w24.cell? ⟨gb142, 1, none⟩ = some (.int .i64 0) := (blk_cell BK142.out 1).trans rfl; have hcz25_2 : w24.cell? ⟨gb142, 2, none⟩ = some (.int .i64 0) := (blk_cell BK142.out 2).trans rfl; have hfz25_0 := blk_frozen BK142.out 0; have hfz25_1 := blk_frozen BK142.out 1; have hfz25_2 := blk_frozen BK142.out 2))
                    go_roundg k1
                    case measure => have := HK1.out; omega
                    case rel => exact ⟨(Go.bits .or .u32 (Go.bits .andNot .u32 x1_1 (ji18)) (ji23)), (wrap64 (x24_1 + 1)), (by first | rfl | (simp; done) | (simp only [← hji18, ← hji23] <;> (first | rfl | simp)) | (simp [*]; done)), (by first | rfl | (simp; done) | (simp [*]; done)), H', ⟨by have := HK1.out; omega⟩, ⟨by (with_reducible repeat (first | apply Kd.R_alloc | apply Kd.R_drewN | apply Kd.R_drew)); exact Kd.R_mono (Kd.R_far (p := ⟨gb142, 2, none⟩) (Kd.R_far (p := ⟨gb142, 1, none⟩) (Kd.R_far (p := ⟨gb142, 0, none⟩) (Kd.R_mono HO_22.out (fun k_ hk => (⟨hk, hk.2⟩ : _ ∧ k_ ≠ gb142))) (fun _ hk => hk.2) (.int .i64 ((rd_T86 t137 x24_1).f0))) (fun _ hk => hk.2) (.int .i64 ((rd_T86 t137 x24_1).f1))) (fun _ hk => hk.2) (.int .i64 ((rd_T86 t137 x24_1).f2))) (fun _ hk => trivial)⟩, ⟨by repeat (first | (with_reducible first | exact HB.out | apply below_alloc | apply pw_below_drewN | apply below_drew1 | refine below_set ?_ GE142.out) | exact HB.out)⟩⟩
                  · rw [if_neg c20] at H
                    exact absurd H (by simp)
                · rw [if_neg c17] at H
                  exact absurd H (by simp)
              · rw [if_neg c14] at H
                exact absurd H (by simp)
            · rw [if_neg c12] at H
              exact absurd H (by simp)
          · rw [if_neg c11] at H
            exact absurd H (by simp)
        · rw [if_neg c10] at H
          have c10b0 : decide (x24_1 < (t137.length : Int)) = false := decide_eq_false c10
          clear c10
          simp only [Option.some.injEq, Prod.mk.injEq] at H
          obtain ⟨rfl, rfl⟩ := H
          go_wp2
          go_ret2
          exact ⟨by first | rfl | (simp [errW_none, errW_some] <;> rfl) | (simp [*, errW_none, errW_some] <;> rfl), by repeat (first | (with_reducible first | exact HB.out | apply below_alloc | apply pw_below_drewN | apply below_drew1) | exact HB.out)⟩
  · replace c5 := Bool.eq_false_iff.mpr c5
    subst c5
    have H1 : (some (0, false)) = some (r1, r2) := by rw [if_neg (show ¬ (false = true) by decide)] at H; exact H
    clear H
    have H := H1
    clear H1
    simp only [Option.some.injEq, Prod.mk.injEq] at H
    obtain ⟨rfl, rfl⟩ := H
    go_enter Try.func51, Try.ntmps51
    go_wp2_with (first | ((with_reducible refine gate_callee (f := 45) rfl ?_); refine goesL_ (some 15) rfl rfl Try.func45 (by kernel_rfl) rfl #[.int .i64 a0, .int .i64 a2] rfl (by (try simp only [List.map_toArray, List.map_cons, List.map_nil]); first | done | rfl | (simp only [List.length_drop, List.length_take]; rfl)) ?_; (with_reducible refine (imm_Fits.calls a0 a2 false _ A4.out).mono ?_); rintro e w26 ⟨rfl, hb⟩; refine ⟨_, rfl, ?_⟩; have n0_ := Aside0.mk (below_step (by repeat (first | (with_reducible first | exact HB.out | apply below_alloc | apply pw_below_drewN | apply below_drew1) | exact HB.out)) hb); clear HB; have HB := n0_; clear n0_; (try clear hb); (try clear hb2); (try clear hk); (try clear hi)))
    go_ret2
    exact ⟨by first | rfl | (simp [errW_none, errW_some] <;> rfl) | (simp [*, errW_none, errW_some] <;> rfl), by repeat (first | (with_reducible first | exact HB.out | apply below_alloc | apply pw_below_drewN | apply below_drew1) | exact HB.out)⟩

/-! ### reloc_put: function 28 -/
def reloc_put.j0 : Nat → List Int → Int → Int → Int → Int → Option (List Int × Bool)
  | 0, _, _, _, _, _ => none
  | k + 1, x0, x1, x2, x3, x10 => (imm_Put.f k x2 x10 x3).bind fun bt146 => (if bt146.2 = true then ((le_Set.f x0 x1 (IntKind.u64.wrap (bt146.1)) 4).bind fun bt148 => (some (bt148.1, bt148.2))) else (some (([] : List Int), false)))
def reloc_put.f (k : Nat) (l0 : List Int) (a1 : Int) (a2 : Int) (a3 : Int) : Option (List Int × Bool) := (le_U32.f k l0 a1).bind fun bt143 => (if a2 = 4 then ((imm_Sign.f (IntKind.u64.wrap (a3)) 20).bind fun t145 => (reloc_put.j0 k l0 a1 a2 t145 bt143.1)) else (reloc_put.j0 k l0 a1 a2 a3 bt143.1))
theorem reloc_put.mono_l : ∀ k, (∀ y0 y1 y2 y3 y4, LeO (reloc_put.j0 k y0 y1 y2 y3 y4) (reloc_put.j0 (k + 1) y0 y1 y2 y3 y4))
  | 0 => fun _ _ _ _ _ r h => by simp [reloc_put.j0] at h
  | k + 1 => by
    have ih0 := reloc_put.mono_l k
    · intro y0 y1 y2 y3 y4
      unfold reloc_put.j0
      repeat' first
      | (with_reducible exact ih0 _ _ _ _ _)
      | (with_reducible exact imm_Put.mono _ _ _ _)
      | (with_reducible exact le_U32.mono _ _ _)
      | (with_reducible exact LeO.refl _)
      | (with_reducible exact LeO.none _)
      | (with_reducible refine LeO.ite ?_ ?_)
      | (with_reducible refine LeO.bind ?_ (fun _ => ?_))
      | exact ih0 _ _ _ _ _
      | exact imm_Put.mono _ _ _ _
      | exact le_U32.mono _ _ _
      | exact LeO.none _
      | refine LeO.ite ?_ ?_
      | refine LeO.bind ?_ (fun _ => ?_)
theorem reloc_put.mono : ∀ a0 a1 a2 a3 k, LeO (reloc_put.f k a0 a1 a2 a3) (reloc_put.f (k + 1) a0 a1 a2 a3) := by
  intro a0 a1 a2 a3 k
  have ih0 := reloc_put.mono_l k
  unfold reloc_put.f
  repeat' first
      | (with_reducible exact ih0 _ _ _ _ _)
      | (with_reducible exact imm_Put.mono _ _ _ _)
      | (with_reducible exact le_U32.mono _ _ _)
      | (with_reducible exact LeO.refl _)
      | (with_reducible exact LeO.none _)
      | (with_reducible refine LeO.ite ?_ ?_)
      | (with_reducible refine LeO.bind ?_ (fun _ => ?_))
      | exact ih0 _ _ _ _ _
      | exact imm_Put.mono _ _ _ _
      | exact le_U32.mono _ _ _
      | exact LeO.none _
      | refine LeO.ite ?_ ?_
      | refine LeO.bind ?_ (fun _ => ?_)
set_option maxHeartbeats 8000000 in
set_option maxRecDepth 100000 in
theorem reloc_put.calls (k : Nat) (A0 : Option Addr) (c0 : Nat) (l0 : List Int) (a1 : Int) (a2 : Int) (a3 : Int) (r1 : List Int) (r2 : Bool) (w : World) (hr0 : Kd.C (Kd.int .u8) w A0 l0.length l0) (hc0 : l0.length ≤ c0) (h : reloc_put.f k l0 a1 a2 a3 = some (r1, r2)) :
    Calls Try.prog 28 #[.slice A0 l0.length c0, .int .u64 a1, .int .i64 a2, .int .i64 a3] w fun e w' => ∃ v0_ : Value, e = .returned (.tuple #[v0_, .bool r2]) ∧ Kd.R (Kd.int .u8) 5 w' w.heap.size (fun _ => True) v0_ r1 ∧ Below w.heap.size w w' := by
  have HR0 := Aside0.mk hr0
  have HC0 := Aside0.mk hc0
  clear hr0 hc0
  have HB := Aside0.mk (Below.refl w.heap.size w)
  have H : ((le_U32.f k l0 a1).bind fun bt143 => (if a2 = 4 then ((imm_Sign.f (IntKind.u64.wrap (a3)) 20).bind fun t145 => (reloc_put.j0 k l0 a1 a2 t145 bt143.1)) else (reloc_put.j0 k l0 a1 a2 a3 bt143.1))) = some (r1, r2) := h
  clear h
  replace H := Option.bind_eq_some_iff.mp H
  obtain ⟨⟨t143, t144⟩, A50, H⟩ := H
  replace H : (if a2 = 4 then ((imm_Sign.f (IntKind.u64.wrap (a3)) 20).bind fun t145 => (reloc_put.j0 k l0 a1 a2 t145 t143)) else (reloc_put.j0 k l0 a1 a2 a3 t143)) = some (r1, r2) := H
  have A5 := Aside0.mk A50
  clear A50
  have HC6 := Aside0.mk H
  clear H
  go_enter Try.func28, Try.ntmps28
  go_upto_if 20 with (first | ((with_reducible refine gate_callee (f := 49) rfl ?_); refine goesL_ (some 16) rfl rfl Try.func49 (by kernel_rfl) rfl #[.slice A0 l0.length c0, .int .u64 a1] rfl (by (try simp only [List.map_toArray, List.map_cons, List.map_nil]); first | done | rfl | (simp only [List.length_drop, List.length_take]; rfl)) ?_; (with_reducible refine (le_U32.calls k _ _ l0 a1 t143 t144 _ ?side1 ?side2 A5.out).mono ?_); (case side1 => repeat (first | exact HR0.out | (with_reducible refine Kd.C_alloc ?_ _) | (with_reducible refine Kd.C_drewN ?_ _) | (with_reducible refine Kd.C_drew ?_))); (case side2 => exact HC0.out); rintro e w' ⟨rfl, ⟨nd, rfl⟩⟩; refine ⟨_, rfl, ?_⟩))
  (try simp only [Act.put, List.setIfInBounds_toArray, List.set_cons_zero, List.set_cons_succ])
  go_cut [3] (fun v3 wc => ∃ (kq : Nat) (x3_5 : Int), v3 = .int .i64 x3_5 ∧ Aside0 (reloc_put.j0 kq l0 a1 a2 x3_5 t143 = some (r1, r2)) ∧ Aside0 (kq ≤ k) ∧ Aside0 (Below w.heap.size w wc))
  case first =>
    have H := HC6.out
    clear HC6
    by_cases c7 : a2 = 4
    · rw [if_pos c7] at H
      have c7b0 : (a2 == 4) = true := beq_iff_eq.mpr c7
      have c7b1 : (a2 != 4) = false := bne_eq_false_iff_eq.mpr c7
      clear c7
      (first | rw [c7b0] | (simp only [i64_w, i32_w]; rw [c7b0]) | skip)
      replace H := Option.bind_eq_some_iff.mp H
      obtain ⟨t145, A80, H⟩ := H
      replace H : (reloc_put.j0 k l0 a1 a2 t145 t143) = some (r1, r2) := H
      have A8 := Aside0.mk A80
      clear A80
      have H' := Aside0.mk H
      clear H
      go_wp2_with (first | ((with_reducible refine gate_callee (f := 50) rfl ?_); refine goesL_ (some 23) rfl rfl Try.func50 (by kernel_rfl) rfl #[.int .u64 (IntKind.u64.wrap (a3)), .int .i64 20] rfl (by (try simp only [List.map_toArray, List.map_cons, List.map_nil]); first | done | rfl | (simp only [List.length_drop, List.length_take]; rfl)) ?_; (with_reducible refine (imm_Sign.calls (IntKind.u64.wrap (a3)) 20 t145 _ A8.out).mono ?_); rintro e w9 ⟨rfl, hb⟩; refine ⟨_, rfl, ?_⟩; have n0_ := Aside0.mk (below_step (by repeat (first | (with_reducible first | exact HB.out | apply below_alloc | apply pw_below_drewN | apply below_drew1) | exact HB.out)) hb); clear HB; have HB := n0_; clear n0_; (try clear hb); (try clear hb2); (try clear hk); (try clear hi)))
      go_meet
      case rel => exact ⟨_, (t145), (by first | rfl | (simp; done) | (simp [*]; done)), H', ⟨by first | omega | exact Nat.le_refl _⟩, ⟨by repeat (first | (with_reducible first | exact HB.out | apply below_alloc | apply pw_below_drewN | apply below_drew1) | exact HB.out)⟩⟩
    · rw [if_neg c7] at H
      have c7b0 : (a2 == 4) = false := beq_eq_false_iff_ne.mpr c7
      have c7b1 : (a2 != 4) = true := bne_iff_ne.mpr c7
      (first | rw [c7b0] | (simp only [i64_w, i32_w]; rw [c7b0]) | skip)
      have H' := Aside0.mk H
      clear H
      go_wp2
      go_meet
      case rel => exact ⟨_, (a3), (by first | rfl | (simp; done) | (simp [*]; done)), H', ⟨by first | omega | exact Nat.le_refl _⟩, ⟨by repeat (first | (with_reducible first | exact HB.out | apply below_alloc | apply pw_below_drewN | apply below_drew1) | exact HB.out)⟩⟩
  case rest =>
    clear HC6
    try clear c2
    try clear p2
    try clear c4
    try clear c5
    try clear c7
    try clear c7b0
    try clear c7b1
    obtain ⟨kq, x3_5, rfl, HA, HJ5, HB⟩ := hcut
    cases kq with
    | zero => exact absurd HA.out (by simp [reloc_put.j0])
    | succ kj5 =>
      have H := HA.out
      clear HA
      simp only [reloc_put.j0] at H
      replace H := Option.bind_eq_some_iff.mp H
      obtain ⟨⟨t146, t147⟩, A100, H⟩ := H
      replace H : (if t147 = true then ((le_Set.f l0 a1 (IntKind.u64.wrap (t146)) 4).bind fun bt148 => (some (bt148.1, bt148.2))) else (some (([] : List Int), false))) = some (r1, r2) := H
      have A10 := Aside0.mk A100
      clear A100
      by_cases c11 : t147 = true
      · subst c11
        have H1 : ((le_Set.f l0 a1 (IntKind.u64.wrap (t146)) 4).bind fun bt148 => (some (bt148.1, bt148.2))) = some (r1, r2) := by rw [if_pos rfl] at H; exact H
        clear H
        have H := H1
        clear H1
        replace H := Option.bind_eq_some_iff.mp H
        obtain ⟨⟨t148, t149⟩, A120, H⟩ := H
        replace H : (some (t148, t149)) = some (r1, r2) := H
        have A12 := Aside0.mk A120
        clear A120
        simp only [Option.some.injEq, Prod.mk.injEq] at H
        obtain ⟨rfl, rfl⟩ := H
        go_wp2_with (first | ((with_reducible refine gate_callee (f := 51) rfl ?_); refine goesL_ (some 28) rfl rfl Try.func51 (by kernel_rfl) rfl #[.int .i64 a2, .int .u32 t143, .int .i64 x3_5] rfl (by (try simp only [List.map_toArray, List.map_cons, List.map_nil]); first | done | rfl | (simp only [List.length_drop, List.length_take]; rfl)) ?_; (with_reducible refine (imm_Put.calls kj5 a2 t143 x3_5 t146 true _ A10.out).mono ?_); rintro e w13 ⟨rfl, hb⟩; refine ⟨_, rfl, ?_⟩; have n0_ := Aside0.mk (below_step (by repeat (first | (with_reducible first | exact HB.out | apply below_alloc | apply pw_below_drewN | apply below_drew1) | exact HB.out)) hb); clear HB; have HB := n0_; clear n0_; (try clear hb); (try clear hb2); (try clear hk); (try clear hi)) | ((with_reducible refine gate_callee (f := 27) rfl ?_); refine goesL_ (some 37) rfl rfl Try.func27 (by kernel_rfl) rfl #[.slice A0 l0.length c0, .int .u64 a1, .int .u64 (IntKind.u64.wrap (t146)), .int .i64 4] rfl (by (try simp only [List.map_toArray, List.map_cons, List.map_nil]); first | done | rfl | (simp only [List.length_drop, List.length_take]; rfl)) ?_; (with_reducible refine (le_Set.calls _ _ l0 a1 (IntKind.u64.wrap (t146)) 4 t148 t149 _ ?side1 ?side2 A12.out).mono ?_); (case side1 => repeat (first | exact (Kd.C_below HR0.out HB.out) | (with_reducible refine Kd.C_alloc ?_ _) | (with_reducible refine Kd.C_drewN ?_ _) | (with_reducible refine Kd.C_drew ?_))); (case side2 => exact HC0.out); rintro e w14 ⟨v150, rfl, ho0, hb⟩; refine ⟨_, rfl, ?_⟩; have n0_ := Aside0.mk (Kd.R_lower ho0 (below_size (by repeat (first | (with_reducible first | exact HB.out | apply below_alloc | apply pw_below_drewN | apply below_drew1) | exact HB.out)))); have n1_ := Aside0.mk (below_step (by repeat (first | (with_reducible first | exact HB.out | apply below_alloc | apply pw_below_drewN | apply below_drew1) | exact HB.out)) hb); clear HB; have HO151 := n0_; have HB := n1_; clear n0_ n1_; (try clear hb); (try clear hb2); (try clear hk); (try clear hi); (try clear ho0)))
        go_ret2
        exact ⟨_, by first | rfl | (simp [errW_none, errW_some] <;> rfl) | (simp [*, errW_none, errW_some] <;> rfl), by (with_reducible repeat (first | apply Kd.R_alloc | apply Kd.R_drewN | apply Kd.R_drew)); exact HO151.out, by repeat (first | (with_reducible first | exact HB.out | apply below_alloc | apply pw_below_drewN | apply below_drew1) | exact HB.out)⟩
      · replace c11 := Bool.eq_false_iff.mpr c11
        subst c11
        have H1 : (some (([] : List Int), false)) = some (r1, r2) := by rw [if_neg (show ¬ (false = true) by decide)] at H; exact H
        clear H
        have H := H1
        clear H1
        simp only [Option.some.injEq, Prod.mk.injEq] at H
        obtain ⟨rfl, rfl⟩ := H
        go_wp2_with (first | ((with_reducible refine gate_callee (f := 51) rfl ?_); refine goesL_ (some 28) rfl rfl Try.func51 (by kernel_rfl) rfl #[.int .i64 a2, .int .u32 t143, .int .i64 x3_5] rfl (by (try simp only [List.map_toArray, List.map_cons, List.map_nil]); first | done | rfl | (simp only [List.length_drop, List.length_take]; rfl)) ?_; (with_reducible refine (imm_Put.calls kj5 a2 t143 x3_5 t146 false _ A10.out).mono ?_); rintro e w15 ⟨rfl, hb⟩; refine ⟨_, rfl, ?_⟩; have n0_ := Aside0.mk (below_step (by repeat (first | (with_reducible first | exact HB.out | apply below_alloc | apply pw_below_drewN | apply below_drew1) | exact HB.out)) hb); clear HB; have HB := n0_; clear n0_; (try clear hb); (try clear hb2); (try clear hk); (try clear hi)))
        go_ret2
        exact ⟨_, by first | rfl | (simp [errW_none, errW_some] <;> rfl) | (simp [*, errW_none, errW_some] <;> rfl), by first | exact Kd.R_nil _ _ _ _ _ | exact Kd.N_nil _ _ _ _ _ | exact Kd.V_nil _ _ _ _ _ | exact Kd.Q_nil _ _ _ _ _ | exact Kd.S_nil _ _ _ _ _, by repeat (first | (with_reducible first | exact HB.out | apply below_alloc | apply pw_below_drewN | apply below_drew1) | exact HB.out)⟩

/-! ### imm_Hi: function 29 -/
def imm_Hi.f (a0 : Int) : Option (Int) := some ((wrap64 (IntKind.u64.wrap ((IntKind.u64.wrap (a0)) + 2048))) / 4096)
set_option maxHeartbeats 8000000 in
set_option maxRecDepth 100000 in
theorem imm_Hi.calls (a0 : Int) (r : Int) (w : World) (h : imm_Hi.f a0 = some r) :
    Calls Try.prog 29 #[.int .i64 a0] w fun e w' => e = .returned (.int .i64 r) ∧ Drawn0 w w' := by
  have H : (some ((wrap64 (IntKind.u64.wrap ((IntKind.u64.wrap (a0)) + 2048))) / 4096)) = some r := h
  clear h
  obtain rfl := Option.some.inj H
  go_enter Try.func29, Try.ntmps29
  go_wp2
  go_ret
  exact ⟨by first | rfl | (simp; done) | (simp [*]; done), by repeat (first | exact Drawn0.refl _ | apply Drawn0.step)⟩

/-! ### imm_Lo: function 30 -/
def imm_Lo.f (a0 : Int) : Option (Int) := (imm_Sign.f (IntKind.u64.wrap (a0)) 12).bind fun t152 => (some t152)
set_option maxHeartbeats 8000000 in
set_option maxRecDepth 100000 in
theorem imm_Lo.calls (a0 : Int) (r : Int) (w : World) (h : imm_Lo.f a0 = some r) :
    Calls Try.prog 30 #[.int .i64 a0] w fun e w' => e = .returned (.int .i64 r) ∧ Below w.heap.size w w' := by
  have HB := Aside0.mk (Below.refl w.heap.size w)
  have H : ((imm_Sign.f (IntKind.u64.wrap (a0)) 12).bind fun t152 => (some t152)) = some r := h
  clear h
  replace H := Option.bind_eq_some_iff.mp H
  obtain ⟨t152, A20, H⟩ := H
  replace H : (some t152) = some r := H
  have A2 := Aside0.mk A20
  clear A20
  obtain rfl := Option.some.inj H
  go_enter Try.func30, Try.ntmps30
  go_wp2_with (first | ((with_reducible refine gate_callee (f := 50) rfl ?_); refine goesL_ (some 5) rfl rfl Try.func50 (by kernel_rfl) rfl #[.int .u64 (IntKind.u64.wrap (a0)), .int .i64 12] rfl (by (try simp only [List.map_toArray, List.map_cons, List.map_nil]); first | done | rfl | (simp only [List.length_drop, List.length_take]; rfl)) ?_; (with_reducible refine (imm_Sign.calls (IntKind.u64.wrap (a0)) 12 t152 _ A2.out).mono ?_); rintro e w3 ⟨rfl, hb⟩; refine ⟨_, rfl, ?_⟩; have n0_ := Aside0.mk (below_step (by repeat (first | (with_reducible first | exact HB.out | apply below_alloc | apply pw_below_drewN | apply below_drew1) | exact HB.out)) hb); clear HB; have HB := n0_; clear n0_; (try clear hb); (try clear hb2); (try clear hk); (try clear hi)))
  go_ret
  exact ⟨by first | rfl | (simp [errW_none, errW_some] <;> rfl) | (simp [*, errW_none, errW_some] <;> rfl), by repeat (first | (with_reducible first | exact HB.out | apply below_alloc | apply pw_below_drewN | apply below_drew1) | exact HB.out)⟩

end Go.Proofs.Ytooleipgpkjpjaa.QRelocEdges
