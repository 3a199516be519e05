/- Contracts of what a law reaches, each function as a plain Lean function: written by a program of this claim's repo (myprint.py); conditions: those of each theorem. -/
import Derived.Test.YtooleipgpkjpjaaQRelocAppliesx0
import Derived.Test.YtooleipgpkjpjaaQRelocAppliesx4
import Derived.Test.YtooleipgpkjpjaaQRelocAppliesx5
import Derived.Test.YtooleipgpkjpjaaQRelocAppliesx6
namespace Go.Proofs.Ytooleipgpkjpjaa.QRelocApplies
open Go.Proofs.Ytooleipgpkjpjaa.Man
open Go.RowKit Go.Proofs.YtooleipgpkjpjaaW.PrintWords Go.Proofs.YtooleipgpkjpjaaW.PrintLast Go.Proofs.YtooleipgpkjpjaaW.PrintMore
attribute [local go_sem] max2_int min2_int max_two min_two max_three min_three max_four min_four   -- for this text's walks alone
set_option linter.unusedVariables false
set_option linter.unusedSimpArgs false

/-! ### dovetailref24_Apply: function 16 -/
mutual
def dovetailref24_Apply.j0 : Nat → List Int → Int → Int → Int → Int → Bool → Option (List Int × Int)
  | 0, _, _, _, _, _, _ => none
  | k + 1, x0, x1, x2, x3, x10, x41 => if x41 = true then ((dovetailref1_Set.f k x0 x1 (IntKind.u64.wrap (x3)) x10).bind fun bt239 => (some (bt239.1, 0))) else ((dovetailref3_Hi.f x3).bind fun t243 => (if x2 = 27 then (dovetailref24_Apply.j1 k x0 x1 x2 x3 4 t243 x2 (x2 == 27)) else (dovetailref24_Apply.j1 k x0 x1 x2 x3 4 t243 x2 (x2 == 24))))
def dovetailref24_Apply.j3 : Nat → List Int → Int → Int → Int → Int → Int → Option (List Int × Int)
  | 0, _, _, _, _, _, _ => none
  | k + 1, x0, x1, x2, x3, x13, x14 => if x2 = 16 then ((dovetailref3_Fits.f k x13 x3).bind fun t246 => (dovetailref24_Apply.j4 k x0 x1 x2 x3 x13 x14 (!t246))) else (if x2 = 17 then ((dovetailref3_Fits.f k x13 x3).bind fun t247 => (dovetailref24_Apply.j4 k x0 x1 x2 x3 x13 x14 (!t247))) else (dovetailref24_Apply.j4 k x0 x1 x2 x3 x13 x14 false))
def dovetailref24_Apply.j4 : Nat → List Int → Int → Int → Int → Int → Int → Bool → Option (List Int × Int)
  | 0, _, _, _, _, _, _, _ => none
  | k + 1, x0, x1, x2, x3, x13, x14, x82 => if x82 = true then (some (([] : List Int), 61)) else ((dovetailref1_Num.f k x0 x1 4).bind fun bt248 => ((dovetailref3_Set.f x13 ((bt248.1) % 4294967296) x14).bind fun t250 => ((dovetailref1_Set.f k x0 x1 (IntKind.u64.wrap (t250)) 4).bind fun bt251 => (if x2 = 18 then (dovetailref24_Apply.j5 k x0 x1 x3 bt251.1 true) else (dovetailref24_Apply.j5 k x0 x1 x3 bt251.1 (x2 == 19))))))
def dovetailref24_Apply.j5 : Nat → List Int → Int → Int → List Int → Bool → Option (List Int × Int)
  | 0, _, _, _, _, _ => none
  | k + 1, x0, x1, x3, x17, x106 => if x106 = true then ((dovetailref1_Num.f k x0 (IntKind.u64.wrap (x1 + 4)) 4).bind fun bt255 => ((dovetailref3_Lo.f x3).bind fun t257 => ((dovetailref3_Set.f 1 ((bt255.1) % 4294967296) t257).bind fun t258 => ((dovetailref1_Set.f k x17 (IntKind.u64.wrap (x1 + 4)) (IntKind.u64.wrap (t258)) 4).bind fun bt259 => (some (bt259.1, 0)))))) else (some (x17, 0))
def dovetailref24_Apply.j1 : Nat → List Int → Int → Int → Int → Int → Int → Int → Bool → Option (List Int × Int)
  | 0, _, _, _, _, _, _, _, _ => none
  | k + 1, x0, x1, x2, x3, x13, x14, x54, x55 => if x55 = true then ((dovetailref3_Lo.f x3).bind fun t244 => (dovetailref24_Apply.j3 k x0 x1 x2 x3 1 t244)) else (if x54 = 28 then (dovetailref24_Apply.j2 k x0 x1 x2 x3 x13 x14 x54 (x54 == 28)) else (dovetailref24_Apply.j2 k x0 x1 x2 x3 x13 x14 x54 (x54 == 25)))
def dovetailref24_Apply.j2 : Nat → List Int → Int → Int → Int → Int → Int → Int → Bool → Option (List Int × Int)
  | 0, _, _, _, _, _, _, _, _ => none
  | k + 1, x0, x1, x2, x3, x13, x14, x54, x60 => if x60 = true then ((dovetailref3_Lo.f x3).bind fun t245 => (dovetailref24_Apply.j3 k x0 x1 x2 x3 2 t245)) else (if x54 = 16 then (dovetailref24_Apply.j3 k x0 x1 x2 x3 3 x3) else (if x54 = 17 then (dovetailref24_Apply.j3 k x0 x1 x2 x3 5 x3) else (dovetailref24_Apply.j3 k x0 x1 x2 x3 x13 x14)))
end
def dovetailref24_Apply.f (k : Nat) (l0 : List Int) (a1 : Int) (a2 : Int) (a3 : Int) : Option (List Int × Int) := (dovetailref9_Known.f a2).bind fun t233 => (if t233 = true then ((dovetailref9_Width.f k a2).bind fun t234 => ((dovetailref1_Within.f a1 (IntKind.u64.wrap (t234)) (IntKind.u64.wrap ((l0.length : Int)))).bind fun t235 => (if t235 = true then (if a2 = 51 then (if ([] : List Int).length + l0.length < 140737488355328 then (some ((([] : List Int) ++ l0), 0)) else (none)) else (if a2 = 1 then (dovetailref24_Apply.j0 k l0 a1 a2 a3 t234 true) else (dovetailref24_Apply.j0 k l0 a1 a2 a3 t234 (a2 == 2)))) else (some (([] : List Int), 61))))) else (some (([] : List Int), 60)))
theorem dovetailref24_Apply.mono_l : ∀ k, (∀ y0 y1 y2 y3 y4 y5, LeO (dovetailref24_Apply.j0 k y0 y1 y2 y3 y4 y5) (dovetailref24_Apply.j0 (k + 1) y0 y1 y2 y3 y4 y5)) ∧ (∀ y0 y1 y2 y3 y4 y5, LeO (dovetailref24_Apply.j3 k y0 y1 y2 y3 y4 y5) (dovetailref24_Apply.j3 (k + 1) y0 y1 y2 y3 y4 y5)) ∧ (∀ y0 y1 y2 y3 y4 y5 y6, LeO (dovetailref24_Apply.j4 k y0 y1 y2 y3 y4 y5 y6) (dovetailref24_Apply.j4 (k + 1) y0 y1 y2 y3 y4 y5 y6)) ∧ (∀ y0 y1 y2 y3 y4, LeO (dovetailref24_Apply.j5 k y0 y1 y2 y3 y4) (dovetailref24_Apply.j5 (k + 1) y0 y1 y2 y3 y4)) ∧ (∀ y0 y1 y2 y3 y4 y5 y6 y7, LeO (dovetailref24_Apply.j1 k y0 y1 y2 y3 y4 y5 y6 y7) (dovetailref24_Apply.j1 (k + 1) y0 y1 y2 y3 y4 y5 y6 y7)) ∧ (∀ y0 y1 y2 y3 y4 y5 y6 y7, LeO (dovetailref24_Apply.j2 k y0 y1 y2 y3 y4 y5 y6 y7) (dovetailref24_Apply.j2 (k + 1) y0 y1 y2 y3 y4 y5 y6 y7))
  | 0 => ⟨fun _ _ _ _ _ _ r h => by simp [dovetailref24_Apply.j0] at h, fun _ _ _ _ _ _ r h => by simp [dovetailref24_Apply.j3] at h, fun _ _ _ _ _ _ _ r h => by simp [dovetailref24_Apply.j4] at h, fun _ _ _ _ _ r h => by simp [dovetailref24_Apply.j5] at h, fun _ _ _ _ _ _ _ _ r h => by simp [dovetailref24_Apply.j1] at h, fun _ _ _ _ _ _ _ _ r h => by simp [dovetailref24_Apply.j2] at h⟩
  | k + 1 => by
    obtain ⟨ih0, ih1, ih2, ih3, ih4, ih5⟩ := dovetailref24_Apply.mono_l k
    refine ⟨?_, ?_, ?_, ?_, ?_, ?_⟩
    · intro y0 y1 y2 y3 y4 y5
      unfold dovetailref24_Apply.j0
      repeat' first
      | (with_reducible exact ih0 _ _ _ _ _ _)
      | (with_reducible exact ih1 _ _ _ _ _ _)
      | (with_reducible exact ih2 _ _ _ _ _ _ _)
      | (with_reducible exact ih3 _ _ _ _ _)
      | (with_reducible exact ih4 _ _ _ _ _ _ _ _)
      | (with_reducible exact ih5 _ _ _ _ _ _ _ _)
      | (with_reducible exact dovetailref1_Num.mono _ _ _ _)
      | (with_reducible exact dovetailref1_Set.mono _ _ _ _ _)
      | (with_reducible exact dovetailref3_Fits.mono _ _ _)
      | (with_reducible exact dovetailref9_Width.mono _ _)
      | (with_reducible exact LeO.refl _)
      | (with_reducible exact LeO.none _)
      | (with_reducible refine LeO.ite ?_ ?_)
      | (with_reducible refine LeO.bind ?_ (fun _ => ?_))
      | exact ih0 _ _ _ _ _ _
      | exact ih1 _ _ _ _ _ _
      | exact ih2 _ _ _ _ _ _ _
      | exact ih3 _ _ _ _ _
      | exact ih4 _ _ _ _ _ _ _ _
      | exact ih5 _ _ _ _ _ _ _ _
      | exact dovetailref1_Num.mono _ _ _ _
      | exact dovetailref1_Set.mono _ _ _ _ _
      | exact dovetailref3_Fits.mono _ _ _
      | exact dovetailref9_Width.mono _ _
      | exact LeO.none _
      | refine LeO.ite ?_ ?_
      | refine LeO.bind ?_ (fun _ => ?_)
    · intro y0 y1 y2 y3 y4 y5
      unfold dovetailref24_Apply.j3
      repeat' first
      | (with_reducible exact ih0 _ _ _ _ _ _)
      | (with_reducible exact ih1 _ _ _ _ _ _)
      | (with_reducible exact ih2 _ _ _ _ _ _ _)
      | (with_reducible exact ih3 _ _ _ _ _)
      | (with_reducible exact ih4 _ _ _ _ _ _ _ _)
      | (with_reducible exact ih5 _ _ _ _ _ _ _ _)
      | (with_reducible exact dovetailref1_Num.mono _ _ _ _)
      | (with_reducible exact dovetailref1_Set.mono _ _ _ _ _)
      | (with_reducible exact dovetailref3_Fits.mono _ _ _)
      | (with_reducible exact dovetailref9_Width.mono _ _)
      | (with_reducible exact LeO.refl _)
      | (with_reducible exact LeO.none _)
      | (with_reducible refine LeO.ite ?_ ?_)
      | (with_reducible refine LeO.bind ?_ (fun _ => ?_))
      | exact ih0 _ _ _ _ _ _
      | exact ih1 _ _ _ _ _ _
      | exact ih2 _ _ _ _ _ _ _
      | exact ih3 _ _ _ _ _
      | exact ih4 _ _ _ _ _ _ _ _
      | exact ih5 _ _ _ _ _ _ _ _
      | exact dovetailref1_Num.mono _ _ _ _
      | exact dovetailref1_Set.mono _ _ _ _ _
      | exact dovetailref3_Fits.mono _ _ _
      | exact dovetailref9_Width.mono _ _
      | exact LeO.none _
      | refine LeO.ite ?_ ?_
      | refine LeO.bind ?_ (fun _ => ?_)
    · intro y0 y1 y2 y3 y4 y5 y6
      unfold dovetailref24_Apply.j4
      repeat' first
      | (with_reducible exact ih0 _ _ _ _ _ _)
      | (with_reducible exact ih1 _ _ _ _ _ _)
      | (with_reducible exact ih2 _ _ _ _ _ _ _)
      | (with_reducible exact ih3 _ _ _ _ _)
      | (with_reducible exact ih4 _ _ _ _ _ _ _ _)
      | (with_reducible exact ih5 _ _ _ _ _ _ _ _)
      | (with_reducible exact dovetailref1_Num.mono _ _ _ _)
      | (with_reducible exact dovetailref1_Set.mono _ _ _ _ _)
      | (with_reducible exact dovetailref3_Fits.mono _ _ _)
      | (with_reducible exact dovetailref9_Width.mono _ _)
      | (with_reducible exact LeO.refl _)
      | (with_reducible exact LeO.none _)
      | (with_reducible refine LeO.ite ?_ ?_)
      | (with_reducible refine LeO.bind ?_ (fun _ => ?_))
      | exact ih0 _ _ _ _ _ _
      | exact ih1 _ _ _ _ _ _
      | exact ih2 _ _ _ _ _ _ _
      | exact ih3 _ _ _ _ _
      | exact ih4 _ _ _ _ _ _ _ _
      | exact ih5 _ _ _ _ _ _ _ _
      | exact dovetailref1_Num.mono _ _ _ _
      | exact dovetailref1_Set.mono _ _ _ _ _
      | exact dovetailref3_Fits.mono _ _ _
      | exact dovetailref9_Width.mono _ _
      | exact LeO.none _
      | refine LeO.ite ?_ ?_
      | refine LeO.bind ?_ (fun _ => ?_)
    · intro y0 y1 y2 y3 y4
      unfold dovetailref24_Apply.j5
      repeat' first
      | (with_reducible exact ih0 _ _ _ _ _ _)
      | (with_reducible exact ih1 _ _ _ _ _ _)
      | (with_reducible exact ih2 _ _ _ _ _ _ _)
      | (with_reducible exact ih3 _ _ _ _ _)
      | (with_reducible exact ih4 _ _ _ _ _ _ _ _)
      | (with_reducible exact ih5 _ _ _ _ _ _ _ _)
      | (with_reducible exact dovetailref1_Num.mono _ _ _ _)
      | (with_reducible exact dovetailref1_Set.mono _ _ _ _ _)
      | (with_reducible exact dovetailref3_Fits.mono _ _ _)
      | (with_reducible exact dovetailref9_Width.mono _ _)
      | (with_reducible exact LeO.refl _)
      | (with_reducible exact LeO.none _)
      | (with_reducible refine LeO.ite ?_ ?_)
      | (with_reducible refine LeO.bind ?_ (fun _ => ?_))
      | exact ih0 _ _ _ _ _ _
      | exact ih1 _ _ _ _ _ _
      | exact ih2 _ _ _ _ _ _ _
      | exact ih3 _ _ _ _ _
      | exact ih4 _ _ _ _ _ _ _ _
      | exact ih5 _ _ _ _ _ _ _ _
      | exact dovetailref1_Num.mono _ _ _ _
      | exact dovetailref1_Set.mono _ _ _ _ _
      | exact dovetailref3_Fits.mono _ _ _
      | exact dovetailref9_Width.mono _ _
      | exact LeO.none _
      | refine LeO.ite ?_ ?_
      | refine LeO.bind ?_ (fun _ => ?_)
    · intro y0 y1 y2 y3 y4 y5 y6 y7
      unfold dovetailref24_Apply.j1
      repeat' first
      | (with_reducible exact ih0 _ _ _ _ _ _)
      | (with_reducible exact ih1 _ _ _ _ _ _)
      | (with_reducible exact ih2 _ _ _ _ _ _ _)
      | (with_reducible exact ih3 _ _ _ _ _)
      | (with_reducible exact ih4 _ _ _ _ _ _ _ _)
      | (with_reducible exact ih5 _ _ _ _ _ _ _ _)
      | (with_reducible exact dovetailref1_Num.mono _ _ _ _)
      | (with_reducible exact dovetailref1_Set.mono _ _ _ _ _)
      | (with_reducible exact dovetailref3_Fits.mono _ _ _)
      | (with_reducible exact dovetailref9_Width.mono _ _)
      | (with_reducible exact LeO.refl _)
      | (with_reducible exact LeO.none _)
      | (with_reducible refine LeO.ite ?_ ?_)
      | (with_reducible refine LeO.bind ?_ (fun _ => ?_))
      | exact ih0 _ _ _ _ _ _
      | exact ih1 _ _ _ _ _ _
      | exact ih2 _ _ _ _ _ _ _
      | exact ih3 _ _ _ _ _
      | exact ih4 _ _ _ _ _ _ _ _
      | exact ih5 _ _ _ _ _ _ _ _
      | exact dovetailref1_Num.mono _ _ _ _
      | exact dovetailref1_Set.mono _ _ _ _ _
      | exact dovetailref3_Fits.mono _ _ _
      | exact dovetailref9_Width.mono _ _
      | exact LeO.none _
      | refine LeO.ite ?_ ?_
      | refine LeO.bind ?_ (fun _ => ?_)
    · intro y0 y1 y2 y3 y4 y5 y6 y7
      unfold dovetailref24_Apply.j2
      repeat' first
      | (with_reducible exact ih0 _ _ _ _ _ _)
      | (with_reducible exact ih1 _ _ _ _ _ _)
      | (with_reducible exact ih2 _ _ _ _ _ _ _)
      | (with_reducible exact ih3 _ _ _ _ _)
      | (with_reducible exact ih4 _ _ _ _ _ _ _ _)
      | (with_reducible exact ih5 _ _ _ _ _ _ _ _)
      | (with_reducible exact dovetailref1_Num.mono _ _ _ _)
      | (with_reducible exact dovetailref1_Set.mono _ _ _ _ _)
      | (with_reducible exact dovetailref3_Fits.mono _ _ _)
      | (with_reducible exact dovetailref9_Width.mono _ _)
      | (with_reducible exact LeO.refl _)
      | (with_reducible exact LeO.none _)
      | (with_reducible refine LeO.ite ?_ ?_)
      | (with_reducible refine LeO.bind ?_ (fun _ => ?_))
      | exact ih0 _ _ _ _ _ _
      | exact ih1 _ _ _ _ _ _
      | exact ih2 _ _ _ _ _ _ _
      | exact ih3 _ _ _ _ _
      | exact ih4 _ _ _ _ _ _ _ _
      | exact ih5 _ _ _ _ _ _ _ _
      | exact dovetailref1_Num.mono _ _ _ _
      | exact dovetailref1_Set.mono _ _ _ _ _
      | exact dovetailref3_Fits.mono _ _ _
      | exact dovetailref9_Width.mono _ _
      | exact LeO.none _
      | refine LeO.ite ?_ ?_
      | refine LeO.bind ?_ (fun _ => ?_)
theorem dovetailref24_Apply.mono : ∀ a0 a1 a2 a3 k, LeO (dovetailref24_Apply.f k a0 a1 a2 a3) (dovetailref24_Apply.f (k + 1) a0 a1 a2 a3) := by
  intro a0 a1 a2 a3 k
  obtain ⟨ih0, ih1, ih2, ih3, ih4, ih5⟩ := dovetailref24_Apply.mono_l k
  unfold dovetailref24_Apply.f
  repeat' first
      | (with_reducible exact ih0 _ _ _ _ _ _)
      | (with_reducible exact ih1 _ _ _ _ _ _)
      | (with_reducible exact ih2 _ _ _ _ _ _ _)
      | (with_reducible exact ih3 _ _ _ _ _)
      | (with_reducible exact ih4 _ _ _ _ _ _ _ _)
      | (with_reducible exact ih5 _ _ _ _ _ _ _ _)
      | (with_reducible exact dovetailref1_Num.mono _ _ _ _)
      | (with_reducible exact dovetailref1_Set.mono _ _ _ _ _)
      | (with_reducible exact dovetailref3_Fits.mono _ _ _)
      | (with_reducible exact dovetailref9_Width.mono _ _)
      | (with_reducible exact LeO.refl _)
      | (with_reducible exact LeO.none _)
      | (with_reducible refine LeO.ite ?_ ?_)
      | (with_reducible refine LeO.bind ?_ (fun _ => ?_))
      | exact ih0 _ _ _ _ _ _
      | exact ih1 _ _ _ _ _ _
      | exact ih2 _ _ _ _ _ _ _
      | exact ih3 _ _ _ _ _
      | exact ih4 _ _ _ _ _ _ _ _
      | exact ih5 _ _ _ _ _ _ _ _
      | exact dovetailref1_Num.mono _ _ _ _
      | exact dovetailref1_Set.mono _ _ _ _ _
      | exact dovetailref3_Fits.mono _ _ _
      | exact dovetailref9_Width.mono _ _
      | exact LeO.none _
      | refine LeO.ite ?_ ?_
      | refine LeO.bind ?_ (fun _ => ?_)
set_option maxHeartbeats 8000000 in
set_option maxRecDepth 100000 in
theorem dovetailref24_Apply.calls (k : Nat) (A0 : Option Addr) (c0 : Nat) (l0 : List Int) (a1 : Int) (a2 : Int) (a3 : Int) (r1 : List Int) (r2 : Int) (w : World) (hr0 : Kd.C (Kd.int .u8) w A0 l0.length l0) (hc0 : l0.length ≤ c0) (h : dovetailref24_Apply.f k l0 a1 a2 a3 = some (r1, r2)) :
    Calls Try.prog 16 #[.slice A0 l0.length c0, .int .u64 a1, .int .u32 a2, .int .i64 a3] w fun e w' => ∃ v0_ : Value, e = .returned (.tuple #[v0_, .int .i64 r2]) ∧ Kd.R (Kd.int .u8) 5 w' w.heap.size (fun _ => True) v0_ r1 ∧ Below w.heap.size w w' := by
  have HR0 := Aside0.mk hr0
  have HC0 := Aside0.mk hc0
  clear hr0 hc0
  have HB := Aside0.mk (Below.refl w.heap.size w)
  have H : ((dovetailref9_Known.f a2).bind fun t233 => (if t233 = true then ((dovetailref9_Width.f k a2).bind fun t234 => ((dovetailref1_Within.f a1 (IntKind.u64.wrap (t234)) (IntKind.u64.wrap ((l0.length : Int)))).bind fun t235 => (if t235 = true then (if a2 = 51 then (if ([] : List Int).length + l0.length < 140737488355328 then (some ((([] : List Int) ++ l0), 0)) else (none)) else (if a2 = 1 then (dovetailref24_Apply.j0 k l0 a1 a2 a3 t234 true) else (dovetailref24_Apply.j0 k l0 a1 a2 a3 t234 (a2 == 2)))) else (some (([] : List Int), 61))))) else (some (([] : List Int), 60)))) = some (r1, r2) := h
  clear h
  replace H := Option.bind_eq_some_iff.mp H
  obtain ⟨t233, A50, H⟩ := H
  replace H : (if t233 = true then ((dovetailref9_Width.f k a2).bind fun t234 => ((dovetailref1_Within.f a1 (IntKind.u64.wrap (t234)) (IntKind.u64.wrap ((l0.length : Int)))).bind fun t235 => (if t235 = true then (if a2 = 51 then (if ([] : List Int).length + l0.length < 140737488355328 then (some ((([] : List Int) ++ l0), 0)) else (none)) else (if a2 = 1 then (dovetailref24_Apply.j0 k l0 a1 a2 a3 t234 true) else (dovetailref24_Apply.j0 k l0 a1 a2 a3 t234 (a2 == 2)))) else (some (([] : List Int), 61))))) else (some (([] : List Int), 60))) = some (r1, r2) := H
  have A5 := Aside0.mk A50
  clear A50
  by_cases c6 : t233 = true
  · subst c6
    have H1 : ((dovetailref9_Width.f k a2).bind fun t234 => ((dovetailref1_Within.f a1 (IntKind.u64.wrap (t234)) (IntKind.u64.wrap ((l0.length : Int)))).bind fun t235 => (if t235 = true then (if a2 = 51 then (if ([] : List Int).length + l0.length < 140737488355328 then (some ((([] : List Int) ++ l0), 0)) else (none)) else (if a2 = 1 then (dovetailref24_Apply.j0 k l0 a1 a2 a3 t234 true) else (dovetailref24_Apply.j0 k l0 a1 a2 a3 t234 (a2 == 2)))) else (some (([] : List Int), 61))))) = some (r1, r2) := by rw [if_pos rfl] at H; exact H
    clear H
    have H := H1
    clear H1
    replace H := Option.bind_eq_some_iff.mp H
    obtain ⟨t234, A70, H⟩ := H
    replace H : ((dovetailref1_Within.f a1 (IntKind.u64.wrap (t234)) (IntKind.u64.wrap ((l0.length : Int)))).bind fun t235 => (if t235 = true then (if a2 = 51 then (if ([] : List Int).length + l0.length < 140737488355328 then (some ((([] : List Int) ++ l0), 0)) else (none)) else (if a2 = 1 then (dovetailref24_Apply.j0 k l0 a1 a2 a3 t234 true) else (dovetailref24_Apply.j0 k l0 a1 a2 a3 t234 (a2 == 2)))) else (some (([] : List Int), 61)))) = some (r1, r2) := H
    have A7 := Aside0.mk A70
    clear A70
    replace H := Option.bind_eq_some_iff.mp H
    obtain ⟨t235, A80, H⟩ := H
    replace H : (if t235 = true then (if a2 = 51 then (if ([] : List Int).length + l0.length < 140737488355328 then (some ((([] : List Int) ++ l0), 0)) else (none)) else (if a2 = 1 then (dovetailref24_Apply.j0 k l0 a1 a2 a3 t234 true) else (dovetailref24_Apply.j0 k l0 a1 a2 a3 t234 (a2 == 2)))) else (some (([] : List Int), 61))) = some (r1, r2) := H
    have A8 := Aside0.mk A80
    clear A80
    by_cases c9 : t235 = true
    · subst c9
      have H1 : (if a2 = 51 then (if ([] : List Int).length + l0.length < 140737488355328 then (some ((([] : List Int) ++ l0), 0)) else (none)) else (if a2 = 1 then (dovetailref24_Apply.j0 k l0 a1 a2 a3 t234 true) else (dovetailref24_Apply.j0 k l0 a1 a2 a3 t234 (a2 == 2)))) = some (r1, r2) := by rw [if_pos rfl] at H; exact H
      clear H
      have H := H1
      clear H1
      by_cases c10 : a2 = 51
      · rw [if_pos c10] at H
        have c10b0 : (a2 == 51) = true := beq_iff_eq.mpr c10
        have c10b1 : (a2 != 51) = false := bne_eq_false_iff_eq.mpr c10
        clear c10
        by_cases c11 : ([] : List Int).length + l0.length < 140737488355328
        · rw [if_pos c11] at H
          have LMc11 := Aside0.mk c11
          clear c11
          obtain ⟨y236, hy236⟩ : ∃ y_ : List Int, y_ = (([] : List Int) ++ l0) := ⟨_, rfl⟩
          replace H : (some (y236, 0)) = some (r1, r2) := by first | (rw [hy236]; with_reducible exact H) | (have H2_ := (Option.bind_some _ _).symm.trans H; rw [hy236]; with_reducible exact H2_) | (have H2_ := (Option.bind_some _ _).symm.trans H; with_reducible exact H2_) | with_reducible exact H | (rw [hy236]; exact H) | exact H
          have Ny236 := Aside0.mk hy236
          clear hy236
          simp only [Option.some.injEq, Prod.mk.injEq] at H
          obtain ⟨rfl, rfl⟩ := H
          go_enter Try.func16, Try.ntmps16
          go_wp2_with (first | ((with_reducible refine gate_callee (f := 20) rfl ?_); refine goesL_ (some 20) rfl rfl Try.func20 (by kernel_rfl) rfl #[.int .u32 a2] rfl (by (try simp only [List.map_toArray, List.map_cons, List.map_nil]); first | done | rfl | (simp only [List.length_drop, List.length_take]; rfl)) ?_; (with_reducible refine (dovetailref9_Known.calls a2 true _ A5.out).mono ?_); rintro e w' ⟨rfl, ⟨nd, rfl⟩⟩; refine ⟨_, rfl, ?_⟩) | ((with_reducible refine gate_callee (f := 19) rfl ?_); refine goesL_ (some 23) rfl rfl Try.func19 (by kernel_rfl) rfl #[.int .u32 a2] rfl (by (try simp only [List.map_toArray, List.map_cons, List.map_nil]); first | done | rfl | (simp only [List.length_drop, List.length_take]; rfl)) ?_; (with_reducible refine (dovetailref9_Width.calls k a2 t234 _ A7.out).mono ?_); rintro e w' ⟨rfl, ⟨nd, rfl⟩⟩; refine ⟨_, rfl, ?_⟩) | ((with_reducible refine gate_callee (f := 31) rfl ?_); refine goesL_ (some 30) rfl rfl Try.func31 (by kernel_rfl) rfl #[.int .u64 a1, .int .u64 (IntKind.u64.wrap (t234)), .int .u64 (IntKind.u64.wrap ((l0.length : Int)))] rfl (by (try simp only [List.map_toArray, List.map_cons, List.map_nil]); first | done | rfl | (simp only [List.length_drop, List.length_take]; rfl)) ?_; (with_reducible refine (dovetailref1_Within.calls a1 (IntKind.u64.wrap (t234)) (IntKind.u64.wrap ((l0.length : Int))) true _ A8.out).mono ?_); rintro e w' ⟨rfl, ⟨nd, rfl⟩⟩; refine ⟨_, rfl, ?_⟩) | ((with_reducible refine gate_builtin (b := .append) (xs := #[.const (.slice none 0 0), .tmp 34]) rfl ?_); at_builtin; refine Kd.R_append_rows (Kd.int .u8) (w0 := w) w.heap.size rfl (.const (.slice none 0 0)) (.tmp 34) 33 5 (.int .u8 0) 1 rfl Try.underlying33 info5 rfl (by decide) (by omega) (.slice none 0 0) ([] : List Int) l0 _ _ _ (fun _ => True) (fun _ => False) rfl rfl ?aO ?aR (fun _ _ h => h) (fun _ h => h.elim) ?aF ?aB ?aS ?aL ?_; (case aR => repeat (first | exact HR0.out | (with_reducible refine Kd.C_alloc ?_ _) | (with_reducible refine Kd.C_drewN ?_ _) | (with_reducible refine Kd.C_drew ?_))); (case aB => exact (by repeat (first | (with_reducible first | exact HB.out | apply below_alloc | apply pw_below_drewN | apply below_drew1) | exact HB.out))); (case aF => exact (fun _ _ => trivial)); (case aO => exact ((Kd.R_nil _ _ _ _ (fun _ => True)))); (case aS => exact (below_size (by repeat (first | (with_reducible first | exact HB.out | apply below_alloc | apply pw_below_drewN | apply below_drew1) | exact HB.out)))); (case aL => have := LMc11.out; omega); intro v237 w12 ho hb hg hat; rw [← Ny236.out] at ho; have n0_ := Aside0.mk (hb); have n1_ := Aside0.mk (ho); clear HB; have HB := n0_; have HO238 := n1_; clear n0_ n1_; clear ho hb hg hat))
          go_ret2
          exact ⟨_, by first | rfl | (simp [errW_none, errW_some] <;> rfl) | (simp [*, errW_none, errW_some] <;> rfl), by (with_reducible repeat (first | apply Kd.R_alloc | apply Kd.R_drewN | apply Kd.R_drew)); exact HO238.out, by repeat (first | (with_reducible first | exact HB.out | apply below_alloc | apply pw_below_drewN | apply below_drew1) | exact HB.out)⟩
        · rw [if_neg c11] at H
          exact absurd H (by simp)
      · rw [if_neg c10] at H
        have c10b0 : (a2 == 51) = false := beq_eq_false_iff_ne.mpr c10
        have c10b1 : (a2 != 51) = true := bne_iff_ne.mpr c10
        have HC13 := Aside0.mk H
        clear H
        go_enter Try.func16, Try.ntmps16
        go_upto_region 8 with (first | ((with_reducible refine gate_callee (f := 20) rfl ?_); refine goesL_ (some 20) rfl rfl Try.func20 (by kernel_rfl) rfl #[.int .u32 a2] rfl (by (try simp only [List.map_toArray, List.map_cons, List.map_nil]); first | done | rfl | (simp only [List.length_drop, List.length_take]; rfl)) ?_; (with_reducible refine (dovetailref9_Known.calls a2 true _ A5.out).mono ?_); rintro e w' ⟨rfl, ⟨nd, rfl⟩⟩; refine ⟨_, rfl, ?_⟩) | ((with_reducible refine gate_callee (f := 19) rfl ?_); refine goesL_ (some 23) rfl rfl Try.func19 (by kernel_rfl) rfl #[.int .u32 a2] rfl (by (try simp only [List.map_toArray, List.map_cons, List.map_nil]); first | done | rfl | (simp only [List.length_drop, List.length_take]; rfl)) ?_; (with_reducible refine (dovetailref9_Width.calls k a2 t234 _ A7.out).mono ?_); rintro e w' ⟨rfl, ⟨nd, rfl⟩⟩; refine ⟨_, rfl, ?_⟩) | ((with_reducible refine gate_callee (f := 31) rfl ?_); refine goesL_ (some 30) rfl rfl Try.func31 (by kernel_rfl) rfl #[.int .u64 a1, .int .u64 (IntKind.u64.wrap (t234)), .int .u64 (IntKind.u64.wrap ((l0.length : Int)))] rfl (by (try simp only [List.map_toArray, List.map_cons, List.map_nil]); first | done | rfl | (simp only [List.length_drop, List.length_take]; rfl)) ?_; (with_reducible refine (dovetailref1_Within.calls a1 (IntKind.u64.wrap (t234)) (IntKind.u64.wrap ((l0.length : Int))) true _ A8.out).mono ?_); rintro e w' ⟨rfl, ⟨nd, rfl⟩⟩; refine ⟨_, rfl, ?_⟩))
        (try simp only [Act.put, List.setIfInBounds_toArray, List.set_cons_zero, List.set_cons_succ])
        go_cut [41] (fun v41 wc => ∃ (kq : Nat) (x41_12 : Bool), v41 = .bool x41_12 ∧ Aside0 (dovetailref24_Apply.j0 kq l0 a1 a2 a3 t234 x41_12 = some (r1, r2)) ∧ Aside0 (kq ≤ k) ∧ Aside0 (Below w.heap.size w wc))
        case first =>
          have H := HC13.out
          clear HC13
          by_cases c14 : a2 = 1
          · rw [if_pos c14] at H
            have c14b0 : (a2 == 1) = true := beq_iff_eq.mpr c14
            have c14b1 : (a2 != 1) = false := bne_eq_false_iff_eq.mpr c14
            clear c14
            (first | rw [c14b0] | (simp only [i64_w, i32_w]; rw [c14b0]) | skip)
            have H' := Aside0.mk H
            clear H
            go_wp2
            go_meet
            case rel => exact ⟨_, (true), (by first | rfl | (simp; done) | (simp [*]; done)), H', ⟨by first | omega | exact Nat.le_refl _⟩, ⟨by repeat (first | (with_reducible first | exact HB.out | apply below_alloc | apply pw_below_drewN | apply below_drew1) | exact HB.out)⟩⟩
          · rw [if_neg c14] at H
            have c14b0 : (a2 == 1) = false := beq_eq_false_iff_ne.mpr c14
            have c14b1 : (a2 != 1) = true := bne_iff_ne.mpr c14
            (first | rw [c14b0] | (simp only [i64_w, i32_w]; rw [c14b0]) | skip)
            have H' := Aside0.mk H
            clear H
            go_wp2
            go_meet
            case rel => exact ⟨_, ((a2 == 2)), (by first | rfl | (simp; done) | (simp [*]; done)), H', ⟨by first | omega | exact Nat.le_refl _⟩, ⟨by repeat (first | (with_reducible first | exact HB.out | apply below_alloc | apply pw_below_drewN | apply below_drew1) | exact HB.out)⟩⟩
        case rest =>
          clear HC13
          try clear c1
          try clear c2
          try clear p2
          try clear c3
          try clear c6
          try clear c9
          try clear c10
          try clear c10b0
          try clear c10b1
          try clear c11
          try clear c14
          try clear c14b0
          try clear c14b1
          obtain ⟨kq, x41_12, rfl, HA, HJ12, HB⟩ := hcut
          cases kq with
          | zero => exact absurd HA.out (by simp [dovetailref24_Apply.j0])
          | succ kj12 =>
            have H := HA.out
            clear HA
            simp only [dovetailref24_Apply.j0] at H
            by_cases c15 : x41_12 = true
            · subst c15
              have H1 : ((dovetailref1_Set.f kj12 l0 a1 (IntKind.u64.wrap (a3)) t234).bind fun bt239 => (some (bt239.1, 0))) = some (r1, r2) := by rw [if_pos rfl] at H; exact H
              clear H
              have H := H1
              clear H1
              replace H := Option.bind_eq_some_iff.mp H
              obtain ⟨⟨t239, t240⟩, A160, H⟩ := H
              replace H : (some (t239, 0)) = some (r1, r2) := H
              have A16 := Aside0.mk A160
              clear A160
              simp only [Option.some.injEq, Prod.mk.injEq] at H
              obtain ⟨rfl, rfl⟩ := H
              go_wp2_with (first | ((with_reducible refine gate_callee (f := 32) rfl ?_); refine goesL_ (some 48) rfl rfl Try.func32 (by kernel_rfl) rfl #[.slice A0 l0.length c0, .int .u64 a1, .int .u64 (IntKind.u64.wrap (a3)), .int .i64 t234] rfl (by (try simp only [List.map_toArray, List.map_cons, List.map_nil]); first | done | rfl | (simp only [List.length_drop, List.length_take]; rfl)) ?_; (with_reducible refine (dovetailref1_Set.calls kj12 _ _ l0 a1 (IntKind.u64.wrap (a3)) t234 t239 t240 _ ?side1 ?side2 A16.out).mono ?_); (case side1 => repeat (first | exact (Kd.C_below HR0.out HB.out) | (with_reducible refine Kd.C_alloc ?_ _) | (with_reducible refine Kd.C_drewN ?_ _) | (with_reducible refine Kd.C_drew ?_))); (case side2 => exact HC0.out); rintro e w17 ⟨v241, rfl, ho0, hb⟩; refine ⟨_, rfl, ?_⟩; have n0_ := Aside0.mk (Kd.R_lower ho0 (below_size (by repeat (first | (with_reducible first | exact HB.out | apply below_alloc | apply pw_below_drewN | apply below_drew1) | exact HB.out)))); have n1_ := Aside0.mk (below_step (by repeat (first | (with_reducible first | exact HB.out | apply below_alloc | apply pw_below_drewN | apply below_drew1) | exact HB.out)) hb); clear HB; have HO242 := n0_; have HB := n1_; clear n0_ n1_; (try clear hb); (try clear hb2); (try clear hk); (try clear hi); (try clear ho0)))
              go_ret2
              exact ⟨_, by first | rfl | (simp [errW_none, errW_some] <;> rfl) | (simp [*, errW_none, errW_some] <;> rfl), by (with_reducible repeat (first | apply Kd.R_alloc | apply Kd.R_drewN | apply Kd.R_drew)); exact HO242.out, by repeat (first | (with_reducible first | exact HB.out | apply below_alloc | apply pw_below_drewN | apply below_drew1) | exact HB.out)⟩
            · replace c15 := Bool.eq_false_iff.mpr c15
              subst c15
              have H1 : ((dovetailref3_Hi.f a3).bind fun t243 => (if a2 = 27 then (dovetailref24_Apply.j1 kj12 l0 a1 a2 a3 4 t243 a2 (a2 == 27)) else (dovetailref24_Apply.j1 kj12 l0 a1 a2 a3 4 t243 a2 (a2 == 24)))) = some (r1, r2) := by rw [if_neg (show ¬ (false = true) by decide)] at H; exact H
              clear H
              have H := H1
              clear H1
              replace H := Option.bind_eq_some_iff.mp H
              obtain ⟨t243, A180, H⟩ := H
              replace H : (if a2 = 27 then (dovetailref24_Apply.j1 kj12 l0 a1 a2 a3 4 t243 a2 (a2 == 27)) else (dovetailref24_Apply.j1 kj12 l0 a1 a2 a3 4 t243 a2 (a2 == 24))) = some (r1, r2) := H
              have A18 := Aside0.mk A180
              clear A180
              have HC19 := Aside0.mk H
              clear H
              go_upto_block 0 with (first | ((with_reducible refine gate_callee (f := 33) rfl ?_); refine goesL_ (some 53) rfl rfl Try.func33 (by kernel_rfl) rfl #[.int .i64 a3] rfl (by (try simp only [List.map_toArray, List.map_cons, List.map_nil]); first | done | rfl | (simp only [List.length_drop, List.length_take]; rfl)) ?_; (with_reducible refine (dovetailref3_Hi.calls a3 t243 _ A18.out).mono ?_); rintro e w' ⟨rfl, ⟨nd, rfl⟩⟩; refine ⟨_, rfl, ?_⟩))
              (try simp only [Act.put, List.setIfInBounds_toArray, List.set_cons_zero, List.set_cons_succ])
              go_cut [13, 14] (fun v13 v14 wc => ∃ (kq : Nat) (x13_18 : Int) (x14_18 : Int), v13 = .int .i64 x13_18 ∧ v14 = .int .i64 x14_18 ∧ Aside0 (dovetailref24_Apply.j3 kq l0 a1 a2 a3 x13_18 x14_18 = some (r1, r2)) ∧ Aside0 (kq ≤ kj12) ∧ Aside0 (Below w.heap.size w wc))
              case first =>
                have H := HC19.out
                clear HC19
                have HC20 := Aside0.mk H
                clear H
                go_upto_if 55 with (fail)
                go_cut [55] (fun v55 wc => ∃ (kq : Nat) (x55_19 : Bool), v55 = .bool x55_19 ∧ Aside0 (dovetailref24_Apply.j1 kq l0 a1 a2 a3 4 t243 a2 x55_19 = some (r1, r2)) ∧ Aside0 (kq ≤ kj12) ∧ Aside0 (Below w.heap.size w wc))
                case first =>
                  have H := HC20.out
                  clear HC20
                  by_cases c21 : a2 = 27
                  · rw [if_pos c21] at H
                    have c21b0 : (a2 == 27) = true := beq_iff_eq.mpr c21
                    have c21b1 : (a2 != 27) = false := bne_eq_false_iff_eq.mpr c21
                    clear c21
                    (first | rw [c21b0] | (simp only [i64_w, i32_w]; rw [c21b0]) | skip)
                    have H' := Aside0.mk H
                    clear H
                    go_wp2
                    go_meet
                    case rel => exact ⟨_, ((a2 == 27)), (by first | rfl | (simp; done) | (simp [*]; done)), H', ⟨by have := HJ12.out; first | omega | exact Nat.le_refl _⟩, ⟨by repeat (first | (with_reducible first | exact HB.out | apply below_alloc | apply pw_below_drewN | apply below_drew1) | exact HB.out)⟩⟩
                  · rw [if_neg c21] at H
                    have c21b0 : (a2 == 27) = false := beq_eq_false_iff_ne.mpr c21
                    have c21b1 : (a2 != 27) = true := bne_iff_ne.mpr c21
                    (first | rw [c21b0] | (simp only [i64_w, i32_w]; rw [c21b0]) | skip)
                    have H' := Aside0.mk H
                    clear H
                    go_wp2
                    go_meet
                    case rel => exact ⟨_, ((a2 == 24)), (by first | rfl | (simp; done) | (simp [*]; done)), H', ⟨by have := HJ12.out; first | omega | exact Nat.le_refl _⟩, ⟨by repeat (first | (with_reducible first | exact HB.out | apply below_alloc | apply pw_below_drewN | apply below_drew1) | exact HB.out)⟩⟩
                case rest =>
                  clear HC20
                  try clear c1
                  try clear c2
                  try clear p2
                  try clear c3
                  try clear c6
                  try clear c9
                  try clear c10
                  try clear c10b0
                  try clear c10b1
                  try clear c11
                  try clear c14
                  try clear c14b0
                  try clear c14b1
                  try clear c15
                  try clear c16
                  try clear c19
                  try clear c20
                  try clear c21
                  try clear c21b0
                  try clear c21b1
                  try clear p2
                  obtain ⟨kq, x55_19, rfl, HA, HJ19, HB⟩ := hcut
                  cases kq with
                  | zero => exact absurd HA.out (by simp [dovetailref24_Apply.j1])
                  | succ kj19 =>
                    have H := HA.out
                    clear HA
                    simp only [dovetailref24_Apply.j1] at H
                    by_cases c22 : x55_19 = true
                    · subst c22
                      have H1 : ((dovetailref3_Lo.f a3).bind fun t244 => (dovetailref24_Apply.j3 kj19 l0 a1 a2 a3 1 t244)) = some (r1, r2) := by rw [if_pos rfl] at H; exact H
                      clear H
                      have H := H1
                      clear H1
                      replace H := Option.bind_eq_some_iff.mp H
                      obtain ⟨t244, A230, H⟩ := H
                      replace H : (dovetailref24_Apply.j3 kj19 l0 a1 a2 a3 1 t244) = some (r1, r2) := H
                      have A23 := Aside0.mk A230
                      clear A230
                      have H' := Aside0.mk H
                      clear H
                      go_wp2_with (first | ((with_reducible refine gate_callee (f := 34) rfl ?_); refine goesL_ (some 59) rfl rfl Try.func34 (by kernel_rfl) rfl #[.int .i64 a3] rfl (by (try simp only [List.map_toArray, List.map_cons, List.map_nil]); first | done | rfl | (simp only [List.length_drop, List.length_take]; rfl)) ?_; (with_reducible refine (dovetailref3_Lo.calls a3 t244 _ A23.out).mono ?_); rintro e w' ⟨rfl, ⟨nd, rfl⟩⟩; refine ⟨_, rfl, ?_⟩))
                      go_meet
                      case rel => exact ⟨_, (1), (t244), (by first | rfl | (simp; done) | (simp [*]; done)), (by first | rfl | (simp; done) | (simp [*]; done)), H', ⟨by have := HJ12.out; have := HJ19.out; first | omega | exact Nat.le_refl _⟩, ⟨by repeat (first | (with_reducible first | exact HB.out | apply below_alloc | apply pw_below_drewN | apply below_drew1) | exact HB.out)⟩⟩
                    · replace c22 := Bool.eq_false_iff.mpr c22
                      subst c22
                      have H1 : (if a2 = 28 then (dovetailref24_Apply.j2 kj19 l0 a1 a2 a3 4 t243 a2 (a2 == 28)) else (dovetailref24_Apply.j2 kj19 l0 a1 a2 a3 4 t243 a2 (a2 == 25))) = some (r1, r2) := by rw [if_neg (show ¬ (false = true) by decide)] at H; exact H
                      clear H
                      have H := H1
                      clear H1
                      have HC24 := Aside0.mk H
                      clear H
                      go_upto_if 60 with (fail)
                      go_cut [60] (fun v60 wc => ∃ (kq : Nat) (x60_23 : Bool), v60 = .bool x60_23 ∧ Aside0 (dovetailref24_Apply.j2 kq l0 a1 a2 a3 4 t243 a2 x60_23 = some (r1, r2)) ∧ Aside0 (kq ≤ kj19) ∧ Aside0 (Below w.heap.size w wc))
                      case first =>
                        have H := HC24.out
                        clear HC24
                        by_cases c25 : a2 = 28
                        · rw [if_pos c25] at H
                          have c25b0 : (a2 == 28) = true := beq_iff_eq.mpr c25
                          have c25b1 : (a2 != 28) = false := bne_eq_false_iff_eq.mpr c25
                          clear c25
                          (first | rw [c25b0] | (simp only [i64_w, i32_w]; rw [c25b0]) | skip)
                          have H' := Aside0.mk H
                          clear H
                          go_wp2
                          go_meet
                          case rel => exact ⟨_, ((a2 == 28)), (by first | rfl | (simp; done) | (simp [*]; done)), H', ⟨by have := HJ12.out; have := HJ19.out; first | omega | exact Nat.le_refl _⟩, ⟨by repeat (first | (with_reducible first | exact HB.out | apply below_alloc | apply pw_below_drewN | apply below_drew1) | exact HB.out)⟩⟩
                        · rw [if_neg c25] at H
                          have c25b0 : (a2 == 28) = false := beq_eq_false_iff_ne.mpr c25
                          have c25b1 : (a2 != 28) = true := bne_iff_ne.mpr c25
                          (first | rw [c25b0] | (simp only [i64_w, i32_w]; rw [c25b0]) | skip)
                          have H' := Aside0.mk H
                          clear H
                          go_wp2
                          go_meet
                          case rel => exact ⟨_, ((a2 == 25)), (by first | rfl | (simp; done) | (simp [*]; done)), H', ⟨by have := HJ12.out; have := HJ19.out; first | omega | exact Nat.le_refl _⟩, ⟨by repeat (first | (with_reducible first | exact HB.out | apply below_alloc | apply pw_below_drewN | apply below_drew1) | exact HB.out)⟩⟩
                      case rest =>
                        clear HC24
                        try clear c1
                        try clear c2
                        try clear p2
                        try clear c3
                        try clear c6
                        try clear c9
                        try clear c10
                        try clear c10b0
                        try clear c10b1
                        try clear c11
                        try clear c14
                        try clear c14b0
                        try clear c14b1
                        try clear c15
                        try clear c16
                        try clear c19
                        try clear c20
                        try clear c21
                        try clear c21b0
                        try clear c21b1
                        try clear c22
                        try clear c25
                        try clear c25b0
                        try clear c25b1
                        try clear p2
                        obtain ⟨kq, x60_23, rfl, HA, HJ23, HB⟩ := hcut
                        cases kq with
                        | zero => exact absurd HA.out (by simp [dovetailref24_Apply.j2])
                        | succ kj23 =>
                          have H := HA.out
                          clear HA
                          simp only [dovetailref24_Apply.j2] at H
                          by_cases c26 : x60_23 = true
                          · subst c26
                            have H1 : ((dovetailref3_Lo.f a3).bind fun t245 => (dovetailref24_Apply.j3 kj23 l0 a1 a2 a3 2 t245)) = some (r1, r2) := by rw [if_pos rfl] at H; exact H
                            clear H
                            have H := H1
                            clear H1
                            replace H := Option.bind_eq_some_iff.mp H
                            obtain ⟨t245, A270, H⟩ := H
                            replace H : (dovetailref24_Apply.j3 kj23 l0 a1 a2 a3 2 t245) = some (r1, r2) := H
                            have A27 := Aside0.mk A270
                            clear A270
                            have H' := Aside0.mk H
                            clear H
                            go_wp2_with (first | ((with_reducible refine gate_callee (f := 34) rfl ?_); refine goesL_ (some 64) rfl rfl Try.func34 (by kernel_rfl) rfl #[.int .i64 a3] rfl (by (try simp only [List.map_toArray, List.map_cons, List.map_nil]); first | done | rfl | (simp only [List.length_drop, List.length_take]; rfl)) ?_; (with_reducible refine (dovetailref3_Lo.calls a3 t245 _ A27.out).mono ?_); rintro e w' ⟨rfl, ⟨nd, rfl⟩⟩; refine ⟨_, rfl, ?_⟩))
                            go_meet
                            case rel => exact ⟨_, (2), (t245), (by first | rfl | (simp; done) | (simp [*]; done)), (by first | rfl | (simp; done) | (simp [*]; done)), H', ⟨by have := HJ12.out; have := HJ19.out; have := HJ23.out; first | omega | exact Nat.le_refl _⟩, ⟨by repeat (first | (with_reducible first | exact HB.out | apply below_alloc | apply pw_below_drewN | apply below_drew1) | exact HB.out)⟩⟩
                          · replace c26 := Bool.eq_false_iff.mpr c26
                            subst c26
                            have H1 : (if a2 = 16 then (dovetailref24_Apply.j3 kj23 l0 a1 a2 a3 3 a3) else (if a2 = 17 then (dovetailref24_Apply.j3 kj23 l0 a1 a2 a3 5 a3) else (dovetailref24_Apply.j3 kj23 l0 a1 a2 a3 4 t243))) = some (r1, r2) := by rw [if_neg (show ¬ (false = true) by decide)] at H; exact H
                            clear H
                            have H := H1
                            clear H1
                            by_cases c28 : a2 = 16
                            · rw [if_pos c28] at H
                              have c28b0 : (a2 == 16) = true := beq_iff_eq.mpr c28
                              have c28b1 : (a2 != 16) = false := bne_eq_false_iff_eq.mpr c28
                              clear c28
                              have H' := Aside0.mk H
                              clear H
                              go_wp2
                              go_meet
                              case rel => exact ⟨_, (3), (a3), (by first | rfl | (simp; done) | (simp [*]; done)), (by first | rfl | (simp; done) | (simp [*]; done)), H', ⟨by have := HJ12.out; have := HJ19.out; have := HJ23.out; first | omega | exact Nat.le_refl _⟩, ⟨by repeat (first | (with_reducible first | exact HB.out | apply below_alloc | apply pw_below_drewN | apply below_drew1) | exact HB.out)⟩⟩
                            · rw [if_neg c28] at H
                              have c28b0 : (a2 == 16) = false := beq_eq_false_iff_ne.mpr c28
                              have c28b1 : (a2 != 16) = true := bne_iff_ne.mpr c28
                              by_cases c29 : a2 = 17
                              · rw [if_pos c29] at H
                                have c29b0 : (a2 == 17) = true := beq_iff_eq.mpr c29
                                have c29b1 : (a2 != 17) = false := bne_eq_false_iff_eq.mpr c29
                                clear c29
                                have H' := Aside0.mk H
                                clear H
                                go_wp2
                                go_meet
                                case rel => exact ⟨_, (5), (a3), (by first | rfl | (simp; done) | (simp [*]; done)), (by first | rfl | (simp; done) | (simp [*]; done)), H', ⟨by have := HJ12.out; have := HJ19.out; have := HJ23.out; first | omega | exact Nat.le_refl _⟩, ⟨by repeat (first | (with_reducible first | exact HB.out | apply below_alloc | apply pw_below_drewN | apply below_drew1) | exact HB.out)⟩⟩
                              · rw [if_neg c29] at H
                                have c29b0 : (a2 == 17) = false := beq_eq_false_iff_ne.mpr c29
                                have c29b1 : (a2 != 17) = true := bne_iff_ne.mpr c29
                                have H' := Aside0.mk H
                                clear H
                                go_wp2
                                go_meet
                                case rel => exact ⟨_, (4), (t243), (by first | rfl | (simp; done) | (simp [*]; done)), (by first | rfl | (simp; done) | (simp [*]; done)), H', ⟨by have := HJ12.out; have := HJ19.out; have := HJ23.out; first | omega | exact Nat.le_refl _⟩, ⟨by repeat (first | (with_reducible first | exact HB.out | apply below_alloc | apply pw_below_drewN | apply below_drew1) | exact HB.out)⟩⟩
              case rest =>
                clear HC19
                try clear c1
                try clear c2
                try clear p2
                try clear c3
                try clear c6
                try clear c9
                try clear c10
                try clear c10b0
                try clear c10b1
                try clear c11
                try clear c14
                try clear c14b0
                try clear c14b1
                try clear c15
                try clear c16
                try clear c19
                try clear c20
                try clear c21
                try clear c21b0
                try clear c21b1
                try clear c22
                try clear c25
                try clear c25b0
                try clear c25b1
                try clear c26
                try clear c28
                try clear c28b0
                try clear c28b1
                try clear c29
                try clear c29b0
                try clear c29b1
                try clear p2
                obtain ⟨kq, x13_18, x14_18, rfl, rfl, HA, HJ18, HB⟩ := hcut
                cases kq with
                | zero => exact absurd HA.out (by simp [dovetailref24_Apply.j3])
                | succ kj18 =>
                  have H := HA.out
                  clear HA
                  simp only [dovetailref24_Apply.j3] at H
                  have HC30 := Aside0.mk H
                  clear H
                  go_upto_region 23 with (fail)
                  go_cut [82] (fun v82 wc => ∃ (kq : Nat) (x82_29 : Bool), v82 = .bool x82_29 ∧ Aside0 (dovetailref24_Apply.j4 kq l0 a1 a2 a3 x13_18 x14_18 x82_29 = some (r1, r2)) ∧ Aside0 (kq ≤ kj18) ∧ Aside0 (Below w.heap.size w wc))
                  case first =>
                    have H := HC30.out
                    clear HC30
                    by_cases c31 : a2 = 16
                    · rw [if_pos c31] at H
                      have c31b0 : (a2 == 16) = true := beq_iff_eq.mpr c31
                      have c31b1 : (a2 != 16) = false := bne_eq_false_iff_eq.mpr c31
                      clear c31
                      (first | rw [c31b0] | (simp only [i64_w, i32_w]; rw [c31b0]) | skip)
                      replace H := Option.bind_eq_some_iff.mp H
                      obtain ⟨t246, A320, H⟩ := H
                      replace H : (dovetailref24_Apply.j4 kj18 l0 a1 a2 a3 x13_18 x14_18 (!t246)) = some (r1, r2) := H
                      have A32 := Aside0.mk A320
                      clear A320
                      have H' := Aside0.mk H
                      clear H
                      go_wp2_with (first | (go_at_call 24; (with_reducible refine (dovetailref3_Fits.calls kj18 x13_18 a3 t246 _ A32.out).mono ?_); rintro e w' ⟨rfl, ⟨nd, rfl⟩⟩))
                      go_meet
                      case rel => exact ⟨_, (!t246), (by first | rfl | (simp; done) | (simp [*]; done)), H', ⟨by have := HJ12.out; have := HJ18.out; first | omega | exact Nat.le_refl _⟩, ⟨by repeat (first | (with_reducible first | exact HB.out | apply below_alloc | apply pw_below_drewN | apply below_drew1) | exact HB.out)⟩⟩
                    · rw [if_neg c31] at H
                      have c31b0 : (a2 == 16) = false := beq_eq_false_iff_ne.mpr c31
                      have c31b1 : (a2 != 16) = true := bne_iff_ne.mpr c31
                      (first | rw [c31b0] | (simp only [i64_w, i32_w]; rw [c31b0]) | skip)
                      by_cases c33 : a2 = 17
                      · rw [if_pos c33] at H
                        have c33b0 : (a2 == 17) = true := beq_iff_eq.mpr c33
                        have c33b1 : (a2 != 17) = false := bne_eq_false_iff_eq.mpr c33
                        clear c33
                        replace H := Option.bind_eq_some_iff.mp H
                        obtain ⟨t247, A340, H⟩ := H
                        replace H : (dovetailref24_Apply.j4 kj18 l0 a1 a2 a3 x13_18 x14_18 (!t247)) = some (r1, r2) := H
                        have A34 := Aside0.mk A340
                        clear A340
                        have H' := Aside0.mk H
                        clear H
                        go_wp2_with (first | (go_at_call 24; (with_reducible refine (dovetailref3_Fits.calls kj18 x13_18 a3 t247 _ A34.out).mono ?_); rintro e w' ⟨rfl, ⟨nd, rfl⟩⟩))
                        go_meet
                        case rel => exact ⟨_, (!t247), (by first | rfl | (simp; done) | (simp [*]; done)), H', ⟨by have := HJ12.out; have := HJ18.out; first | omega | exact Nat.le_refl _⟩, ⟨by repeat (first | (with_reducible first | exact HB.out | apply below_alloc | apply pw_below_drewN | apply below_drew1) | exact HB.out)⟩⟩
                      · rw [if_neg c33] at H
                        have c33b0 : (a2 == 17) = false := beq_eq_false_iff_ne.mpr c33
                        have c33b1 : (a2 != 17) = true := bne_iff_ne.mpr c33
                        have H' := Aside0.mk H
                        clear H
                        go_wp2
                        go_meet
                        case rel => exact ⟨_, (false), (by first | rfl | (simp; done) | (simp [*]; done)), H', ⟨by have := HJ12.out; have := HJ18.out; first | omega | exact Nat.le_refl _⟩, ⟨by repeat (first | (with_reducible first | exact HB.out | apply below_alloc | apply pw_below_drewN | apply below_drew1) | exact HB.out)⟩⟩
                  case rest =>
                    clear HC30
                    try clear c1
                    try clear c2
                    try clear p2
                    try clear c3
                    try clear c6
                    try clear c9
                    try clear c10
                    try clear c10b0
                    try clear c10b1
                    try clear c11
                    try clear c14
                    try clear c14b0
                    try clear c14b1
                    try clear c15
                    try clear c16
                    try clear c19
                    try clear c20
                    try clear c21
                    try clear c21b0
                    try clear c21b1
                    try clear c22
                    try clear c25
                    try clear c25b0
                    try clear c25b1
                    try clear c26
                    try clear c28
                    try clear c28b0
                    try clear c28b1
                    try clear c29
                    try clear c29b0
                    try clear c29b1
                    try clear c31
                    try clear c31b0
                    try clear c31b1
                    try clear c32
                    try clear c33
                    try clear c33b0
                    try clear c33b1
                    try clear c34
                    try clear p2
                    obtain ⟨kq, x82_29, rfl, HA, HJ29, HB⟩ := hcut
                    cases kq with
                    | zero => exact absurd HA.out (by simp [dovetailref24_Apply.j4])
                    | succ kj29 =>
                      have H := HA.out
                      clear HA
                      simp only [dovetailref24_Apply.j4] at H
                      by_cases c35 : x82_29 = true
                      · subst c35
                        have H1 : (some (([] : List Int), 61)) = some (r1, r2) := by rw [if_pos rfl] at H; exact H
                        clear H
                        have H := H1
                        clear H1
                        simp only [Option.some.injEq, Prod.mk.injEq] at H
                        obtain ⟨rfl, rfl⟩ := H
                        go_wp2
                        go_ret2
                        exact ⟨_, by first | rfl | (simp [errW_none, errW_some] <;> rfl) | (simp [*, errW_none, errW_some] <;> rfl), by first | exact Kd.R_nil _ _ _ _ _ | exact Kd.N_nil _ _ _ _ _ | exact Kd.V_nil _ _ _ _ _ | exact Kd.Q_nil _ _ _ _ _ | exact Kd.S_nil _ _ _ _ _, by repeat (first | (with_reducible first | exact HB.out | apply below_alloc | apply pw_below_drewN | apply below_drew1) | exact HB.out)⟩
                      · replace c35 := Bool.eq_false_iff.mpr c35
                        subst c35
                        have H1 : ((dovetailref1_Num.f kj29 l0 a1 4).bind fun bt248 => ((dovetailref3_Set.f x13_18 ((bt248.1) % 4294967296) x14_18).bind fun t250 => ((dovetailref1_Set.f kj29 l0 a1 (IntKind.u64.wrap (t250)) 4).bind fun bt251 => (if a2 = 18 then (dovetailref24_Apply.j5 kj29 l0 a1 a3 bt251.1 true) else (dovetailref24_Apply.j5 kj29 l0 a1 a3 bt251.1 (a2 == 19)))))) = some (r1, r2) := by rw [if_neg (show ¬ (false = true) by decide)] at H; exact H
                        clear H
                        have H := H1
                        clear H1
                        replace H := Option.bind_eq_some_iff.mp H
                        obtain ⟨⟨t248, t249⟩, A360, H⟩ := H
                        replace H : ((dovetailref3_Set.f x13_18 ((t248) % 4294967296) x14_18).bind fun t250 => ((dovetailref1_Set.f kj29 l0 a1 (IntKind.u64.wrap (t250)) 4).bind fun bt251 => (if a2 = 18 then (dovetailref24_Apply.j5 kj29 l0 a1 a3 bt251.1 true) else (dovetailref24_Apply.j5 kj29 l0 a1 a3 bt251.1 (a2 == 19))))) = some (r1, r2) := H
                        have A36 := Aside0.mk A360
                        clear A360
                        replace H := Option.bind_eq_some_iff.mp H
                        obtain ⟨t250, A370, H⟩ := H
                        replace H : ((dovetailref1_Set.f kj29 l0 a1 (IntKind.u64.wrap (t250)) 4).bind fun bt251 => (if a2 = 18 then (dovetailref24_Apply.j5 kj29 l0 a1 a3 bt251.1 true) else (dovetailref24_Apply.j5 kj29 l0 a1 a3 bt251.1 (a2 == 19)))) = some (r1, r2) := H
                        have A37 := Aside0.mk A370
                        clear A370
                        replace H := Option.bind_eq_some_iff.mp H
                        obtain ⟨⟨t251, t252⟩, A380, H⟩ := H
                        replace H : (if a2 = 18 then (dovetailref24_Apply.j5 kj29 l0 a1 a3 t251 true) else (dovetailref24_Apply.j5 kj29 l0 a1 a3 t251 (a2 == 19))) = some (r1, r2) := H
                        have A38 := Aside0.mk A380
                        clear A380
                        have HC39 := Aside0.mk H
                        clear H
                        go_upto_region 27 with (first | ((with_reducible refine gate_callee (f := 35) rfl ?_); refine goesL_ (some 86) rfl rfl Try.func35 (by kernel_rfl) rfl #[.slice A0 l0.length c0, .int .u64 a1, .int .i64 4] rfl (by (try simp only [List.map_toArray, List.map_cons, List.map_nil]); first | done | rfl | (simp only [List.length_drop, List.length_take]; rfl)) ?_; (with_reducible refine (dovetailref1_Num.calls kj29 _ _ l0 a1 4 t248 t249 _ ?side1 ?side2 A36.out).mono ?_); (case side1 => repeat (first | exact (Kd.C_below HR0.out HB.out) | (with_reducible refine Kd.C_alloc ?_ _) | (with_reducible refine Kd.C_drewN ?_ _) | (with_reducible refine Kd.C_drew ?_))); (case side2 => exact HC0.out); rintro e w' ⟨rfl, ⟨nd, rfl⟩⟩; refine ⟨_, rfl, ?_⟩) | ((with_reducible refine gate_callee (f := 36) rfl ?_); refine goesL_ (some 96) rfl rfl Try.func36 (by kernel_rfl) rfl #[.int .i64 x13_18, .int .u32 ((t248) % 4294967296), .int .i64 x14_18] rfl (by (try simp only [List.map_toArray, List.map_cons, List.map_nil]); first | done | rfl | (simp only [List.length_drop, List.length_take]; rfl)) ?_; (with_reducible refine (dovetailref3_Set.calls x13_18 ((t248) % 4294967296) x14_18 t250 _ A37.out).mono ?_); rintro e w' ⟨rfl, ⟨nd, rfl⟩⟩; refine ⟨_, rfl, ?_⟩) | ((with_reducible refine gate_callee (f := 32) rfl ?_); refine goesL_ (some 98) rfl rfl Try.func32 (by kernel_rfl) rfl #[.slice A0 l0.length c0, .int .u64 a1, .int .u64 (IntKind.u64.wrap (t250)), .int .i64 4] rfl (by (try simp only [List.map_toArray, List.map_cons, List.map_nil]); first | done | rfl | (simp only [List.length_drop, List.length_take]; rfl)) ?_; (with_reducible refine (dovetailref1_Set.calls kj29 _ _ l0 a1 (IntKind.u64.wrap (t250)) 4 t251 t252 _ ?side1 ?side2 A38.out).mono ?_); (case side1 => repeat (first | exact (Kd.C_below HR0.out (by repeat (first | (with_reducible first | exact HB.out | apply below_alloc | apply pw_below_drewN | apply below_drew1) | exact HB.out))) | (with_reducible refine Kd.C_alloc ?_ _) | (with_reducible refine Kd.C_drewN ?_ _) | (with_reducible refine Kd.C_drew ?_))); (case side2 => exact HC0.out); rintro e w40 ⟨v253, rfl, ho0, hb⟩; refine ⟨_, rfl, ?_⟩; have n0_ := Aside0.mk (Kd.R_lower ho0 (below_size (by repeat (first | (with_reducible first | exact HB.out | apply below_alloc | apply pw_below_drewN | apply below_drew1) | exact HB.out)))); have n1_ := Aside0.mk (below_step (by repeat (first | (with_reducible first | exact HB.out | apply below_alloc | apply pw_below_drewN | apply below_drew1) | exact HB.out)) hb); clear HB; have HO254 := n0_; have HB := n1_; clear n0_ n1_; (try clear hb); (try clear hb2); (try clear hk); (try clear hi); (try clear ho0)))
                        (try simp only [Act.put, List.setIfInBounds_toArray, List.set_cons_zero, List.set_cons_succ])
                        go_cut [106] (fun v106 wc => ∃ (kq : Nat) (x106_38 : Bool), v106 = .bool x106_38 ∧ Aside0 (dovetailref24_Apply.j5 kq l0 a1 a3 t251 x106_38 = some (r1, r2)) ∧ Aside0 (kq ≤ kj29) ∧ Aside0 (Kd.R (Kd.int .u8) 5 wc w.heap.size (fun _ => True) v253 t251) ∧ Aside0 (Below w.heap.size w wc))
                        case first =>
                          have H := HC39.out
                          clear HC39
                          by_cases c41 : a2 = 18
                          · rw [if_pos c41] at H
                            have c41b0 : (a2 == 18) = true := beq_iff_eq.mpr c41
                            have c41b1 : (a2 != 18) = false := bne_eq_false_iff_eq.mpr c41
                            clear c41
                            (first | rw [c41b0] | (simp only [i64_w, i32_w]; rw [c41b0]) | skip)
                            have H' := Aside0.mk H
                            clear H
                            go_wp2
                            go_meet
                            case rel => exact ⟨_, (true), (by first | rfl | (simp; done) | (simp [*]; done)), H', ⟨by have := HJ12.out; have := HJ18.out; have := HJ29.out; first | omega | exact Nat.le_refl _⟩, ⟨by (with_reducible repeat (first | apply Kd.R_alloc | apply Kd.R_drewN | apply Kd.R_drew)); exact HO254.out⟩, ⟨by repeat (first | (with_reducible first | exact HB.out | apply below_alloc | apply pw_below_drewN | apply below_drew1) | exact HB.out)⟩⟩
                          · rw [if_neg c41] at H
                            have c41b0 : (a2 == 18) = false := beq_eq_false_iff_ne.mpr c41
                            have c41b1 : (a2 != 18) = true := bne_iff_ne.mpr c41
                            (first | rw [c41b0] | (simp only [i64_w, i32_w]; rw [c41b0]) | skip)
                            have H' := Aside0.mk H
                            clear H
                            go_wp2
                            go_meet
                            case rel => exact ⟨_, ((a2 == 19)), (by first | rfl | (simp; done) | (simp [*]; done)), H', ⟨by have := HJ12.out; have := HJ18.out; have := HJ29.out; first | omega | exact Nat.le_refl _⟩, ⟨by (with_reducible repeat (first | apply Kd.R_alloc | apply Kd.R_drewN | apply Kd.R_drew)); exact HO254.out⟩, ⟨by repeat (first | (with_reducible first | exact HB.out | apply below_alloc | apply pw_below_drewN | apply below_drew1) | exact HB.out)⟩⟩
                        case rest =>
                          clear HC39
                          try clear c1
                          try clear c2
                          try clear p2
                          try clear c3
                          try clear c4
                          try clear c6
                          try clear c9
                          try clear c10
                          try clear c10b0
                          try clear c10b1
                          try clear c11
                          try clear c14
                          try clear c14b0
                          try clear c14b1
                          try clear c15
                          try clear c16
                          try clear c19
                          try clear c20
                          try clear c21
                          try clear c21b0
                          try clear c21b1
                          try clear c22
                          try clear c25
                          try clear c25b0
                          try clear c25b1
                          try clear c26
                          try clear c28
                          try clear c28b0
                          try clear c28b1
                          try clear c29
                          try clear c29b0
                          try clear c29b1
                          try clear c31
                          try clear c31b0
                          try clear c31b1
                          try clear c32
                          try clear c33
                          try clear c33b0
                          try clear c33b1
                          try clear c34
                          try clear c35
                          try clear c36
                          try clear c41
                          try clear c41b0
                          try clear c41b1
                          try clear p2
                          obtain ⟨kq, x106_38, rfl, HA, HJ38, HO_17, HB⟩ := hcut
                          cases kq with
                          | zero => exact absurd HA.out (by simp [dovetailref24_Apply.j5])
                          | succ kj38 =>
                            have H := HA.out
                            clear HA
                            simp only [dovetailref24_Apply.j5] at H
                            by_cases c42 : x106_38 = true
                            · subst c42
                              have H1 : ((dovetailref1_Num.f kj38 l0 (IntKind.u64.wrap (a1 + 4)) 4).bind fun bt255 => ((dovetailref3_Lo.f a3).bind fun t257 => ((dovetailref3_Set.f 1 ((bt255.1) % 4294967296) t257).bind fun t258 => ((dovetailref1_Set.f kj38 t251 (IntKind.u64.wrap (a1 + 4)) (IntKind.u64.wrap (t258)) 4).bind fun bt259 => (some (bt259.1, 0)))))) = some (r1, r2) := by rw [if_pos rfl] at H; exact H
                              clear H
                              have H := H1
                              clear H1
                              replace H := Option.bind_eq_some_iff.mp H
                              obtain ⟨⟨t255, t256⟩, A430, H⟩ := H
                              replace H : ((dovetailref3_Lo.f a3).bind fun t257 => ((dovetailref3_Set.f 1 ((t255) % 4294967296) t257).bind fun t258 => ((dovetailref1_Set.f kj38 t251 (IntKind.u64.wrap (a1 + 4)) (IntKind.u64.wrap (t258)) 4).bind fun bt259 => (some (bt259.1, 0))))) = some (r1, r2) := H
                              have A43 := Aside0.mk A430
                              clear A430
                              replace H := Option.bind_eq_some_iff.mp H
                              obtain ⟨t257, A440, H⟩ := H
                              replace H : ((dovetailref3_Set.f 1 ((t255) % 4294967296) t257).bind fun t258 => ((dovetailref1_Set.f kj38 t251 (IntKind.u64.wrap (a1 + 4)) (IntKind.u64.wrap (t258)) 4).bind fun bt259 => (some (bt259.1, 0)))) = some (r1, r2) := H
                              have A44 := Aside0.mk A440
                              clear A440
                              replace H := Option.bind_eq_some_iff.mp H
                              obtain ⟨t258, A450, H⟩ := H
                              replace H : ((dovetailref1_Set.f kj38 t251 (IntKind.u64.wrap (a1 + 4)) (IntKind.u64.wrap (t258)) 4).bind fun bt259 => (some (bt259.1, 0))) = some (r1, r2) := H
                              have A45 := Aside0.mk A450
                              clear A450
                              replace H := Option.bind_eq_some_iff.mp H
                              obtain ⟨⟨t259, t260⟩, A460, H⟩ := H
                              replace H : (some (t259, 0)) = some (r1, r2) := H
                              have A46 := Aside0.mk A460
                              clear A460
                              simp only [Option.some.injEq, Prod.mk.injEq] at H
                              obtain ⟨rfl, rfl⟩ := H
                              go_wp2_with (first | ((with_reducible refine gate_callee (f := 35) rfl ?_); refine goesL_ (some 111) rfl rfl Try.func35 (by kernel_rfl) rfl #[.slice A0 l0.length c0, .int .u64 (IntKind.u64.wrap (a1 + 4)), .int .i64 4] rfl (by (try simp only [List.map_toArray, List.map_cons, List.map_nil]); first | done | rfl | (simp only [List.length_drop, List.length_take]; rfl)) ?_; (with_reducible refine (dovetailref1_Num.calls kj38 _ _ l0 (IntKind.u64.wrap (a1 + 4)) 4 t255 t256 _ ?side1 ?side2 A43.out).mono ?_); (case side1 => repeat (first | exact (Kd.C_below HR0.out HB.out) | (with_reducible refine Kd.C_alloc ?_ _) | (with_reducible refine Kd.C_drewN ?_ _) | (with_reducible refine Kd.C_drew ?_))); (case side2 => exact HC0.out); rintro e w' ⟨rfl, ⟨nd, rfl⟩⟩; refine ⟨_, rfl, ?_⟩) | ((with_reducible refine gate_callee (f := 34) rfl ?_); refine goesL_ (some 121) rfl rfl Try.func34 (by kernel_rfl) rfl #[.int .i64 a3] rfl (by (try simp only [List.map_toArray, List.map_cons, List.map_nil]); first | done | rfl | (simp only [List.length_drop, List.length_take]; rfl)) ?_; (with_reducible refine (dovetailref3_Lo.calls a3 t257 _ A44.out).mono ?_); rintro e w' ⟨rfl, ⟨nd, rfl⟩⟩; refine ⟨_, rfl, ?_⟩) | ((with_reducible refine gate_callee (f := 36) rfl ?_); refine goesL_ (some 122) rfl rfl Try.func36 (by kernel_rfl) rfl #[.int .i64 1, .int .u32 ((t255) % 4294967296), .int .i64 t257] rfl (by (try simp only [List.map_toArray, List.map_cons, List.map_nil]); first | done | rfl | (simp only [List.length_drop, List.length_take]; rfl)) ?_; (with_reducible refine (dovetailref3_Set.calls 1 ((t255) % 4294967296) t257 t258 _ A45.out).mono ?_); rintro e w' ⟨rfl, ⟨nd, rfl⟩⟩; refine ⟨_, rfl, ?_⟩; obtain ⟨Ao47, co47, eo47⟩ := Kd.R_slice HO_17.out; subst eo47) | ((with_reducible refine gate_callee (f := 32) rfl ?_); refine goesL_ (some 124) rfl rfl Try.func32 (by kernel_rfl) rfl #[.slice Ao47 t251.length co47, .int .u64 (IntKind.u64.wrap (a1 + 4)), .int .u64 (IntKind.u64.wrap (t258)), .int .i64 4] rfl (by (try simp only [List.map_toArray, List.map_cons, List.map_nil]); first | done | rfl | (simp only [List.length_drop, List.length_take]; rfl)) ?_; (with_reducible refine (dovetailref1_Set.calls kj38 _ _ t251 (IntKind.u64.wrap (a1 + 4)) (IntKind.u64.wrap (t258)) 4 t259 t260 _ ?side1 ?side2 A46.out).mono ?_); (case side1 => repeat (first | exact (Kd.R_reads' HO_17.out).2.2 | (with_reducible refine Kd.C_alloc ?_ _) | (with_reducible refine Kd.C_drewN ?_ _) | (with_reducible refine Kd.C_drew ?_))); (case side2 => exact (Kd.R_reads' HO_17.out).2.1); rintro e w48 ⟨v261, rfl, ho0, hb⟩; refine ⟨_, rfl, ?_⟩; have n0_ := Aside0.mk (Kd.R_elder' (by (with_reducible repeat (first | apply Kd.R_alloc | apply Kd.R_drewN | apply Kd.R_drew)); exact HO_17.out) (Kd.R_base ho0) hb); have n1_ := Aside0.mk (Kd.R_lower (Kd.R_new' ho0 (Kd.R_lt (by (with_reducible repeat (first | apply Kd.R_alloc | apply Kd.R_drewN | apply Kd.R_drew)); exact HO_17.out))) (below_size (by repeat (first | (with_reducible first | exact HB.out | apply below_alloc | apply pw_below_drewN | apply below_drew1) | exact HB.out)))); have n2_ := Aside0.mk (below_step (by repeat (first | (with_reducible first | exact HB.out | apply below_alloc | apply pw_below_drewN | apply below_drew1) | exact HB.out)) hb); clear HO_17; clear HB; have HO_17 := n0_; have HO262 := n1_; have HB := n2_; clear n0_ n1_ n2_; (try clear hb); (try clear hb2); (try clear hk); (try clear hi); (try clear ho0)))
                              go_ret2
                              exact ⟨_, by first | rfl | (simp [errW_none, errW_some] <;> rfl) | (simp [*, errW_none, errW_some] <;> rfl), by (with_reducible repeat (first | apply Kd.R_alloc | apply Kd.R_drewN | apply Kd.R_drew)); exact Kd.R_mono HO262.out (fun _ hk => trivial), by repeat (first | (with_reducible first | exact HB.out | apply below_alloc | apply pw_below_drewN | apply below_drew1) | exact HB.out)⟩
                            · replace c42 := Bool.eq_false_iff.mpr c42
                              subst c42
                              have H1 : (some (t251, 0)) = some (r1, r2) := by rw [if_neg (show ¬ (false = true) by decide)] at H; exact H
                              clear H
                              have H := H1
                              clear H1
                              simp only [Option.some.injEq, Prod.mk.injEq] at H
                              obtain ⟨rfl, rfl⟩ := H
                              go_wp2
                              go_ret2
                              exact ⟨_, by first | rfl | (simp [errW_none, errW_some] <;> rfl) | (simp [*, errW_none, errW_some] <;> rfl), by (with_reducible repeat (first | apply Kd.R_alloc | apply Kd.R_drewN | apply Kd.R_drew)); exact HO_17.out, by repeat (first | (with_reducible first | exact HB.out | apply below_alloc | apply pw_below_drewN | apply below_drew1) | exact HB.out)⟩
    · replace c9 := Bool.eq_false_iff.mpr c9
      subst c9
      have H1 : (some (([] : List Int), 61)) = some (r1, r2) := by rw [if_neg (show ¬ (false = true) by decide)] at H; exact H
      clear H
      have H := H1
      clear H1
      simp only [Option.some.injEq, Prod.mk.injEq] at H
      obtain ⟨rfl, rfl⟩ := H
      go_enter Try.func16, Try.ntmps16
      go_wp2_with (first | ((with_reducible refine gate_callee (f := 20) rfl ?_); refine goesL_ (some 20) rfl rfl Try.func20 (by kernel_rfl) rfl #[.int .u32 a2] rfl (by (try simp only [List.map_toArray, List.map_cons, List.map_nil]); first | done | rfl | (simp only [List.length_drop, List.length_take]; rfl)) ?_; (with_reducible refine (dovetailref9_Known.calls a2 true _ A5.out).mono ?_); rintro e w' ⟨rfl, ⟨nd, rfl⟩⟩; refine ⟨_, rfl, ?_⟩) | ((with_reducible refine gate_callee (f := 19) rfl ?_); refine goesL_ (some 23) rfl rfl Try.func19 (by kernel_rfl) rfl #[.int .u32 a2] rfl (by (try simp only [List.map_toArray, List.map_cons, List.map_nil]); first | done | rfl | (simp only [List.length_drop, List.length_take]; rfl)) ?_; (with_reducible refine (dovetailref9_Width.calls k a2 t234 _ A7.out).mono ?_); rintro e w' ⟨rfl, ⟨nd, rfl⟩⟩; refine ⟨_, rfl, ?_⟩) | ((with_reducible refine gate_callee (f := 31) rfl ?_); refine goesL_ (some 30) rfl rfl Try.func31 (by kernel_rfl) rfl #[.int .u64 a1, .int .u64 (IntKind.u64.wrap (t234)), .int .u64 (IntKind.u64.wrap ((l0.length : Int)))] rfl (by (try simp only [List.map_toArray, List.map_cons, List.map_nil]); first | done | rfl | (simp only [List.length_drop, List.length_take]; rfl)) ?_; (with_reducible refine (dovetailref1_Within.calls a1 (IntKind.u64.wrap (t234)) (IntKind.u64.wrap ((l0.length : Int))) false _ A8.out).mono ?_); rintro e w' ⟨rfl, ⟨nd, rfl⟩⟩; refine ⟨_, rfl, ?_⟩))
      go_ret2
      exact ⟨_, by first | rfl | (simp [errW_none, errW_some] <;> rfl) | (simp [*, errW_none, errW_some] <;> rfl), by first | exact Kd.R_nil _ _ _ _ _ | exact Kd.N_nil _ _ _ _ _ | exact Kd.V_nil _ _ _ _ _ | exact Kd.Q_nil _ _ _ _ _ | exact Kd.S_nil _ _ _ _ _, by repeat (first | (with_reducible first | exact HB.out | apply below_alloc | apply pw_below_drewN | apply below_drew1) | exact HB.out)⟩
  · replace c6 := Bool.eq_false_iff.mpr c6
    subst c6
    have H1 : (some (([] : List Int), 60)) = some (r1, r2) := by rw [if_neg (show ¬ (false = true) by decide)] at H; exact H
    clear H
    have H := H1
    clear H1
    simp only [Option.some.injEq, Prod.mk.injEq] at H
    obtain ⟨rfl, rfl⟩ := H
    go_enter Try.func16, Try.ntmps16
    go_wp2_with (first | ((with_reducible refine gate_callee (f := 20) rfl ?_); refine goesL_ (some 20) rfl rfl Try.func20 (by kernel_rfl) rfl #[.int .u32 a2] rfl (by (try simp only [List.map_toArray, List.map_cons, List.map_nil]); first | done | rfl | (simp only [List.length_drop, List.length_take]; rfl)) ?_; (with_reducible refine (dovetailref9_Known.calls a2 false _ A5.out).mono ?_); rintro e w' ⟨rfl, ⟨nd, rfl⟩⟩; refine ⟨_, rfl, ?_⟩))
    go_ret2
    exact ⟨_, by first | rfl | (simp [errW_none, errW_some] <;> rfl) | (simp [*, errW_none, errW_some] <;> rfl), by first | exact Kd.R_nil _ _ _ _ _ | exact Kd.N_nil _ _ _ _ _ | exact Kd.V_nil _ _ _ _ _ | exact Kd.Q_nil _ _ _ _ _ | exact Kd.S_nil _ _ _ _ _, by repeat (first | (with_reducible first | exact HB.out | apply below_alloc | apply pw_below_drewN | apply below_drew1) | exact HB.out)⟩

end Go.Proofs.Ytooleipgpkjpjaa.QRelocApplies
