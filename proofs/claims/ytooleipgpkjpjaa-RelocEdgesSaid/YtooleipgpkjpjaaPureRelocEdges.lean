/- RelocEdges: just which values each type takes, at the ends of its range. No condition beside the statement's own. -/
import Derived.Test.YtooleipgpkjpjaaRelVRelocEdges
namespace Go.Proofs.Ytooleipgpkjpjaa.Pure
open Go.RowKit Go.Proofs.Ytooleipgpkjpjaa.QRelocEdges Go.Proofs.YtooleipgpkjpjaaW.PrintWords Go.Proofs.YtooleipgpkjpjaaW.PrintLast Go.Proofs.YtooleipgpkjpjaaW.PrintMore Go.Proofs.Ytooleipgpkjpjaa.Bv Go.Proofs.Ytooleipgpkjpjaa.RelRelocEdges
set_option linter.unusedSimpArgs false
set_option linter.unusedVariables false

theorem known_ok : dovetaillaw24_known.f 15 = some true := by decide +kernel
theorem num_plain (t v : Int) (h0 : -9223372036854775808 ≤ v) (h1 : v < 9223372036854775808) : numV t 0 v 0 = v := by
  have e : wrap64 (symV 0 v) = v := by
    unfold symV wrap64
    simp [IntKind.wrap, IntKind.bits, IntKind.signed]
    omega
  have e' : wrap64 (IntKind.u64.wrap (symV 0 v - 0)) = v := by
    unfold symV wrap64
    simp [IntKind.wrap, IntKind.bits, IntKind.signed]
    omega
  unfold numV
  split
  · exact e
  · exact e'
set_option maxHeartbeats 1000000 in
theorem RelocEdges : dovetaillaw24_RelocEdges.Pure := by
  intro a1 a2 a3 w1 w2
  refine ⟨15, ?_⟩
  unfold dovetaillaw24_RelocEdges.f
  rw [known_ok, Option.bind_some, if_pos rfl]
  have b1 := bd_u8 w1
  have b2 : -128 ≤ a2 ∧ a2 ≤ 127 := by
    simp only [Lit.wf, IntKind.min, IntKind.max, IntKind.signed, IntKind.bits, Bool.and_eq_true] at w2
    simp at w2
    omega
  have hm : Int.tmod a1 8 = a1 % 8 := Int.tmod_eq_emod_of_nonneg b1.1
  have h : a1 % 8 = 0 ∨ a1 % 8 = 1 ∨ a1 % 8 = 2 ∨ a1 % 8 = 3 ∨ a1 % 8 = 4 ∨ a1 % 8 = 5 ∨ a1 % 8 = 6 ∨ a1 % 8 = 7 := by omega
  have ev (x : Int) : Int.tmod x 2 = 0 ↔ x % 2 = 0 := tmod2 x
  have key (t lo hi : Int) (v : Int) (par : Bool) (hk : knownP t) (h51 : t ≠ 51) (hv0 : -9223372036854775808 ≤ v) (hv1 : v < 9223372036854775808)
      (hok : okV t v ↔ (lo ≤ v ∧ v ≤ hi ∧ (par = true → v % 2 = 0))) : reloc_Value.f 15 t 0 v 0 = some (if lo ≤ v ∧ v ≤ hi ∧ (par = true → v % 2 = 0) then (v, 0) else (0, 61)) := by
    rw [show reloc_Value.f 15 t 0 v 0 = _ from val_tells 9 t 0 v 0]
    unfold valR
    rw [if_pos hk, if_neg h51, num_plain t v hv0 hv1]
    by_cases h : okV t v
    · rw [if_pos h, if_pos (hok.1 h)]
    · rw [if_neg h, if_neg (fun h' => h (hok.2 h'))]
  have w8 : wrap64 a2 = a2 := w64 (by omega) (by omega)
  have n8 (x0 x1 x2 x3 x4 x5 x6 x7 : Int) : (([x0, x1, x2, x3, x4, x5, x6, x7] : List Int).length : Int) = 8 := rfl
  simp only [Option.bind_some, hm, w8, n8, show 0 ≤ a1 % 8 from by omega, show a1 % 8 < 8 from by omega, if_true]
  have fin (n t lo hi v : Int) (hn : 0 ≤ n) (hk : knownP t) (h51 : t ≠ 51) (hv0 : -9223372036854775808 ≤ v) (hv1 : v < 9223372036854775808)
      (hok : okV t v ↔ (lo ≤ v ∧ v ≤ hi ∧ (decide (n ≤ 1) = true → v % 2 = 0))) :
      ((reloc_Value.f 15 t 0 v 0).bind fun bt228 => (if v ≥ lo then (if v ≤ hi then (if n > 1 then (if ((bt228.2 == 0) == true) = true then (some true) else (some false)) else (if ((bt228.2 == 0) == ((Int.tmod v 2) == 0)) = true then (if (Int.tmod v 2) = 0 then (some true) else (some (bt228.2 == 61))) else (some false))) else (if ((bt228.2 == 0) == false) = true then (some (bt228.2 == 61)) else (some false))) else (if ((bt228.2 == 0) == false) = true then (some (bt228.2 == 61)) else (some false)))) = some true := by
    rw [key t lo hi v (decide (n ≤ 1)) hk h51 hv0 hv1 hok, Option.bind_some]
    by_cases h0 : lo ≤ v
    case neg => rw [if_neg (show ¬ (v ≥ lo) from h0)]; simp [h0]
    rw [if_pos (show v ≥ lo from h0)]
    by_cases h1 : v ≤ hi
    case neg => rw [if_neg h1]; simp [h1]
    rw [if_pos h1]
    by_cases hn1 : n > 1
    · rw [if_pos hn1]
      simp [h0, h1, show ¬ n ≤ 1 from by omega]
    · rw [if_neg hn1]
      by_cases hv : v % 2 = 0
      · simp [h0, h1, hv, (ev v).2 hv]
      · have hv' : ¬ Int.tmod v 2 = 0 := fun h => hv ((ev v).1 h)
        simp [h0, h1, hv, hv', show n ≤ 1 from by omega]
  rcases h with h | h | h | h | h | h | h | h <;> rw [h]
  · simp only [show rd [16, 17, 18, 26, 23, 1, 27, 25] 0 = 16 from rfl, show rd [-4096, -1048576, -2147485696, -2147485696, -2147485696, -2147483648, -2147485696, -2147485696] 0 = -4096 from rfl, show rd [4094, 1048574, 2147481599, 2147481599, 2147481599, 4294967295, 2147481599, 2147481599] 0 = 4094 from rfl]
    rw [w64 (x := 4094 + a2) (by omega) (by omega), w64 (x := -4096 + a2) (by omega) (by omega)]
    cases a3
    · rw [if_neg (by decide)]; exact fin 0 16 (-4096) 4094 (-4096 + a2) (by omega) (by decide) (by decide) (by omega) (by omega) (by simp [okV, fitsP]; omega)
    · rw [if_pos rfl]; exact fin 0 16 (-4096) 4094 (4094 + a2) (by omega) (by decide) (by decide) (by omega) (by omega) (by simp [okV, fitsP]; omega)
  · simp only [show rd [16, 17, 18, 26, 23, 1, 27, 25] 1 = 17 from rfl, show rd [-4096, -1048576, -2147485696, -2147485696, -2147485696, -2147483648, -2147485696, -2147485696] 1 = -1048576 from rfl, show rd [4094, 1048574, 2147481599, 2147481599, 2147481599, 4294967295, 2147481599, 2147481599] 1 = 1048574 from rfl]
    rw [w64 (x := 1048574 + a2) (by omega) (by omega), w64 (x := -1048576 + a2) (by omega) (by omega)]
    cases a3
    · rw [if_neg (by decide)]; exact fin 1 17 (-1048576) 1048574 (-1048576 + a2) (by omega) (by decide) (by decide) (by omega) (by omega) (by simp [okV, fitsP]; omega)
    · rw [if_pos rfl]; exact fin 1 17 (-1048576) 1048574 (1048574 + a2) (by omega) (by decide) (by decide) (by omega) (by omega) (by simp [okV, fitsP]; omega)
  · simp only [show rd [16, 17, 18, 26, 23, 1, 27, 25] 2 = 18 from rfl, show rd [-4096, -1048576, -2147485696, -2147485696, -2147485696, -2147483648, -2147485696, -2147485696] 2 = -2147485696 from rfl, show rd [4094, 1048574, 2147481599, 2147481599, 2147481599, 4294967295, 2147481599, 2147481599] 2 = 2147481599 from rfl]
    rw [w64 (x := 2147481599 + a2) (by omega) (by omega), w64 (x := -2147485696 + a2) (by omega) (by omega)]
    cases a3
    · rw [if_neg (by decide)]; exact fin 2 18 (-2147485696) 2147481599 (-2147485696 + a2) (by omega) (by decide) (by decide) (by omega) (by omega) (by simp [okV])
    · rw [if_pos rfl]; exact fin 2 18 (-2147485696) 2147481599 (2147481599 + a2) (by omega) (by decide) (by decide) (by omega) (by omega) (by simp [okV])
  · simp only [show rd [16, 17, 18, 26, 23, 1, 27, 25] 3 = 26 from rfl, show rd [-4096, -1048576, -2147485696, -2147485696, -2147485696, -2147483648, -2147485696, -2147485696] 3 = -2147485696 from rfl, show rd [4094, 1048574, 2147481599, 2147481599, 2147481599, 4294967295, 2147481599, 2147481599] 3 = 2147481599 from rfl]
    rw [w64 (x := 2147481599 + a2) (by omega) (by omega), w64 (x := -2147485696 + a2) (by omega) (by omega)]
    cases a3
    · rw [if_neg (by decide)]; exact fin 3 26 (-2147485696) 2147481599 (-2147485696 + a2) (by omega) (by decide) (by decide) (by omega) (by omega) (by simp [okV])
    · rw [if_pos rfl]; exact fin 3 26 (-2147485696) 2147481599 (2147481599 + a2) (by omega) (by decide) (by decide) (by omega) (by omega) (by simp [okV])
  · simp only [show rd [16, 17, 18, 26, 23, 1, 27, 25] 4 = 23 from rfl, show rd [-4096, -1048576, -2147485696, -2147485696, -2147485696, -2147483648, -2147485696, -2147485696] 4 = -2147485696 from rfl, show rd [4094, 1048574, 2147481599, 2147481599, 2147481599, 4294967295, 2147481599, 2147481599] 4 = 2147481599 from rfl]
    rw [w64 (x := 2147481599 + a2) (by omega) (by omega), w64 (x := -2147485696 + a2) (by omega) (by omega)]
    cases a3
    · rw [if_neg (by decide)]; exact fin 4 23 (-2147485696) 2147481599 (-2147485696 + a2) (by omega) (by decide) (by decide) (by omega) (by omega) (by simp [okV])
    · rw [if_pos rfl]; exact fin 4 23 (-2147485696) 2147481599 (2147481599 + a2) (by omega) (by decide) (by decide) (by omega) (by omega) (by simp [okV])
  · simp only [show rd [16, 17, 18, 26, 23, 1, 27, 25] 5 = 1 from rfl, show rd [-4096, -1048576, -2147485696, -2147485696, -2147485696, -2147483648, -2147485696, -2147485696] 5 = -2147483648 from rfl, show rd [4094, 1048574, 2147481599, 2147481599, 2147481599, 4294967295, 2147481599, 2147481599] 5 = 4294967295 from rfl]
    rw [w64 (x := 4294967295 + a2) (by omega) (by omega), w64 (x := -2147483648 + a2) (by omega) (by omega)]
    cases a3
    · rw [if_neg (by decide)]; exact fin 5 1 (-2147483648) 4294967295 (-2147483648 + a2) (by omega) (by decide) (by decide) (by omega) (by omega) (by simp [okV])
    · rw [if_pos rfl]; exact fin 5 1 (-2147483648) 4294967295 (4294967295 + a2) (by omega) (by decide) (by decide) (by omega) (by omega) (by simp [okV])
  · simp only [show rd [16, 17, 18, 26, 23, 1, 27, 25] 6 = 27 from rfl, show rd [-4096, -1048576, -2147485696, -2147485696, -2147485696, -2147483648, -2147485696, -2147485696] 6 = -2147485696 from rfl, show rd [4094, 1048574, 2147481599, 2147481599, 2147481599, 4294967295, 2147481599, 2147481599] 6 = 2147481599 from rfl]
    rw [w64 (x := 2147481599 + a2) (by omega) (by omega), w64 (x := -2147485696 + a2) (by omega) (by omega)]
    cases a3
    · rw [if_neg (by decide)]; exact fin 6 27 (-2147485696) 2147481599 (-2147485696 + a2) (by omega) (by decide) (by decide) (by omega) (by omega) (by simp [okV])
    · rw [if_pos rfl]; exact fin 6 27 (-2147485696) 2147481599 (2147481599 + a2) (by omega) (by decide) (by decide) (by omega) (by omega) (by simp [okV])
  · simp only [show rd [16, 17, 18, 26, 23, 1, 27, 25] 7 = 25 from rfl, show rd [-4096, -1048576, -2147485696, -2147485696, -2147485696, -2147483648, -2147485696, -2147485696] 7 = -2147485696 from rfl, show rd [4094, 1048574, 2147481599, 2147481599, 2147481599, 4294967295, 2147481599, 2147481599] 7 = 2147481599 from rfl]
    rw [w64 (x := 2147481599 + a2) (by omega) (by omega), w64 (x := -2147485696 + a2) (by omega) (by omega)]
    cases a3
    · rw [if_neg (by decide)]; exact fin 7 25 (-2147485696) 2147481599 (-2147485696 + a2) (by omega) (by decide) (by decide) (by omega) (by omega) (by simp [okV])
    · rw [if_pos rfl]; exact fin 7 25 (-2147485696) 2147481599 (2147481599 + a2) (by omega) (by decide) (by decide) (by omega) (by omega) (by simp [okV])

end Go.Proofs.Ytooleipgpkjpjaa.Pure
