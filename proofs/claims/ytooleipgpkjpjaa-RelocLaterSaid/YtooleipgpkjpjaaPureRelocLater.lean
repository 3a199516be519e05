/- RelocLater: one relocation behind another, at places apart, may be put in either order. No condition beside the statement's own. -/
import Derived.Test.YtooleipgpkjpjaaRelBRelocLater
namespace Go.Proofs.Ytooleipgpkjpjaa.Pure
open Go.RowKit Go.Proofs.Ytooleipgpkjpjaa.QRelocLater Go.Proofs.YtooleipgpkjpjaaW.PrintWords Go.Proofs.YtooleipgpkjpjaaW.PrintLast Go.Proofs.YtooleipgpkjpjaaW.PrintMore Go.Proofs.Ytooleipgpkjpjaa.Bv Go.Proofs.Ytooleipgpkjpjaa.RelRelocLater
set_option linter.unusedSimpArgs false
set_option linter.unusedVariables false

theorem known_ok : dovetaillaw24_known.f 15 = some true := by decide +kernel
theorem i32_toInt {a : Int} (h : (Lit.int .i32 a).wf = true) : ∃ V : BitVec 64, wrap64 a = V.toInt := ⟨BitVec.ofInt 64 a, wrap_i a⟩
theorem RelocLater : dovetaillaw24_RelocLater.Pure := by
  intro l a1 a2 a3 a4 _ _ _ w1 w2 w3 w4
  refine ⟨15, ?_⟩
  unfold dovetaillaw24_RelocLater.f
  rw [known_ok, Option.bind_some, if_pos rfl]
  by_cases h16 : (l.length : Int) < 16
  · rw [if_pos h16]; simp [dovetaillaw24_RelocLater.j0]
  rw [if_neg h16]
  by_cases h60 : (l.length : Int) > 60
  · simp [dovetaillaw24_RelocLater.j0, h60]
  have b1 := bd_u8 w1
  have b2 := bd_u8 w2
  obtain ⟨V, hV⟩ := i32_toInt w3
  obtain ⟨W, hW⟩ := i32_toInt w4
  simp only [dovetaillaw24_RelocLater.j0, decide_eq_false h60, hV, hW]
  have hm (a : Int) (h : 0 ≤ a) : Int.tmod a 8 = a % 8 := Int.tmod_eq_emod_of_nonneg h
  have hx (a : Int) (ha : 0 ≤ a) : ∃ t, rd [1, 2, 26, 27, 28, 18, 23, 51] (Int.tmod a 8) = t ∧ knownP t ∧ t ≠ 16 ∧ t ≠ 17 ∧ width t ≤ 8 := by
    rw [hm a ha]
    have h : a % 8 = 0 ∨ a % 8 = 1 ∨ a % 8 = 2 ∨ a % 8 = 3 ∨ a % 8 = 4 ∨ a % 8 = 5 ∨ a % 8 = 6 ∨ a % 8 = 7 := by omega
    rcases h with h | h | h | h | h | h | h | h <;> rw [h] <;> exact ⟨_, rfl, by decide⟩
  obtain ⟨t, ht, hk, t16, t17, hw⟩ := hx a1 b1.1
  obtain ⟨u, hu, hk', u16, u17, hw'⟩ := hx a2 b2.1
  have hl : l.length < 140737488355328 := by omega
  have c0 : 0 ≤ Int.tmod a1 8 := by rw [hm a1 b1.1]; omega
  have c1 : Int.tmod a1 8 < (([1, 2, 26, 27, 28, 18, 23, 51] : List Int).length : Int) := by rw [hm a1 b1.1]; simp; omega
  have d0 : 0 ≤ Int.tmod a2 8 := by rw [hm a2 b2.1]; omega
  have d1 : Int.tmod a2 8 < (([1, 2, 26, 27, 28, 18, 23, 51] : List Int).length : Int) := by rw [hm a2 b2.1]; simp; omega
  have A (m : List Int) (hm : m.length = l.length) : reloc_Apply.f 14 m 0 t V.toInt = some (editOf 0 t V m, 0) := by
    have e := apply_tells 8 m 0 t V (by omega) (by omega)
    rw [applyR_some m 0 t V hk t16 t17 (by omega)] at e
    exact e
  have B (m : List Int) (hm : m.length = l.length) : reloc_Apply.f 14 m 8 u W.toInt = some (editOf 8 u W m, 0) := by
    have e := apply_tells 8 m 8 u W (by omega) (by omega)
    rw [applyR_some m 8 u W hk' u16 u17 (by omega)] at e
    exact e
  have lt := local_edit 0 t V t16 t17 8 hw
  have lu := local_edit 8 u W u16 u17 8 hw'
  obtain ⟨p1, p2, _⟩ := lt l (by omega)
  obtain ⟨q1, q2, _⟩ := lu l (by omega)
  obtain ⟨r1, r2, _⟩ := lu (editOf 0 t V l) (by omega)
  have hc : editOf 8 u W (editOf 0 t V l) = editOf 0 t V (editOf 8 u W l) := lt.comm lu (by omega) l (by omega)
  have hd : (editOf 8 u W (editOf 0 t V l)).drop 16 = l.drop 16 := by
    apply List.ext_getElem?
    intro i
    rw [List.getElem?_drop, List.getElem?_drop, r2 (16 + i) (by omega), p2 (16 + i) (by omega)]
  have hL : (editOf 8 u W (editOf 0 t V l)).length = l.length := by omega
  have z : wrap64 (wrap64 (wrap64 (0 + 0) + 0) + 0) = 0 := by unfold wrap64; omega
  simp only [Option.bind_some, if_neg (show ¬ (false = true) by decide), c0, c1, d0, d1, if_true, ht, hu, A l rfl, B l rfl, B _ p1, A _ q1, ← hc, z, hL, hd, show (16 : Int) ≤ (l.length : Int) from by omega]
  simp

end Go.Proofs.Ytooleipgpkjpjaa.Pure
