/- RelocAgain: what is put in again is what is there, and another value put in is as if it had been put in first. No condition beside the statement's own. -/
import Derived.Test.YtooleipgpkjpjaaRelBRelocAgain
namespace Go.Proofs.Ytooleipgpkjpjaa.Pure
open Go.RowKit Go.Proofs.Ytooleipgpkjpjaa.QRelocAgain Go.Proofs.YtooleipgpkjpjaaW.PrintWords Go.Proofs.YtooleipgpkjpjaaW.PrintLast Go.Proofs.YtooleipgpkjpjaaW.PrintMore Go.Proofs.Ytooleipgpkjpjaa.Bv Go.Proofs.Ytooleipgpkjpjaa.RelRelocAgain
set_option linter.unusedSimpArgs false
set_option linter.unusedVariables false

theorem known_ok : dovetaillaw24_known.f 15 = some true := by decide +kernel
theorem i32_toInt {a : Int} (h : (Lit.int .i32 a).wf = true) : ∃ V : BitVec 64, wrap64 a = V.toInt := ⟨BitVec.ofInt 64 a, wrap_i a⟩
theorem RelocAgain : dovetaillaw24_RelocAgain.Pure := by
  intro l a1 a2 a3 _ _ _ w1 w2 w3
  refine ⟨15, ?_⟩
  unfold dovetaillaw24_RelocAgain.f
  rw [known_ok, Option.bind_some, if_pos rfl]
  by_cases h8 : (l.length : Int) < 8
  · rw [if_pos h8]; simp [dovetaillaw24_RelocAgain.j0]
  rw [if_neg h8]
  by_cases h60 : (l.length : Int) > 60
  · simp [dovetaillaw24_RelocAgain.j0, h60]
  have b1 := bd_u8 w1
  obtain ⟨V, hV⟩ := i32_toInt w2
  obtain ⟨W, hW⟩ := i32_toInt w3
  simp only [dovetaillaw24_RelocAgain.j0, decide_eq_false h60, hV, hW]
  have hm : Int.tmod a1 8 = a1 % 8 := Int.tmod_eq_emod_of_nonneg b1.1
  have hx : ∃ t, rd [1, 2, 26, 27, 28, 18, 19, 25] (Int.tmod a1 8) = t ∧ knownP t ∧ t ≠ 16 ∧ t ≠ 17 ∧ width t ≤ 8 ∧ dovetailref9_Known.f t = some true := by
    rw [hm]
    have h : a1 % 8 = 0 ∨ a1 % 8 = 1 ∨ a1 % 8 = 2 ∨ a1 % 8 = 3 ∨ a1 % 8 = 4 ∨ a1 % 8 = 5 ∨ a1 % 8 = 6 ∨ a1 % 8 = 7 := by omega
    rcases h with h | h | h | h | h | h | h | h <;> rw [h] <;> exact ⟨_, rfl, by decide⟩
  obtain ⟨t, ht, hk, h16, h17, hw, h9⟩ := hx
  have hl : l.length < 140737488355328 := by omega
  have hw' : 0 + width t ≤ l.length := by omega
  have c0 : 0 ≤ Int.tmod a1 8 := by rw [hm]; omega
  have c1 : Int.tmod a1 8 < (([1, 2, 26, 27, 28, 18, 19, 25] : List Int).length : Int) := by rw [hm]; simp; omega
  have A (m : List Int) (X : BitVec 64) (hm : m.length = l.length) : reloc_Apply.f 14 m 0 t X.toInt = some (editOf 0 t X m, 0) := by
    have e := apply_tells 8 m 0 t X (by omega) (by omega)
    rw [applyR_some m 0 t X hk h16 h17 (by omega)] at e
    exact e
  have L (X : BitVec 64) : (editOf 0 t X l).length = l.length := (local_edit 0 t X h16 h17 8 hw l (by omega)).1
  simp only [Option.bind_some, if_neg (show ¬ (false = true) by decide), c0, c1, if_true, ht, A l V rfl, A l W rfl, A _ V (L V), A _ W (L V), edit_same 0 t _ _ l h16 h17 hk hw', h9]

end Go.Proofs.Ytooleipgpkjpjaa.Pure
