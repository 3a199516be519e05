/- RelocApplies: any value, put at any place of any bytes, by any type, leaves just the document's bytes, or is refused, and what was handed in stays. No condition beside the statement's own. -/
import Derived.Test.YtooleipgpkjpjaaRelCRelocApplies
namespace Go.Proofs.Ytooleipgpkjpjaa.Pure
open Go.RowKit Go.Proofs.Ytooleipgpkjpjaa.QRelocApplies Go.Proofs.YtooleipgpkjpjaaW.PrintWords Go.Proofs.YtooleipgpkjpjaaW.PrintLast Go.Proofs.YtooleipgpkjpjaaW.PrintMore Go.Proofs.Ytooleipgpkjpjaa.Bv Go.Proofs.Ytooleipgpkjpjaa.RelRelocApplies
set_option linter.unusedSimpArgs false
set_option linter.unusedVariables false

theorem known_ok : dovetaillaw24_known.f 40 = some true := by decide +kernel
theorem RelocApplies : dovetaillaw24_RelocApplies.Pure := by
  intro l a1 a2 a3 _ _ _ w1 w2 w3
  refine ⟨40, ?_⟩
  unfold dovetaillaw24_RelocApplies.f
  rw [known_ok, Option.bind_some, if_pos rfl]
  by_cases h200 : (l.length : Int) > 200
  · rw [if_pos h200]
  rw [if_neg h200]
  obtain ⟨V, rfl⟩ := wf_i64 w3
  have b1 := bd_u64 w1
  obtain ⟨o, rfl⟩ : ∃ o : Nat, a1 = (o : Int) := ⟨a1.toNat, by omega⟩
  have ho : o < 18446744073709551616 := by omega
  have hl : l.length < 140737488355328 := by omega
  have hm : Int.tmod (o : Int) 16 = ((o % 16 : Nat) : Int) := by rw [Int.tmod_eq_emod_of_nonneg (by omega)]; omega
  have A (j : Nat) (p : Nat) (hp : p < 18446744073709551616) (t : Int) : reloc_Apply.f (j + 20) l p t V.toInt = some (applyR l p t V) := apply_tells (j + 14) l p t V hp hl
  have B (j : Nat) (p : Nat) (hp : p < 18446744073709551616) (t : Int) : dovetailref24_Apply.f (j + 20) l p t V.toInt = some (applyR l p t V) := ref_apply j l p t V hp hl
  have r0 (x y : Int) : rd [x, y] 0 = x := rfl
  have r1 (x y : Int) : rd [x, y] 1 = y := rfl
  have n2 (x y : Int) : (([x, y] : List Int).length : Int) = 2 := rfl
  have s0 : wrap64 (0 + 1) = 1 := by unfold wrap64; omega
  have s1 : wrap64 (1 + 1) = 2 := by unfold wrap64; omega
  have L1 (j : Nat) (t : Int) (x28 : List Int) (x29 x30 : Int) : dovetaillaw24_RelocApplies.l1 (j + 23) l o V.toInt (strOfNums l) t x28 x29 x30 [(o : Int), Int.tmod o 16] 2 0 = dovetaillaw24_RelocApplies.l0 (j + 20) l o V.toInt (strOfNums l) x28 x29 (wrap64 (x30 + 1)) := by
    have e1 := A (j + 2) o ho t
    have e2 := B (j + 2) o ho t
    have e3 := A (j + 1) (o % 16) (by omega) t
    have e4 := B (j + 1) (o % 16) (by omega) t
    rw [dovetaillaw24_RelocApplies.l1, n2, if_pos (by decide), if_pos (by decide), if_pos (by decide), r0]
    rw [show reloc_Apply.f (j + 22) l o t V.toInt = _ from e1, show dovetailref24_Apply.f (j + 22) l o t V.toInt = _ from e2]
    simp only [Option.bind_some, if_true]
    rw [s0, dovetaillaw24_RelocApplies.l1, n2, if_pos (by decide), if_pos (by decide), if_pos (by decide), r1, hm]
    rw [show reloc_Apply.f (j + 21) l ((o % 16 : Nat) : Int) t V.toInt = _ from e3, show dovetailref24_Apply.f (j + 21) l ((o % 16 : Nat) : Int) t V.toInt = _ from e4]
    simp only [Option.bind_some, if_true]
    rw [s1, dovetaillaw24_RelocApplies.l1, if_neg (by decide)]
  simp only [Option.bind_some]
  rw [n2, dovetaillaw24_RelocApplies.l0, n2, if_pos (by decide), if_pos (by decide), if_pos (by decide), r0]
  simp only [Option.bind_some]
  rw [n2, L1 16, s0, dovetaillaw24_RelocApplies.l0, n2, if_pos (by decide), if_pos (by decide), if_pos (by decide), r1]
  simp only [Option.bind_some]
  rw [n2, L1 12, s1, dovetaillaw24_RelocApplies.l0, if_neg (by decide)]
  simp

end Go.Proofs.Ytooleipgpkjpjaa.Pure
