/- Plain facts on a relocation's number, as the print of RelocEdges spells it: which numbers each type takes, what a type, a symbol, an addend and a place come to. -/
import Derived.Test.YtooleipgpkjpjaaRelARelocEdges
namespace Go.Proofs.Ytooleipgpkjpjaa.RelRelocEdges
open Go.RowKit Go.Proofs.Ytooleipgpkjpjaa.QRelocEdges Go.Proofs.YtooleipgpkjpjaaW.PrintWords Go.Proofs.YtooleipgpkjpjaaW.PrintLast Go.Proofs.YtooleipgpkjpjaaW.PrintMore Go.Proofs.Ytooleipgpkjpjaa.Bv
set_option linter.unusedSimpArgs false
set_option linter.unusedVariables false

/-- Which numbers a type takes. -/
def okV (t v : Int) : Prop :=
  if t = 1 then -2147483648 ≤ v ∧ v ≤ 4294967295 else if t = 2 then True else if t = 16 then fitsP 3 v else if t = 17 then fitsP 5 v else -2147485696 ≤ v ∧ v ≤ 2147481599
instance (t v : Int) : Decidable (okV t v) := by unfold okV; infer_instance
theorem field_word32 (k : Nat) : reloc_Field.f k 1 = some (⟨#[119, 111, 114, 100, 51, 50]⟩ : ByteArray) := rfl
theorem fits_ok (k : Nat) (t v : Int) (hk : knownP t) (h51 : t ≠ 51) : reloc_fits.f (k + 4) t v = some (decide (okV t v)) := by
  rcases known_cases hk with rfl | rfl | rfl | rfl | rfl | rfl | rfl | rfl | rfl | rfl | rfl | rfl | rfl
  · simp only [reloc_fits.f, reloc_Field.f, Option.bind_some]
    simp [okV]; by_cases h : -2147483648 ≤ v <;> simp [h]
  · simp [reloc_fits.f, reloc_Field.f, okV]
  · simp [reloc_fits.f, reloc_Field.f, okV, fits_tells]
  · simp [reloc_fits.f, reloc_Field.f, okV, fits_tells]
  all_goals first
    | exact absurd rfl h51
    | (simp [reloc_fits.f, reloc_Field.f, reloc_Field.j0, reloc_Field.j1, reloc_Field.j2, okV]; by_cases h : -2147485696 ≤ v <;> simp [h])
/-- What a relocation comes to. -/
def symV (s add : Int) : Int := IntKind.u64.wrap (s + IntKind.u64.wrap add)
def numV (t s add p : Int) : Int := if t = 1 ∨ t = 2 ∨ t = 26 ∨ t = 27 ∨ t = 28 then wrap64 (symV s add) else wrap64 (IntKind.u64.wrap (symV s add - p))
def valR (t s add p : Int) : Int × Int :=
  if knownP t then (if t = 51 then (0, 0) else if okV t (numV t s add p) then (numV t s add p, 0) else (0, 61)) else (0, 60)
theorem val_tells (k : Nat) (t s add p : Int) : reloc_Value.f (k + 6) t s add p = some (valR t s add p) := by
  unfold reloc_Value.f valR
  rw [known_tells (k + 5) t, Option.bind_some]
  by_cases hk : knownP t
  case neg => rw [if_neg (by simpa using hk), if_neg hk]
  rw [if_pos (by simpa using hk), if_pos hk]
  by_cases h51 : t = 51
  · rw [if_pos h51, if_pos h51]
  rw [if_neg h51, if_neg h51]
  have F (v : Int) : reloc_fits.f (k + 5) t v = some (decide (okV t v)) := fits_ok (k + 1) t v hk h51
  have J (x : Int) (b : Bool) : reloc_Value.j0 (k + 6) t p x b = some (if okV t (if b = true then wrap64 x else wrap64 (IntKind.u64.wrap (x - p))) then (if b = true then wrap64 x else wrap64 (IntKind.u64.wrap (x - p)), 0) else (0, 61)) := by
    rw [reloc_Value.j0]
    cases b
    · simp only [Bool.false_eq_true, if_false, F, Option.bind_some, decide_eq_true_eq]; split <;> rfl
    · simp only [if_true, F, Option.bind_some, decide_eq_true_eq]; split <;> rfl
  simp only [J]
  have e : IntKind.u64.wrap (s + IntKind.u64.wrap add) = symV s add := rfl
  rw [e]
  unfold numV
  by_cases h1 : t = 1
  · subst h1; simp
  by_cases h2 : t = 2
  · subst h2; simp
  by_cases h26 : t = 26
  · subst h26; simp
  by_cases h27 : t = 27
  · subst h27; simp
  simp [h1, h2, h26, h27]

end Go.Proofs.Ytooleipgpkjpjaa.RelRelocEdges
