/- RelocValues: any type, symbol, addend and place come to the document's value, or are out of range. No condition beside the statement's own. -/
import Derived.Test.YtooleipgpkjpjaaRelVRelocValues
namespace Go.Proofs.Ytooleipgpkjpjaa.Pure
open Go.RowKit Go.Proofs.Ytooleipgpkjpjaa.QRelocValues Go.Proofs.YtooleipgpkjpjaaW.PrintWords Go.Proofs.YtooleipgpkjpjaaW.PrintLast Go.Proofs.YtooleipgpkjpjaaW.PrintMore Go.Proofs.Ytooleipgpkjpjaa.Bv Go.Proofs.Ytooleipgpkjpjaa.RelRelocValues
set_option linter.unusedSimpArgs false
set_option linter.unusedVariables false

theorem odd_i64 (v : Int) : Go.bits .and .i64 v 1 = v % 2 := by
  rw [and_i64, show BitVec.ofInt 64 1 = 1#64 from rfl]
  have h : (BitVec.ofInt 64 v &&& 1#64).toNat = (BitVec.ofInt 64 v).toNat % 2 := by
    rw [BitVec.toNat_and]; exact Nat.and_one_is_mod _
  rw [BitVec.toInt_eq_toNat_of_lt (by rw [h]; omega), h]
  have := toNat_ofInt' 64 v
  omega


theorem ref_fits (k : Nat) (f : Int) (v : Int) : dovetailref3_Fits.f (k + 1) f v = some (decide (fitsP f v)) := by
  unfold dovetailref3_Fits.f fitsP
  by_cases h1 : f = 1
  · subst h1
    simp [dovetailref3_Fits.j0]
    by_cases h : -2048 ≤ v <;> by_cases h' : v ≤ 2047 <;> simp [h, h'] 
  by_cases h2 : f = 2
  · subst h2
    simp [dovetailref3_Fits.j0]
    by_cases h : -2048 ≤ v <;> by_cases h' : v ≤ 2047 <;> simp [h, h'] 
  by_cases h3 : f = 3
  · subst h3
    simp [dovetailref3_Fits.j0, odd_i64]
    by_cases h : -4096 ≤ v <;> by_cases h' : v ≤ 4095 <;> simp [h, h'] <;> rw [Bool.eq_iff_iff] <;> simp
  by_cases h4 : f = 4
  · subst h4
    simp [dovetailref3_Fits.j0]
    by_cases h : -524288 ≤ v <;> by_cases h' : v < 524288 <;> simp [h, h'] <;> omega
  by_cases h5 : f = 5
  · subst h5
    simp [dovetailref3_Fits.j0, odd_i64]
    by_cases h : -1048576 ≤ v <;> by_cases h' : v < 1048576 <;> simp [h, h'] <;> (try rw [Bool.eq_iff_iff]) <;> (try simp) <;> omega
  simp [dovetailref3_Fits.j0, h1, h2, h3, h4, h5]
  rw [Bool.eq_iff_iff]; simp
theorem ref_known (t : Int) : dovetailref9_Known.f t = some (decide (knownP t)) := by
  by_cases h : knownP t
  · rw [decide_eq_true h]
    rcases known_cases h with rfl | rfl | rfl | rfl | rfl | rfl | rfl | rfl | rfl | rfl | rfl | rfl | rfl <;> simp [dovetailref9_Known.f]
  · rw [decide_eq_false h]
    unfold knownP at h
    unfold dovetailref9_Known.f
    iterate 13 rw [if_neg (by omega)]
theorem ref_near (v : Int) : dovetailref24_near.f v = some (decide (-2147485696 ≤ v ∧ v ≤ 2147481599)) := by
  unfold dovetailref24_near.f
  by_cases h : v ≥ -2147485696
  · rw [if_pos h]; congr 1; rw [Bool.eq_iff_iff]; simp; omega
  · rw [if_neg h]; congr 1; rw [Bool.eq_iff_iff]; simp; omega
theorem ref_val (k : Nat) (t s add p : Int) : dovetailref24_Value.f (k + 6) t s add p = some (valR t s add p) := by
  unfold dovetailref24_Value.f valR
  rw [ref_known t, Option.bind_some]
  by_cases hk : knownP t
  case neg => rw [if_neg (by simpa using hk), if_neg hk]
  rw [if_pos (by simpa using hk), if_pos hk]
  have e : IntKind.u64.wrap (s + IntKind.u64.wrap add) = symV s add := rfl
  simp only [e]
  obtain ⟨x, hx⟩ : ∃ x, symV s add = x := ⟨_, rfl⟩
  unfold numV
  simp only [hx]
  obtain ⟨y, hy⟩ : ∃ y, wrap64 x = y := ⟨_, rfl⟩
  obtain ⟨z, hz⟩ : ∃ z, wrap64 (IntKind.u64.wrap (x - p)) = z := ⟨_, rfl⟩
  simp only [hy, hz]
  have F3 : dovetailref3_Fits.f (k + 5) 3 z = some (decide (fitsP 3 z)) := ref_fits (k + 4) 3 z
  have F5 : dovetailref3_Fits.f (k + 5) 5 z = some (decide (fitsP 5 z)) := ref_fits (k + 4) 5 z
  rcases known_cases hk with rfl | rfl | rfl | rfl | rfl | rfl | rfl | rfl | rfl | rfl | rfl | rfl | rfl
  · simp [okV]
    by_cases h : -2147483648 ≤ y <;> by_cases h' : y ≤ 4294967295 <;> simp [h, h']
  · simp [okV]
  · by_cases h : fitsP 3 z <;> simp [dovetailref24_Value.j0, e, hx, hy, hz, F3, okV, h]
  · by_cases h : fitsP 5 z <;> simp [dovetailref24_Value.j0, e, hx, hy, hz, F5, okV, h]
  all_goals first
    | (simp; done)
    | (simp [dovetailref24_Value.j0, e, hx, hy, hz, ref_near, okV]; by_cases h : -2147485696 ≤ y <;> by_cases h' : y ≤ 2147481599 <;> simp [h, h']; done)
    | (simp [dovetailref24_Value.j0, e, hx, hy, hz, ref_near, okV]; by_cases h : -2147485696 ≤ z <;> by_cases h' : z ≤ 2147481599 <;> simp [h, h']; done)
theorem field_eq (k : Nat) (t : Int) : ∃ b, reloc_Field.f (k + 4) t = some b ∧ dovetailref24_Field.f (k + 4) t = some b := by
  by_cases hk : knownP t
  · rcases known_cases hk with rfl | rfl | rfl | rfl | rfl | rfl | rfl | rfl | rfl | rfl | rfl | rfl | rfl <;> exact ⟨_, rfl, rfl⟩
  · unfold knownP at hk
    refine ⟨⟨#[]⟩, ?_, ?_⟩
    · unfold reloc_Field.f
      iterate 5 rw [if_neg (by omega)]
      have h (n : Int) (hn : t ≠ n) : (t == n) = false := by simp [hn]
      simp only [reloc_Field.j0, reloc_Field.j1, reloc_Field.j2, h 19 (by omega), h 23 (by omega), h 26 (by omega), h 24 (by omega), h 27 (by omega), Bool.false_eq_true, if_false, if_neg (show t ≠ 23 by omega), if_neg (show t ≠ 24 by omega), if_neg (show t ≠ 25 by omega), if_neg (show t ≠ 28 by omega)]
    · unfold dovetailref24_Field.f
      iterate 5 rw [if_neg (by omega)]
      have h (n : Int) (hn : t ≠ n) : (t == n) = false := by simp [hn]
      simp only [dovetailref24_Field.j0, dovetailref24_Field.j1, dovetailref24_Field.j2, h 19 (by omega), h 23 (by omega), h 26 (by omega), h 24 (by omega), h 27 (by omega), Bool.false_eq_true, if_false, if_neg (show t ≠ 26 by omega), if_neg (show t ≠ 27 by omega), if_neg (show t ≠ 25 by omega), if_neg (show t ≠ 28 by omega)]
theorem known_ok : dovetaillaw24_known.f 20 = some true := by decide +kernel
theorem RelocValues : dovetaillaw24_RelocValues.Pure := by
  intro t s add p _ _ _ _
  refine ⟨20, ?_⟩
  unfold dovetaillaw24_RelocValues.f
  rw [known_ok, Option.bind_some, if_pos rfl]
  have r0 (x y : Int) : rd [x, y] 0 = x := rfl
  have r1 (x y : Int) : rd [x, y] 1 = y := rfl
  have n2 (x y : Int) : (([x, y] : List Int).length : Int) = 2 := rfl
  have s0 : wrap64 (0 + 1) = 1 := by unfold wrap64; omega
  have s1 : wrap64 (1 + 1) = 2 := by unfold wrap64; omega
  have R (j : Nat) (i : Int) (l : List Int) (h0 : 0 ≤ i) (h1 : i < (l.length : Int)) (h2 : (l.length : Int) = 2) : dovetaillaw24_RelocValues.l0 (j + 7) s add p l 2 i = dovetaillaw24_RelocValues.l0 (j + 6) s add p l 2 (wrap64 (i + 1)) := by
    obtain ⟨b, e1, e2⟩ := field_eq (j + 2) (rd l i)
    rw [dovetaillaw24_RelocValues.l0, if_pos (by omega), if_pos h0, if_pos h1, val_tells j, ref_val j, Option.bind_some, Option.bind_some, if_pos rfl, if_pos rfl,
      show reloc_Field.f (j + 6) (rd l i) = _ from e1, show dovetailref24_Field.f (j + 6) (rd l i) = _ from e2, Option.bind_some, Option.bind_some, if_pos rfl]
  simp only [Option.bind_some]
  rw [n2, R 13 0 _ (by decide) (by rw [n2]; decide) (n2 _ _), s0, R 12 1 _ (by decide) (by rw [n2]; decide) (n2 _ _), s1, dovetaillaw24_RelocValues.l0, if_neg (by decide)]

end Go.Proofs.Ytooleipgpkjpjaa.Pure
