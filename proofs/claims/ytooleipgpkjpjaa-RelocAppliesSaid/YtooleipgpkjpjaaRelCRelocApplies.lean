/- Plain facts on what the document's packages answer on relocations, as the print of RelocApplies spells them. -/
import Derived.Test.YtooleipgpkjpjaaRelBRelocApplies
namespace Go.Proofs.Ytooleipgpkjpjaa.RelRelocApplies
open Go.RowKit Go.Proofs.Ytooleipgpkjpjaa.QRelocApplies Go.Proofs.YtooleipgpkjpjaaW.PrintWords Go.Proofs.YtooleipgpkjpjaaW.PrintLast Go.Proofs.YtooleipgpkjpjaaW.PrintMore Go.Proofs.Ytooleipgpkjpjaa.Bv
set_option linter.unusedSimpArgs false
set_option linter.unusedVariables false

theorem odd_i64 (v : Int) : Go.bits .and .i64 v 1 = v % 2 := by
  rw [and_i64, show BitVec.ofInt 64 1 = 1#64 from rfl]
  have h : (BitVec.ofInt 64 v &&& 1#64).toNat = (BitVec.ofInt 64 v).toNat % 2 := by
    rw [BitVec.toNat_and]; exact Nat.and_one_is_mod _
  rw [BitVec.toInt_eq_toNat_of_lt (by rw [h]; omega), h]
  have := toNat_ofInt' 64 v
  omega


theorem ref_fits (k : Nat) (f : Int) (v : Int) : dovetailref3_Fits.f (k + 1) f v = some (decide (fitsP f v)) := by
  unfold dovetailref3_Fits.f fitsP
  by_cases h1 : f = 1
  · subst h1
    simp [dovetailref3_Fits.j0]
    by_cases h : -2048 ≤ v <;> by_cases h' : v ≤ 2047 <;> simp [h, h'] 
  by_cases h2 : f = 2
  · subst h2
    simp [dovetailref3_Fits.j0]
    by_cases h : -2048 ≤ v <;> by_cases h' : v ≤ 2047 <;> simp [h, h'] 
  by_cases h3 : f = 3
  · subst h3
    simp [dovetailref3_Fits.j0, odd_i64]
    by_cases h : -4096 ≤ v <;> by_cases h' : v ≤ 4095 <;> simp [h, h'] <;> rw [Bool.eq_iff_iff] <;> simp
  by_cases h4 : f = 4
  · subst h4
    simp [dovetailref3_Fits.j0]
    by_cases h : -524288 ≤ v <;> by_cases h' : v < 524288 <;> simp [h, h'] <;> omega
  by_cases h5 : f = 5
  · subst h5
    simp [dovetailref3_Fits.j0, odd_i64]
    by_cases h : -1048576 ≤ v <;> by_cases h' : v < 1048576 <;> simp [h, h'] <;> (try rw [Bool.eq_iff_iff]) <;> (try simp) <;> omega
  simp [dovetailref3_Fits.j0, h1, h2, h3, h4, h5]
  rw [Bool.eq_iff_iff]; simp
/-- What the document's four puts leave is what the pieces of a form put. -/
theorem ref_set (f : Int) (X : BitVec 32) (V : BitVec 64) : dovetailref3_Set.f f X.toNat V.toInt = some ((putB f X V).toNat : Int) := by
  by_cases h1 : f = 1
  · subst h1; unfold dovetailref3_Set.f
    simp [dovetailref3_put.f, w64, uw64]
    simp only [and_u32, or_u32, andNot_u32, shl_u32, wrap_u64, shr_u64, mod_u32, ofInt_toNat, ofInt_toInt' 64 (Nat.le_refl 64), BitVec.setWidth_eq]
    refine congrArg (fun X : BitVec 32 => (X.toNat : Int)) ?_
    apply ext32 <;> simp [putB]
  by_cases h2 : f = 2
  · subst h2; unfold dovetailref3_Set.f
    simp [dovetailref3_put.f, w64, uw64]
    simp only [and_u32, or_u32, andNot_u32, shl_u32, wrap_u64, shr_u64, mod_u32, ofInt_toNat, ofInt_toInt' 64 (Nat.le_refl 64), BitVec.setWidth_eq]
    refine congrArg (fun X : BitVec 32 => (X.toNat : Int)) ?_
    apply ext32 <;> simp [putB]
  by_cases h3 : f = 3
  · subst h3; unfold dovetailref3_Set.f
    simp [dovetailref3_put.f, w64, uw64]
    simp only [and_u32, or_u32, andNot_u32, shl_u32, wrap_u64, shr_u64, mod_u32, ofInt_toNat, ofInt_toInt' 64 (Nat.le_refl 64), BitVec.setWidth_eq]
    refine congrArg (fun X : BitVec 32 => (X.toNat : Int)) ?_
    apply ext32 <;> simp [putB]
  by_cases h4 : f = 4
  · subst h4; unfold dovetailref3_Set.f
    simp [dovetailref3_put.f, w64, uw64]
    simp only [and_u32, or_u32, andNot_u32, shl_u32, wrap_u64, shr_u64, mod_u32, ofInt_toNat, ofInt_toInt' 64 (Nat.le_refl 64), BitVec.setWidth_eq]
    refine congrArg (fun X : BitVec 32 => (X.toNat : Int)) ?_
    apply ext32 <;> simp [putB]
  by_cases h5 : f = 5
  · subst h5; unfold dovetailref3_Set.f
    simp [dovetailref3_put.f, w64, uw64]
    simp only [and_u32, or_u32, andNot_u32, shl_u32, wrap_u64, shr_u64, mod_u32, ofInt_toNat, ofInt_toInt' 64 (Nat.le_refl 64), BitVec.setWidth_eq]
    refine congrArg (fun X : BitVec 32 => (X.toNat : Int)) ?_
    apply ext32 <;> simp [putB]
  unfold dovetailref3_Set.f
  simp [putB, h1, h2, h3, h4, h5]
theorem ref_hi (V : BitVec 64) : dovetailref3_Hi.f V.toInt = some (hiB V).toInt := by
  rw [← hi_tells]
  unfold imm_Hi.f dovetailref3_Hi.f
  simp [wrap64, IntKind.wrap, IntKind.bits, IntKind.signed]
theorem ref_lo (V : BitVec 64) : dovetailref3_Lo.f V.toInt = some (loB V).toInt := by
  rw [← lo_tells]
  unfold imm_Lo.f dovetailref3_Lo.f imm_Sign.f dovetailref3_Sign.f
  simp [w64, uw64, mn]
theorem ref_num (k : Nat) (l : List Int) (o : Nat) (ho : o < 18446744073709551616) (hl : l.length ≤ 140737488355328) (h : o + 4 ≤ l.length) :
    ∃ x, dovetailref1_Num.f (k + 6) l o 4 = some (x, true) ∧ x % 4294967296 = ((w4 l o).toNat : Int) := by
  unfold dovetailref1_Num.f
  have z : IntKind.u64.wrap (l.length : Int) = (l.length : Int) := uw64 (by omega) (by omega)
  rw [z, if_neg (by omega), uw64 (x := (l.length : Int) - o) (by omega) (by omega), show IntKind.u64.wrap 4 = 4 from uw64 (by omega) (by omega), decide_eq_false (by omega)]
  have e0 : IntKind.u64.wrap ((o : Int) + IntKind.u64.wrap 0) = (o : Int) := by rw [uw64 (x := 0) (by omega) (by omega), uw64 (by omega) (by omega)]; omega
  have e1 : IntKind.u64.wrap ((o : Int) + IntKind.u64.wrap 1) = ((o + 1 : Nat) : Int) := by rw [uw64 (x := 1) (by omega) (by omega), uw64 (by omega) (by omega)]; omega
  have e2 : IntKind.u64.wrap ((o : Int) + IntKind.u64.wrap 2) = ((o + 2 : Nat) : Int) := by rw [uw64 (x := 2) (by omega) (by omega), uw64 (by omega) (by omega)]; omega
  have e3 : IntKind.u64.wrap ((o : Int) + IntKind.u64.wrap 3) = ((o + 3 : Nat) : Int) := by rw [uw64 (x := 3) (by omega) (by omega), uw64 (by omega) (by omega)]; omega
  have c0 : (o : Int) < (l.length : Int) := by omega
  have c1 : ((o + 1 : Nat) : Int) < (l.length : Int) := by omega
  have c2 : ((o + 2 : Nat) : Int) < (l.length : Int) := by omega
  have c3 : ((o + 3 : Nat) : Int) < (l.length : Int) := by omega
  have p (m : Nat) : (0 : Int) ≤ (m : Int) := by omega
  have a0 : wrap64 (4 - 1) = 3 := by unfold wrap64; omega
  have a1 : wrap64 (3 - 1) = 2 := by unfold wrap64; omega
  have a2 : wrap64 (2 - 1) = 1 := by unfold wrap64; omega
  have a3 : wrap64 (1 - 1) = 0 := by unfold wrap64; omega
  have a4 : wrap64 (0 - 1) = -1 := by unfold wrap64; omega
  simp only [dovetailref1_Num.j0, dovetailref1_Num.l0, a0, a1, a2, a3, a4, if_neg (show ¬ (false = true) by decide), show (3:Int) ≥ 0 from by decide, show (2:Int) ≥ 0 from by decide, show (1:Int) ≥ 0 from by decide, show (0:Int) ≥ 0 from by decide, show ¬ ((-1:Int) ≥ 0) from by decide, if_true, if_false, e0, e1, e2, e3, c0, c1, c2, c3, p]
  refine ⟨_, rfl, ?_⟩
  have m8 (x : Int) : BitVec.ofInt 64 (x * 256) = BitVec.ofInt 64 x <<< 8 := ofInt_mul_pow 64 x 8
  simp only [or_u64, wrap_u64, ofInt_toNat, mod_u32, BitVec.setWidth_eq, m8]
  refine congrArg (fun X : BitVec 32 => (X.toNat : Int)) ?_
  unfold w4
  apply ext32 <;> simp <;> ac_rfl

theorem set_one (l c : List Int) (o n : Nat) (x : Int) (hn : n = o + c.length) (h : n < l.length) : (splice l o c).set n x = splice l o (c ++ [x]) := by
  subst hn
  apply List.ext_getElem?
  intro i
  rw [List.getElem?_set, splice_at l c o i (by omega), splice_at l (c ++ [x]) o i (by simp; omega), length_splice _ _ _ (by omega)]
  by_cases h1 : o + c.length = i
  · subst h1
    rw [if_pos rfl, if_pos h, if_pos (by simp)]
    simp
  · rw [if_neg h1]
    by_cases h2 : o ≤ i ∧ i < o + c.length
    · rw [if_pos h2, if_pos (by simp; omega), List.getElem?_append_left (by omega)]
    · rw [if_neg h2, if_neg (by simp; omega)]
theorem splice_nil (l : List Int) (o : Nat) : splice l o [] = l := by simp [splice]
theorem ref_set_l (Y : BitVec 64) (l : List Int) (o : Nat) (a3 : Int) (n k : Nat) (hn : a3 = (n : Int)) (h8 : n ≤ 8) (ho : o < 18446744073709551616) (hl : l.length ≤ 140737488355328) (h : o + n ≤ l.length) :
    ∀ m j : Nat, m + j = n → dovetailref1_Set.l0 (k + m + 1) o Y.toNat a3 (splice l o ((List.range j).map fun i => (((Y >>> (8 * i)).setWidth 8).toNat : Int))) j = some (splice l o ((List.range n).map fun i => (((Y >>> (8 * i)).setWidth 8).toNat : Int)), true)
  | 0, j, hj => by
    subst hn
    unfold dovetailref1_Set.l0
    rw [if_neg (by omega), show j = n from by omega]
  | m + 1, j, hj => by
    have ih := ref_set_l Y l o a3 n k hn h8 ho hl h m (j + 1) (by omega)
    subst hn
    have hz : (splice l o ((List.range j).map fun i => (((Y >>> (8 * i)).setWidth 8).toNat : Int))).length = l.length := length_splice _ _ _ (by simp; omega)
    rw [show k + (m + 1) + 1 = (k + m + 1) + 1 from by omega]
    unfold dovetailref1_Set.l0
    have e8 : wrap64 (8 * (j : Int)) = ((8 * j : Nat) : Int) := by rw [w64 (by omega) (by omega)]; omega
    have ej : IntKind.u64.wrap ((o : Int) + IntKind.u64.wrap (j : Int)) = ((o + j : Nat) : Int) := by rw [uw64 (x := (j : Int)) (by omega) (by omega), uw64 (by omega) (by omega)]; omega
    have es : wrap64 ((j : Int) + 1) = ((j + 1 : Nat) : Int) := by rw [w64 (by omega) (by omega)]; omega
    rw [if_pos (by omega), e8, if_pos (by omega), ej, if_pos (by omega), if_pos (by rw [hz]; omega), es, Int.toNat_natCast]
    rw [set_one l _ o (o + j) _ (by simp) (by omega)]
    have ex : shr .u64 (Y.toNat : Int) ((8 * j : Nat) : Int) % 256 = (((Y >>> (8 * j)).setWidth 8).toNat : Int) := by
      rw [shr_u64, Int.toNat_natCast, mod_u8, ofInt_toNat]
    rw [ex]
    rw [List.range_succ, List.map_append] at ih
    exact ih
theorem ref_set_n (Y : BitVec 64) (l : List Int) (o n k : Nat) (h1 : 1 ≤ n) (h8 : n ≤ 8) (ho : o < 18446744073709551616) (hl : l.length < 140737488355328) (h : o + n ≤ l.length) :
    dovetailref1_Set.f (k + n + 2) l o Y.toNat (n : Int) = some (splice l o ((List.range n).map fun i => (((Y >>> (8 * i)).setWidth 8).toNat : Int)), true) := by
  unfold dovetailref1_Set.f
  have z : IntKind.u64.wrap (l.length : Int) = (l.length : Int) := uw64 (by omega) (by omega)
  rw [if_neg (by omega), if_neg (by omega), z, if_neg (by omega), uw64 (x := (l.length : Int) - o) (by omega) (by omega), uw64 (x := (n : Int)) (by omega) (by omega), decide_eq_false (by omega)]
  simp only [dovetailref1_Set.j0, if_neg (show ¬ (false = true) by decide)]
  rw [if_pos (by simpa using hl)]
  have e := ref_set_l Y l o (n : Int) n k rfl h8 ho (by omega) h n 0 (by omega)
  simp only [List.range_zero, List.map_nil, splice_nil] at e
  exact e
theorem ref_set4 (k : Nat) (Y : BitVec 64) (l : List Int) (o : Nat) (ho : o < 18446744073709551616) (hl : l.length < 140737488355328) (h : o + 4 ≤ l.length) :
    dovetailref1_Set.f (k + 6) l o Y.toNat 4 = some (splice l o (b4 Y), true) := by
  have e := ref_set_n Y l o 4 k (by omega) (by omega) ho hl h
  exact e.trans (by simp [List.range, List.range.loop, b4])
theorem ref_set8 (k : Nat) (Y : BitVec 64) (l : List Int) (o : Nat) (ho : o < 18446744073709551616) (hl : l.length < 140737488355328) (h : o + 8 ≤ l.length) :
    dovetailref1_Set.f (k + 10) l o Y.toNat 8 = some (splice l o (b8 Y), true) := by
  have e := ref_set_n Y l o 8 k (by omega) (by omega) ho hl h
  exact e.trans (by simp [List.range, List.range.loop, b4, b8, ← BitVec.shiftRight_add])
theorem ref_known (t : Int) : dovetailref9_Known.f t = some (decide (knownP t)) := by
  by_cases h : knownP t
  · rw [decide_eq_true h]
    rcases known_cases h with rfl | rfl | rfl | rfl | rfl | rfl | rfl | rfl | rfl | rfl | rfl | rfl | rfl <;> simp [dovetailref9_Known.f]
  · rw [decide_eq_false h]
    unfold knownP at h
    unfold dovetailref9_Known.f
    iterate 13 rw [if_neg (by omega)]
theorem ref_width (k : Nat) (t : Int) : dovetailref9_Width.f (k + 1) t = some ((width t : Nat) : Int) := by
  unfold dovetailref9_Width.f width
  by_cases h2 : t = 2
  · subst h2; simp [dovetailref9_Width.j0]
  · rw [if_neg h2]
    by_cases h18 : t = 18
    · subst h18; simp [dovetailref9_Width.j0]
    · rw [if_neg h18]
      by_cases h19 : t = 19
      · subst h19; simp [dovetailref9_Width.j0]
      · by_cases h51 : t = 51
        · subst h51; simp [dovetailref9_Width.j0]
        · simp [dovetailref9_Width.j0, h2, h18, h19, h51]
theorem ref_within (o m n : Nat) (ho : o < 18446744073709551616) (hm : m ≤ 8) (hn : n ≤ 140737488355328) : dovetailref1_Within.f o (IntKind.u64.wrap (m : Int)) (IntKind.u64.wrap (n : Int)) = some (decide (o + m ≤ n)) := by
  unfold dovetailref1_Within.f
  rw [uw64 (x := (m : Int)) (by omega) (by omega), uw64 (x := (n : Int)) (by omega) (by omega)]
  by_cases h : (o : Int) ≤ n
  · rw [if_pos h, uw64 (by omega) (by omega)]
    congr 1; rw [Bool.eq_iff_iff]; simp; omega
  · rw [if_neg h]
    congr 1; rw [Bool.eq_iff_iff]; simp; omega
theorem ref_ins (k : Nat) (l : List Int) (o : Nat) (f : Int) (V : BitVec 64) (ho : o < 18446744073709551616) (hl : l.length < 140737488355328) (h : o + 4 ≤ l.length) :
    ((dovetailref1_Num.f (k + 6) l o 4).bind fun b => (dovetailref3_Set.f f (b.1 % 4294967296) V.toInt).bind fun t => dovetailref1_Set.f (k + 6) l o (IntKind.u64.wrap t) 4) = some (insB f l o V, true) := by
  obtain ⟨x, hx, hx'⟩ := ref_num k l o ho (by omega) h
  rw [hx, Option.bind_some, hx', ref_set, Option.bind_some, wrap_u64, ofInt_toNat, ref_set4 k _ l o ho hl h]
  rfl

theorem ref_apply (k : Nat) (l : List Int) (o : Nat) (t : Int) (V : BitVec 64) (ho : o < 18446744073709551616) (hl : l.length < 140737488355328) :
    dovetailref24_Apply.f (k + 20) l o t V.toInt = some (applyR l o t V) := by
  unfold dovetailref24_Apply.f applyR
  rw [ref_known t, Option.bind_some]
  by_cases hk : knownP t
  case neg => rw [if_neg (by simpa using hk), if_neg hk]
  rw [if_pos (by simpa using hk), if_pos hk, ref_width (k + 19) t, Option.bind_some, ref_within o (width t) l.length ho (by unfold width; split <;> (try split) <;> omega) (by omega), Option.bind_some]
  by_cases hw : o + width t ≤ l.length
  case neg => rw [if_neg (by simpa using hw), if_neg hw]
  rw [if_pos (by simpa using hw), if_pos hw]
  have hl' : l.length ≤ 140737488355328 := by omega
  have hput (j : Nat) (f : Int) (W : BitVec 64) (h : o + 4 ≤ l.length) := ref_ins j l o f W ho hl h
  have hf3 : (∃ b, decide (fitsP 3 V.toInt) = b) := ⟨_, rfl⟩
  by_cases h51 : t = 51
  · subst h51
    simp [applyS, hl]
  have h4 : o + 4 ≤ l.length := by unfold width at hw; split at hw <;> (try split at hw) <;> omega
  obtain ⟨x, hx, hx'⟩ := ref_num (k + 9) l o ho hl' h4
  have hx14 : dovetailref1_Num.f (k + 15) l o 4 = some (x, true) := hx
  have hx16 : dovetailref1_Num.f (k + 16) l o 4 = some (x, true) :=
    dovetailref1_Num.mono _ _ _ _ _ hx14
  have S16 (Y : BitVec 64) : dovetailref1_Set.f (k + 16) l o Y.toNat 4 = some (splice l o (b4 Y), true) := ref_set4 (k + 10) Y l o ho hl h4
  have S15 (Y : BitVec 64) : dovetailref1_Set.f (k + 15) l o Y.toNat 4 = some (splice l o (b4 Y), true) := ref_set4 (k + 9) Y l o ho hl h4
  have S19 (Y : BitVec 64) : dovetailref1_Set.f (k + 19) l o Y.toNat 4 = some (splice l o (b4 Y), true) := ref_set4 (k + 13) Y l o ho hl h4
  have T (f : Int) (W : BitVec 64) : (dovetailref3_Set.f f (x % 4294967296) W.toInt) = some ((putB f (w4 l o) W).toNat : Int) := by rw [hx', ref_set]
  have U (X : BitVec 32) : IntKind.u64.wrap (X.toNat : Int) = ((X.setWidth 64).toNat : Int) := by rw [wrap_u64, ofInt_toNat]
  have M (X : BitVec 32) : (X.toNat : Int) % 18446744073709551616 = ((X.setWidth 64).toNat : Int) := by rw [mod_u64, ofInt_toNat]
  rcases known_cases hk with rfl | rfl | rfl | rfl | rfl | rfl | rfl | rfl | rfl | rfl | rfl | rfl | rfl
  · have w1 : width 1 = 4 := by decide
    simp [w1, dovetailref24_Apply.j0, u64_toInt, S19, applyS]
  · have h8 : o + 8 ≤ l.length := by simpa [width] using hw
    have w1 : width 2 = 8 := by decide
    have S8 : dovetailref1_Set.f (k + 19) l o V.toNat 8 = some (splice l o (b8 V), true) := ref_set8 (k + 9) V l o ho hl h8
    simp [w1, dovetailref24_Apply.j0, u64_toInt, S8, applyS]
  · by_cases hf : fitsP 3 V.toInt <;> simp [dovetailref24_Apply.j0, dovetailref24_Apply.j1, dovetailref24_Apply.j2, dovetailref24_Apply.j3, dovetailref24_Apply.j4, dovetailref24_Apply.j5, ref_hi, ref_fits, hf, hx14, hx16, T, S15, S16, applyS, insB] <;> (try simp only [U, M, S15, S16, Option.bind_some])
  · by_cases hf : fitsP 5 V.toInt <;> simp [dovetailref24_Apply.j0, dovetailref24_Apply.j1, dovetailref24_Apply.j2, dovetailref24_Apply.j3, dovetailref24_Apply.j4, dovetailref24_Apply.j5, ref_hi, ref_fits, hf, hx14, hx16, T, S15, S16, applyS, insB] <;> (try simp only [U, M, S15, S16, Option.bind_some])
  · have h8 : o + 8 ≤ l.length := by simpa [width] using hw
    have hz : (splice l o (b4 ((putB 4 (w4 l o) (hiB V)).setWidth 64))).length = l.length := insB_length 4 l o (hiB V) h4
    have w' : w4 (splice l o (b4 ((putB 4 (w4 l o) (hiB V)).setWidth 64))) (o + 4) = w4 l (o + 4) :=
      w4_at _ _ _ (fun i a b => (local_insB 4 o (hiB V) l h4).2.1 i (by omega))
    obtain ⟨y, hy, hy'⟩ := ref_num (k + 8) l (o + 4) (by omega) hl' (by omega)
    have hy14 : dovetailref1_Num.f (k + 14) l ((o : Int) + 4) 4 = some (y, true) := hy
    have e4 : IntKind.u64.wrap ((o : Int) + 4) = (o : Int) + 4 := uw64 (by omega) (by omega)
    have T' (f : Int) (W : BitVec 64) : (dovetailref3_Set.f f (y % 4294967296) W.toInt) = some ((putB f (w4 l (o + 4)) W).toNat : Int) := by rw [hy', ref_set]
    have S14 (Y : BitVec 64) : dovetailref1_Set.f (k + 14) (splice l o (b4 ((putB 4 (w4 l o) (hiB V)).setWidth 64))) ((o : Int) + 4) Y.toNat 4 = some (splice (splice l o (b4 ((putB 4 (w4 l o) (hiB V)).setWidth 64))) (o + 4) (b4 Y), true) := ref_set4 (k + 8) Y _ (o + 4) (by omega) (by omega) (by omega)
    simp [dovetailref24_Apply.j0, dovetailref24_Apply.j1, dovetailref24_Apply.j2, dovetailref24_Apply.j3, dovetailref24_Apply.j4, dovetailref24_Apply.j5, ref_hi, ref_lo, hx14, T, S15, applyS, insB, w', e4, hy14, T', S14]
    simp only [U, M, S15, Option.bind_some, e4, hy14, T', S14]
  · have h8 : o + 8 ≤ l.length := by simpa [width] using hw
    have hz : (splice l o (b4 ((putB 4 (w4 l o) (hiB V)).setWidth 64))).length = l.length := insB_length 4 l o (hiB V) h4
    have w' : w4 (splice l o (b4 ((putB 4 (w4 l o) (hiB V)).setWidth 64))) (o + 4) = w4 l (o + 4) :=
      w4_at _ _ _ (fun i a b => (local_insB 4 o (hiB V) l h4).2.1 i (by omega))
    obtain ⟨y, hy, hy'⟩ := ref_num (k + 8) l (o + 4) (by omega) hl' (by omega)
    have hy14 : dovetailref1_Num.f (k + 14) l ((o : Int) + 4) 4 = some (y, true) := hy
    have e4 : IntKind.u64.wrap ((o : Int) + 4) = (o : Int) + 4 := uw64 (by omega) (by omega)
    have T' (f : Int) (W : BitVec 64) : (dovetailref3_Set.f f (y % 4294967296) W.toInt) = some ((putB f (w4 l (o + 4)) W).toNat : Int) := by rw [hy', ref_set]
    have S14 (Y : BitVec 64) : dovetailref1_Set.f (k + 14) (splice l o (b4 ((putB 4 (w4 l o) (hiB V)).setWidth 64))) ((o : Int) + 4) Y.toNat 4 = some (splice (splice l o (b4 ((putB 4 (w4 l o) (hiB V)).setWidth 64))) (o + 4) (b4 Y), true) := ref_set4 (k + 8) Y _ (o + 4) (by omega) (by omega) (by omega)
    simp [dovetailref24_Apply.j0, dovetailref24_Apply.j1, dovetailref24_Apply.j2, dovetailref24_Apply.j3, dovetailref24_Apply.j4, dovetailref24_Apply.j5, ref_hi, ref_lo, hx14, T, S15, applyS, insB, w', e4, hy14, T', S14]
    simp only [U, M, S15, Option.bind_some, e4, hy14, T', S14]
  · simp [dovetailref24_Apply.j0, dovetailref24_Apply.j1, dovetailref24_Apply.j2, dovetailref24_Apply.j3, dovetailref24_Apply.j4, dovetailref24_Apply.j5, ref_hi, ref_lo, hx14, hx16, T, S15, S16, applyS, insB] <;> (try simp only [U, M, S15, S16, Option.bind_some])
  · simp [dovetailref24_Apply.j0, dovetailref24_Apply.j1, dovetailref24_Apply.j2, dovetailref24_Apply.j3, dovetailref24_Apply.j4, dovetailref24_Apply.j5, ref_hi, ref_lo, hx14, hx16, T, S15, S16, applyS, insB] <;> (try simp only [U, M, S15, S16, Option.bind_some])
  · simp [dovetailref24_Apply.j0, dovetailref24_Apply.j1, dovetailref24_Apply.j2, dovetailref24_Apply.j3, dovetailref24_Apply.j4, dovetailref24_Apply.j5, ref_hi, ref_lo, hx14, hx16, T, S15, S16, applyS, insB] <;> (try simp only [U, M, S15, S16, Option.bind_some])
  · simp [dovetailref24_Apply.j0, dovetailref24_Apply.j1, dovetailref24_Apply.j2, dovetailref24_Apply.j3, dovetailref24_Apply.j4, dovetailref24_Apply.j5, ref_hi, ref_lo, hx14, hx16, T, S15, S16, applyS, insB] <;> (try simp only [U, M, S15, S16, Option.bind_some])
  · simp [dovetailref24_Apply.j0, dovetailref24_Apply.j1, dovetailref24_Apply.j2, dovetailref24_Apply.j3, dovetailref24_Apply.j4, dovetailref24_Apply.j5, ref_hi, ref_lo, hx14, hx16, T, S15, S16, applyS, insB] <;> (try simp only [U, M, S15, S16, Option.bind_some])
  · simp [dovetailref24_Apply.j0, dovetailref24_Apply.j1, dovetailref24_Apply.j2, dovetailref24_Apply.j3, dovetailref24_Apply.j4, dovetailref24_Apply.j5, ref_hi, ref_lo, hx14, hx16, T, S15, S16, applyS, insB] <;> (try simp only [U, M, S15, S16, Option.bind_some])
  · exact absurd rfl h51

end Go.Proofs.Ytooleipgpkjpjaa.RelRelocApplies
