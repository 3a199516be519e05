/- Plain facts on the program's immediates (package imm), as the print of ImmRanges spells them: which numbers fit, what is put, what is got. -/
import Derived.Test.YtpjjgipomjenlaaPImmRangesx1
import Derived.Test.YtpjjgipomjenlaaBv
namespace Go.Proofs.Ytpjjgipomjenlaa.ImmImmRanges
open Go.RowKit Go.Proofs.Ytpjjgipomjenlaa.PImmRanges Go.Proofs.YtpjjgipomjenlaaW.PrintWords Go.Proofs.YtpjjgipomjenlaaW.PrintLast Go.Proofs.YtpjjgipomjenlaaW.PrintMore Go.Proofs.Ytpjjgipomjenlaa.Bv
set_option linter.unusedSimpArgs false
set_option linter.unusedVariables false

theorem sg12 (v : Int) : shr .i64 (wrap64 (shl .u64 (IntKind.u64.wrap v) 52)) 52 = (v + 2048) % 4096 - 2048 := by
  simp [shr, shl, wrap64, IntKind.bits, IntKind.wrap, IntKind.signed]
  omega
theorem sg13 (v : Int) : shr .i64 (wrap64 (shl .u64 (IntKind.u64.wrap v) 51)) 51 = (v + 4096) % 8192 - 4096 := by
  simp [shr, shl, wrap64, IntKind.bits, IntKind.wrap, IntKind.signed]
  omega
theorem sg20 (v : Int) : shr .i64 (wrap64 (shl .u64 (IntKind.u64.wrap v) 44)) 44 = (v + 524288) % 1048576 - 524288 := by
  simp [shr, shl, wrap64, IntKind.bits, IntKind.wrap, IntKind.signed]
  omega
theorem sg21 (v : Int) : shr .i64 (wrap64 (shl .u64 (IntKind.u64.wrap v) 43)) 43 = (v + 1048576) % 2097152 - 1048576 := by
  simp [shr, shl, wrap64, IntKind.bits, IntKind.wrap, IntKind.signed]
  omega
theorem tmod2 (v : Int) : v.tmod 2 = 0 ↔ v % 2 = 0 :=
  ⟨fun h => Int.emod_eq_zero_of_dvd (Int.dvd_of_tmod_eq_zero h), fun h => Int.tmod_eq_zero_of_dvd (Int.dvd_of_emod_eq_zero h)⟩

/-- Which numbers fit a form. -/
def fitsP (f v : Int) : Prop :=
  if f = 1 ∨ f = 2 then -2048 ≤ v ∧ v ≤ 2047 else if f = 3 then -4096 ≤ v ∧ v ≤ 4095 ∧ v % 2 = 0 else if f = 4 then -524288 ≤ v ∧ v ≤ 524287 else if f = 5 then -1048576 ≤ v ∧ v ≤ 1048575 ∧ v % 2 = 0 else v = 0
instance (f v : Int) : Decidable (fitsP f v) := by unfold fitsP; infer_instance
theorem fits_tells (f v : Int) : imm_Fits.f f v = some (decide (fitsP f v)) := by
  by_cases h1 : f = 1
  · subst h1; unfold imm_Fits.f imm_pieces.f imm_Sign.f fitsP
    simp [w64, uw64, mn, sg12]
    rw [Bool.eq_iff_iff]; simp; omega
  · by_cases h2 : f = 2
    · subst h2; unfold imm_Fits.f imm_pieces.f imm_Sign.f fitsP
      simp [w64, uw64, mn, sg12]
      rw [Bool.eq_iff_iff]; simp; omega
    · by_cases h3 : f = 3
      · subst h3; unfold imm_Fits.f imm_pieces.f imm_Sign.f fitsP
        simp [w64, uw64, mn, sg13, tmod2]
        by_cases h0 : v % 2 = 0 <;> simp [h0]
        rw [Bool.eq_iff_iff]; simp; omega
      · by_cases h4 : f = 4
        · subst h4; unfold imm_Fits.f imm_pieces.f imm_Sign.f fitsP
          simp [w64, uw64, mn, sg20]
          rw [Bool.eq_iff_iff]; simp; omega
        · by_cases h5 : f = 5
          · subst h5; unfold imm_Fits.f imm_pieces.f imm_Sign.f fitsP
            simp [w64, uw64, mn, sg21, tmod2]
            by_cases h0 : v % 2 = 0 <;> simp [h0]
            rw [Bool.eq_iff_iff]; simp; omega
          · unfold imm_Fits.f imm_pieces.f imm_Sign.f fitsP
            simp [h1, h2, h3, h4, h5]
            rw [Bool.eq_iff_iff]; simp; exact eq_comm

/-- What a form's pieces put, and what they get. -/
def putB (f : Int) (X : BitVec 32) (V : BitVec 64) : BitVec 32 :=
  if f = 1 then (X &&& 0x000fffff#32) ||| ((V.setWidth 32 &&& 0xfff#32) <<< 20)
  else if f = 2 then (X &&& 0x01fff07f#32) ||| ((V.setWidth 32 &&& 0x1f#32) <<< 7) ||| (((V >>> 5).setWidth 32 &&& 0x7f#32) <<< 25)
  else if f = 3 then (X &&& 0x01fff07f#32) ||| (((V >>> 1).setWidth 32 &&& 0xf#32) <<< 8) ||| (((V >>> 5).setWidth 32 &&& 0x3f#32) <<< 25) ||| (((V >>> 11).setWidth 32 &&& 1#32) <<< 7) ||| (((V >>> 12).setWidth 32 &&& 1#32) <<< 31)
  else if f = 4 then (X &&& 0x00000fff#32) ||| ((V.setWidth 32 &&& 0xfffff#32) <<< 12)
  else if f = 5 then (X &&& 0x00000fff#32) ||| (((V >>> 1).setWidth 32 &&& 0x3ff#32) <<< 21) ||| (((V >>> 11).setWidth 32 &&& 1#32) <<< 20) ||| (((V >>> 12).setWidth 32 &&& 0xff#32) <<< 12) ||| (((V >>> 20).setWidth 32 &&& 1#32) <<< 31)
  else X
def getB (f : Int) (X : BitVec 32) : BitVec 64 :=
  if f = 1 then (((X >>> 20).setWidth 64 <<< 52).sshiftRight 52)
  else if f = 2 then (((((X >>> 7).setWidth 64 &&& 0x1f#64) ||| ((X >>> 25).setWidth 64 &&& 0x7f#64) <<< 5) <<< 52).sshiftRight 52)
  else if f = 3 then (((((X >>> 8).setWidth 64 &&& 0xf#64) <<< 1 ||| ((X >>> 25).setWidth 64 &&& 0x3f#64) <<< 5 ||| ((X >>> 7).setWidth 64 &&& 1#64) <<< 11 ||| ((X >>> 31).setWidth 64 &&& 1#64) <<< 12) <<< 51).sshiftRight 51)
  else if f = 4 then (((X >>> 12).setWidth 64 <<< 44).sshiftRight 44)
  else if f = 5 then (((((X >>> 21).setWidth 64 &&& 0x3ff#64) <<< 1 ||| ((X >>> 20).setWidth 64 &&& 1#64) <<< 11 ||| ((X >>> 12).setWidth 64 &&& 0xff#64) <<< 12 ||| ((X >>> 31).setWidth 64 &&& 1#64) <<< 20) <<< 43).sshiftRight 43)
  else 0#64

theorem put_tells (f : Int) (X : BitVec 32) (V : BitVec 64) : imm_Put.f 10 f X.toNat V.toInt = some (if fitsP f V.toInt then (((putB f X V).toNat : Int), true) else (0, false)) := by
  have key : ((imm_pieces.f f).bind fun q => imm_Put.l0 10 X.toNat V.toInt q.1 (q.1.length : Int) 0) = some (((putB f X V).toNat : Int), true) := by
    by_cases h1 : f = 1
    · subst h1; unfold imm_pieces.f
      simp [imm_Put.l0, rd_T44, w64, uw64]
      simp only [and_u32, or_u32, andNot_u32, shl_u32, wrap_u64, shr_u64, mod_u32, ofInt_toNat, ofInt_toInt' 64 (Nat.le_refl 64), BitVec.setWidth_eq]
      refine congrArg (fun X : BitVec 32 => (X.toNat : Int)) ?_
      apply ext32 <;> simp [putB]
    · by_cases h2 : f = 2
      · subst h2; unfold imm_pieces.f
        simp [imm_Put.l0, rd_T44, w64, uw64]
        simp only [and_u32, or_u32, andNot_u32, shl_u32, wrap_u64, shr_u64, mod_u32, ofInt_toNat, ofInt_toInt' 64 (Nat.le_refl 64), BitVec.setWidth_eq]
        refine congrArg (fun X : BitVec 32 => (X.toNat : Int)) ?_
        apply ext32 <;> simp [putB]
      · by_cases h3 : f = 3
        · subst h3; unfold imm_pieces.f
          simp [imm_Put.l0, rd_T44, w64, uw64]
          simp only [and_u32, or_u32, andNot_u32, shl_u32, wrap_u64, shr_u64, mod_u32, ofInt_toNat, ofInt_toInt' 64 (Nat.le_refl 64), BitVec.setWidth_eq]
          refine congrArg (fun X : BitVec 32 => (X.toNat : Int)) ?_
          apply ext32 <;> simp [putB]
        · by_cases h4 : f = 4
          · subst h4; unfold imm_pieces.f
            simp [imm_Put.l0, rd_T44, w64, uw64]
            simp only [and_u32, or_u32, andNot_u32, shl_u32, wrap_u64, shr_u64, mod_u32, ofInt_toNat, ofInt_toInt' 64 (Nat.le_refl 64), BitVec.setWidth_eq]
            refine congrArg (fun X : BitVec 32 => (X.toNat : Int)) ?_
            apply ext32 <;> simp [putB]
          · by_cases h5 : f = 5
            · subst h5; unfold imm_pieces.f
              simp [imm_Put.l0, rd_T44, w64, uw64]
              simp only [and_u32, or_u32, andNot_u32, shl_u32, wrap_u64, shr_u64, mod_u32, ofInt_toNat, ofInt_toInt' 64 (Nat.le_refl 64), BitVec.setWidth_eq]
              refine congrArg (fun X : BitVec 32 => (X.toNat : Int)) ?_
              apply ext32 <;> simp [putB]
            · unfold imm_pieces.f
              simp [imm_Put.l0, putB, h1, h2, h3, h4, h5]
  unfold imm_Put.f
  rw [fits_tells]
  by_cases h : fitsP f V.toInt
  · simp only [h, decide_true, Option.bind_some, if_true]; exact key
  · simp only [h, decide_false, Option.bind_some, if_false]; rfl

theorem get_tells (f : Int) (X : BitVec 32) : imm_Get.f 10 f X.toNat = some (getB f X).toInt := by
  by_cases h1 : f = 1
  · subst h1; unfold imm_Get.f imm_pieces.f
    simp [imm_Get.l0, imm_Sign.f, rd_T44, w64, uw64, mn]
    simp only [and_u64, or_u64, shl_u64, shr_u64, wrap_u64, wrap_i, shr_i64, ofInt_toNat, BitVec.setWidth_eq]
    rw [getB, if_pos rfl]
    refine congrArg (fun X : BitVec 64 => ((X <<< 52).sshiftRight 52).toInt) ?_
    apply ext64 <;> simp
  · by_cases h2 : f = 2
    · subst h2; unfold imm_Get.f imm_pieces.f
      simp [imm_Get.l0, imm_Sign.f, rd_T44, w64, uw64, mn]
      simp only [and_u64, or_u64, shl_u64, shr_u64, wrap_u64, wrap_i, shr_i64, ofInt_toNat, BitVec.setWidth_eq]
      rw [getB, if_neg (by decide), if_pos rfl]
      refine congrArg (fun X : BitVec 64 => ((X <<< 52).sshiftRight 52).toInt) ?_
      apply ext64 <;> simp
    · by_cases h3 : f = 3
      · subst h3; unfold imm_Get.f imm_pieces.f
        simp [imm_Get.l0, imm_Sign.f, rd_T44, w64, uw64, mn]
        simp only [and_u64, or_u64, shl_u64, shr_u64, wrap_u64, wrap_i, shr_i64, ofInt_toNat, BitVec.setWidth_eq]
        rw [getB, if_neg (by decide), if_neg (by decide), if_pos rfl]
        refine congrArg (fun X : BitVec 64 => ((X <<< 51).sshiftRight 51).toInt) ?_
        apply ext64 <;> simp
      · by_cases h4 : f = 4
        · subst h4; unfold imm_Get.f imm_pieces.f
          simp [imm_Get.l0, imm_Sign.f, rd_T44, w64, uw64, mn]
          simp only [and_u64, or_u64, shl_u64, shr_u64, wrap_u64, wrap_i, shr_i64, ofInt_toNat, BitVec.setWidth_eq]
          rw [getB, if_neg (by decide), if_neg (by decide), if_neg (by decide), if_pos rfl]
          refine congrArg (fun X : BitVec 64 => ((X <<< 44).sshiftRight 44).toInt) ?_
          apply ext64 <;> simp
        · by_cases h5 : f = 5
          · subst h5; unfold imm_Get.f imm_pieces.f
            simp [imm_Get.l0, imm_Sign.f, rd_T44, w64, uw64, mn]
            simp only [and_u64, or_u64, shl_u64, shr_u64, wrap_u64, wrap_i, shr_i64, ofInt_toNat, BitVec.setWidth_eq]
            rw [getB, if_neg (by decide), if_neg (by decide), if_neg (by decide), if_neg (by decide), if_pos rfl]
            refine congrArg (fun X : BitVec 64 => ((X <<< 43).sshiftRight 43).toInt) ?_
            apply ext64 <;> simp
          · unfold imm_Get.f imm_pieces.f
            simp [imm_Get.l0, imm_Sign.f, getB, h1, h2, h3, h4, h5]

end Go.Proofs.Ytpjjgipomjenlaa.ImmImmRanges
