/- ImmTells: any word's immediates, and any numbers, in any form, are the document's. No condition beside the statement's own. -/
import Derived.Test.YtpjjgipomjenlaaPImmTellsx3
import Derived.Test.YtpjjgipomjenlaaBv
namespace Go.Proofs.Ytpjjgipomjenlaa.Pure
open Go.RowKit Go.Proofs.Ytpjjgipomjenlaa.PImmTells Go.Proofs.YtpjjgipomjenlaaW.PrintWords Go.Proofs.YtpjjgipomjenlaaW.PrintLast Go.Proofs.YtpjjgipomjenlaaW.PrintMore Go.Proofs.Ytpjjgipomjenlaa.Bv
set_option linter.unusedSimpArgs false
set_option linter.unusedVariables false

theorem known_ok : dovetaillaw3_known.f 10 = some true := by decide +kernel
theorem sg12 (v : Int) : shr .i64 (wrap64 (shl .u64 (IntKind.u64.wrap v) 52)) 52 = (v + 2048) % 4096 - 2048 := by
  simp [shr, shl, wrap64, IntKind.bits, IntKind.wrap, IntKind.signed]
  omega
theorem sg13 (v : Int) : shr .i64 (wrap64 (shl .u64 (IntKind.u64.wrap v) 51)) 51 = (v + 4096) % 8192 - 4096 := by
  simp [shr, shl, wrap64, IntKind.bits, IntKind.wrap, IntKind.signed]
  omega
theorem sg20 (v : Int) : shr .i64 (wrap64 (shl .u64 (IntKind.u64.wrap v) 44)) 44 = (v + 524288) % 1048576 - 524288 := by
  simp [shr, shl, wrap64, IntKind.bits, IntKind.wrap, IntKind.signed]
  omega
theorem sg21 (v : Int) : shr .i64 (wrap64 (shl .u64 (IntKind.u64.wrap v) 43)) 43 = (v + 1048576) % 2097152 - 1048576 := by
  simp [shr, shl, wrap64, IntKind.bits, IntKind.wrap, IntKind.signed]
  omega
theorem odd_i64 (v : Int) : Go.bits .and .i64 v 1 = v % 2 := by
  rw [and_i64, show BitVec.ofInt 64 1 = 1#64 from rfl]
  have h : (BitVec.ofInt 64 v &&& 1#64).toNat = (BitVec.ofInt 64 v).toNat % 2 := by
    rw [BitVec.toNat_and]; exact Nat.and_one_is_mod _
  rw [BitVec.toInt_eq_toNat_of_lt (by rw [h]; omega), h]
  have := toNat_ofInt' 64 v
  omega

theorem tmod2 (v : Int) : v.tmod 2 = 0 ↔ v % 2 = 0 :=
  ⟨fun h => Int.emod_eq_zero_of_dvd (Int.dvd_of_tmod_eq_zero h), fun h => Int.tmod_eq_zero_of_dvd (Int.dvd_of_emod_eq_zero h)⟩

theorem fits_eq (a : Int) (V : BitVec 64) : ∃ b, imm_Fits.f a V.toInt = some b ∧ dovetailref3_Fits.f 10 a V.toInt = some b := by
  by_cases h1 : a = 1
  · subst h1; unfold imm_Fits.f imm_pieces.f imm_Sign.f dovetailref3_Fits.f dovetailref3_Fits.j0
    simp [w64, uw64, mn, sg12]
    by_cases h : -2048 ≤ V.toInt <;> by_cases h' : V.toInt ≤ 2047 <;> simp [h, h'] <;> omega
  · by_cases h2 : a = 2
    · subst h2; unfold imm_Fits.f imm_pieces.f imm_Sign.f dovetailref3_Fits.f dovetailref3_Fits.j0
      simp [w64, uw64, mn, sg12]
      by_cases h : -2048 ≤ V.toInt <;> by_cases h' : V.toInt ≤ 2047 <;> simp [h, h'] <;> omega
    · by_cases h3 : a = 3
      · subst h3; unfold imm_Fits.f imm_pieces.f imm_Sign.f dovetailref3_Fits.f dovetailref3_Fits.j0
        simp [w64, uw64, mn, sg13, odd_i64, tmod2]
        by_cases h0 : V.toInt % 2 = 0 <;> by_cases h : -4096 ≤ V.toInt <;> by_cases h' : V.toInt ≤ 4095 <;> simp [h0, h, h'] <;> omega
      · by_cases h4 : a = 4
        · subst h4; unfold imm_Fits.f imm_pieces.f imm_Sign.f dovetailref3_Fits.f dovetailref3_Fits.j0
          simp [w64, uw64, mn, sg20]
          by_cases h : -524288 ≤ V.toInt <;> by_cases h' : V.toInt < 524288 <;> simp [h, h'] <;> omega
        · by_cases h5 : a = 5
          · subst h5; unfold imm_Fits.f imm_pieces.f imm_Sign.f dovetailref3_Fits.f dovetailref3_Fits.j0
            simp [w64, uw64, mn, sg21, odd_i64, tmod2]
            by_cases h0 : V.toInt % 2 = 0 <;> by_cases h : -1048576 ≤ V.toInt <;> by_cases h' : V.toInt < 1048576 <;> simp [h0, h, h'] <;> omega
          · unfold imm_Fits.f imm_pieces.f imm_Sign.f dovetailref3_Fits.f dovetailref3_Fits.j0
            simp [h1, h2, h3, h4, h5]
            exact Bool.eq_iff_iff.2 (by rw [beq_iff_eq, beq_iff_eq]; exact eq_comm)

/-- What the pieces of a form put, one behind the other, is what the document's four puts leave. -/
theorem set_eq (a : Int) (X : BitVec 32) (V : BitVec 64) : ∃ p, ((imm_pieces.f a).bind fun q => imm_Put.l0 10 X.toNat V.toInt q.1 (q.1.length : Int) 0) = some (p, true) ∧ dovetailref3_Set.f a X.toNat V.toInt = some p := by
  by_cases h1 : a = 1
  · subst h1; unfold imm_pieces.f dovetailref3_Set.f
    simp [imm_Put.l0, dovetailref3_put.f, rd_T44, w64, uw64]
    simp only [and_u32, or_u32, andNot_u32, shl_u32, wrap_u64, shr_u64, mod_u32, ofInt_toNat, ofInt_toInt' 64 (Nat.le_refl 64), BitVec.setWidth_eq]
    refine congrArg (fun X : BitVec 32 => (X.toNat : Int)) ?_
    apply ext32 <;> simp
  · by_cases h2 : a = 2
    · subst h2; unfold imm_pieces.f dovetailref3_Set.f
      simp [imm_Put.l0, dovetailref3_put.f, rd_T44, w64, uw64]
      simp only [and_u32, or_u32, andNot_u32, shl_u32, wrap_u64, shr_u64, mod_u32, ofInt_toNat, ofInt_toInt' 64 (Nat.le_refl 64), BitVec.setWidth_eq]
      refine congrArg (fun X : BitVec 32 => (X.toNat : Int)) ?_
      apply ext32 <;> simp
    · by_cases h3 : a = 3
      · subst h3; unfold imm_pieces.f dovetailref3_Set.f
        simp [imm_Put.l0, dovetailref3_put.f, rd_T44, w64, uw64]
        simp only [and_u32, or_u32, andNot_u32, shl_u32, wrap_u64, shr_u64, mod_u32, ofInt_toNat, ofInt_toInt' 64 (Nat.le_refl 64), BitVec.setWidth_eq]
        refine congrArg (fun X : BitVec 32 => (X.toNat : Int)) ?_
        apply ext32 <;> simp
      · by_cases h4 : a = 4
        · subst h4; unfold imm_pieces.f dovetailref3_Set.f
          simp [imm_Put.l0, dovetailref3_put.f, rd_T44, w64, uw64]
          simp only [and_u32, or_u32, andNot_u32, shl_u32, wrap_u64, shr_u64, mod_u32, ofInt_toNat, ofInt_toInt' 64 (Nat.le_refl 64), BitVec.setWidth_eq]
          refine congrArg (fun X : BitVec 32 => (X.toNat : Int)) ?_
          apply ext32 <;> simp
        · by_cases h5 : a = 5
          · subst h5; unfold imm_pieces.f dovetailref3_Set.f
            simp [imm_Put.l0, dovetailref3_put.f, rd_T44, w64, uw64]
            simp only [and_u32, or_u32, andNot_u32, shl_u32, wrap_u64, shr_u64, mod_u32, ofInt_toNat, ofInt_toInt' 64 (Nat.le_refl 64), BitVec.setWidth_eq]
            refine congrArg (fun X : BitVec 32 => (X.toNat : Int)) ?_
            apply ext32 <;> simp
          · unfold imm_pieces.f dovetailref3_Set.f
            simp [imm_Put.l0, h1, h2, h3, h4, h5]

theorem put_eq (a : Int) (X : BitVec 32) (V : BitVec 64) : ∃ p, imm_Put.f 10 a X.toNat V.toInt = some p ∧ dovetailref3_Put.f 10 a X.toNat V.toInt = some p := by
  obtain ⟨b, hb, hb'⟩ := fits_eq a V
  obtain ⟨p, hp, hp'⟩ := set_eq a X V
  unfold imm_Put.f dovetailref3_Put.f
  rw [hb, hb']
  cases b
  · exact ⟨(0, false), rfl, rfl⟩
  · exact ⟨(p, true), by simpa using hp, by simp [hp']⟩

theorem two_pow_64 (x : Int) : BitVec.ofInt 64 (x * 2) = BitVec.ofInt 64 x <<< 1 := ofInt_mul_pow 64 x 1
theorem two_pow_32 (x : Int) : BitVec.ofInt 64 (x * 32) = BitVec.ofInt 64 x <<< 5 := ofInt_mul_pow 64 x 5
theorem two_pow_2048 (x : Int) : BitVec.ofInt 64 (x * 2048) = BitVec.ofInt 64 x <<< 11 := ofInt_mul_pow 64 x 11
theorem two_pow_4096 (x : Int) : BitVec.ofInt 64 (x * 4096) = BitVec.ofInt 64 x <<< 12 := ofInt_mul_pow 64 x 12
theorem two_pow_1048576 (x : Int) : BitVec.ofInt 64 (x * 1048576) = BitVec.ofInt 64 x <<< 20 := ofInt_mul_pow 64 x 20

theorem get_eq (a : Int) (X : BitVec 32) : ∃ p, imm_Get.f 10 a X.toNat = some p ∧ dovetailref3_Get.f a X.toNat = some p := by
  by_cases h1 : a = 1
  · subst h1; unfold imm_Get.f imm_pieces.f dovetailref3_Get.f
    simp [imm_Get.l0, dovetailref3_bits.f, dovetailref3_Sign.f, imm_Sign.f, rd_T44, w64, uw64, mn]
    simp only [and_u64, or_u64, shl_u64, shr_u64, shr_u32, wrap_u64, wrap_i, shr_i64, ofInt_toNat, BitVec.setWidth_eq, two_pow_64, two_pow_32, two_pow_2048, two_pow_4096, two_pow_1048576]
    refine congrArg (fun X : BitVec 64 => ((X <<< 52).sshiftRight 52).toInt) ?_
    apply ext64 <;> simp
  · by_cases h2 : a = 2
    · subst h2; unfold imm_Get.f imm_pieces.f dovetailref3_Get.f
      simp [imm_Get.l0, dovetailref3_bits.f, dovetailref3_Sign.f, imm_Sign.f, rd_T44, w64, uw64, mn]
      simp only [and_u64, or_u64, shl_u64, shr_u64, shr_u32, wrap_u64, wrap_i, shr_i64, ofInt_toNat, BitVec.setWidth_eq, two_pow_64, two_pow_32, two_pow_2048, two_pow_4096, two_pow_1048576]
      refine congrArg (fun X : BitVec 64 => ((X <<< 52).sshiftRight 52).toInt) ?_
      apply ext64 <;> simp
    · by_cases h3 : a = 3
      · subst h3; unfold imm_Get.f imm_pieces.f dovetailref3_Get.f
        simp [imm_Get.l0, dovetailref3_bits.f, dovetailref3_Sign.f, imm_Sign.f, rd_T44, w64, uw64, mn]
        simp only [and_u64, or_u64, shl_u64, shr_u64, shr_u32, wrap_u64, wrap_i, shr_i64, ofInt_toNat, BitVec.setWidth_eq, two_pow_64, two_pow_32, two_pow_2048, two_pow_4096, two_pow_1048576]
        refine congrArg (fun X : BitVec 64 => ((X <<< 51).sshiftRight 51).toInt) ?_
        apply ext64 <;> simp
      · by_cases h4 : a = 4
        · subst h4; unfold imm_Get.f imm_pieces.f dovetailref3_Get.f
          simp [imm_Get.l0, dovetailref3_bits.f, dovetailref3_Sign.f, imm_Sign.f, rd_T44, w64, uw64, mn]
          simp only [and_u64, or_u64, shl_u64, shr_u64, shr_u32, wrap_u64, wrap_i, shr_i64, ofInt_toNat, BitVec.setWidth_eq, two_pow_64, two_pow_32, two_pow_2048, two_pow_4096, two_pow_1048576]
          refine congrArg (fun X : BitVec 64 => ((X <<< 44).sshiftRight 44).toInt) ?_
          apply ext64 <;> simp
        · by_cases h5 : a = 5
          · subst h5; unfold imm_Get.f imm_pieces.f dovetailref3_Get.f
            simp [imm_Get.l0, dovetailref3_bits.f, dovetailref3_Sign.f, imm_Sign.f, rd_T44, w64, uw64, mn]
            simp only [and_u64, or_u64, shl_u64, shr_u64, shr_u32, wrap_u64, wrap_i, shr_i64, ofInt_toNat, BitVec.setWidth_eq, two_pow_64, two_pow_32, two_pow_2048, two_pow_4096, two_pow_1048576]
            refine congrArg (fun X : BitVec 64 => ((X <<< 43).sshiftRight 43).toInt) ?_
            apply ext64 <;> simp
          · unfold imm_Get.f imm_pieces.f dovetailref3_Get.f
            simp [imm_Get.l0, imm_Sign.f, h1, h2, h3, h4, h5]

theorem sign_eq (U : BitVec 64) (b : Int) (hb : b < 9223372036854775808) : ∃ p, imm_Sign.f U.toNat b = some p ∧ dovetailref3_Sign.f U.toNat b = some p := by
  unfold imm_Sign.f dovetailref3_Sign.f
  split
  · exact ⟨0, rfl, rfl⟩
  · by_cases h64 : b ≥ 64
    · rw [if_pos h64, show mn b 64 = 64 by unfold mn; omega]
      refine ⟨_, ?_, rfl⟩
      simp [w64, uw64]
      simp only [shl_u64, wrap_i, shr_i64, ofInt_toNat, BitVec.setWidth_eq]
      simp
    · rw [if_neg h64, show mn b 64 = b by unfold mn; omega]
      have e : wrap64 (64 - b) = 64 - b := w64 (by omega) (by omega)
      have e' : IntKind.u64.wrap (64 - b) = 64 - b := uw64 (by omega) (by omega)
      rw [e, e', if_pos (by omega)]
      exact ⟨_, rfl, rfl⟩

theorem hi_eq (V : BitVec 64) : ∃ p, imm_Hi.f V.toInt = some p ∧ dovetailref3_Hi.f V.toInt = some p := by
  unfold imm_Hi.f dovetailref3_Hi.f
  refine ⟨_, rfl, ?_⟩
  simp [wrap64, IntKind.wrap, IntKind.bits, IntKind.signed]

theorem lo_eq (V : BitVec 64) : ∃ p, imm_Lo.f V.toInt = some p ∧ dovetailref3_Lo.f V.toInt = some p := by
  obtain ⟨p, h, h'⟩ := sign_eq V 12 (by omega)
  unfold imm_Lo.f dovetailref3_Lo.f
  rw [wrap_u64, ofInt_toInt' 64 (Nat.le_refl 64), BitVec.setWidth_eq]
  exact ⟨p, by rw [h]; rfl, by rw [h']; rfl⟩

theorem ImmTells : dovetaillaw3_ImmTells.Pure := by
  intro a0 a1 a2 a3 a4 _ w1 w2 w3 w4
  obtain ⟨X, rfl⟩ := wf_u32 w1
  obtain ⟨V, rfl⟩ := wf_i64 w2
  obtain ⟨U, rfl⟩ := wf_u64 w3
  refine ⟨10, ?_⟩
  obtain ⟨p1, e1, f1⟩ := put_eq a0 X V
  obtain ⟨p2, e2, f2⟩ := get_eq a0 X
  obtain ⟨p3, e3, f3⟩ := fits_eq a0 V
  obtain ⟨p4, e4, f4⟩ := sign_eq U a4 (bd_i64 w4).2
  obtain ⟨p5, e5, f5⟩ := hi_eq V
  obtain ⟨p6, e6, f6⟩ := lo_eq V
  unfold dovetaillaw3_ImmTells.f
  simp [known_ok, e1, f1, e2, f2, e3, f3, e4, f4, e5, f5, e6, f6]

end Go.Proofs.Ytpjjgipomjenlaa.Pure
