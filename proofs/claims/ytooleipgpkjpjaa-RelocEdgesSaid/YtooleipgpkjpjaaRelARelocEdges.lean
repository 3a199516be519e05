/- Plain facts on what the program's packages imm, le and reloc answer, as the print of RelocEdges spells them: which numbers fit, what is put, what bytes are set, what a relocation leaves. -/
import Derived.Test.YtooleipgpkjpjaaQRelocEdgesx5
import Derived.Test.YtooleipgpkjpjaaBv
namespace Go.Proofs.Ytooleipgpkjpjaa.RelRelocEdges
open Go.RowKit Go.Proofs.Ytooleipgpkjpjaa.QRelocEdges Go.Proofs.YtooleipgpkjpjaaW.PrintWords Go.Proofs.YtooleipgpkjpjaaW.PrintLast Go.Proofs.YtooleipgpkjpjaaW.PrintMore Go.Proofs.Ytooleipgpkjpjaa.Bv
set_option linter.unusedSimpArgs false
set_option linter.unusedVariables false

theorem sg12 (v : Int) : shr .i64 (wrap64 (shl .u64 (IntKind.u64.wrap v) 52)) 52 = (v + 2048) % 4096 - 2048 := by
  simp [shr, shl, wrap64, IntKind.bits, IntKind.wrap, IntKind.signed]
  omega
theorem sg13 (v : Int) : shr .i64 (wrap64 (shl .u64 (IntKind.u64.wrap v) 51)) 51 = (v + 4096) % 8192 - 4096 := by
  simp [shr, shl, wrap64, IntKind.bits, IntKind.wrap, IntKind.signed]
  omega
theorem sg20 (v : Int) : shr .i64 (wrap64 (shl .u64 (IntKind.u64.wrap v) 44)) 44 = (v + 524288) % 1048576 - 524288 := by
  simp [shr, shl, wrap64, IntKind.bits, IntKind.wrap, IntKind.signed]
  omega
theorem sg21 (v : Int) : shr .i64 (wrap64 (shl .u64 (IntKind.u64.wrap v) 43)) 43 = (v + 1048576) % 2097152 - 1048576 := by
  simp [shr, shl, wrap64, IntKind.bits, IntKind.wrap, IntKind.signed]
  omega
theorem tmod2 (v : Int) : v.tmod 2 = 0 ↔ v % 2 = 0 :=
  ⟨fun h => Int.emod_eq_zero_of_dvd (Int.dvd_of_tmod_eq_zero h), fun h => Int.tmod_eq_zero_of_dvd (Int.dvd_of_emod_eq_zero h)⟩

/-- Which numbers fit a form. -/
def fitsP (f v : Int) : Prop :=
  if f = 1 ∨ f = 2 then -2048 ≤ v ∧ v ≤ 2047 else if f = 3 then -4096 ≤ v ∧ v ≤ 4095 ∧ v % 2 = 0 else if f = 4 then -524288 ≤ v ∧ v ≤ 524287 else if f = 5 then -1048576 ≤ v ∧ v ≤ 1048575 ∧ v % 2 = 0 else v = 0
instance (f v : Int) : Decidable (fitsP f v) := by unfold fitsP; infer_instance
theorem fits_tells (f v : Int) : imm_Fits.f f v = some (decide (fitsP f v)) := by
  by_cases h1 : f = 1
  · subst h1; unfold imm_Fits.f imm_pieces.f imm_Sign.f fitsP
    simp [w64, uw64, mn, sg12]
    rw [Bool.eq_iff_iff]; simp; omega
  · by_cases h2 : f = 2
    · subst h2; unfold imm_Fits.f imm_pieces.f imm_Sign.f fitsP
      simp [w64, uw64, mn, sg12]
      rw [Bool.eq_iff_iff]; simp; omega
    · by_cases h3 : f = 3
      · subst h3; unfold imm_Fits.f imm_pieces.f imm_Sign.f fitsP
        simp [w64, uw64, mn, sg13, tmod2]
        by_cases h0 : v % 2 = 0 <;> simp [h0]
        rw [Bool.eq_iff_iff]; simp; omega
      · by_cases h4 : f = 4
        · subst h4; unfold imm_Fits.f imm_pieces.f imm_Sign.f fitsP
          simp [w64, uw64, mn, sg20]
          rw [Bool.eq_iff_iff]; simp; omega
        · by_cases h5 : f = 5
          · subst h5; unfold imm_Fits.f imm_pieces.f imm_Sign.f fitsP
            simp [w64, uw64, mn, sg21, tmod2]
            by_cases h0 : v % 2 = 0 <;> simp [h0]
            rw [Bool.eq_iff_iff]; simp; omega
          · unfold imm_Fits.f imm_pieces.f imm_Sign.f fitsP
            simp [h1, h2, h3, h4, h5]
            rw [Bool.eq_iff_iff]; simp; exact eq_comm

/-- What a form's pieces put. -/
def putB (f : Int) (X : BitVec 32) (V : BitVec 64) : BitVec 32 :=
  if f = 1 then (X &&& 0x000fffff#32) ||| ((V.setWidth 32 &&& 0xfff#32) <<< 20)
  else if f = 2 then (X &&& 0x01fff07f#32) ||| ((V.setWidth 32 &&& 0x1f#32) <<< 7) ||| (((V >>> 5).setWidth 32 &&& 0x7f#32) <<< 25)
  else if f = 3 then (X &&& 0x01fff07f#32) ||| (((V >>> 1).setWidth 32 &&& 0xf#32) <<< 8) ||| (((V >>> 5).setWidth 32 &&& 0x3f#32) <<< 25) ||| (((V >>> 11).setWidth 32 &&& 1#32) <<< 7) ||| (((V >>> 12).setWidth 32 &&& 1#32) <<< 31)
  else if f = 4 then (X &&& 0x00000fff#32) ||| ((V.setWidth 32 &&& 0xfffff#32) <<< 12)
  else if f = 5 then (X &&& 0x00000fff#32) ||| (((V >>> 1).setWidth 32 &&& 0x3ff#32) <<< 21) ||| (((V >>> 11).setWidth 32 &&& 1#32) <<< 20) ||| (((V >>> 12).setWidth 32 &&& 0xff#32) <<< 12) ||| (((V >>> 20).setWidth 32 &&& 1#32) <<< 31)
  else X
theorem put_tells (k : Nat) (f : Int) (X : BitVec 32) (V : BitVec 64) : imm_Put.f (k + 5) f X.toNat V.toInt = some (if fitsP f V.toInt then (((putB f X V).toNat : Int), true) else (0, false)) := by
  have key : ((imm_pieces.f f).bind fun q => imm_Put.l0 (k + 5) X.toNat V.toInt q.1 (q.1.length : Int) 0) = some (((putB f X V).toNat : Int), true) := by
    by_cases h1 : f = 1
    · subst h1; unfold imm_pieces.f
      simp [imm_Put.l0, rd_T86, w64, uw64]
      simp only [and_u32, or_u32, andNot_u32, shl_u32, wrap_u64, shr_u64, mod_u32, ofInt_toNat, ofInt_toInt' 64 (Nat.le_refl 64), BitVec.setWidth_eq]
      refine congrArg (fun X : BitVec 32 => (X.toNat : Int)) ?_
      apply ext32 <;> simp [putB]
    · by_cases h2 : f = 2
      · subst h2; unfold imm_pieces.f
        simp [imm_Put.l0, rd_T86, w64, uw64]
        simp only [and_u32, or_u32, andNot_u32, shl_u32, wrap_u64, shr_u64, mod_u32, ofInt_toNat, ofInt_toInt' 64 (Nat.le_refl 64), BitVec.setWidth_eq]
        refine congrArg (fun X : BitVec 32 => (X.toNat : Int)) ?_
        apply ext32 <;> simp [putB]
      · by_cases h3 : f = 3
        · subst h3; unfold imm_pieces.f
          simp [imm_Put.l0, rd_T86, w64, uw64]
          simp only [and_u32, or_u32, andNot_u32, shl_u32, wrap_u64, shr_u64, mod_u32, ofInt_toNat, ofInt_toInt' 64 (Nat.le_refl 64), BitVec.setWidth_eq]
          refine congrArg (fun X : BitVec 32 => (X.toNat : Int)) ?_
          apply ext32 <;> simp [putB]
        · by_cases h4 : f = 4
          · subst h4; unfold imm_pieces.f
            simp [imm_Put.l0, rd_T86, w64, uw64]
            simp only [and_u32, or_u32, andNot_u32, shl_u32, wrap_u64, shr_u64, mod_u32, ofInt_toNat, ofInt_toInt' 64 (Nat.le_refl 64), BitVec.setWidth_eq]
            refine congrArg (fun X : BitVec 32 => (X.toNat : Int)) ?_
            apply ext32 <;> simp [putB]
          · by_cases h5 : f = 5
            · subst h5; unfold imm_pieces.f
              simp [imm_Put.l0, rd_T86, w64, uw64]
              simp only [and_u32, or_u32, andNot_u32, shl_u32, wrap_u64, shr_u64, mod_u32, ofInt_toNat, ofInt_toInt' 64 (Nat.le_refl 64), BitVec.setWidth_eq]
              refine congrArg (fun X : BitVec 32 => (X.toNat : Int)) ?_
              apply ext32 <;> simp [putB]
            · unfold imm_pieces.f
              simp [imm_Put.l0, putB, h1, h2, h3, h4, h5]
  unfold imm_Put.f
  rw [fits_tells]
  by_cases h : fitsP f V.toInt
  · simp only [h, decide_true, Option.bind_some, if_true]; exact key
  · simp only [h, decide_false, Option.bind_some, if_false]; rfl


/-! bytes -/
def b4 (Y : BitVec 64) : List Int := [((Y.setWidth 8).toNat : Int), (((Y >>> 8).setWidth 8).toNat : Int), (((Y >>> 16).setWidth 8).toNat : Int), (((Y >>> 24).setWidth 8).toNat : Int)]
def b8 (Y : BitVec 64) : List Int := b4 Y ++ b4 (Y >>> 32)
def w4 (l : List Int) (n : Nat) : BitVec 32 := ((BitVec.ofInt 64 (rd l n)) ||| (BitVec.ofInt 64 (rd l ((n + 1 : Nat) : Int)) <<< 8) ||| (BitVec.ofInt 64 (rd l ((n + 2 : Nat) : Int)) <<< 16) ||| (BitVec.ofInt 64 (rd l ((n + 3 : Nat) : Int)) <<< 24)).setWidth 32
theorem put4 (Y : BitVec 64) : le_put.f 9 [] Y.toNat 4 = some (b4 Y) := by
  unfold le_put.f
  simp [le_put.l0, w64, uw64]
  simp only [shr_u64, mod_u8, ofInt_toNat]
  simp [b4]
theorem put8 (Y : BitVec 64) : le_put.f 9 [] Y.toNat 8 = some (b8 Y) := by
  unfold le_put.f
  simp [le_put.l0, w64, uw64]
  simp only [shr_u64, mod_u8, ofInt_toNat]
  simp [b4, b8, ← BitVec.shiftRight_add]
theorem within_tells (o m : Nat) (z : Int) (n : Nat) (ho : o < 18446744073709551616) (hm : m ≤ 8) (hz : z = (m : Int)) (hn : n ≤ 140737488355328) : le_within.f o z n = some (decide (o + m ≤ n)) := by
  subst hz
  unfold le_within.f
  rw [uw64 (by omega) (by omega)]
  by_cases h : (m : Int) ≤ n
  · rw [if_pos h, uw64 (by omega) (by omega)]
    congr 1; rw [Bool.eq_iff_iff]; simp; omega
  · rw [if_neg h]
    congr 1; rw [Bool.eq_iff_iff]; simp; omega
theorem set4 (l : List Int) (o : Nat) (Y : BitVec 64) (ho : o < 18446744073709551616) (hl : l.length ≤ 140737488355328) :
    le_Set.f l o Y.toNat 4 = some (if o + 4 ≤ l.length then (splice l o (b4 Y), true) else ([], false)) := by
  unfold le_Set.f
  rw [if_neg (by decide), if_neg (by decide), within_tells o 4 (IntKind.u64.wrap 4) l.length ho (by omega) (by decide) hl]
  by_cases h : o + 4 ≤ l.length
  · simp only [h, decide_true, Option.bind_some, if_true]
    unfold Go.Proofs.Ytooleipgpkjpjaa.Man.slices_Clone_byte_byte.f
    rw [if_pos hl, Option.bind_some, put4, Option.bind_some, if_pos ⟨by omega, by simp [b4], by simp [b4]; omega, hl⟩]
    simp
  · simp [h]
theorem set8 (l : List Int) (o : Nat) (Y : BitVec 64) (ho : o < 18446744073709551616) (hl : l.length ≤ 140737488355328) :
    le_Set.f l o Y.toNat 8 = some (if o + 8 ≤ l.length then (splice l o (b8 Y), true) else ([], false)) := by
  unfold le_Set.f
  rw [if_neg (by decide), if_neg (by decide), within_tells o 8 (IntKind.u64.wrap 8) l.length ho (by omega) (by decide) hl]
  by_cases h : o + 8 ≤ l.length
  · simp only [h, decide_true, Option.bind_some, if_true]
    unfold Go.Proofs.Ytooleipgpkjpjaa.Man.slices_Clone_byte_byte.f
    rw [if_pos hl, Option.bind_some, put8, Option.bind_some, if_pos ⟨by omega, by simp [b4, b8], by simp [b4, b8]; omega, hl⟩]
    simp
  · simp [h]
theorem u32 (k : Nat) (l : List Int) (o : Nat) (ho : o < 18446744073709551616) (hl : l.length ≤ 140737488355328) (h : o + 4 ≤ l.length) :
    le_U32.f (k + 5) l o = some (((w4 l o).toNat : Int), true) := by
  unfold le_U32.f le_get.f
  rw [within_tells o 4 (IntKind.u64.wrap 4) l.length ho (by omega) (by decide) hl]
  simp only [h, decide_true, Option.bind_some, if_true]
  have e0 : IntKind.u64.wrap ((o : Int) + IntKind.u64.wrap 0) = (o : Int) := by rw [uw64 (x := 0) (by omega) (by omega), uw64 (by omega) (by omega)]; omega
  have e1 : IntKind.u64.wrap ((o : Int) + IntKind.u64.wrap 1) = ((o + 1 : Nat) : Int) := by rw [uw64 (x := 1) (by omega) (by omega), uw64 (by omega) (by omega)]; omega
  have e2 : IntKind.u64.wrap ((o : Int) + IntKind.u64.wrap 2) = ((o + 2 : Nat) : Int) := by rw [uw64 (x := 2) (by omega) (by omega), uw64 (by omega) (by omega)]; omega
  have e3 : IntKind.u64.wrap ((o : Int) + IntKind.u64.wrap 3) = ((o + 3 : Nat) : Int) := by rw [uw64 (x := 3) (by omega) (by omega), uw64 (by omega) (by omega)]; omega
  have c0 : (o : Int) < (l.length : Int) := by omega
  have c1 : ((o + 1 : Nat) : Int) < (l.length : Int) := by omega
  have c2 : ((o + 2 : Nat) : Int) < (l.length : Int) := by omega
  have c3 : ((o + 3 : Nat) : Int) < (l.length : Int) := by omega
  have p (m : Nat) : (0 : Int) ≤ (m : Int) := by omega
  have a0 : wrap64 (0 + 1) = 1 := by unfold wrap64; omega
  have a1 : wrap64 (1 + 1) = 2 := by unfold wrap64; omega
  have a2 : wrap64 (2 + 1) = 3 := by unfold wrap64; omega
  have a3 : wrap64 (3 + 1) = 4 := by unfold wrap64; omega
  have s0 : IntKind.u64.wrap (wrap64 (8 * 0)) = 0 := by rw [w64 (by omega) (by omega), uw64 (by omega) (by omega)]; rfl
  have s1 : IntKind.u64.wrap (wrap64 (8 * 1)) = 8 := by rw [w64 (by omega) (by omega), uw64 (by omega) (by omega)]; rfl
  have s2 : IntKind.u64.wrap (wrap64 (8 * 2)) = 16 := by rw [w64 (by omega) (by omega), uw64 (by omega) (by omega)]; rfl
  have s3 : IntKind.u64.wrap (wrap64 (8 * 3)) = 24 := by rw [w64 (by omega) (by omega), uw64 (by omega) (by omega)]; rfl
  simp only [le_get.l0, a0, a1, a2, a3, show (0:Int) < 4 from by decide, show (1:Int) < 4 from by decide, show (2:Int) < 4 from by decide, show (3:Int) < 4 from by decide, show ¬ ((4:Int) < 4) from by decide, if_true, if_false, e0, e1, e2, e3, c0, c1, c2, c3, p, Option.bind_some, s0, s1, s2, s3, show (0:Int) ≤ 0 from by decide, show (0:Int) ≤ 8 from by decide, show (0:Int) ≤ 16 from by decide, show (0:Int) ≤ 24 from by decide]
  simp only [or_u64, shl_u64, wrap_u64, ofInt_toNat, mod_u32, BitVec.setWidth_eq]
  simp [w4]

/-! a number's parts, a word's field -/
def hiB (V : BitVec 64) : BitVec 64 := (V + 2048#64).sshiftRight 12
def loB (V : BitVec 64) : BitVec 64 := (V <<< 52).sshiftRight 52
def insB (f : Int) (l : List Int) (o : Nat) (V : BitVec 64) : List Int := splice l o (b4 ((putB f (w4 l o) V).setWidth 64))
theorem add_2048 (V : BitVec 64) : BitVec.ofInt 64 ((V.toNat : Int) + 2048) = V + 2048#64 := by
  rw [BitVec.ofInt_add, ofInt_toNat, BitVec.setWidth_eq]
  exact congrArg (V + ·) (by simp)
theorem hi_tells (V : BitVec 64) : imm_Hi.f V.toInt = some (hiB V).toInt := by
  have e : wrap64 (IntKind.u64.wrap (IntKind.u64.wrap V.toInt + 2048)) = (V + 2048#64).toInt := by
    simp only [wrap_i, wrap_u64, ofInt_toNat, ofInt_toInt' 64 (Nat.le_refl 64), BitVec.setWidth_eq, add_2048]
  unfold imm_Hi.f hiB
  rw [BitVec.toInt_sshiftRight, Int.shiftRight_eq_div_pow, e]
  simp only [show ((2 ^ 12 : Nat) : Int) = 4096 from rfl]
theorem lo_tells (V : BitVec 64) : imm_Lo.f V.toInt = some (loB V).toInt := by
  unfold imm_Lo.f imm_Sign.f
  simp [w64, uw64, mn]
  simp only [shl_u64, wrap_u64, wrap_i, shr_i64, ofInt_toNat, ofInt_toInt' 64 (Nat.le_refl 64), BitVec.setWidth_eq, show Int.toNat 52 = 52 from rfl]
  rw [loB]
theorem lo_val (V : BitVec 64) : (loB V).toInt = (V.toInt + 2048) % 4096 - 2048 := by
  have h := lo_tells V
  unfold imm_Lo.f imm_Sign.f at h
  simp only [show ¬ ((12:Int) < 1) from by decide, if_false, show IntKind.u64.wrap (wrap64 (64 - mn 12 64)) = 52 from by simp [mn, w64, uw64], show (0:Int) ≤ 52 from by decide, if_true, sg12, Option.bind_some, Option.some.injEq] at h
  exact h.symm
theorem lo_fits1 (V : BitVec 64) : fitsP 1 (loB V).toInt := by rw [lo_val]; simp [fitsP]; omega
theorem lo_fits2 (V : BitVec 64) : fitsP 2 (loB V).toInt := by rw [lo_val]; simp [fitsP]; omega
def sg (V : BitVec 64) : BitVec 64 := (V <<< 44).sshiftRight 44
theorem sign20 (V : BitVec 64) : imm_Sign.f (IntKind.u64.wrap V.toInt) 20 = some (sg V).toInt := by
  unfold imm_Sign.f
  simp [w64, uw64, mn]
  simp only [shl_u64, wrap_u64, wrap_i, shr_i64, ofInt_toNat, ofInt_toInt' 64 (Nat.le_refl 64), BitVec.setWidth_eq, show Int.toNat 44 = 44 from rfl]
  rw [sg]
theorem sg_fits (V : BitVec 64) : fitsP 4 (sg V).toInt := by
  have h := sign20 V
  unfold imm_Sign.f at h
  simp only [show ¬ ((20:Int) < 1) from by decide, if_false, show IntKind.u64.wrap (wrap64 (64 - mn 20 64)) = 44 from by simp [mn, w64, uw64], show (0:Int) ≤ 44 from by decide, if_true, sg20, Option.some.injEq] at h
  rw [← h]; simp [fitsP]; omega
set_option maxHeartbeats 2000000 in
theorem sg_put (X : BitVec 32) (V : BitVec 64) : putB 4 X (sg V) = putB 4 X V := by
  unfold putB
  rw [if_neg (by decide), if_neg (by decide), if_neg (by decide), if_pos rfl, if_neg (by decide), if_neg (by decide), if_neg (by decide), if_pos rfl]
  have e : (sg V).setWidth 32 &&& 0xfffff#32 = V.setWidth 32 &&& 0xfffff#32 := by
    apply BitVec.eq_of_getLsbD_eq
    intro i hi
    rw [BitVec.getLsbD_and, BitVec.getLsbD_and, BitVec.getLsbD_setWidth, BitVec.getLsbD_setWidth]
    by_cases h : i < 20
    · have e2 : (sg V).getLsbD i = V.getLsbD i := by
        unfold sg
        rw [BitVec.getLsbD_sshiftRight]
        simp [show i < 64 from by omega, show 44 + i < 64 from by omega, show ¬ 64 ≤ i from by omega, show ¬ 44 + i < 44 from by omega]
      rw [e2]
    · have e3 : (0xfffff#32).getLsbD i = false := by
        have e4 : (BitVec.ofNat 32 (2 ^ 20 - 1)).getLsbD i = false := by rw [BitVec.getLsbD_ofNat, Nat.testBit_two_pow_sub_one]; simp [h]
        exact e4
      rw [e3]; simp
  rw [e]
theorem rput (k : Nat) (l : List Int) (o : Nat) (f : Int) (V : BitVec 64) (ho : o < 18446744073709551616) (hl : l.length ≤ 140737488355328) (h : o + 4 ≤ l.length) :
    reloc_put.f (k + 6) l o f V.toInt = some (if f = 4 ∨ fitsP f V.toInt then (insB f l o V, true) else ([], false)) := by
  unfold reloc_put.f
  rw [u32 (k + 1) l o ho hl h]
  simp only [Option.bind_some]
  have core (W : BitVec 64) : reloc_put.j0 (k + 6) l o f W.toInt ((w4 l o).toNat : Int) = some (if fitsP f W.toInt then (insB f l o W, true) else ([], false)) := by
    simp only [reloc_put.j0]
    rw [put_tells k f (w4 l o) W]
    simp only [Option.bind_some]
    by_cases hf : fitsP f W.toInt
    · simp only [hf, if_true]
      rw [wrap_u64, ofInt_toNat, set4 l o _ ho hl, if_pos h]
      rfl
    · simp [hf]
  by_cases h4 : f = 4
  · subst h4
    rw [if_pos rfl, sign20, Option.bind_some, core, if_pos (sg_fits V), if_pos (.inl rfl)]
    unfold insB
    rw [sg_put]
  · rw [if_neg h4, core]
    simp [h4]

/-! what a relocation leaves -/
def knownP (t : Int) : Prop := t = 1 ∨ t = 2 ∨ (16 ≤ t ∧ t ≤ 19) ∨ (23 ≤ t ∧ t ≤ 28) ∨ t = 51
instance (t : Int) : Decidable (knownP t) := by unfold knownP; infer_instance
theorem known_cases {t : Int} (h : knownP t) : t = 1 ∨ t = 2 ∨ t = 16 ∨ t = 17 ∨ t = 18 ∨ t = 19 ∨ t = 23 ∨ t = 24 ∨ t = 25 ∨ t = 26 ∨ t = 27 ∨ t = 28 ∨ t = 51 := by unfold knownP at h; omega
theorem known_tells (k : Nat) (t : Int) : rela_Known.f (k + 1) t = some (decide (knownP t)) := by
  by_cases h : knownP t
  · rw [decide_eq_true h]
    rcases known_cases h with rfl | rfl | rfl | rfl | rfl | rfl | rfl | rfl | rfl | rfl | rfl | rfl | rfl <;> simp [rela_Known.f, rela_Known.j0]
  · rw [decide_eq_false h]
    unfold knownP at h
    unfold rela_Known.f
    rw [if_neg (by omega), if_neg (by omega)]
    simp only [rela_Known.j0]
    rw [if_neg (by simp; omega)]
    by_cases h1 : t ≥ 16
    · rw [if_pos h1, if_neg (by omega)]
      by_cases h2 : t ≥ 23
      · rw [if_pos h2]; simp; omega
      · rw [if_neg h2]
    · rw [if_neg h1, if_neg (by omega)]
def width (t : Int) : Nat := if t = 2 ∨ t = 18 ∨ t = 19 then 8 else if t = 51 then 0 else 4
theorem span_tells (o m n : Nat) (ho : o < 18446744073709551616) (hm : m ≤ 8) (hn : n ≤ 140737488355328) : span_Within.f o (IntKind.u64.wrap (m : Int)) (IntKind.u64.wrap (n : Int)) = some (decide (o + m ≤ n)) := by
  unfold span_Within.f
  rw [uw64 (x := (m : Int)) (by omega) (by omega), uw64 (x := (n : Int)) (by omega) (by omega)]
  by_cases h : (m : Int) ≤ n
  · rw [if_pos h, uw64 (by omega) (by omega)]
    congr 1; rw [Bool.eq_iff_iff]; simp; omega
  · rw [if_neg h]
    congr 1; rw [Bool.eq_iff_iff]; simp; omega
def applyS (l : List Int) (o : Nat) (t : Int) (V : BitVec 64) : Option (List Int) :=
  if t = 51 then some l
  else if t = 1 then some (splice l o (b4 V))
  else if t = 2 then some (splice l o (b8 V))
  else if t = 16 then (if fitsP 3 V.toInt then some (insB 3 l o V) else none)
  else if t = 17 then (if fitsP 5 V.toInt then some (insB 5 l o V) else none)
  else if t = 18 ∨ t = 19 then some (insB 1 (insB 4 l o (hiB V)) (o + 4) (loB V))
  else if t = 23 ∨ t = 26 then some (insB 4 l o (hiB V))
  else if t = 24 ∨ t = 27 then some (insB 1 l o (loB V))
  else some (insB 2 l o (loB V))
def applyR (l : List Int) (o : Nat) (t : Int) (V : BitVec 64) : List Int × Int :=
  if knownP t then (if o + width t ≤ l.length then (match applyS l o t V with | some m => (m, 0) | none => ([], 61)) else ([], 61)) else ([], 60)
theorem insB_length (f : Int) (l : List Int) (o : Nat) (V : BitVec 64) (h : o + 4 ≤ l.length) : (insB f l o V).length = l.length := by
  unfold insB; exact length_splice _ _ _ (by simp [b4]; exact h)
theorem u64_toInt (V : BitVec 64) : IntKind.u64.wrap V.toInt = (V.toNat : Int) := by rw [wrap_u64, ofInt_toInt' 64 (Nat.le_refl 64), BitVec.setWidth_eq]
theorem width_tells (k : Nat) (t : Int) : rela_Width.f (k + 1) t = some ((width t : Nat) : Int) := by
  unfold rela_Width.f width
  by_cases h2 : t = 2
  · subst h2; simp [rela_Width.j0]
  · rw [if_neg h2]
    by_cases h18 : t = 18
    · subst h18; simp [rela_Width.j0]
    · rw [if_neg h18]
      by_cases h19 : t = 19
      · subst h19; simp [rela_Width.j0]
      · by_cases h51 : t = 51
        · subst h51; simp [rela_Width.j0]
        · simp [rela_Width.j0, h2, h18, h19, h51]
theorem apply_tells (k : Nat) (l : List Int) (o : Nat) (t : Int) (V : BitVec 64) (ho : o < 18446744073709551616) (hl : l.length < 140737488355328) :
    reloc_Apply.f (k + 6) l o t V.toInt = some (applyR l o t V) := by
  unfold reloc_Apply.f applyR
  rw [known_tells (k + 5) t, Option.bind_some]
  by_cases hk : knownP t
  case neg => rw [if_neg (by simpa using hk), if_neg hk]
  rw [if_pos (by simpa using hk), if_pos hk, width_tells (k + 5) t, Option.bind_some, span_tells o (width t) l.length ho (by unfold width; split <;> (try split) <;> omega) (by omega), Option.bind_some]
  by_cases hw : o + width t ≤ l.length
  case neg => rw [if_neg (by simpa using hw), if_neg hw]
  rw [if_pos (by simpa using hw), if_pos hw, if_pos (by simpa using hl)]
  have hl' : l.length ≤ 140737488355328 := by omega
  have hput (f : Int) (W : BitVec 64) (h : o + 4 ≤ l.length) := rput k l o f W ho hl' h
  rcases known_cases hk with rfl | rfl | rfl | rfl | rfl | rfl | rfl | rfl | rfl | rfl | rfl | rfl | rfl
  · have h4 : o + 4 ≤ l.length := by simpa [width] using hw
    simp [reloc_Field.f, applyS, u64_toInt, set4 l o V ho hl', h4]
  · have h8 : o + 8 ≤ l.length := by simpa [width] using hw
    simp [reloc_Field.f, applyS, u64_toInt, set8 l o V ho hl', h8]
  · have h4 : o + 4 ≤ l.length := by simpa [width] using hw
    by_cases hf : fitsP 3 V.toInt <;> simp [reloc_Field.f, applyS, hput _ _ h4, hf]
  · have h4 : o + 4 ≤ l.length := by simpa [width] using hw
    by_cases hf : fitsP 5 V.toInt <;> simp [reloc_Field.f, applyS, hput _ _ h4, hf]
  · have h8 : o + 8 ≤ l.length := by simpa [width] using hw
    have h4 : o + 4 ≤ l.length := by omega
    have e := rput k (insB 4 l o (hiB V)) (o + 4) 1 (loB V) (by omega) (by rw [insB_length _ _ _ _ h4]; exact hl') (by rw [insB_length _ _ _ _ h4]; omega)
    rw [Int.natCast_add, show ((4 : Nat) : Int) = 4 from rfl] at e
    have e4 : IntKind.u64.wrap ((o : Int) + 4) = (o : Int) + 4 := uw64 (by omega) (by omega)
    simp [reloc_Field.f, reloc_Field.j0, applyS, hi_tells, lo_tells, hput _ _ h4, e4, e, lo_fits1]
  · have h8 : o + 8 ≤ l.length := by simpa [width] using hw
    have h4 : o + 4 ≤ l.length := by omega
    have e := rput k (insB 4 l o (hiB V)) (o + 4) 1 (loB V) (by omega) (by rw [insB_length _ _ _ _ h4]; exact hl') (by rw [insB_length _ _ _ _ h4]; omega)
    rw [Int.natCast_add, show ((4 : Nat) : Int) = 4 from rfl] at e
    have e4 : IntKind.u64.wrap ((o : Int) + 4) = (o : Int) + 4 := uw64 (by omega) (by omega)
    simp [reloc_Field.f, reloc_Field.j0, applyS, hi_tells, lo_tells, hput _ _ h4, e4, e, lo_fits1]
  · have h4 : o + 4 ≤ l.length := by simpa [width] using hw
    simp [reloc_Field.f, reloc_Field.j0, reloc_Field.j1, applyS, hi_tells, hput _ _ h4]
  · have h4 : o + 4 ≤ l.length := by simpa [width] using hw
    simp [reloc_Field.f, reloc_Field.j0, reloc_Field.j1, reloc_Field.j2, applyS, lo_tells, hput _ _ h4, lo_fits1]
  · have h4 : o + 4 ≤ l.length := by simpa [width] using hw
    simp [reloc_Field.f, reloc_Field.j0, reloc_Field.j1, reloc_Field.j2, applyS, lo_tells, hput _ _ h4, lo_fits2]
  · have h4 : o + 4 ≤ l.length := by simpa [width] using hw
    simp [reloc_Field.f, reloc_Field.j0, reloc_Field.j1, applyS, hi_tells, hput _ _ h4]
  · have h4 : o + 4 ≤ l.length := by simpa [width] using hw
    simp [reloc_Field.f, reloc_Field.j0, reloc_Field.j1, reloc_Field.j2, applyS, lo_tells, hput _ _ h4, lo_fits1]
  · have h4 : o + 4 ≤ l.length := by simpa [width] using hw
    simp [reloc_Field.f, reloc_Field.j0, reloc_Field.j1, reloc_Field.j2, applyS, lo_tells, hput _ _ h4, lo_fits2]
  · simp [reloc_Field.f, reloc_Field.j0, reloc_Field.j1, reloc_Field.j2, applyS]

end Go.Proofs.Ytooleipgpkjpjaa.RelRelocEdges
