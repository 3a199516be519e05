/- ImmBack: what is put is got back, what is got fits, and nothing but the field is changed. The plain facts, and the walk of the law through the contracts of what it calls. No condition beside the statement's own. -/
import Derived.Test.YtpjjgipomjenlaaImmImmBack
namespace Go.Proofs.Ytpjjgipomjenlaa.ImmBackWalk
open Go.RowKit Go.Proofs.Ytpjjgipomjenlaa.PImmBack Go.Proofs.YtpjjgipomjenlaaW.PrintWords Go.Proofs.YtpjjgipomjenlaaW.PrintLast Go.Proofs.YtpjjgipomjenlaaW.PrintMore Go.Proofs.Ytpjjgipomjenlaa.Bv Go.Proofs.Ytpjjgipomjenlaa.ImmImmBack
set_option linter.unusedSimpArgs false
set_option linter.unusedVariables false

theorem sx12 (Y : BitVec 64) : ((Y <<< 52).sshiftRight 52).toInt = (Y.toInt + 2048) % 4096 - 2048 := by
  have h := sg12 Y.toInt
  simp only [shl_u64, wrap_u64, wrap_i, ofInt_toNat, ofInt_toInt' 64 (Nat.le_refl 64), BitVec.setWidth_eq, shr_i64] at h
  exact h
theorem sx13 (Y : BitVec 64) : ((Y <<< 51).sshiftRight 51).toInt = (Y.toInt + 4096) % 8192 - 4096 := by
  have h := sg13 Y.toInt
  simp only [shl_u64, wrap_u64, wrap_i, ofInt_toNat, ofInt_toInt' 64 (Nat.le_refl 64), BitVec.setWidth_eq, shr_i64] at h
  exact h
theorem sx20 (Y : BitVec 64) : ((Y <<< 44).sshiftRight 44).toInt = (Y.toInt + 524288) % 1048576 - 524288 := by
  have h := sg20 Y.toInt
  simp only [shl_u64, wrap_u64, wrap_i, ofInt_toNat, ofInt_toInt' 64 (Nat.le_refl 64), BitVec.setWidth_eq, shr_i64] at h
  exact h
theorem sx21 (Y : BitVec 64) : ((Y <<< 43).sshiftRight 43).toInt = (Y.toInt + 1048576) % 2097152 - 1048576 := by
  have h := sg21 Y.toInt
  simp only [shl_u64, wrap_u64, wrap_i, ofInt_toNat, ofInt_toInt' 64 (Nat.le_refl 64), BitVec.setWidth_eq, shr_i64] at h
  exact h
theorem even_toInt (Y : BitVec 64) : Y.toInt % 2 = 0 ↔ Y.getLsbD 0 = false := by
  have h1 : Y.getLsbD 0 = decide (Y.toNat % 2 = 1) := by simp [BitVec.getLsbD, Nat.testBit_zero]
  rw [h1, BitVec.toInt_eq_toNat_bmod, Int.bmod_def]
  simp
  omega

theorem got_fits (f : Int) (hf : 1 ≤ f ∧ f ≤ 5) (X : BitVec 32) : fitsP f (getB f X).toInt := by
  obtain rfl | rfl | rfl | rfl | rfl : f = 1 ∨ f = 2 ∨ f = 3 ∨ f = 4 ∨ f = 5 := by omega
  · rw [getB, if_pos rfl, sx12]; unfold fitsP; simp; omega
  · rw [getB, if_neg (by decide), if_pos rfl, sx12]; unfold fitsP; simp; omega
  · rw [getB, if_neg (by decide), if_neg (by decide), if_pos rfl, sx13]; unfold fitsP
    have he := (even_toInt ((((X >>> 8).setWidth 64 &&& 0xf#64) <<< 1 ||| ((X >>> 25).setWidth 64 &&& 0x3f#64) <<< 5 ||| ((X >>> 7).setWidth 64 &&& 1#64) <<< 11 ||| ((X >>> 31).setWidth 64 &&& 1#64) <<< 12))).2 (by simp)
    simp only [show ¬ ((3:Int) = 1 ∨ (3:Int) = 2) by decide, if_false, if_true]; omega
  · rw [getB, if_neg (by decide), if_neg (by decide), if_neg (by decide), if_pos rfl, sx20]; unfold fitsP; simp; omega
  · rw [getB, if_neg (by decide), if_neg (by decide), if_neg (by decide), if_neg (by decide), if_pos rfl, sx21]; unfold fitsP
    have he := (even_toInt ((((X >>> 21).setWidth 64 &&& 0x3ff#64) <<< 1 ||| ((X >>> 20).setWidth 64 &&& 1#64) <<< 11 ||| ((X >>> 12).setWidth 64 &&& 0xff#64) <<< 12 ||| ((X >>> 31).setWidth 64 &&& 1#64) <<< 20))).2 (by simp)
    simp only [show ¬ ((5:Int) = 1 ∨ (5:Int) = 2) by decide, show ¬ ((5:Int) = 3) by decide, show ¬ ((5:Int) = 4) by decide, if_false, if_true]; omega

theorem put_got (f : Int) (X : BitVec 32) : putB f X (getB f X) = X := by
  unfold putB getB
  by_cases h1 : f = 1
  · simp only [h1, if_true]; apply ext32 <;> simp [BitVec.getElem_sshiftRight]
  · by_cases h2 : f = 2
    · simp only [h2, if_true]; apply ext32 <;> simp [BitVec.getElem_sshiftRight]
    · by_cases h3 : f = 3
      · simp only [h3, if_true]; apply ext32 <;> simp [BitVec.getElem_sshiftRight]
      · by_cases h4 : f = 4
        · simp only [h4, if_true]; apply ext32 <;> simp [BitVec.getElem_sshiftRight]
        · by_cases h5 : f = 5
          · simp only [h5, if_true]; apply ext32 <;> simp [BitVec.getElem_sshiftRight]
          · simp only [h1, h2, h3, h4, h5, if_false]

set_option maxHeartbeats 2000000 in
theorem got_put (f : Int) (hf : 1 ≤ f ∧ f ≤ 5) (X : BitVec 32) (V : BitVec 64) (h : fitsP f V.toInt) : getB f (putB f X V) = V := by
  obtain rfl | rfl | rfl | rfl | rfl : f = 1 ∨ f = 2 ∨ f = 3 ∨ f = 4 ∨ f = 5 := by omega
  · have hV : (V <<< 52).sshiftRight 52 = V := BitVec.eq_of_toInt_eq (by rw [sx12]; unfold fitsP at h; simp at h; omega)
    rw [getB, if_pos rfl]
    refine Eq.trans ?_ hV
    refine congrArg (fun Y : BitVec 64 => Y.sshiftRight 52) ?_
    apply ext64 <;> simp [putB]
  · have hV : (V <<< 52).sshiftRight 52 = V := BitVec.eq_of_toInt_eq (by rw [sx12]; unfold fitsP at h; simp at h; omega)
    rw [getB, if_neg (by decide), if_pos rfl]
    refine Eq.trans ?_ hV
    refine congrArg (fun Y : BitVec 64 => Y.sshiftRight 52) ?_
    apply ext64 <;> simp [putB]
  · unfold fitsP at h
    simp only [show ¬ ((3:Int) = 1 ∨ (3:Int) = 2) by decide, if_false, if_true] at h
    have hV : (V <<< 51).sshiftRight 51 = V := BitVec.eq_of_toInt_eq (by rw [sx13]; omega)
    have h0 := (even_toInt V).1 h.2.2
    simp at h0
    rw [getB, if_neg (by decide), if_neg (by decide), if_pos rfl]
    refine Eq.trans ?_ hV
    refine congrArg (fun Y : BitVec 64 => Y.sshiftRight 51) ?_
    apply ext64 <;> simp [putB, h0]
  · have hV : (V <<< 44).sshiftRight 44 = V := BitVec.eq_of_toInt_eq (by rw [sx20]; unfold fitsP at h; simp at h; omega)
    rw [getB, if_neg (by decide), if_neg (by decide), if_neg (by decide), if_pos rfl]
    refine Eq.trans ?_ hV
    refine congrArg (fun Y : BitVec 64 => Y.sshiftRight 44) ?_
    apply ext64 <;> simp [putB]
  · unfold fitsP at h
    simp only [show ¬ ((5:Int) = 1 ∨ (5:Int) = 2) by decide, show ¬ ((5:Int) = 3) by decide, show ¬ ((5:Int) = 4) by decide, if_false, if_true] at h
    have hV : (V <<< 43).sshiftRight 43 = V := BitVec.eq_of_toInt_eq (by rw [sx21]; omega)
    have h0 := (even_toInt V).1 h.2.2
    simp at h0
    rw [getB, if_neg (by decide), if_neg (by decide), if_neg (by decide), if_neg (by decide), if_pos rfl]
    refine Eq.trans ?_ hV
    refine congrArg (fun Y : BitVec 64 => Y.sshiftRight 43) ?_
    apply ext64 <;> simp [putB, h0]

/-- The bits of a form's number. -/
def fldB (f : Int) : BitVec 32 := if f = 1 then 0xfff00000#32 else if f = 2 ∨ f = 3 then 0xfe000f80#32 else 0xfffff000#32
theorem field_tells (f : Int) : dovetaillaw3_field.f f = some ((fldB f).toNat : Int) := by
  unfold dovetaillaw3_field.f fldB
  by_cases h1 : f = 1
  · simp [h1]
  · by_cases h2 : f = 2
    · simp [h2]
    · by_cases h3 : f = 3
      · simp [h3]
      · simp [h1, h2, h3]
theorem only (f : Int) (hf : 1 ≤ f ∧ f ≤ 5) (X : BitVec 32) (V : BitVec 64) : (putB f X V ^^^ X) &&& ~~~ fldB f = 0#32 := by
  obtain rfl | rfl | rfl | rfl | rfl : f = 1 ∨ f = 2 ∨ f = 3 ∨ f = 4 ∨ f = 5 := by omega
  all_goals (apply ext32 <;> simp [putB, fldB])
theorem bx (a b : Bool) : a = (b != (a != b)) := by cases a <;> cases b <;> rfl
theorem only2 (f : Int) (hf : 1 ≤ f ∧ f ≤ 5) (X O : BitVec 32) (V : BitVec 64) : (putB f X V ^^^ putB f O V ^^^ X ^^^ O) &&& ~~~ fldB f = 0#32 := by
  obtain rfl | rfl | rfl | rfl | rfl : f = 1 ∨ f = 2 ∨ f = 3 ∨ f = 4 ∨ f = 5 := by omega
  all_goals (apply ext32 <;> simp [putB, fldB] <;> exact bx _ _)
theorem zeros (f : Int) (hf : 1 ≤ f ∧ f ≤ 5) (X : BitVec 32) : putB f X 0#64 &&& fldB f = 0#32 := by
  obtain rfl | rfl | rfl | rfl | rfl : f = 1 ∨ f = 2 ∨ f = 3 ∨ f = 4 ∨ f = 5 := by omega
  all_goals (apply ext32 <;> simp [putB, fldB])
theorem zero0 (f : Int) (hf : 1 ≤ f ∧ f ≤ 5) : putB f 0#32 0#64 = 0#32 := by
  obtain rfl | rfl | rfl | rfl | rfl : f = 1 ∨ f = 2 ∨ f = 3 ∨ f = 4 ∨ f = 5 := by omega
  all_goals rfl
theorem zero_fits (f : Int) : fitsP f 0 := by unfold fitsP; split <;> (try split) <;> (try split) <;> (try split) <;> simp

theorem known_ok : dovetaillaw3_known.f 10 = some true := by decide +kernel
set_option maxHeartbeats 1000000 in
set_option maxRecDepth 100000 in
theorem walk_good (f a1 a2 a3 g x y a F : Int) (a0 : Int) (hk : wrap64 (1 + wrap64 (Int.tmod a0 5)) = f)
   (w : World) (hg : imm_Get.f 10 f a1 = some g) (hp : imm_Put.f 10 f a1 g = some (a1, true)) (hf : imm_Fits.f f g = some true)
   (hx : imm_Put.f 10 f a1 a3 = some (x, true)) (hy : imm_Put.f 10 f a2 a3 = some (y, true)) (ha : imm_Put.f 10 f a1 0 = some (a, true)) (hb : imm_Put.f 10 f 0 0 = some (0, true))
   (hgx : imm_Get.f 10 f x = some a3) (hF : dovetaillaw3_field.f f = some F)
   (h1 : (Go.bits .andNot .u32 (Go.bits .xor .u32 x a1) F) = 0) (h2 : (Go.bits .andNot .u32 (Go.bits .xor .u32 (Go.bits .xor .u32 (Go.bits .xor .u32 x y) a1) a2) F) = 0) (h3 : (Go.bits .and .u32 a F) = 0) :
    Calls Try.prog 4 #[.int .u8 a0, .int .u32 a1, .int .u32 a2, .int .i64 a3] w fun e w' => e = .returned (.bool true) ∧ Below w.heap.size w w' := by
  have B0 := Aside0.mk (Below.refl w.heap.size w)
  have A0 := Aside0.mk hk
  have A1 := Aside0.mk hg; have A2 := Aside0.mk hp; have A3 := Aside0.mk hf; have A4 := Aside0.mk hx; have A5 := Aside0.mk hy; have A6 := Aside0.mk ha; have A7 := Aside0.mk hb; have A8 := Aside0.mk hgx; have A9 := Aside0.mk hF
  have A10 := Aside0.mk h1; have A11 := Aside0.mk h2; have A12 := Aside0.mk h3
  clear hk hg hp hf hx hy ha hb hgx hF h1 h2 h3
  go_enter Try.func4, Try.ntmps4
  go_wp2_with fail
  refine (dovetaillaw3_known.calls 10 true _ known_ok).mono ?_; rintro e w1 ⟨rfl, hb⟩; have B1 := Aside0.mk (below_step B0.out hb); clear hb B0
  go_wp2_with fail
  rw [A0.out]
  refine (imm_Get.calls 10 f a1 g _ A1.out).mono ?_; rintro e w2 ⟨rfl, hb⟩; have B2 := Aside0.mk (below_step B1.out hb); clear hb B1
  go_wp2_with fail
  refine (imm_Put.calls 10 f a1 g a1 true _ A2.out).mono ?_; rintro e w3 ⟨rfl, hb⟩; have B3 := Aside0.mk (below_step B2.out hb); clear hb B2
  go_wp2_with fail
  refine (imm_Fits.calls f g true _ A3.out).mono ?_; rintro e w4 ⟨rfl, hb⟩; have B4 := Aside0.mk (below_step B3.out hb); clear hb B3
  go_wp2_with fail
  refine (imm_Put.calls 10 f a1 a3 x true _ A4.out).mono ?_; rintro e w5 ⟨rfl, hb⟩; have B5 := Aside0.mk (below_step B4.out hb); clear hb B4
  go_wp2_with fail
  refine (imm_Put.calls 10 f a2 a3 y true _ A5.out).mono ?_; rintro e w6 ⟨rfl, hb⟩; have B6 := Aside0.mk (below_step B5.out hb); clear hb B5
  go_wp2_with fail
  refine (imm_Put.calls 10 f a1 0 a true _ A6.out).mono ?_; rintro e w7 ⟨rfl, hb⟩; have B7 := Aside0.mk (below_step B6.out hb); clear hb B6
  go_wp2_with fail
  refine (imm_Put.calls 10 f 0 0 0 true _ A7.out).mono ?_; rintro e w8 ⟨rfl, hb⟩; have B8 := Aside0.mk (below_step B7.out hb); clear hb B7
  go_wp2_with fail
  refine (imm_Get.calls 10 f x a3 _ A8.out).mono ?_; rintro e w9 ⟨rfl, hb⟩; have B9 := Aside0.mk (below_step B8.out hb); clear hb B8
  go_wp2_with fail
  refine (dovetaillaw3_field.calls f F _ A9.out).mono ?_; rintro e w10 ⟨rfl, hb⟩; have B10 := Aside0.mk (below_step B9.out hb.below); clear hb B9
  have h1 := A10.out
  go_wp2_with fail
  refine (dovetaillaw3_field.calls f F _ A9.out).mono ?_; rintro e w11 ⟨rfl, hb⟩; have B11 := Aside0.mk (below_step B10.out hb.below); clear hb B10
  clear h1; have h1 := A11.out
  go_wp2_with fail
  refine (dovetaillaw3_field.calls f F _ A9.out).mono ?_; rintro e w12 ⟨rfl, hb⟩; have B12 := Aside0.mk (below_step B11.out hb.below); clear hb B11
  clear h1; have h1 := A12.out
  go_wp2_with fail
  go_ret
  exact ⟨rfl, B12.out⟩
set_option maxHeartbeats 1000000 in
set_option maxRecDepth 100000 in
theorem walk_bad (f a1 a2 a3 g : Int) (a0 : Int) (hk : wrap64 (1 + wrap64 (Int.tmod a0 5)) = f)
   (w : World) (hg : imm_Get.f 10 f a1 = some g) (hp : imm_Put.f 10 f a1 g = some (a1, true)) (hf : imm_Fits.f f g = some true)
   (hx : imm_Put.f 10 f a1 a3 = some (0, false)) (hf' : imm_Fits.f f a3 = some false) :
    Calls Try.prog 4 #[.int .u8 a0, .int .u32 a1, .int .u32 a2, .int .i64 a3] w fun e w' => e = .returned (.bool true) ∧ Below w.heap.size w w' := by
  have B0 := Aside0.mk (Below.refl w.heap.size w)
  have A0 := Aside0.mk hk
  have A1 := Aside0.mk hg; have A2 := Aside0.mk hp; have A3 := Aside0.mk hf; have A4 := Aside0.mk hx; have A5 := Aside0.mk hf'
  clear hk hg hp hf hx hf'
  go_enter Try.func4, Try.ntmps4
  go_wp2_with fail
  refine (dovetaillaw3_known.calls 10 true _ known_ok).mono ?_; rintro e w1 ⟨rfl, hb⟩; have B1 := Aside0.mk (below_step B0.out hb); clear hb B0
  go_wp2_with fail
  rw [A0.out]
  refine (imm_Get.calls 10 f a1 g _ A1.out).mono ?_; rintro e w2 ⟨rfl, hb⟩; have B2 := Aside0.mk (below_step B1.out hb); clear hb B1
  go_wp2_with fail
  refine (imm_Put.calls 10 f a1 g a1 true _ A2.out).mono ?_; rintro e w3 ⟨rfl, hb⟩; have B3 := Aside0.mk (below_step B2.out hb); clear hb B2
  go_wp2_with fail
  refine (imm_Fits.calls f g true _ A3.out).mono ?_; rintro e w4 ⟨rfl, hb⟩; have B4 := Aside0.mk (below_step B3.out hb); clear hb B3
  go_wp2_with fail
  refine (imm_Put.calls 10 f a1 a3 0 false _ A4.out).mono ?_; rintro e w5 ⟨rfl, hb⟩; have B5 := Aside0.mk (below_step B4.out hb); clear hb B4
  go_wp2_with fail
  refine (imm_Fits.calls f a3 false _ A5.out).mono ?_; rintro e w6 ⟨rfl, hb⟩; have B6 := Aside0.mk (below_step B5.out hb); clear hb B5
  go_wp2_with fail
  go_ret
  exact ⟨rfl, B6.out⟩

theorem walk (a0 a1 a2 a3 : Int) (w : World) (w0 : (Lit.int .u8 a0).wf = true) (w1 : (Lit.int .u32 a1).wf = true) (w2 : (Lit.int .u32 a2).wf = true) (w3 : (Lit.int .i64 a3).wf = true) :
    Calls Try.prog 4 #[.int .u8 a0, .int .u32 a1, .int .u32 a2, .int .i64 a3] w fun e w' => e = .returned (.bool true) ∧ Below w.heap.size w w' := by
  have b0 := bd_u8 w0
  obtain ⟨X, rfl⟩ := wf_u32 w1
  obtain ⟨O, rfl⟩ := wf_u32 w2
  obtain ⟨V, rfl⟩ := wf_i64 w3
  have hm : wrap64 (1 + wrap64 (Int.tmod a0 5)) = 1 + a0 % 5 := by
    rw [Int.tmod_eq_emod_of_nonneg b0.1, w64 (x := a0 % 5) (by omega) (by omega), w64 (by omega) (by omega)]
  have hf : 1 ≤ 1 + a0 % 5 ∧ 1 + a0 % 5 ≤ 5 := by omega
  generalize 1 + a0 % 5 = f at hm hf
  have g1 : imm_Get.f 10 f X.toNat = some (getB f X).toInt := get_tells f X
  have g2 : imm_Put.f 10 f X.toNat (getB f X).toInt = some ((X.toNat : Int), true) := by rw [put_tells, if_pos (got_fits f hf X), put_got]
  have g3 : imm_Fits.f f (getB f X).toInt = some true := by rw [fits_tells, decide_eq_true (got_fits f hf X)]
  by_cases hv : fitsP f V.toInt
  · refine walk_good f X.toNat O.toNat V.toInt (getB f X).toInt (putB f X V).toNat (putB f O V).toNat (putB f X 0#64).toNat (fldB f).toNat a0 hm w g1 g2 g3 ?_ ?_ ?_ ?_ ?_ ?_ ?_ ?_ ?_
    · rw [put_tells, if_pos hv]
    · rw [put_tells, if_pos hv]
    · have h := put_tells f X 0#64
      rw [if_pos (by simpa using zero_fits f)] at h
      simpa using h
    · have h := put_tells f 0#32 0#64
      rw [if_pos (by simpa using zero_fits f), zero0 f hf] at h
      simpa using h
    · rw [get_tells, got_put f hf X V hv]
    · exact field_tells f
    · rw [xor_u32, andNot_u32, ofInt_toNat, ofInt_toNat, ofInt_toNat, ofInt_toNat, BitVec.setWidth_eq, BitVec.setWidth_eq, BitVec.setWidth_eq, BitVec.setWidth_eq, only f hf]; rfl
    · rw [xor_u32, xor_u32, xor_u32, andNot_u32]
      simp only [ofInt_toNat, BitVec.setWidth_eq]
      rw [only2 f hf]; rfl
    · rw [and_u32]
      simp only [ofInt_toNat, BitVec.setWidth_eq]
      rw [zeros f hf]; rfl
  · refine walk_bad f X.toNat O.toNat V.toInt (getB f X).toInt a0 hm w g1 g2 g3 ?_ ?_
    · rw [put_tells, if_neg hv]
    · rw [fits_tells, decide_eq_false hv]

end Go.Proofs.Ytpjjgipomjenlaa.ImmBackWalk
