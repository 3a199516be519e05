/- Plain facts on whole numbers as words of bits (BitVec): what Go's operations on bits, shifts and wraps are, as the print spells them. No program in sight. -/
import Derived.Test.YtpblhcmcldachaaWMore
namespace Go.Proofs.Ytpblhcmcldachaa.Bv
open Go.RowKit Go.Proofs.YtpblhcmcldachaaW.PrintWords Go.Proofs.YtpblhcmcldachaaW.PrintLast Go.Proofs.YtpblhcmcldachaaW.PrintMore

theorem toNat_ofInt' (w : Nat) (x : Int) : ((BitVec.ofInt w x).toNat : Int) = x % (2 ^ w : Nat) := by
  rw [BitVec.toNat_ofInt]
  exact Int.toNat_of_nonneg (Int.emod_nonneg _ (by have := Nat.two_pow_pos w; omega))
theorem ofInt_toNat {w v : Nat} (X : BitVec v) : BitVec.ofInt w (X.toNat : Int) = X.setWidth w := by
  rw [BitVec.ofInt_natCast, BitVec.ofNat_toNat]
theorem ofInt_emod (w : Nat) (x : Int) (m : Nat) (h : 2 ^ w ∣ m) : BitVec.ofInt w (x % m) = BitVec.ofInt w x := by
  apply BitVec.eq_of_toNat_eq
  rw [BitVec.toNat_ofInt, BitVec.toNat_ofInt]
  congr 1
  exact Int.emod_emod_of_dvd _ (by exact_mod_cast h)
theorem ofInt_toInt' {v : Nat} (w : Nat) (h : w ≤ v) (X : BitVec v) : BitVec.ofInt w X.toInt = X.setWidth w := by
  apply BitVec.eq_of_toNat_eq
  rw [BitVec.toNat_ofInt, BitVec.toNat_setWidth]
  have hd : ((2 ^ w : Nat) : Int) ∣ ((2 ^ v : Nat) : Int) := by exact_mod_cast Nat.pow_dvd_pow 2 h
  have e : X.toInt % ((2 ^ w : Nat) : Int) = (X.toNat : Int) % ((2 ^ w : Nat) : Int) := by
    rw [BitVec.toInt_eq_toNat_bmod, Int.bmod_def]
    split
    · exact Int.emod_emod_of_dvd _ hd
    · rw [Int.sub_emod, Int.emod_emod_of_dvd _ hd, Int.emod_eq_zero_of_dvd hd, Int.sub_zero, Int.emod_emod_of_dvd _ (Int.dvd_refl _)]
  rw [e, ← Int.natCast_emod, Int.toNat_natCast]
theorem ofInt_mul_pow (w : Nat) (x : Int) (n : Nat) : BitVec.ofInt w (x * (2 ^ n : Nat)) = BitVec.ofInt w x <<< n := by
  rw [BitVec.ofInt_mul]
  apply BitVec.eq_of_toNat_eq
  rw [BitVec.toNat_mul, BitVec.toNat_shiftLeft, Nat.shiftLeft_eq, BitVec.ofInt_natCast, BitVec.toNat_ofNat, Nat.mul_mod_mod]
theorem wrap_i (x : Int) : wrap64 x = (BitVec.ofInt 64 x).toInt := by
  rw [BitVec.toInt_ofInt, Int.bmod_def]; unfold wrap64; simp; omega
theorem wrap_i64 (x : Int) : IntKind.i64.wrap x = (BitVec.ofInt 64 x).toInt := by
  rw [← wrap_i, IntKind.wrap_i64]; unfold wrap64; rfl
theorem wrap_i' (x : Int) : wrap32 x = (BitVec.ofInt 32 x).toInt := by
  rw [BitVec.toInt_ofInt, Int.bmod_def]; unfold wrap32; simp; omega
theorem wrap_u64 (x : Int) : IntKind.u64.wrap x = ((BitVec.ofInt 64 x).toNat : Int) := by
  rw [toNat_ofInt']; simp [IntKind.wrap, IntKind.bits, IntKind.signed]
theorem mod_u64 (x : Int) : x % 18446744073709551616 = ((BitVec.ofInt 64 x).toNat : Int) := by rw [toNat_ofInt']; rfl
theorem wf_u64 {a : Int} (h : (Lit.int .u64 a).wf = true) : ∃ X : BitVec 64, a = (X.toNat : Int) := by
  simp only [Lit.wf, IntKind.min, IntKind.max, IntKind.signed, IntKind.bits, Bool.and_eq_true] at h
  simp at h
  exact ⟨BitVec.ofInt 64 a, by rw [toNat_ofInt']; omega⟩
theorem bd_u64 {a : Int} (h : (Lit.int .u64 a).wf = true) : 0 ≤ a ∧ a < 18446744073709551616 := by
  simp only [Lit.wf, IntKind.min, IntKind.max, IntKind.signed, IntKind.bits, Bool.and_eq_true] at h
  simp at h
  omega
theorem and_u64 (x y : Int) : Go.bits .and .u64 x y = ((BitVec.ofInt 64 x &&& BitVec.ofInt 64 y).toNat : Int) := by
  show IntKind.u64.wrap ((BitVec.ofInt 64 x &&& BitVec.ofInt 64 y).toNat : Int) = _
  rw [wrap_u64, ofInt_toNat, BitVec.setWidth_eq]
theorem or_u64 (x y : Int) : Go.bits .or .u64 x y = ((BitVec.ofInt 64 x ||| BitVec.ofInt 64 y).toNat : Int) := by
  show IntKind.u64.wrap ((BitVec.ofInt 64 x ||| BitVec.ofInt 64 y).toNat : Int) = _
  rw [wrap_u64, ofInt_toNat, BitVec.setWidth_eq]
theorem xor_u64 (x y : Int) : Go.bits .xor .u64 x y = ((BitVec.ofInt 64 x ^^^ BitVec.ofInt 64 y).toNat : Int) := by
  show IntKind.u64.wrap ((BitVec.ofInt 64 x ^^^ BitVec.ofInt 64 y).toNat : Int) = _
  rw [wrap_u64, ofInt_toNat, BitVec.setWidth_eq]
theorem andNot_u64 (x y : Int) : Go.bits .andNot .u64 x y = ((BitVec.ofInt 64 x &&& ~~~BitVec.ofInt 64 y).toNat : Int) := by
  show IntKind.u64.wrap ((BitVec.ofInt 64 x &&& ~~~BitVec.ofInt 64 y).toNat : Int) = _
  rw [wrap_u64, ofInt_toNat, BitVec.setWidth_eq]
theorem shl_u64 (x c : Int) : shl .u64 x c = ((BitVec.ofInt 64 x <<< c.toNat).toNat : Int) := by
  unfold shl
  rw [wrap_u64]
  rcases Nat.lt_or_ge c.toNat 64 with h | h
  · rw [show min c.toNat IntKind.u64.bits = c.toNat by simp [IntKind.bits]; omega, show ((2:Int) ^ c.toNat) = ((2 ^ c.toNat : Nat) : Int) by simp, ofInt_mul_pow]
  · rw [show min c.toNat IntKind.u64.bits = 64 by simp [IntKind.bits]; omega, show ((2:Int) ^ 64) = ((2 ^ 64 : Nat) : Int) by simp, ofInt_mul_pow, BitVec.shiftLeft_eq_zero h, BitVec.shiftLeft_eq_zero (Nat.le_refl _)]
theorem shr_u64 (X : BitVec 64) (c : Int) : shr .u64 (X.toNat : Int) c = ((X >>> c.toNat).toNat : Int) := by
  unfold shr
  rw [BitVec.toNat_ushiftRight, Nat.shiftRight_eq_div_pow]
  rcases Nat.lt_or_ge c.toNat 64 with h | h
  · rw [show min c.toNat IntKind.u64.bits = c.toNat by simp [IntKind.bits]; omega]; simp
  · rw [show min c.toNat IntKind.u64.bits = 64 by simp [IntKind.bits]; omega]
    have hx := X.isLt
    rw [Nat.div_eq_of_lt (Nat.lt_of_lt_of_le hx (Nat.pow_le_pow_right (by decide) h)), Int.ediv_eq_zero_of_lt (by omega) (by omega)]; rfl
theorem wrap_u32 (x : Int) : IntKind.u32.wrap x = ((BitVec.ofInt 32 x).toNat : Int) := by
  rw [toNat_ofInt']; simp [IntKind.wrap, IntKind.bits, IntKind.signed]
theorem mod_u32 (x : Int) : x % 4294967296 = ((BitVec.ofInt 32 x).toNat : Int) := by rw [toNat_ofInt']; rfl
theorem wf_u32 {a : Int} (h : (Lit.int .u32 a).wf = true) : ∃ X : BitVec 32, a = (X.toNat : Int) := by
  simp only [Lit.wf, IntKind.min, IntKind.max, IntKind.signed, IntKind.bits, Bool.and_eq_true] at h
  simp at h
  exact ⟨BitVec.ofInt 32 a, by rw [toNat_ofInt']; omega⟩
theorem bd_u32 {a : Int} (h : (Lit.int .u32 a).wf = true) : 0 ≤ a ∧ a < 4294967296 := by
  simp only [Lit.wf, IntKind.min, IntKind.max, IntKind.signed, IntKind.bits, Bool.and_eq_true] at h
  simp at h
  omega
theorem and_u32 (x y : Int) : Go.bits .and .u32 x y = ((BitVec.ofInt 32 x &&& BitVec.ofInt 32 y).toNat : Int) := by
  show IntKind.u32.wrap ((BitVec.ofInt 32 x &&& BitVec.ofInt 32 y).toNat : Int) = _
  rw [wrap_u32, ofInt_toNat, BitVec.setWidth_eq]
theorem or_u32 (x y : Int) : Go.bits .or .u32 x y = ((BitVec.ofInt 32 x ||| BitVec.ofInt 32 y).toNat : Int) := by
  show IntKind.u32.wrap ((BitVec.ofInt 32 x ||| BitVec.ofInt 32 y).toNat : Int) = _
  rw [wrap_u32, ofInt_toNat, BitVec.setWidth_eq]
theorem xor_u32 (x y : Int) : Go.bits .xor .u32 x y = ((BitVec.ofInt 32 x ^^^ BitVec.ofInt 32 y).toNat : Int) := by
  show IntKind.u32.wrap ((BitVec.ofInt 32 x ^^^ BitVec.ofInt 32 y).toNat : Int) = _
  rw [wrap_u32, ofInt_toNat, BitVec.setWidth_eq]
theorem andNot_u32 (x y : Int) : Go.bits .andNot .u32 x y = ((BitVec.ofInt 32 x &&& ~~~BitVec.ofInt 32 y).toNat : Int) := by
  show IntKind.u32.wrap ((BitVec.ofInt 32 x &&& ~~~BitVec.ofInt 32 y).toNat : Int) = _
  rw [wrap_u32, ofInt_toNat, BitVec.setWidth_eq]
theorem shl_u32 (x c : Int) : shl .u32 x c = ((BitVec.ofInt 32 x <<< c.toNat).toNat : Int) := by
  unfold shl
  rw [wrap_u32]
  rcases Nat.lt_or_ge c.toNat 32 with h | h
  · rw [show min c.toNat IntKind.u32.bits = c.toNat by simp [IntKind.bits]; omega, show ((2:Int) ^ c.toNat) = ((2 ^ c.toNat : Nat) : Int) by simp, ofInt_mul_pow]
  · rw [show min c.toNat IntKind.u32.bits = 32 by simp [IntKind.bits]; omega, show ((2:Int) ^ 32) = ((2 ^ 32 : Nat) : Int) by simp, ofInt_mul_pow, BitVec.shiftLeft_eq_zero h, BitVec.shiftLeft_eq_zero (Nat.le_refl _)]
theorem shr_u32 (X : BitVec 32) (c : Int) : shr .u32 (X.toNat : Int) c = ((X >>> c.toNat).toNat : Int) := by
  unfold shr
  rw [BitVec.toNat_ushiftRight, Nat.shiftRight_eq_div_pow]
  rcases Nat.lt_or_ge c.toNat 32 with h | h
  · rw [show min c.toNat IntKind.u32.bits = c.toNat by simp [IntKind.bits]; omega]; simp
  · rw [show min c.toNat IntKind.u32.bits = 32 by simp [IntKind.bits]; omega]
    have hx := X.isLt
    rw [Nat.div_eq_of_lt (Nat.lt_of_lt_of_le hx (Nat.pow_le_pow_right (by decide) h)), Int.ediv_eq_zero_of_lt (by omega) (by omega)]; rfl
theorem wrap_u16 (x : Int) : IntKind.u16.wrap x = ((BitVec.ofInt 16 x).toNat : Int) := by
  rw [toNat_ofInt']; simp [IntKind.wrap, IntKind.bits, IntKind.signed]
theorem mod_u16 (x : Int) : x % 65536 = ((BitVec.ofInt 16 x).toNat : Int) := by rw [toNat_ofInt']; rfl
theorem wf_u16 {a : Int} (h : (Lit.int .u16 a).wf = true) : ∃ X : BitVec 16, a = (X.toNat : Int) := by
  simp only [Lit.wf, IntKind.min, IntKind.max, IntKind.signed, IntKind.bits, Bool.and_eq_true] at h
  simp at h
  exact ⟨BitVec.ofInt 16 a, by rw [toNat_ofInt']; omega⟩
theorem bd_u16 {a : Int} (h : (Lit.int .u16 a).wf = true) : 0 ≤ a ∧ a < 65536 := by
  simp only [Lit.wf, IntKind.min, IntKind.max, IntKind.signed, IntKind.bits, Bool.and_eq_true] at h
  simp at h
  omega
theorem and_u16 (x y : Int) : Go.bits .and .u16 x y = ((BitVec.ofInt 16 x &&& BitVec.ofInt 16 y).toNat : Int) := by
  show IntKind.u16.wrap ((BitVec.ofInt 16 x &&& BitVec.ofInt 16 y).toNat : Int) = _
  rw [wrap_u16, ofInt_toNat, BitVec.setWidth_eq]
theorem or_u16 (x y : Int) : Go.bits .or .u16 x y = ((BitVec.ofInt 16 x ||| BitVec.ofInt 16 y).toNat : Int) := by
  show IntKind.u16.wrap ((BitVec.ofInt 16 x ||| BitVec.ofInt 16 y).toNat : Int) = _
  rw [wrap_u16, ofInt_toNat, BitVec.setWidth_eq]
theorem xor_u16 (x y : Int) : Go.bits .xor .u16 x y = ((BitVec.ofInt 16 x ^^^ BitVec.ofInt 16 y).toNat : Int) := by
  show IntKind.u16.wrap ((BitVec.ofInt 16 x ^^^ BitVec.ofInt 16 y).toNat : Int) = _
  rw [wrap_u16, ofInt_toNat, BitVec.setWidth_eq]
theorem andNot_u16 (x y : Int) : Go.bits .andNot .u16 x y = ((BitVec.ofInt 16 x &&& ~~~BitVec.ofInt 16 y).toNat : Int) := by
  show IntKind.u16.wrap ((BitVec.ofInt 16 x &&& ~~~BitVec.ofInt 16 y).toNat : Int) = _
  rw [wrap_u16, ofInt_toNat, BitVec.setWidth_eq]
theorem shl_u16 (x c : Int) : shl .u16 x c = ((BitVec.ofInt 16 x <<< c.toNat).toNat : Int) := by
  unfold shl
  rw [wrap_u16]
  rcases Nat.lt_or_ge c.toNat 16 with h | h
  · rw [show min c.toNat IntKind.u16.bits = c.toNat by simp [IntKind.bits]; omega, show ((2:Int) ^ c.toNat) = ((2 ^ c.toNat : Nat) : Int) by simp, ofInt_mul_pow]
  · rw [show min c.toNat IntKind.u16.bits = 16 by simp [IntKind.bits]; omega, show ((2:Int) ^ 16) = ((2 ^ 16 : Nat) : Int) by simp, ofInt_mul_pow, BitVec.shiftLeft_eq_zero h, BitVec.shiftLeft_eq_zero (Nat.le_refl _)]
theorem shr_u16 (X : BitVec 16) (c : Int) : shr .u16 (X.toNat : Int) c = ((X >>> c.toNat).toNat : Int) := by
  unfold shr
  rw [BitVec.toNat_ushiftRight, Nat.shiftRight_eq_div_pow]
  rcases Nat.lt_or_ge c.toNat 16 with h | h
  · rw [show min c.toNat IntKind.u16.bits = c.toNat by simp [IntKind.bits]; omega]; simp
  · rw [show min c.toNat IntKind.u16.bits = 16 by simp [IntKind.bits]; omega]
    have hx := X.isLt
    rw [Nat.div_eq_of_lt (Nat.lt_of_lt_of_le hx (Nat.pow_le_pow_right (by decide) h)), Int.ediv_eq_zero_of_lt (by omega) (by omega)]; rfl
theorem wrap_u8 (x : Int) : IntKind.u8.wrap x = ((BitVec.ofInt 8 x).toNat : Int) := by
  rw [toNat_ofInt']; simp [IntKind.wrap, IntKind.bits, IntKind.signed]
theorem mod_u8 (x : Int) : x % 256 = ((BitVec.ofInt 8 x).toNat : Int) := by rw [toNat_ofInt']; rfl
theorem wf_u8 {a : Int} (h : (Lit.int .u8 a).wf = true) : ∃ X : BitVec 8, a = (X.toNat : Int) := by
  simp only [Lit.wf, IntKind.min, IntKind.max, IntKind.signed, IntKind.bits, Bool.and_eq_true] at h
  simp at h
  exact ⟨BitVec.ofInt 8 a, by rw [toNat_ofInt']; omega⟩
theorem bd_u8 {a : Int} (h : (Lit.int .u8 a).wf = true) : 0 ≤ a ∧ a < 256 := by
  simp only [Lit.wf, IntKind.min, IntKind.max, IntKind.signed, IntKind.bits, Bool.and_eq_true] at h
  simp at h
  omega
theorem and_u8 (x y : Int) : Go.bits .and .u8 x y = ((BitVec.ofInt 8 x &&& BitVec.ofInt 8 y).toNat : Int) := by
  show IntKind.u8.wrap ((BitVec.ofInt 8 x &&& BitVec.ofInt 8 y).toNat : Int) = _
  rw [wrap_u8, ofInt_toNat, BitVec.setWidth_eq]
theorem or_u8 (x y : Int) : Go.bits .or .u8 x y = ((BitVec.ofInt 8 x ||| BitVec.ofInt 8 y).toNat : Int) := by
  show IntKind.u8.wrap ((BitVec.ofInt 8 x ||| BitVec.ofInt 8 y).toNat : Int) = _
  rw [wrap_u8, ofInt_toNat, BitVec.setWidth_eq]
theorem xor_u8 (x y : Int) : Go.bits .xor .u8 x y = ((BitVec.ofInt 8 x ^^^ BitVec.ofInt 8 y).toNat : Int) := by
  show IntKind.u8.wrap ((BitVec.ofInt 8 x ^^^ BitVec.ofInt 8 y).toNat : Int) = _
  rw [wrap_u8, ofInt_toNat, BitVec.setWidth_eq]
theorem andNot_u8 (x y : Int) : Go.bits .andNot .u8 x y = ((BitVec.ofInt 8 x &&& ~~~BitVec.ofInt 8 y).toNat : Int) := by
  show IntKind.u8.wrap ((BitVec.ofInt 8 x &&& ~~~BitVec.ofInt 8 y).toNat : Int) = _
  rw [wrap_u8, ofInt_toNat, BitVec.setWidth_eq]
theorem shl_u8 (x c : Int) : shl .u8 x c = ((BitVec.ofInt 8 x <<< c.toNat).toNat : Int) := by
  unfold shl
  rw [wrap_u8]
  rcases Nat.lt_or_ge c.toNat 8 with h | h
  · rw [show min c.toNat IntKind.u8.bits = c.toNat by simp [IntKind.bits]; omega, show ((2:Int) ^ c.toNat) = ((2 ^ c.toNat : Nat) : Int) by simp, ofInt_mul_pow]
  · rw [show min c.toNat IntKind.u8.bits = 8 by simp [IntKind.bits]; omega, show ((2:Int) ^ 8) = ((2 ^ 8 : Nat) : Int) by simp, ofInt_mul_pow, BitVec.shiftLeft_eq_zero h, BitVec.shiftLeft_eq_zero (Nat.le_refl _)]
theorem shr_u8 (X : BitVec 8) (c : Int) : shr .u8 (X.toNat : Int) c = ((X >>> c.toNat).toNat : Int) := by
  unfold shr
  rw [BitVec.toNat_ushiftRight, Nat.shiftRight_eq_div_pow]
  rcases Nat.lt_or_ge c.toNat 8 with h | h
  · rw [show min c.toNat IntKind.u8.bits = c.toNat by simp [IntKind.bits]; omega]; simp
  · rw [show min c.toNat IntKind.u8.bits = 8 by simp [IntKind.bits]; omega]
    have hx := X.isLt
    rw [Nat.div_eq_of_lt (Nat.lt_of_lt_of_le hx (Nat.pow_le_pow_right (by decide) h)), Int.ediv_eq_zero_of_lt (by omega) (by omega)]; rfl
theorem and_i64 (x y : Int) : Go.bits .and .i64 x y = (BitVec.ofInt 64 x &&& BitVec.ofInt 64 y).toInt := by
  show IntKind.i64.wrap ((BitVec.ofInt 64 x &&& BitVec.ofInt 64 y).toNat : Int) = _
  rw [wrap_i64, ofInt_toNat, BitVec.setWidth_eq]
theorem or_i64 (x y : Int) : Go.bits .or .i64 x y = (BitVec.ofInt 64 x ||| BitVec.ofInt 64 y).toInt := by
  show IntKind.i64.wrap ((BitVec.ofInt 64 x ||| BitVec.ofInt 64 y).toNat : Int) = _
  rw [wrap_i64, ofInt_toNat, BitVec.setWidth_eq]
theorem xor_i64 (x y : Int) : Go.bits .xor .i64 x y = (BitVec.ofInt 64 x ^^^ BitVec.ofInt 64 y).toInt := by
  show IntKind.i64.wrap ((BitVec.ofInt 64 x ^^^ BitVec.ofInt 64 y).toNat : Int) = _
  rw [wrap_i64, ofInt_toNat, BitVec.setWidth_eq]
theorem andNot_i64 (x y : Int) : Go.bits .andNot .i64 x y = (BitVec.ofInt 64 x &&& ~~~BitVec.ofInt 64 y).toInt := by
  show IntKind.i64.wrap ((BitVec.ofInt 64 x &&& ~~~BitVec.ofInt 64 y).toNat : Int) = _
  rw [wrap_i64, ofInt_toNat, BitVec.setWidth_eq]
theorem shl_i64 (x c : Int) : shl .i64 x c = (BitVec.ofInt 64 x <<< c.toNat).toInt := by
  unfold shl
  rw [wrap_i64]
  rcases Nat.lt_or_ge c.toNat 64 with h | h
  · rw [show min c.toNat IntKind.i64.bits = c.toNat by simp [IntKind.bits]; omega, show ((2:Int) ^ c.toNat) = ((2 ^ c.toNat : Nat) : Int) by simp, ofInt_mul_pow]
  · rw [show min c.toNat IntKind.i64.bits = 64 by simp [IntKind.bits]; omega, show ((2:Int) ^ 64) = ((2 ^ 64 : Nat) : Int) by simp, ofInt_mul_pow, BitVec.shiftLeft_eq_zero h, BitVec.shiftLeft_eq_zero (Nat.le_refl _)]
theorem shr_i64 (X : BitVec 64) (c : Int) : shr .i64 X.toInt c = (X.sshiftRight c.toNat).toInt := by
  unfold shr
  rw [BitVec.toInt_sshiftRight, Int.shiftRight_eq_div_pow]
  rcases Nat.lt_or_ge c.toNat 64 with h | h
  · rw [show min c.toNat IntKind.i64.bits = c.toNat by simp [IntKind.bits]; omega]; simp
  · rw [show min c.toNat IntKind.i64.bits = 64 by simp [IntKind.bits]; omega]
    have h1 := @BitVec.toInt_lt 64 X
    have h2 := @BitVec.le_toInt 64 X
    have hp : (2 : Int) ^ 64 ≤ ((2 ^ c.toNat : Nat) : Int) := by exact_mod_cast Nat.pow_le_pow_right (by decide) h
    have hq : ((18446744073709551616 : Nat) : Int) ≤ ((2 ^ c.toNat : Nat) : Int) := by simpa using hp
    rcases (by omega : X.toInt < 0 ∨ 0 ≤ X.toInt) with h0 | h0
    · rw [Int.ediv_eq_neg_one_of_neg_of_le h0 (by simp at h2 ⊢; omega), Int.ediv_eq_neg_one_of_neg_of_le h0 (by simp at h2 hq ⊢; omega)]
    · rw [Int.ediv_eq_zero_of_lt h0 (by simp at h1 ⊢; omega), Int.ediv_eq_zero_of_lt h0 (by simp at h1 hq ⊢; omega)]
theorem wf_i64 {a : Int} (h : (Lit.int .i64 a).wf = true) : ∃ X : BitVec 64, a = X.toInt := by
  simp only [Lit.wf, IntKind.min, IntKind.max, IntKind.signed, IntKind.bits, Bool.and_eq_true] at h
  simp at h
  exact ⟨BitVec.ofInt 64 a, by rw [BitVec.toInt_ofInt, Int.bmod_def]; simp; omega⟩
theorem bd_i64 {a : Int} (h : (Lit.int .i64 a).wf = true) : -9223372036854775808 ≤ a ∧ a < 9223372036854775808 := by
  simp only [Lit.wf, IntKind.min, IntKind.max, IntKind.signed, IntKind.bits, Bool.and_eq_true] at h
  simp at h
  omega
theorem wrap_i32 (x : Int) : IntKind.i32.wrap x = (BitVec.ofInt 32 x).toInt := by
  rw [← wrap_i', IntKind.wrap_i32]; unfold wrap32; rfl
theorem and_i32 (x y : Int) : Go.bits .and .i32 x y = (BitVec.ofInt 32 x &&& BitVec.ofInt 32 y).toInt := by
  show IntKind.i32.wrap ((BitVec.ofInt 32 x &&& BitVec.ofInt 32 y).toNat : Int) = _
  rw [wrap_i32, ofInt_toNat, BitVec.setWidth_eq]
theorem or_i32 (x y : Int) : Go.bits .or .i32 x y = (BitVec.ofInt 32 x ||| BitVec.ofInt 32 y).toInt := by
  show IntKind.i32.wrap ((BitVec.ofInt 32 x ||| BitVec.ofInt 32 y).toNat : Int) = _
  rw [wrap_i32, ofInt_toNat, BitVec.setWidth_eq]
theorem xor_i32 (x y : Int) : Go.bits .xor .i32 x y = (BitVec.ofInt 32 x ^^^ BitVec.ofInt 32 y).toInt := by
  show IntKind.i32.wrap ((BitVec.ofInt 32 x ^^^ BitVec.ofInt 32 y).toNat : Int) = _
  rw [wrap_i32, ofInt_toNat, BitVec.setWidth_eq]
theorem andNot_i32 (x y : Int) : Go.bits .andNot .i32 x y = (BitVec.ofInt 32 x &&& ~~~BitVec.ofInt 32 y).toInt := by
  show IntKind.i32.wrap ((BitVec.ofInt 32 x &&& ~~~BitVec.ofInt 32 y).toNat : Int) = _
  rw [wrap_i32, ofInt_toNat, BitVec.setWidth_eq]
theorem shl_i32 (x c : Int) : shl .i32 x c = (BitVec.ofInt 32 x <<< c.toNat).toInt := by
  unfold shl
  rw [wrap_i32]
  rcases Nat.lt_or_ge c.toNat 32 with h | h
  · rw [show min c.toNat IntKind.i32.bits = c.toNat by simp [IntKind.bits]; omega, show ((2:Int) ^ c.toNat) = ((2 ^ c.toNat : Nat) : Int) by simp, ofInt_mul_pow]
  · rw [show min c.toNat IntKind.i32.bits = 32 by simp [IntKind.bits]; omega, show ((2:Int) ^ 32) = ((2 ^ 32 : Nat) : Int) by simp, ofInt_mul_pow, BitVec.shiftLeft_eq_zero h, BitVec.shiftLeft_eq_zero (Nat.le_refl _)]
theorem shr_i32 (X : BitVec 32) (c : Int) : shr .i32 X.toInt c = (X.sshiftRight c.toNat).toInt := by
  unfold shr
  rw [BitVec.toInt_sshiftRight, Int.shiftRight_eq_div_pow]
  rcases Nat.lt_or_ge c.toNat 32 with h | h
  · rw [show min c.toNat IntKind.i32.bits = c.toNat by simp [IntKind.bits]; omega]; simp
  · rw [show min c.toNat IntKind.i32.bits = 32 by simp [IntKind.bits]; omega]
    have h1 := @BitVec.toInt_lt 32 X
    have h2 := @BitVec.le_toInt 32 X
    have hp : (2 : Int) ^ 32 ≤ ((2 ^ c.toNat : Nat) : Int) := by exact_mod_cast Nat.pow_le_pow_right (by decide) h
    have hq : ((4294967296 : Nat) : Int) ≤ ((2 ^ c.toNat : Nat) : Int) := by simpa using hp
    rcases (by omega : X.toInt < 0 ∨ 0 ≤ X.toInt) with h0 | h0
    · rw [Int.ediv_eq_neg_one_of_neg_of_le h0 (by simp at h2 ⊢; omega), Int.ediv_eq_neg_one_of_neg_of_le h0 (by simp at h2 hq ⊢; omega)]
    · rw [Int.ediv_eq_zero_of_lt h0 (by simp at h1 ⊢; omega), Int.ediv_eq_zero_of_lt h0 (by simp at h1 hq ⊢; omega)]
theorem wf_i32 {a : Int} (h : (Lit.int .i32 a).wf = true) : ∃ X : BitVec 32, a = X.toInt := by
  simp only [Lit.wf, IntKind.min, IntKind.max, IntKind.signed, IntKind.bits, Bool.and_eq_true] at h
  simp at h
  exact ⟨BitVec.ofInt 32 a, by rw [BitVec.toInt_ofInt, Int.bmod_def]; simp; omega⟩
theorem bd_i32 {a : Int} (h : (Lit.int .i32 a).wf = true) : -2147483648 ≤ a ∧ a < 2147483648 := by
  simp only [Lit.wf, IntKind.min, IntKind.max, IntKind.signed, IntKind.bits, Bool.and_eq_true] at h
  simp at h
  omega
theorem w64 {x : Int} (h0 : -9223372036854775808 ≤ x) (h1 : x < 9223372036854775808) : wrap64 x = x := by unfold wrap64; omega
theorem w32 {x : Int} (h0 : -2147483648 ≤ x) (h1 : x < 2147483648) : wrap32 x = x := by unfold wrap32; omega
theorem uw64 {x : Int} (h0 : 0 ≤ x) (h1 : x < 18446744073709551616) : IntKind.u64.wrap x = x := by
  simp [IntKind.wrap, IntKind.bits, IntKind.signed]; omega
theorem uw32 {x : Int} (h0 : 0 ≤ x) (h1 : x < 4294967296) : IntKind.u32.wrap x = x := by
  simp [IntKind.wrap, IntKind.bits, IntKind.signed]; omega
theorem uw16 {x : Int} (h0 : 0 ≤ x) (h1 : x < 65536) : IntKind.u16.wrap x = x := by
  simp [IntKind.wrap, IntKind.bits, IntKind.signed]; omega
theorem uw8 {x : Int} (h0 : 0 ≤ x) (h1 : x < 256) : IntKind.u8.wrap x = x := by
  simp [IntKind.wrap, IntKind.bits, IntKind.signed]; omega
theorem iw64 {x : Int} (h0 : -9223372036854775808 ≤ x) (h1 : x < 9223372036854775808) : IntKind.i64.wrap x = x := by
  rw [IntKind.wrap_i64]; omega
theorem iw32 {x : Int} (h0 : -2147483648 ≤ x) (h1 : x < 2147483648) : IntKind.i32.wrap x = x := by
  rw [IntKind.wrap_i32]; omega
theorem ext8 {A B : BitVec 8} (h0 : A.getLsbD 0 = B.getLsbD 0) (h1 : A.getLsbD 1 = B.getLsbD 1) (h2 : A.getLsbD 2 = B.getLsbD 2) (h3 : A.getLsbD 3 = B.getLsbD 3) (h4 : A.getLsbD 4 = B.getLsbD 4) (h5 : A.getLsbD 5 = B.getLsbD 5) (h6 : A.getLsbD 6 = B.getLsbD 6) (h7 : A.getLsbD 7 = B.getLsbD 7) : A = B := by
  apply BitVec.eq_of_getLsbD_eq
  intro i hi
  match i, hi with
  | 0, _ => exact h0
  | 1, _ => exact h1
  | 2, _ => exact h2
  | 3, _ => exact h3
  | 4, _ => exact h4
  | 5, _ => exact h5
  | 6, _ => exact h6
  | 7, _ => exact h7
  | n + 8, h => exact absurd h (by omega)
theorem ext32 {A B : BitVec 32} (h0 : A.getLsbD 0 = B.getLsbD 0) (h1 : A.getLsbD 1 = B.getLsbD 1) (h2 : A.getLsbD 2 = B.getLsbD 2) (h3 : A.getLsbD 3 = B.getLsbD 3) (h4 : A.getLsbD 4 = B.getLsbD 4) (h5 : A.getLsbD 5 = B.getLsbD 5) (h6 : A.getLsbD 6 = B.getLsbD 6) (h7 : A.getLsbD 7 = B.getLsbD 7) (h8 : A.getLsbD 8 = B.getLsbD 8) (h9 : A.getLsbD 9 = B.getLsbD 9) (h10 : A.getLsbD 10 = B.getLsbD 10) (h11 : A.getLsbD 11 = B.getLsbD 11) (h12 : A.getLsbD 12 = B.getLsbD 12) (h13 : A.getLsbD 13 = B.getLsbD 13) (h14 : A.getLsbD 14 = B.getLsbD 14) (h15 : A.getLsbD 15 = B.getLsbD 15) (h16 : A.getLsbD 16 = B.getLsbD 16) (h17 : A.getLsbD 17 = B.getLsbD 17) (h18 : A.getLsbD 18 = B.getLsbD 18) (h19 : A.getLsbD 19 = B.getLsbD 19) (h20 : A.getLsbD 20 = B.getLsbD 20) (h21 : A.getLsbD 21 = B.getLsbD 21) (h22 : A.getLsbD 22 = B.getLsbD 22) (h23 : A.getLsbD 23 = B.getLsbD 23) (h24 : A.getLsbD 24 = B.getLsbD 24) (h25 : A.getLsbD 25 = B.getLsbD 25) (h26 : A.getLsbD 26 = B.getLsbD 26) (h27 : A.getLsbD 27 = B.getLsbD 27) (h28 : A.getLsbD 28 = B.getLsbD 28) (h29 : A.getLsbD 29 = B.getLsbD 29) (h30 : A.getLsbD 30 = B.getLsbD 30) (h31 : A.getLsbD 31 = B.getLsbD 31) : A = B := by
  apply BitVec.eq_of_getLsbD_eq
  intro i hi
  match i, hi with
  | 0, _ => exact h0
  | 1, _ => exact h1
  | 2, _ => exact h2
  | 3, _ => exact h3
  | 4, _ => exact h4
  | 5, _ => exact h5
  | 6, _ => exact h6
  | 7, _ => exact h7
  | 8, _ => exact h8
  | 9, _ => exact h9
  | 10, _ => exact h10
  | 11, _ => exact h11
  | 12, _ => exact h12
  | 13, _ => exact h13
  | 14, _ => exact h14
  | 15, _ => exact h15
  | 16, _ => exact h16
  | 17, _ => exact h17
  | 18, _ => exact h18
  | 19, _ => exact h19
  | 20, _ => exact h20
  | 21, _ => exact h21
  | 22, _ => exact h22
  | 23, _ => exact h23
  | 24, _ => exact h24
  | 25, _ => exact h25
  | 26, _ => exact h26
  | 27, _ => exact h27
  | 28, _ => exact h28
  | 29, _ => exact h29
  | 30, _ => exact h30
  | 31, _ => exact h31
  | n + 32, h => exact absurd h (by omega)
theorem ext64 {A B : BitVec 64} (h0 : A.getLsbD 0 = B.getLsbD 0) (h1 : A.getLsbD 1 = B.getLsbD 1) (h2 : A.getLsbD 2 = B.getLsbD 2) (h3 : A.getLsbD 3 = B.getLsbD 3) (h4 : A.getLsbD 4 = B.getLsbD 4) (h5 : A.getLsbD 5 = B.getLsbD 5) (h6 : A.getLsbD 6 = B.getLsbD 6) (h7 : A.getLsbD 7 = B.getLsbD 7) (h8 : A.getLsbD 8 = B.getLsbD 8) (h9 : A.getLsbD 9 = B.getLsbD 9) (h10 : A.getLsbD 10 = B.getLsbD 10) (h11 : A.getLsbD 11 = B.getLsbD 11) (h12 : A.getLsbD 12 = B.getLsbD 12) (h13 : A.getLsbD 13 = B.getLsbD 13) (h14 : A.getLsbD 14 = B.getLsbD 14) (h15 : A.getLsbD 15 = B.getLsbD 15) (h16 : A.getLsbD 16 = B.getLsbD 16) (h17 : A.getLsbD 17 = B.getLsbD 17) (h18 : A.getLsbD 18 = B.getLsbD 18) (h19 : A.getLsbD 19 = B.getLsbD 19) (h20 : A.getLsbD 20 = B.getLsbD 20) (h21 : A.getLsbD 21 = B.getLsbD 21) (h22 : A.getLsbD 22 = B.getLsbD 22) (h23 : A.getLsbD 23 = B.getLsbD 23) (h24 : A.getLsbD 24 = B.getLsbD 24) (h25 : A.getLsbD 25 = B.getLsbD 25) (h26 : A.getLsbD 26 = B.getLsbD 26) (h27 : A.getLsbD 27 = B.getLsbD 27) (h28 : A.getLsbD 28 = B.getLsbD 28) (h29 : A.getLsbD 29 = B.getLsbD 29) (h30 : A.getLsbD 30 = B.getLsbD 30) (h31 : A.getLsbD 31 = B.getLsbD 31) (h32 : A.getLsbD 32 = B.getLsbD 32) (h33 : A.getLsbD 33 = B.getLsbD 33) (h34 : A.getLsbD 34 = B.getLsbD 34) (h35 : A.getLsbD 35 = B.getLsbD 35) (h36 : A.getLsbD 36 = B.getLsbD 36) (h37 : A.getLsbD 37 = B.getLsbD 37) (h38 : A.getLsbD 38 = B.getLsbD 38) (h39 : A.getLsbD 39 = B.getLsbD 39) (h40 : A.getLsbD 40 = B.getLsbD 40) (h41 : A.getLsbD 41 = B.getLsbD 41) (h42 : A.getLsbD 42 = B.getLsbD 42) (h43 : A.getLsbD 43 = B.getLsbD 43) (h44 : A.getLsbD 44 = B.getLsbD 44) (h45 : A.getLsbD 45 = B.getLsbD 45) (h46 : A.getLsbD 46 = B.getLsbD 46) (h47 : A.getLsbD 47 = B.getLsbD 47) (h48 : A.getLsbD 48 = B.getLsbD 48) (h49 : A.getLsbD 49 = B.getLsbD 49) (h50 : A.getLsbD 50 = B.getLsbD 50) (h51 : A.getLsbD 51 = B.getLsbD 51) (h52 : A.getLsbD 52 = B.getLsbD 52) (h53 : A.getLsbD 53 = B.getLsbD 53) (h54 : A.getLsbD 54 = B.getLsbD 54) (h55 : A.getLsbD 55 = B.getLsbD 55) (h56 : A.getLsbD 56 = B.getLsbD 56) (h57 : A.getLsbD 57 = B.getLsbD 57) (h58 : A.getLsbD 58 = B.getLsbD 58) (h59 : A.getLsbD 59 = B.getLsbD 59) (h60 : A.getLsbD 60 = B.getLsbD 60) (h61 : A.getLsbD 61 = B.getLsbD 61) (h62 : A.getLsbD 62 = B.getLsbD 62) (h63 : A.getLsbD 63 = B.getLsbD 63) : A = B := by
  apply BitVec.eq_of_getLsbD_eq
  intro i hi
  match i, hi with
  | 0, _ => exact h0
  | 1, _ => exact h1
  | 2, _ => exact h2
  | 3, _ => exact h3
  | 4, _ => exact h4
  | 5, _ => exact h5
  | 6, _ => exact h6
  | 7, _ => exact h7
  | 8, _ => exact h8
  | 9, _ => exact h9
  | 10, _ => exact h10
  | 11, _ => exact h11
  | 12, _ => exact h12
  | 13, _ => exact h13
  | 14, _ => exact h14
  | 15, _ => exact h15
  | 16, _ => exact h16
  | 17, _ => exact h17
  | 18, _ => exact h18
  | 19, _ => exact h19
  | 20, _ => exact h20
  | 21, _ => exact h21
  | 22, _ => exact h22
  | 23, _ => exact h23
  | 24, _ => exact h24
  | 25, _ => exact h25
  | 26, _ => exact h26
  | 27, _ => exact h27
  | 28, _ => exact h28
  | 29, _ => exact h29
  | 30, _ => exact h30
  | 31, _ => exact h31
  | 32, _ => exact h32
  | 33, _ => exact h33
  | 34, _ => exact h34
  | 35, _ => exact h35
  | 36, _ => exact h36
  | 37, _ => exact h37
  | 38, _ => exact h38
  | 39, _ => exact h39
  | 40, _ => exact h40
  | 41, _ => exact h41
  | 42, _ => exact h42
  | 43, _ => exact h43
  | 44, _ => exact h44
  | 45, _ => exact h45
  | 46, _ => exact h46
  | 47, _ => exact h47
  | 48, _ => exact h48
  | 49, _ => exact h49
  | 50, _ => exact h50
  | 51, _ => exact h51
  | 52, _ => exact h52
  | 53, _ => exact h53
  | 54, _ => exact h54
  | 55, _ => exact h55
  | 56, _ => exact h56
  | 57, _ => exact h57
  | 58, _ => exact h58
  | 59, _ => exact h59
  | 60, _ => exact h60
  | 61, _ => exact h61
  | 62, _ => exact h62
  | 63, _ => exact h63
  | n + 64, h => exact absurd h (by omega)

end Go.Proofs.Ytpblhcmcldachaa.Bv
