/- ImmSigns: a number with a sign that fits so many bits is told by them, and only these count. The plain facts, and the walk of the law through the contracts of what it calls. No condition beside the statement's own. -/
import Derived.Test.YtpjjgipomjenlaaPImmSignsx1
import Derived.Test.YtpjjgipomjenlaaBv
namespace Go.Proofs.Ytpjjgipomjenlaa.ImmSignsWalk
open Go.RowKit Go.Proofs.Ytpjjgipomjenlaa.PImmSigns Go.Proofs.YtpjjgipomjenlaaW.PrintWords Go.Proofs.YtpjjgipomjenlaaW.PrintLast Go.Proofs.YtpjjgipomjenlaaW.PrintMore Go.Proofs.Ytpjjgipomjenlaa.Bv
set_option linter.unusedSimpArgs false
set_option linter.unusedVariables false

theorem known_ok : dovetaillaw3_known.f 10 = some true := by decide +kernel
theorem sign_tells (V : BitVec 64) (n : Int) (h0 : 1 ≤ n) (h1 : n ≤ 64) : imm_Sign.f V.toNat n = some ((V <<< (64 - n).toNat).sshiftRight (64 - n).toNat).toInt := by
  unfold imm_Sign.f
  rw [if_neg (by omega), show mn n 64 = n by unfold mn; omega, w64 (x := 64 - n) (by omega) (by omega), uw64 (x := 64 - n) (by omega) (by omega), if_pos (by omega)]
  rw [shl_u64, wrap_i, ofInt_toNat, ofInt_toNat, BitVec.setWidth_eq, BitVec.setWidth_eq, shr_i64]

theorem mask_tells (N : Nat) (h : N < 64) : IntKind.u64.wrap (IntKind.u64.wrap (2 ^ N) - 1) = ((2 ^ N - 1 : Nat) : Int) := by
  have h2 : (2 : Nat) ^ N ≤ 2 ^ 63 := Nat.pow_le_pow_right (by decide) (by omega)
  have h3 : 0 < (2 : Nat) ^ N := Nat.two_pow_pos N
  have e : (2 : Int) ^ N = ((2 ^ N : Nat) : Int) := by simp
  have h4 : (2 : Nat) ^ 63 = 9223372036854775808 := rfl
  rw [e, uw64 (x := ((2 ^ N : Nat) : Int)) (by omega) (by omega), uw64 (by omega) (by omega)]
  omega
theorem mask_bit (N : Nat) (h : N < 64) (i : Nat) (hi : i < 64) : (BitVec.ofInt 64 ((2 ^ N - 1 : Nat) : Int)).getLsbD i = decide (i < N) := by
  rw [BitVec.ofInt_natCast, BitVec.getLsbD_ofNat, Nat.testBit_two_pow_sub_one]
  simp [hi]

set_option maxHeartbeats 1000000 in
set_option maxRecDepth 100000 in
theorem walk_small (v a1 n s low : Int) (hn : wrap64 (wrap64 (Int.tmod a1 64) + 1) = n) (b0 : 1 ≤ n) (b1 : n < 64) (w : World)
   (hs : imm_Sign.f v n = some s) (hl : imm_Sign.f low n = some s) (hlow : Go.bits .and .u64 v (IntKind.u64.wrap (IntKind.u64.wrap (2 ^ n.toNat) - 1)) = low) (hs2 : Go.bits .and .u64 (IntKind.u64.wrap s) (IntKind.u64.wrap (IntKind.u64.wrap (2 ^ n.toNat) - 1)) = low)
   (hlo : decide (wrap64 (-2 ^ (n.toNat - 1)) ≤ s) = true) (hhi : decide (s < wrap64 (2 ^ (n.toNat - 1))) = true) (hne : (n == 64) = false) :
    Calls Try.prog 7 #[.int .u64 v, .int .u8 a1] w fun e w' => e = .returned (.bool true) ∧ Below w.heap.size w w' := by
  have B0 := Aside0.mk (Below.refl w.heap.size w)
  have A1 := Aside0.mk hs; have A2 := Aside0.mk hl; have A3 := Aside0.mk hlow; have A4 := Aside0.mk hn; have A5 := Aside0.mk hs2
  clear hs hl hlow hn hs2
  go_enter Try.func7, Try.ntmps7
  go_wp2_with fail
  refine (dovetaillaw3_known.calls 10 true _ known_ok).mono ?_; rintro e w1 ⟨rfl, hb⟩; have B1 := Aside0.mk (below_step B0.out hb); clear hb B0
  go_wp2_with fail
  rw [A4.out]
  refine (imm_Sign.calls v n s _ A1.out).mono ?_; rintro e w2 ⟨rfl, hb⟩; have B2 := Aside0.mk (below_step B1.out hb); clear hb B1
  go_wp2_with fail
  rw [A3.out]
  refine (imm_Sign.calls low n s _ A2.out).mono ?_; rintro e w3 ⟨rfl, hb⟩; have B3 := Aside0.mk (below_step B2.out hb); clear hb B2
  have hs2 := A5.out
  go_wp2_with fail
  go_ret
  exact ⟨rfl, B3.out⟩

set_option maxHeartbeats 1000000 in
set_option maxRecDepth 100000 in
theorem walk_full (v a1 s : Int) (hn : wrap64 (wrap64 (Int.tmod a1 64) + 1) = 64) (w : World) (hs : imm_Sign.f v 64 = some s) :
    Calls Try.prog 7 #[.int .u64 v, .int .u8 a1] w fun e w' => e = .returned (.bool true) ∧ Below w.heap.size w w' := by
  have B0 := Aside0.mk (Below.refl w.heap.size w)
  have A1 := Aside0.mk hs; have A4 := Aside0.mk hn
  clear hs hn
  go_enter Try.func7, Try.ntmps7
  go_wp2_with fail
  refine (dovetaillaw3_known.calls 10 true _ known_ok).mono ?_; rintro e w1 ⟨rfl, hb⟩; have B1 := Aside0.mk (below_step B0.out hb); clear hb B0
  go_wp2_with fail
  rw [A4.out]
  refine (imm_Sign.calls v 64 s _ A1.out).mono ?_; rintro e w2 ⟨rfl, hb⟩; have B2 := Aside0.mk (below_step B1.out hb); clear hb B1
  go_wp2_with fail
  refine (imm_Sign.calls v 64 s _ A1.out).mono ?_; rintro e w3 ⟨rfl, hb⟩; have B3 := Aside0.mk (below_step B2.out hb); clear hb B2
  go_wp2_with fail
  go_ret
  exact ⟨rfl, B3.out⟩

theorem walk (a0 a1 : Int) (w : World) (w0 : (Lit.int .u64 a0).wf = true) (w1 : (Lit.int .u8 a1).wf = true) :
    Calls Try.prog 7 #[.int .u64 a0, .int .u8 a1] w fun e w' => e = .returned (.bool true) ∧ Below w.heap.size w w' := by
  have b1 := bd_u8 w1
  obtain ⟨V, rfl⟩ := wf_u64 w0
  have hm : wrap64 (wrap64 (Int.tmod a1 64) + 1) = a1 % 64 + 1 := by
    rw [Int.tmod_eq_emod_of_nonneg b1.1, w64 (x := a1 % 64) (by omega) (by omega), w64 (by omega) (by omega)]
  have hn : 1 ≤ a1 % 64 + 1 ∧ a1 % 64 + 1 ≤ 64 := by omega
  generalize a1 % 64 + 1 = n at hm hn
  by_cases h64 : n = 64
  · subst h64
    exact walk_full _ a1 _ hm w (sign_tells V 64 (by omega) (by omega))
  · obtain ⟨N, rfl⟩ : ∃ N : Nat, n = N := ⟨n.toNat, by omega⟩
    have hN : 1 ≤ N ∧ N < 64 := by omega
    have e1 : ((64 : Int) - (N : Int)).toNat = 64 - N := by omega
    refine walk_small V.toNat a1 N _ (Go.bits .and .u64 V.toNat (IntKind.u64.wrap (IntKind.u64.wrap (2 ^ (N : Int).toNat) - 1))) hm hn.1 (by omega) w (sign_tells V N hn.1 hn.2) ?_ rfl ?_ ?_ ?_ ?_
    · rw [Int.toNat_natCast, mask_tells N hN.2, and_u64, ofInt_toNat, BitVec.setWidth_eq, sign_tells _ N hn.1 hn.2, e1]
      refine congrArg (fun X : BitVec 64 => some (X.sshiftRight (64 - N)).toInt) ?_
      apply BitVec.eq_of_getLsbD_eq
      intro i hi
      rw [BitVec.getLsbD_shiftLeft, BitVec.getLsbD_shiftLeft, BitVec.getLsbD_and]
      by_cases h : i < 64 - N
      · simp [h]
      · rw [mask_bit N hN.2 _ (by omega), decide_eq_true (show i - (64 - N) < N by omega), Bool.and_true]
    · rw [Int.toNat_natCast, mask_tells N hN.2, and_u64, and_u64, e1, wrap_u64, ofInt_toInt' 64 (Nat.le_refl 64), ofInt_toNat, ofInt_toNat, BitVec.setWidth_eq, BitVec.setWidth_eq, BitVec.setWidth_eq]
      refine congrArg (fun X : BitVec 64 => (X.toNat : Int)) ?_
      apply BitVec.eq_of_getLsbD_eq
      intro i hi
      rw [BitVec.getLsbD_and, BitVec.getLsbD_and, mask_bit N hN.2 i hi, BitVec.getLsbD_sshiftRight, BitVec.getLsbD_shiftLeft]
      by_cases h : i < N
      · rw [if_pos (by omega)]
        simp [h, show ¬ 64 ≤ i by omega, show 64 - N + i < 64 by omega]
      · simp [h]
    · rw [e1, Int.toNat_natCast, BitVec.toInt_sshiftRight, Int.shiftRight_eq_div_pow]
      have hx := @BitVec.le_toInt 64 (V <<< (64 - N))
      have hp : (2 : Int) ^ (N - 1) * ((2 ^ (64 - N) : Nat) : Int) = 9223372036854775808 := by
        have : (2 : Nat) ^ (N - 1) * 2 ^ (64 - N) = 2 ^ 63 := by rw [← Nat.pow_add]; congr 1; omega
        have h2 : (((2 : Nat) ^ (N - 1) * 2 ^ (64 - N) : Nat) : Int) = ((2 ^ 63 : Nat) : Int) := by rw [this]
        simpa using h2
      have hle : (2 : Int) ^ (N - 1) ≤ 9223372036854775808 := by
        have : (2 : Nat) ^ (N - 1) ≤ 2 ^ 63 := Nat.pow_le_pow_right (by decide) (by omega)
        have h2 : (((2 : Nat) ^ (N - 1) : Nat) : Int) ≤ ((2 ^ 63 : Nat) : Int) := by exact_mod_cast this
        simpa using h2
      have hpos : (0 : Int) < 2 ^ (N - 1) := Int.pow_pos (by decide)
      have hq : (0 : Int) < ((2 ^ (64 - N) : Nat) : Int) := by exact_mod_cast Nat.two_pow_pos _
      rw [w64 (by omega) (by omega)]
      refine decide_eq_true ((Int.le_ediv_iff_mul_le hq).2 ?_)
      rw [Int.neg_mul, hp]
      simpa using hx
    · rw [e1, Int.toNat_natCast, BitVec.toInt_sshiftRight, Int.shiftRight_eq_div_pow]
      have hx := @BitVec.toInt_lt 64 (V <<< (64 - N))
      have hp : (2 : Int) ^ (N - 1) * ((2 ^ (64 - N) : Nat) : Int) = 9223372036854775808 := by
        have : (2 : Nat) ^ (N - 1) * 2 ^ (64 - N) = 2 ^ 63 := by rw [← Nat.pow_add]; congr 1; omega
        have h2 : (((2 : Nat) ^ (N - 1) * 2 ^ (64 - N) : Nat) : Int) = ((2 ^ 63 : Nat) : Int) := by rw [this]
        simpa using h2
      have hle : (2 : Int) ^ (N - 1) ≤ 4611686018427387904 := by
        have : (2 : Nat) ^ (N - 1) ≤ 2 ^ 62 := Nat.pow_le_pow_right (by decide) (by omega)
        have h2 : (((2 : Nat) ^ (N - 1) : Nat) : Int) ≤ ((2 ^ 62 : Nat) : Int) := by exact_mod_cast this
        simpa using h2
      have hpos : (0 : Int) < 2 ^ (N - 1) := Int.pow_pos (by decide)
      have hq : (0 : Int) < ((2 ^ (64 - N) : Nat) : Int) := by exact_mod_cast Nat.two_pow_pos _
      rw [w64 (by omega) (by omega)]
      refine decide_eq_true ((Int.ediv_lt_iff_lt_mul hq).2 ?_)
      rw [hp]
      simpa using hx
    · rw [beq_eq_false_iff_ne]; omega

end Go.Proofs.Ytpjjgipomjenlaa.ImmSignsWalk
