/- ImmRanges: just which numbers fit each form, at the ends and on both sides of them: the walk of the law, one for each form and end, through the contracts of what it calls. No condition beside the statement's own. -/
import Derived.Test.YtpjjgipomjenlaaImmImmRanges
namespace Go.Proofs.Ytpjjgipomjenlaa.ImmRangesWalk
open Go.RowKit Go.Proofs.Ytpjjgipomjenlaa.PImmRanges Go.Proofs.YtpjjgipomjenlaaW.PrintWords Go.Proofs.YtpjjgipomjenlaaW.PrintLast Go.Proofs.YtpjjgipomjenlaaW.PrintMore Go.Proofs.Ytpjjgipomjenlaa.Bv Go.Proofs.Ytpjjgipomjenlaa.ImmImmRanges
set_option linter.unusedSimpArgs false
set_option linter.unusedVariables false

theorem known_ok : dovetaillaw3_known.f 10 = some true := by decide +kernel
theorem put_any (f v : Int) (h0 : -9223372036854775808 ≤ v) (h1 : v < 9223372036854775808) : ∃ q, imm_Put.f 10 f 0 v = some (q, decide (fitsP f v)) := by
  have e : v = (BitVec.ofInt 64 v).toInt := by rw [← wrap_i, w64 h0 h1]
  have h := put_tells f 0#32 (BitVec.ofInt 64 v)
  rw [← e] at h
  by_cases hf : fitsP f v
  · exact ⟨_, by rw [decide_eq_true hf]; rw [if_pos hf] at h; exact h⟩
  · exact ⟨0, by rw [decide_eq_false hf]; rw [if_neg hf] at h; exact h⟩
theorem fits0 (v : Int) : imm_Fits.f 0 v = some (v == 0) := by
  rw [fits_tells]; unfold fitsP; simp; rfl
theorem fP1 (v : Int) : fitsP 1 v ↔ -2048 ≤ v ∧ v ≤ 2047 := by unfold fitsP; simp
theorem fP2 (v : Int) : fitsP 2 v ↔ -2048 ≤ v ∧ v ≤ 2047 := by unfold fitsP; simp
theorem fP3 (v : Int) : fitsP 3 v ↔ -4096 ≤ v ∧ v ≤ 4095 ∧ v.tmod 2 = 0 := by unfold fitsP; simp [tmod2]
theorem fP4 (v : Int) : fitsP 4 v ↔ -524288 ≤ v ∧ v ≤ 524287 := by unfold fitsP; simp
theorem fP5 (v : Int) : fitsP 5 v ↔ -1048576 ≤ v ∧ v ≤ 1048575 ∧ v.tmod 2 = 0 := by unfold fitsP; simp [tmod2]
theorem tm2 {v : Int} (h : v % 2 = 0) : Int.tmod v 2 = 0 := (tmod2 v).2 h
set_option maxHeartbeats 1000000 in
set_option maxRecDepth 100000 in
theorem walk_00 (a0 a1 : Int) (hr : Int.tmod a0 5 = 0) (b1 : -128 ≤ a1) (b2 : a1 ≤ 127) (w : World) :
    Calls Try.prog 6 #[.int .u8 a0, .int .i8 a1, .bool false] w fun e w' => e = .returned (.bool true) ∧ Below w.heap.size w w' := by
  have B0 := Aside0.mk (Below.refl w.heap.size w)
  obtain ⟨q, hp⟩ := put_any 1 ((-2048) + a1) (by omega) (by omega)
  obtain ⟨b, hb⟩ : ∃ b, b = decide (fitsP 1 ((-2048) + a1)) := ⟨_, rfl⟩
  rw [← hb] at hp
  have hf : imm_Fits.f 1 ((-2048) + a1) = some b := by rw [fits_tells, hb]
  have HB := Aside0.mk hb
  have A1 := Aside0.mk hp; have A2 := Aside0.mk hf
  clear hp hf hb
  go_enter Try.func6, Try.ntmps6
  go_wp2_with fail
  refine (dovetaillaw3_known.calls 10 true _ known_ok).mono ?_; rintro e w1 ⟨rfl, hb⟩; have B1 := Aside0.mk (below_step B0.out hb); clear hb B0
  go_wp2_with fail
  all_goals (refine (imm_Put.calls 10 1 0 ((-2048) + a1) q b _ A1.out).mono ?_; rintro e w2 ⟨rfl, hb⟩; have B2 := Aside0.mk (below_step (below_alloc (below_alloc B1.out _) _) hb); clear hb B1; go_wp2_with fail)
  all_goals (try simp only [beq_iff_eq, beq_eq_false_iff_ne] at *)
  all_goals (cases b)
  all_goals (first | (exfalso; have h_ := of_decide_eq_false HB.out.symm; rw [fP1] at h_; omega) | (exfalso; have h_ := of_decide_eq_true HB.out.symm; rw [fP1] at h_; omega) | skip)
  all_goals (refine (imm_Fits.calls 1 ((-2048) + a1) _ _ A2.out).mono ?_; rintro e w3 ⟨rfl, hb⟩; have B3 := Aside0.mk (below_step B2.out hb); clear hb B2; go_wp2_with fail)
  all_goals (refine (imm_Fits.calls 0 ((-2048) + a1) _ _ (fits0 _)).mono ?_; rintro e w4 ⟨rfl, hb⟩; have B4 := Aside0.mk (below_step B3.out hb); clear hb B3; go_wp2_with fail)
  all_goals (go_ret; exact ⟨by simp, B4.out⟩)
set_option maxHeartbeats 1000000 in
set_option maxRecDepth 100000 in
theorem walk_01 (a0 a1 : Int) (hr : Int.tmod a0 5 = 0) (b1 : -128 ≤ a1) (b2 : a1 ≤ 127) (w : World) :
    Calls Try.prog 6 #[.int .u8 a0, .int .i8 a1, .bool true] w fun e w' => e = .returned (.bool true) ∧ Below w.heap.size w w' := by
  have B0 := Aside0.mk (Below.refl w.heap.size w)
  obtain ⟨q, hp⟩ := put_any 1 (2047 + a1) (by omega) (by omega)
  obtain ⟨b, hb⟩ : ∃ b, b = decide (fitsP 1 (2047 + a1)) := ⟨_, rfl⟩
  rw [← hb] at hp
  have hf : imm_Fits.f 1 (2047 + a1) = some b := by rw [fits_tells, hb]
  have HB := Aside0.mk hb
  have A1 := Aside0.mk hp; have A2 := Aside0.mk hf
  clear hp hf hb
  go_enter Try.func6, Try.ntmps6
  go_wp2_with fail
  refine (dovetaillaw3_known.calls 10 true _ known_ok).mono ?_; rintro e w1 ⟨rfl, hb⟩; have B1 := Aside0.mk (below_step B0.out hb); clear hb B0
  go_wp2_with fail
  all_goals (refine (imm_Put.calls 10 1 0 (2047 + a1) q b _ A1.out).mono ?_; rintro e w2 ⟨rfl, hb⟩; have B2 := Aside0.mk (below_step (below_alloc (below_alloc B1.out _) _) hb); clear hb B1; go_wp2_with fail)
  all_goals (try simp only [beq_iff_eq, beq_eq_false_iff_ne] at *)
  all_goals (cases b)
  all_goals (first | (exfalso; have h_ := of_decide_eq_false HB.out.symm; rw [fP1] at h_; omega) | (exfalso; have h_ := of_decide_eq_true HB.out.symm; rw [fP1] at h_; omega) | skip)
  all_goals (refine (imm_Fits.calls 1 (2047 + a1) _ _ A2.out).mono ?_; rintro e w3 ⟨rfl, hb⟩; have B3 := Aside0.mk (below_step B2.out hb); clear hb B2; go_wp2_with fail)
  all_goals (refine (imm_Fits.calls 0 (2047 + a1) _ _ (fits0 _)).mono ?_; rintro e w4 ⟨rfl, hb⟩; have B4 := Aside0.mk (below_step B3.out hb); clear hb B3; go_wp2_with fail)
  all_goals (go_ret; exact ⟨by simp, B4.out⟩)
set_option maxHeartbeats 1000000 in
set_option maxRecDepth 100000 in
theorem walk_10 (a0 a1 : Int) (hr : Int.tmod a0 5 = 1) (b1 : -128 ≤ a1) (b2 : a1 ≤ 127) (w : World) :
    Calls Try.prog 6 #[.int .u8 a0, .int .i8 a1, .bool false] w fun e w' => e = .returned (.bool true) ∧ Below w.heap.size w w' := by
  have B0 := Aside0.mk (Below.refl w.heap.size w)
  obtain ⟨q, hp⟩ := put_any 2 ((-2048) + a1) (by omega) (by omega)
  obtain ⟨b, hb⟩ : ∃ b, b = decide (fitsP 2 ((-2048) + a1)) := ⟨_, rfl⟩
  rw [← hb] at hp
  have hf : imm_Fits.f 2 ((-2048) + a1) = some b := by rw [fits_tells, hb]
  have HB := Aside0.mk hb
  have A1 := Aside0.mk hp; have A2 := Aside0.mk hf
  clear hp hf hb
  go_enter Try.func6, Try.ntmps6
  go_wp2_with fail
  refine (dovetaillaw3_known.calls 10 true _ known_ok).mono ?_; rintro e w1 ⟨rfl, hb⟩; have B1 := Aside0.mk (below_step B0.out hb); clear hb B0
  go_wp2_with fail
  all_goals (refine (imm_Put.calls 10 2 0 ((-2048) + a1) q b _ A1.out).mono ?_; rintro e w2 ⟨rfl, hb⟩; have B2 := Aside0.mk (below_step (below_alloc (below_alloc B1.out _) _) hb); clear hb B1; go_wp2_with fail)
  all_goals (try simp only [beq_iff_eq, beq_eq_false_iff_ne] at *)
  all_goals (cases b)
  all_goals (first | (exfalso; have h_ := of_decide_eq_false HB.out.symm; rw [fP2] at h_; omega) | (exfalso; have h_ := of_decide_eq_true HB.out.symm; rw [fP2] at h_; omega) | skip)
  all_goals (refine (imm_Fits.calls 2 ((-2048) + a1) _ _ A2.out).mono ?_; rintro e w3 ⟨rfl, hb⟩; have B3 := Aside0.mk (below_step B2.out hb); clear hb B2; go_wp2_with fail)
  all_goals (refine (imm_Fits.calls 0 ((-2048) + a1) _ _ (fits0 _)).mono ?_; rintro e w4 ⟨rfl, hb⟩; have B4 := Aside0.mk (below_step B3.out hb); clear hb B3; go_wp2_with fail)
  all_goals (go_ret; exact ⟨by simp, B4.out⟩)
set_option maxHeartbeats 1000000 in
set_option maxRecDepth 100000 in
theorem walk_11 (a0 a1 : Int) (hr : Int.tmod a0 5 = 1) (b1 : -128 ≤ a1) (b2 : a1 ≤ 127) (w : World) :
    Calls Try.prog 6 #[.int .u8 a0, .int .i8 a1, .bool true] w fun e w' => e = .returned (.bool true) ∧ Below w.heap.size w w' := by
  have B0 := Aside0.mk (Below.refl w.heap.size w)
  obtain ⟨q, hp⟩ := put_any 2 (2047 + a1) (by omega) (by omega)
  obtain ⟨b, hb⟩ : ∃ b, b = decide (fitsP 2 (2047 + a1)) := ⟨_, rfl⟩
  rw [← hb] at hp
  have hf : imm_Fits.f 2 (2047 + a1) = some b := by rw [fits_tells, hb]
  have HB := Aside0.mk hb
  have A1 := Aside0.mk hp; have A2 := Aside0.mk hf
  clear hp hf hb
  go_enter Try.func6, Try.ntmps6
  go_wp2_with fail
  refine (dovetaillaw3_known.calls 10 true _ known_ok).mono ?_; rintro e w1 ⟨rfl, hb⟩; have B1 := Aside0.mk (below_step B0.out hb); clear hb B0
  go_wp2_with fail
  all_goals (refine (imm_Put.calls 10 2 0 (2047 + a1) q b _ A1.out).mono ?_; rintro e w2 ⟨rfl, hb⟩; have B2 := Aside0.mk (below_step (below_alloc (below_alloc B1.out _) _) hb); clear hb B1; go_wp2_with fail)
  all_goals (try simp only [beq_iff_eq, beq_eq_false_iff_ne] at *)
  all_goals (cases b)
  all_goals (first | (exfalso; have h_ := of_decide_eq_false HB.out.symm; rw [fP2] at h_; omega) | (exfalso; have h_ := of_decide_eq_true HB.out.symm; rw [fP2] at h_; omega) | skip)
  all_goals (refine (imm_Fits.calls 2 (2047 + a1) _ _ A2.out).mono ?_; rintro e w3 ⟨rfl, hb⟩; have B3 := Aside0.mk (below_step B2.out hb); clear hb B2; go_wp2_with fail)
  all_goals (refine (imm_Fits.calls 0 (2047 + a1) _ _ (fits0 _)).mono ?_; rintro e w4 ⟨rfl, hb⟩; have B4 := Aside0.mk (below_step B3.out hb); clear hb B3; go_wp2_with fail)
  all_goals (go_ret; exact ⟨by simp, B4.out⟩)
set_option maxHeartbeats 1000000 in
set_option maxRecDepth 100000 in
theorem walk_20e (a0 a1 : Int) (hr : Int.tmod a0 5 = 2) (he : ((((-4096) + a1)).tmod 2 == 0) = true) (he' : ((((-4096) + a1)) % 2 == 0) = true) (b1 : -128 ≤ a1) (b2 : a1 ≤ 127) (w : World) :
    Calls Try.prog 6 #[.int .u8 a0, .int .i8 a1, .bool false] w fun e w' => e = .returned (.bool true) ∧ Below w.heap.size w w' := by
  have HE := Aside0.mk he
  have B0 := Aside0.mk (Below.refl w.heap.size w)
  obtain ⟨q, hp⟩ := put_any 3 ((-4096) + a1) (by omega) (by omega)
  obtain ⟨b, hb⟩ : ∃ b, b = decide (fitsP 3 ((-4096) + a1)) := ⟨_, rfl⟩
  rw [← hb] at hp
  have hf : imm_Fits.f 3 ((-4096) + a1) = some b := by rw [fits_tells, hb]
  have HB := Aside0.mk hb
  have A1 := Aside0.mk hp; have A2 := Aside0.mk hf
  clear hp hf hb
  go_enter Try.func6, Try.ntmps6
  go_wp2_with fail
  refine (dovetaillaw3_known.calls 10 true _ known_ok).mono ?_; rintro e w1 ⟨rfl, hb⟩; have B1 := Aside0.mk (below_step B0.out hb); clear hb B0
  go_wp2_with fail
  all_goals (refine (imm_Put.calls 10 3 0 ((-4096) + a1) q b _ A1.out).mono ?_; rintro e w2 ⟨rfl, hb⟩; have B2 := Aside0.mk (below_step (below_alloc (below_alloc B1.out _) _) hb); clear hb B1; go_wp2_with fail)
  all_goals (cases b)
  all_goals (first | (exfalso; have h_ := of_decide_eq_false HB.out.symm; rw [fP3] at h_; have h2_ := HE.out; simp only [beq_iff_eq, beq_eq_false_iff_ne] at h2_; omega) | (exfalso; have h_ := of_decide_eq_true HB.out.symm; rw [fP3] at h_; have h2_ := HE.out; simp only [beq_iff_eq, beq_eq_false_iff_ne] at h2_; omega) | skip)
  all_goals (refine (imm_Fits.calls 3 ((-4096) + a1) _ _ A2.out).mono ?_; rintro e w3 ⟨rfl, hb⟩; have B3 := Aside0.mk (below_step B2.out hb); clear hb B2; go_wp2_with fail)
  all_goals (refine (imm_Fits.calls 0 ((-4096) + a1) _ _ (fits0 _)).mono ?_; rintro e w4 ⟨rfl, hb⟩; have B4 := Aside0.mk (below_step B3.out hb); clear hb B3; go_wp2_with fail)
  all_goals (go_ret; exact ⟨by simp, B4.out⟩)
set_option maxHeartbeats 1000000 in
set_option maxRecDepth 100000 in
theorem walk_20o (a0 a1 : Int) (hr : Int.tmod a0 5 = 2) (he : ((((-4096) + a1)).tmod 2 == 0) = false) (he' : ((((-4096) + a1)) % 2 == 0) = false) (b1 : -128 ≤ a1) (b2 : a1 ≤ 127) (w : World) :
    Calls Try.prog 6 #[.int .u8 a0, .int .i8 a1, .bool false] w fun e w' => e = .returned (.bool true) ∧ Below w.heap.size w w' := by
  have HE := Aside0.mk he
  have B0 := Aside0.mk (Below.refl w.heap.size w)
  obtain ⟨q, hp⟩ := put_any 3 ((-4096) + a1) (by omega) (by omega)
  obtain ⟨b, hb⟩ : ∃ b, b = decide (fitsP 3 ((-4096) + a1)) := ⟨_, rfl⟩
  rw [← hb] at hp
  have hf : imm_Fits.f 3 ((-4096) + a1) = some b := by rw [fits_tells, hb]
  have HB := Aside0.mk hb
  have A1 := Aside0.mk hp; have A2 := Aside0.mk hf
  clear hp hf hb
  go_enter Try.func6, Try.ntmps6
  go_wp2_with fail
  refine (dovetaillaw3_known.calls 10 true _ known_ok).mono ?_; rintro e w1 ⟨rfl, hb⟩; have B1 := Aside0.mk (below_step B0.out hb); clear hb B0
  go_wp2_with fail
  all_goals (refine (imm_Put.calls 10 3 0 ((-4096) + a1) q b _ A1.out).mono ?_; rintro e w2 ⟨rfl, hb⟩; have B2 := Aside0.mk (below_step (below_alloc (below_alloc B1.out _) _) hb); clear hb B1; go_wp2_with fail)
  all_goals (cases b)
  all_goals (first | (exfalso; have h_ := of_decide_eq_false HB.out.symm; rw [fP3] at h_; have h2_ := HE.out; simp only [beq_iff_eq, beq_eq_false_iff_ne] at h2_; omega) | (exfalso; have h_ := of_decide_eq_true HB.out.symm; rw [fP3] at h_; have h2_ := HE.out; simp only [beq_iff_eq, beq_eq_false_iff_ne] at h2_; omega) | skip)
  all_goals (refine (imm_Fits.calls 3 ((-4096) + a1) _ _ A2.out).mono ?_; rintro e w3 ⟨rfl, hb⟩; have B3 := Aside0.mk (below_step B2.out hb); clear hb B2; go_wp2_with fail)
  all_goals (refine (imm_Fits.calls 0 ((-4096) + a1) _ _ (fits0 _)).mono ?_; rintro e w4 ⟨rfl, hb⟩; have B4 := Aside0.mk (below_step B3.out hb); clear hb B3; go_wp2_with fail)
  all_goals (go_ret; exact ⟨by simp, B4.out⟩)
set_option maxHeartbeats 1000000 in
set_option maxRecDepth 100000 in
theorem walk_21e (a0 a1 : Int) (hr : Int.tmod a0 5 = 2) (he : (((4095 + a1)).tmod 2 == 0) = true) (he' : (((4095 + a1)) % 2 == 0) = true) (b1 : -128 ≤ a1) (b2 : a1 ≤ 127) (w : World) :
    Calls Try.prog 6 #[.int .u8 a0, .int .i8 a1, .bool true] w fun e w' => e = .returned (.bool true) ∧ Below w.heap.size w w' := by
  have HE := Aside0.mk he
  have B0 := Aside0.mk (Below.refl w.heap.size w)
  obtain ⟨q, hp⟩ := put_any 3 (4095 + a1) (by omega) (by omega)
  obtain ⟨b, hb⟩ : ∃ b, b = decide (fitsP 3 (4095 + a1)) := ⟨_, rfl⟩
  rw [← hb] at hp
  have hf : imm_Fits.f 3 (4095 + a1) = some b := by rw [fits_tells, hb]
  have HB := Aside0.mk hb
  have A1 := Aside0.mk hp; have A2 := Aside0.mk hf
  clear hp hf hb
  go_enter Try.func6, Try.ntmps6
  go_wp2_with fail
  refine (dovetaillaw3_known.calls 10 true _ known_ok).mono ?_; rintro e w1 ⟨rfl, hb⟩; have B1 := Aside0.mk (below_step B0.out hb); clear hb B0
  go_wp2_with fail
  all_goals (refine (imm_Put.calls 10 3 0 (4095 + a1) q b _ A1.out).mono ?_; rintro e w2 ⟨rfl, hb⟩; have B2 := Aside0.mk (below_step (below_alloc (below_alloc B1.out _) _) hb); clear hb B1; go_wp2_with fail)
  all_goals (cases b)
  all_goals (first | (exfalso; have h_ := of_decide_eq_false HB.out.symm; rw [fP3] at h_; have h2_ := HE.out; simp only [beq_iff_eq, beq_eq_false_iff_ne] at h2_; omega) | (exfalso; have h_ := of_decide_eq_true HB.out.symm; rw [fP3] at h_; have h2_ := HE.out; simp only [beq_iff_eq, beq_eq_false_iff_ne] at h2_; omega) | skip)
  all_goals (refine (imm_Fits.calls 3 (4095 + a1) _ _ A2.out).mono ?_; rintro e w3 ⟨rfl, hb⟩; have B3 := Aside0.mk (below_step B2.out hb); clear hb B2; go_wp2_with fail)
  all_goals (refine (imm_Fits.calls 0 (4095 + a1) _ _ (fits0 _)).mono ?_; rintro e w4 ⟨rfl, hb⟩; have B4 := Aside0.mk (below_step B3.out hb); clear hb B3; go_wp2_with fail)
  all_goals (go_ret; exact ⟨by simp, B4.out⟩)
set_option maxHeartbeats 1000000 in
set_option maxRecDepth 100000 in
theorem walk_21o (a0 a1 : Int) (hr : Int.tmod a0 5 = 2) (he : (((4095 + a1)).tmod 2 == 0) = false) (he' : (((4095 + a1)) % 2 == 0) = false) (b1 : -128 ≤ a1) (b2 : a1 ≤ 127) (w : World) :
    Calls Try.prog 6 #[.int .u8 a0, .int .i8 a1, .bool true] w fun e w' => e = .returned (.bool true) ∧ Below w.heap.size w w' := by
  have HE := Aside0.mk he
  have B0 := Aside0.mk (Below.refl w.heap.size w)
  obtain ⟨q, hp⟩ := put_any 3 (4095 + a1) (by omega) (by omega)
  obtain ⟨b, hb⟩ : ∃ b, b = decide (fitsP 3 (4095 + a1)) := ⟨_, rfl⟩
  rw [← hb] at hp
  have hf : imm_Fits.f 3 (4095 + a1) = some b := by rw [fits_tells, hb]
  have HB := Aside0.mk hb
  have A1 := Aside0.mk hp; have A2 := Aside0.mk hf
  clear hp hf hb
  go_enter Try.func6, Try.ntmps6
  go_wp2_with fail
  refine (dovetaillaw3_known.calls 10 true _ known_ok).mono ?_; rintro e w1 ⟨rfl, hb⟩; have B1 := Aside0.mk (below_step B0.out hb); clear hb B0
  go_wp2_with fail
  all_goals (refine (imm_Put.calls 10 3 0 (4095 + a1) q b _ A1.out).mono ?_; rintro e w2 ⟨rfl, hb⟩; have B2 := Aside0.mk (below_step (below_alloc (below_alloc B1.out _) _) hb); clear hb B1; go_wp2_with fail)
  all_goals (cases b)
  all_goals (first | (exfalso; have h_ := of_decide_eq_false HB.out.symm; rw [fP3] at h_; have h2_ := HE.out; simp only [beq_iff_eq, beq_eq_false_iff_ne] at h2_; omega) | (exfalso; have h_ := of_decide_eq_true HB.out.symm; rw [fP3] at h_; have h2_ := HE.out; simp only [beq_iff_eq, beq_eq_false_iff_ne] at h2_; omega) | skip)
  all_goals (refine (imm_Fits.calls 3 (4095 + a1) _ _ A2.out).mono ?_; rintro e w3 ⟨rfl, hb⟩; have B3 := Aside0.mk (below_step B2.out hb); clear hb B2; go_wp2_with fail)
  all_goals (refine (imm_Fits.calls 0 (4095 + a1) _ _ (fits0 _)).mono ?_; rintro e w4 ⟨rfl, hb⟩; have B4 := Aside0.mk (below_step B3.out hb); clear hb B3; go_wp2_with fail)
  all_goals (go_ret; exact ⟨by simp, B4.out⟩)
set_option maxHeartbeats 1000000 in
set_option maxRecDepth 100000 in
theorem walk_30 (a0 a1 : Int) (hr : Int.tmod a0 5 = 3) (b1 : -128 ≤ a1) (b2 : a1 ≤ 127) (w : World) :
    Calls Try.prog 6 #[.int .u8 a0, .int .i8 a1, .bool false] w fun e w' => e = .returned (.bool true) ∧ Below w.heap.size w w' := by
  have B0 := Aside0.mk (Below.refl w.heap.size w)
  obtain ⟨q, hp⟩ := put_any 4 ((-524288) + a1) (by omega) (by omega)
  obtain ⟨b, hb⟩ : ∃ b, b = decide (fitsP 4 ((-524288) + a1)) := ⟨_, rfl⟩
  rw [← hb] at hp
  have hf : imm_Fits.f 4 ((-524288) + a1) = some b := by rw [fits_tells, hb]
  have HB := Aside0.mk hb
  have A1 := Aside0.mk hp; have A2 := Aside0.mk hf
  clear hp hf hb
  go_enter Try.func6, Try.ntmps6
  go_wp2_with fail
  refine (dovetaillaw3_known.calls 10 true _ known_ok).mono ?_; rintro e w1 ⟨rfl, hb⟩; have B1 := Aside0.mk (below_step B0.out hb); clear hb B0
  go_wp2_with fail
  all_goals (refine (imm_Put.calls 10 4 0 ((-524288) + a1) q b _ A1.out).mono ?_; rintro e w2 ⟨rfl, hb⟩; have B2 := Aside0.mk (below_step (below_alloc (below_alloc B1.out _) _) hb); clear hb B1; go_wp2_with fail)
  all_goals (try simp only [beq_iff_eq, beq_eq_false_iff_ne] at *)
  all_goals (cases b)
  all_goals (first | (exfalso; have h_ := of_decide_eq_false HB.out.symm; rw [fP4] at h_; omega) | (exfalso; have h_ := of_decide_eq_true HB.out.symm; rw [fP4] at h_; omega) | skip)
  all_goals (refine (imm_Fits.calls 4 ((-524288) + a1) _ _ A2.out).mono ?_; rintro e w3 ⟨rfl, hb⟩; have B3 := Aside0.mk (below_step B2.out hb); clear hb B2; go_wp2_with fail)
  all_goals (refine (imm_Fits.calls 0 ((-524288) + a1) _ _ (fits0 _)).mono ?_; rintro e w4 ⟨rfl, hb⟩; have B4 := Aside0.mk (below_step B3.out hb); clear hb B3; go_wp2_with fail)
  all_goals (go_ret; exact ⟨by simp, B4.out⟩)
set_option maxHeartbeats 1000000 in
set_option maxRecDepth 100000 in
theorem walk_31 (a0 a1 : Int) (hr : Int.tmod a0 5 = 3) (b1 : -128 ≤ a1) (b2 : a1 ≤ 127) (w : World) :
    Calls Try.prog 6 #[.int .u8 a0, .int .i8 a1, .bool true] w fun e w' => e = .returned (.bool true) ∧ Below w.heap.size w w' := by
  have B0 := Aside0.mk (Below.refl w.heap.size w)
  obtain ⟨q, hp⟩ := put_any 4 (524287 + a1) (by omega) (by omega)
  obtain ⟨b, hb⟩ : ∃ b, b = decide (fitsP 4 (524287 + a1)) := ⟨_, rfl⟩
  rw [← hb] at hp
  have hf : imm_Fits.f 4 (524287 + a1) = some b := by rw [fits_tells, hb]
  have HB := Aside0.mk hb
  have A1 := Aside0.mk hp; have A2 := Aside0.mk hf
  clear hp hf hb
  go_enter Try.func6, Try.ntmps6
  go_wp2_with fail
  refine (dovetaillaw3_known.calls 10 true _ known_ok).mono ?_; rintro e w1 ⟨rfl, hb⟩; have B1 := Aside0.mk (below_step B0.out hb); clear hb B0
  go_wp2_with fail
  all_goals (refine (imm_Put.calls 10 4 0 (524287 + a1) q b _ A1.out).mono ?_; rintro e w2 ⟨rfl, hb⟩; have B2 := Aside0.mk (below_step (below_alloc (below_alloc B1.out _) _) hb); clear hb B1; go_wp2_with fail)
  all_goals (try simp only [beq_iff_eq, beq_eq_false_iff_ne] at *)
  all_goals (cases b)
  all_goals (first | (exfalso; have h_ := of_decide_eq_false HB.out.symm; rw [fP4] at h_; omega) | (exfalso; have h_ := of_decide_eq_true HB.out.symm; rw [fP4] at h_; omega) | skip)
  all_goals (refine (imm_Fits.calls 4 (524287 + a1) _ _ A2.out).mono ?_; rintro e w3 ⟨rfl, hb⟩; have B3 := Aside0.mk (below_step B2.out hb); clear hb B2; go_wp2_with fail)
  all_goals (refine (imm_Fits.calls 0 (524287 + a1) _ _ (fits0 _)).mono ?_; rintro e w4 ⟨rfl, hb⟩; have B4 := Aside0.mk (below_step B3.out hb); clear hb B3; go_wp2_with fail)
  all_goals (go_ret; exact ⟨by simp, B4.out⟩)
set_option maxHeartbeats 1000000 in
set_option maxRecDepth 100000 in
theorem walk_40e (a0 a1 : Int) (hr : Int.tmod a0 5 = 4) (he : ((((-1048576) + a1)).tmod 2 == 0) = true) (he' : ((((-1048576) + a1)) % 2 == 0) = true) (b1 : -128 ≤ a1) (b2 : a1 ≤ 127) (w : World) :
    Calls Try.prog 6 #[.int .u8 a0, .int .i8 a1, .bool false] w fun e w' => e = .returned (.bool true) ∧ Below w.heap.size w w' := by
  have HE := Aside0.mk he
  have B0 := Aside0.mk (Below.refl w.heap.size w)
  obtain ⟨q, hp⟩ := put_any 5 ((-1048576) + a1) (by omega) (by omega)
  obtain ⟨b, hb⟩ : ∃ b, b = decide (fitsP 5 ((-1048576) + a1)) := ⟨_, rfl⟩
  rw [← hb] at hp
  have hf : imm_Fits.f 5 ((-1048576) + a1) = some b := by rw [fits_tells, hb]
  have HB := Aside0.mk hb
  have A1 := Aside0.mk hp; have A2 := Aside0.mk hf
  clear hp hf hb
  go_enter Try.func6, Try.ntmps6
  go_wp2_with fail
  refine (dovetaillaw3_known.calls 10 true _ known_ok).mono ?_; rintro e w1 ⟨rfl, hb⟩; have B1 := Aside0.mk (below_step B0.out hb); clear hb B0
  go_wp2_with fail
  all_goals (refine (imm_Put.calls 10 5 0 ((-1048576) + a1) q b _ A1.out).mono ?_; rintro e w2 ⟨rfl, hb⟩; have B2 := Aside0.mk (below_step (below_alloc (below_alloc B1.out _) _) hb); clear hb B1; go_wp2_with fail)
  all_goals (cases b)
  all_goals (first | (exfalso; have h_ := of_decide_eq_false HB.out.symm; rw [fP5] at h_; have h2_ := HE.out; simp only [beq_iff_eq, beq_eq_false_iff_ne] at h2_; omega) | (exfalso; have h_ := of_decide_eq_true HB.out.symm; rw [fP5] at h_; have h2_ := HE.out; simp only [beq_iff_eq, beq_eq_false_iff_ne] at h2_; omega) | skip)
  all_goals (refine (imm_Fits.calls 5 ((-1048576) + a1) _ _ A2.out).mono ?_; rintro e w3 ⟨rfl, hb⟩; have B3 := Aside0.mk (below_step B2.out hb); clear hb B2; go_wp2_with fail)
  all_goals (refine (imm_Fits.calls 0 ((-1048576) + a1) _ _ (fits0 _)).mono ?_; rintro e w4 ⟨rfl, hb⟩; have B4 := Aside0.mk (below_step B3.out hb); clear hb B3; go_wp2_with fail)
  all_goals (go_ret; exact ⟨by simp, B4.out⟩)
set_option maxHeartbeats 1000000 in
set_option maxRecDepth 100000 in
theorem walk_40o (a0 a1 : Int) (hr : Int.tmod a0 5 = 4) (he : ((((-1048576) + a1)).tmod 2 == 0) = false) (he' : ((((-1048576) + a1)) % 2 == 0) = false) (b1 : -128 ≤ a1) (b2 : a1 ≤ 127) (w : World) :
    Calls Try.prog 6 #[.int .u8 a0, .int .i8 a1, .bool false] w fun e w' => e = .returned (.bool true) ∧ Below w.heap.size w w' := by
  have HE := Aside0.mk he
  have B0 := Aside0.mk (Below.refl w.heap.size w)
  obtain ⟨q, hp⟩ := put_any 5 ((-1048576) + a1) (by omega) (by omega)
  obtain ⟨b, hb⟩ : ∃ b, b = decide (fitsP 5 ((-1048576) + a1)) := ⟨_, rfl⟩
  rw [← hb] at hp
  have hf : imm_Fits.f 5 ((-1048576) + a1) = some b := by rw [fits_tells, hb]
  have HB := Aside0.mk hb
  have A1 := Aside0.mk hp; have A2 := Aside0.mk hf
  clear hp hf hb
  go_enter Try.func6, Try.ntmps6
  go_wp2_with fail
  refine (dovetaillaw3_known.calls 10 true _ known_ok).mono ?_; rintro e w1 ⟨rfl, hb⟩; have B1 := Aside0.mk (below_step B0.out hb); clear hb B0
  go_wp2_with fail
  all_goals (refine (imm_Put.calls 10 5 0 ((-1048576) + a1) q b _ A1.out).mono ?_; rintro e w2 ⟨rfl, hb⟩; have B2 := Aside0.mk (below_step (below_alloc (below_alloc B1.out _) _) hb); clear hb B1; go_wp2_with fail)
  all_goals (cases b)
  all_goals (first | (exfalso; have h_ := of_decide_eq_false HB.out.symm; rw [fP5] at h_; have h2_ := HE.out; simp only [beq_iff_eq, beq_eq_false_iff_ne] at h2_; omega) | (exfalso; have h_ := of_decide_eq_true HB.out.symm; rw [fP5] at h_; have h2_ := HE.out; simp only [beq_iff_eq, beq_eq_false_iff_ne] at h2_; omega) | skip)
  all_goals (refine (imm_Fits.calls 5 ((-1048576) + a1) _ _ A2.out).mono ?_; rintro e w3 ⟨rfl, hb⟩; have B3 := Aside0.mk (below_step B2.out hb); clear hb B2; go_wp2_with fail)
  all_goals (refine (imm_Fits.calls 0 ((-1048576) + a1) _ _ (fits0 _)).mono ?_; rintro e w4 ⟨rfl, hb⟩; have B4 := Aside0.mk (below_step B3.out hb); clear hb B3; go_wp2_with fail)
  all_goals (go_ret; exact ⟨by simp, B4.out⟩)
set_option maxHeartbeats 1000000 in
set_option maxRecDepth 100000 in
theorem walk_41e (a0 a1 : Int) (hr : Int.tmod a0 5 = 4) (he : (((1048575 + a1)).tmod 2 == 0) = true) (he' : (((1048575 + a1)) % 2 == 0) = true) (b1 : -128 ≤ a1) (b2 : a1 ≤ 127) (w : World) :
    Calls Try.prog 6 #[.int .u8 a0, .int .i8 a1, .bool true] w fun e w' => e = .returned (.bool true) ∧ Below w.heap.size w w' := by
  have HE := Aside0.mk he
  have B0 := Aside0.mk (Below.refl w.heap.size w)
  obtain ⟨q, hp⟩ := put_any 5 (1048575 + a1) (by omega) (by omega)
  obtain ⟨b, hb⟩ : ∃ b, b = decide (fitsP 5 (1048575 + a1)) := ⟨_, rfl⟩
  rw [← hb] at hp
  have hf : imm_Fits.f 5 (1048575 + a1) = some b := by rw [fits_tells, hb]
  have HB := Aside0.mk hb
  have A1 := Aside0.mk hp; have A2 := Aside0.mk hf
  clear hp hf hb
  go_enter Try.func6, Try.ntmps6
  go_wp2_with fail
  refine (dovetaillaw3_known.calls 10 true _ known_ok).mono ?_; rintro e w1 ⟨rfl, hb⟩; have B1 := Aside0.mk (below_step B0.out hb); clear hb B0
  go_wp2_with fail
  all_goals (refine (imm_Put.calls 10 5 0 (1048575 + a1) q b _ A1.out).mono ?_; rintro e w2 ⟨rfl, hb⟩; have B2 := Aside0.mk (below_step (below_alloc (below_alloc B1.out _) _) hb); clear hb B1; go_wp2_with fail)
  all_goals (cases b)
  all_goals (first | (exfalso; have h_ := of_decide_eq_false HB.out.symm; rw [fP5] at h_; have h2_ := HE.out; simp only [beq_iff_eq, beq_eq_false_iff_ne] at h2_; omega) | (exfalso; have h_ := of_decide_eq_true HB.out.symm; rw [fP5] at h_; have h2_ := HE.out; simp only [beq_iff_eq, beq_eq_false_iff_ne] at h2_; omega) | skip)
  all_goals (refine (imm_Fits.calls 5 (1048575 + a1) _ _ A2.out).mono ?_; rintro e w3 ⟨rfl, hb⟩; have B3 := Aside0.mk (below_step B2.out hb); clear hb B2; go_wp2_with fail)
  all_goals (refine (imm_Fits.calls 0 (1048575 + a1) _ _ (fits0 _)).mono ?_; rintro e w4 ⟨rfl, hb⟩; have B4 := Aside0.mk (below_step B3.out hb); clear hb B3; go_wp2_with fail)
  all_goals (go_ret; exact ⟨by simp, B4.out⟩)

set_option maxHeartbeats 1000000 in
set_option maxRecDepth 100000 in
theorem walk_41o (a0 a1 : Int) (hr : Int.tmod a0 5 = 4) (he : (((1048575 + a1)).tmod 2 == 0) = false) (he' : (((1048575 + a1)) % 2 == 0) = false) (b1 : -128 ≤ a1) (b2 : a1 ≤ 127) (w : World) :
    Calls Try.prog 6 #[.int .u8 a0, .int .i8 a1, .bool true] w fun e w' => e = .returned (.bool true) ∧ Below w.heap.size w w' := by
  have HE := Aside0.mk he
  have B0 := Aside0.mk (Below.refl w.heap.size w)
  obtain ⟨q, hp⟩ := put_any 5 (1048575 + a1) (by omega) (by omega)
  obtain ⟨b, hb⟩ : ∃ b, b = decide (fitsP 5 (1048575 + a1)) := ⟨_, rfl⟩
  rw [← hb] at hp
  have hf : imm_Fits.f 5 (1048575 + a1) = some b := by rw [fits_tells, hb]
  have HB := Aside0.mk hb
  have A1 := Aside0.mk hp; have A2 := Aside0.mk hf
  clear hp hf hb
  go_enter Try.func6, Try.ntmps6
  go_wp2_with fail
  refine (dovetaillaw3_known.calls 10 true _ known_ok).mono ?_; rintro e w1 ⟨rfl, hb⟩; have B1 := Aside0.mk (below_step B0.out hb); clear hb B0
  go_wp2_with fail
  all_goals (refine (imm_Put.calls 10 5 0 (1048575 + a1) q b _ A1.out).mono ?_; rintro e w2 ⟨rfl, hb⟩; have B2 := Aside0.mk (below_step (below_alloc (below_alloc B1.out _) _) hb); clear hb B1; go_wp2_with fail)
  all_goals (cases b)
  all_goals (first | (exfalso; have h_ := of_decide_eq_false HB.out.symm; rw [fP5] at h_; have h2_ := HE.out; simp only [beq_iff_eq, beq_eq_false_iff_ne] at h2_; omega) | (exfalso; have h_ := of_decide_eq_true HB.out.symm; rw [fP5] at h_; have h2_ := HE.out; simp only [beq_iff_eq, beq_eq_false_iff_ne] at h2_; omega) | skip)
  all_goals (refine (imm_Fits.calls 5 (1048575 + a1) _ _ A2.out).mono ?_; rintro e w3 ⟨rfl, hb⟩; have B3 := Aside0.mk (below_step B2.out hb); clear hb B2; go_wp2_with fail)
  all_goals (refine (imm_Fits.calls 0 (1048575 + a1) _ _ (fits0 _)).mono ?_; rintro e w4 ⟨rfl, hb⟩; have B4 := Aside0.mk (below_step B3.out hb); clear hb B3; go_wp2_with fail)
  all_goals (go_ret; exact ⟨by simp, B4.out⟩)

theorem walk (a0 a1 : Int) (a2 : Bool) (w : World) (w0 : (Lit.int .u8 a0).wf = true) (w1 : (Lit.int .i8 a1).wf = true) :
    Calls Try.prog 6 #[.int .u8 a0, .int .i8 a1, .bool a2] w fun e w' => e = .returned (.bool true) ∧ Below w.heap.size w w' := by
  have b0 := bd_u8 w0
  have b1 : -128 ≤ a1 ∧ a1 ≤ 127 := by
    simp only [Lit.wf, IntKind.min, IntKind.max, IntKind.signed, IntKind.bits, Bool.and_eq_true] at w1
    simp at w1; omega
  have hm : Int.tmod a0 5 = a0 % 5 := Int.tmod_eq_emod_of_nonneg b0.1
  have par : ∀ v : Int, (((v.tmod 2 == 0) = true ∧ (v % 2 == 0) = true) ∨ ((v.tmod 2 == 0) = false ∧ (v % 2 == 0) = false)) := by
    intro v
    have h := tmod2 v
    by_cases h0 : v % 2 = 0
    · left; rw [h0, h.2 h0]; exact ⟨rfl, rfl⟩
    · right; exact ⟨beq_eq_false_iff_ne.2 (mt h.1 h0), beq_eq_false_iff_ne.2 h0⟩
  obtain h | h | h | h | h : a0 % 5 = 0 ∨ a0 % 5 = 1 ∨ a0 % 5 = 2 ∨ a0 % 5 = 3 ∨ a0 % 5 = 4 := by omega
  · cases a2
    · exact walk_00 a0 a1 (hm.trans h) b1.1 b1.2 w
    · exact walk_01 a0 a1 (hm.trans h) b1.1 b1.2 w
  · cases a2
    · exact walk_10 a0 a1 (hm.trans h) b1.1 b1.2 w
    · exact walk_11 a0 a1 (hm.trans h) b1.1 b1.2 w
  · cases a2
    · rcases par ((-4096) + a1) with ⟨p, q⟩ | ⟨p, q⟩
      · exact walk_20e a0 a1 (hm.trans h) p q b1.1 b1.2 w
      · exact walk_20o a0 a1 (hm.trans h) p q b1.1 b1.2 w
    · rcases par (4095 + a1) with ⟨p, q⟩ | ⟨p, q⟩
      · exact walk_21e a0 a1 (hm.trans h) p q b1.1 b1.2 w
      · exact walk_21o a0 a1 (hm.trans h) p q b1.1 b1.2 w
  · cases a2
    · exact walk_30 a0 a1 (hm.trans h) b1.1 b1.2 w
    · exact walk_31 a0 a1 (hm.trans h) b1.1 b1.2 w
  · cases a2
    · rcases par ((-1048576) + a1) with ⟨p, q⟩ | ⟨p, q⟩
      · exact walk_40e a0 a1 (hm.trans h) p q b1.1 b1.2 w
      · exact walk_40o a0 a1 (hm.trans h) p q b1.1 b1.2 w
    · rcases par (1048575 + a1) with ⟨p, q⟩ | ⟨p, q⟩
      · exact walk_41e a0 a1 (hm.trans h) p q b1.1 b1.2 w
      · exact walk_41o a0 a1 (hm.trans h) p q b1.1 b1.2 w


end Go.Proofs.Ytpjjgipomjenlaa.ImmRangesWalk
