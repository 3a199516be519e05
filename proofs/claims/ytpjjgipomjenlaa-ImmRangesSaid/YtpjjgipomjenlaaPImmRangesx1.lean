-- PRINTED BY print.sh 35421559b90ae4d0a3588c463048766b98c2df88dd9212a6774a882060cdf62d: not written by this session
import Derived.Test.YtpjjgipomjenlaaPImmRangesx0
namespace Go.Proofs.Ytpjjgipomjenlaa.PImmRanges
open Go.RowKit Go.Proofs.YtpjjgipomjenlaaW.PrintWords Go.Proofs.YtpjjgipomjenlaaW.PrintLast Go.Proofs.YtpjjgipomjenlaaW.PrintMore
attribute [local go_sem] max2_int min2_int max_two min_two max_three min_three max_four min_four   -- for this text's walks alone
set_option linter.unusedVariables false
set_option linter.unusedSimpArgs false

/-! ### imm_Sign: function 15 -/
def imm_Sign.f (a0 : Int) (a1 : Int) : Option (Int) := if a1 < 1 then (some 0) else (if 0 ≤ (IntKind.u64.wrap (wrap64 (64 - (mn a1 64)))) then (some (shr .i64 (wrap64 (shl .u64 a0 (IntKind.u64.wrap (wrap64 (64 - (mn a1 64)))))) (IntKind.u64.wrap (wrap64 (64 - (mn a1 64)))))) else (none))
set_option maxHeartbeats 8000000 in
set_option maxRecDepth 100000 in
theorem imm_Sign.calls (a0 : Int) (a1 : Int) (r : Int) (w : World) (h : imm_Sign.f a0 a1 = some r) :
    Calls Try.prog 15 #[.int .u64 a0, .int .i64 a1] w fun e w' => e = .returned (.int .i64 r) ∧ Below w.heap.size w w' := by
  have HB := Aside0.mk (Below.refl w.heap.size w)
  have H : (if a1 < 1 then (some 0) else (if 0 ≤ (IntKind.u64.wrap (wrap64 (64 - (mn a1 64)))) then (some (shr .i64 (wrap64 (shl .u64 a0 (IntKind.u64.wrap (wrap64 (64 - (mn a1 64)))))) (IntKind.u64.wrap (wrap64 (64 - (mn a1 64)))))) else (none))) = some r := h
  clear h
  by_cases c3 : a1 < 1
  · rw [if_pos c3] at H
    have c3b0 : decide (a1 < 1) = true := decide_eq_true c3
    clear c3
    obtain rfl := Option.some.inj H
    go_enter Try.func15, Try.ntmps15
    go_wp2
    go_ret
    exact ⟨by first | rfl | (simp [errW_none, errW_some] <;> rfl) | (simp [*, errW_none, errW_some] <;> rfl), by repeat (first | (with_reducible first | exact HB.out | apply below_alloc | apply pw_below_drewN | apply below_drew1) | exact HB.out)⟩
  · rw [if_neg c3] at H
    have c3b0 : decide (a1 < 1) = false := decide_eq_false c3
    clear c3
    obtain ⟨ji4, hji4⟩ : ∃ j_ : Int, (mn a1 64) = j_ := ⟨_, rfl⟩
    replace H : (if 0 ≤ (IntKind.u64.wrap (wrap64 (64 - (ji4)))) then (some (shr .i64 (wrap64 (shl .u64 a0 (IntKind.u64.wrap (wrap64 (64 - (ji4)))))) (IntKind.u64.wrap (wrap64 (64 - (ji4)))))) else (none)) = some r := by first | (rw [hji4] at H; exact H) | (simp only [hji4] at H ⊢; exact H)
    (try (have hji4h : ji4 ≤ 64 := by (rw [← hji4]; unfold mn; (repeat' split) <;> omega)))
    (try (have hji4g : ji4 ≤ 64 := by omega))
    have hji4_ : (if 64 < a1 then 64 else a1) = ji4 := hji4
    obtain ⟨ji5, hji5⟩ : ∃ j_ : Int, (IntKind.u64.wrap (wrap64 (64 - (ji4)))) = j_ := ⟨_, rfl⟩
    replace H : (if 0 ≤ (ji5) then (some (shr .i64 (wrap64 (shl .u64 a0 (ji5))) (ji5))) else (none)) = some r := by first | (rw [hji5] at H; exact H) | (simp only [hji5] at H ⊢; exact H)
    by_cases c6 : 0 ≤ (ji5)
    · rw [if_pos c6] at H
      have c6b0 := eq_true c6
      have c6b1 : decide (0 ≤ (ji5)) = true := decide_eq_true c6
      clear c6
      obtain ⟨ji7, hji7⟩ : ∃ j_ : Int, (shl .u64 a0 (ji5)) = j_ := ⟨_, rfl⟩
      replace H : (some (shr .i64 (wrap64 (ji7)) (ji5))) = some r := by first | (rw [hji7] at H; exact H) | (simp only [hji7] at H ⊢; exact H)
      have hji7_ : (IntKind.u64.wrap (a0 * 2 ^ min (ji5).toNat 64)) = ji7 := hji7
      have hji7z : (ji5) ≤ 64 → (IntKind.u64.wrap (a0 * 2 ^ (ji5).toNat)) = ji7 := shl_small hji7
      have c8b0 := eq_true (of_decide_eq_true (by first | (with_reducible assumption) | assumption) : 0 ≤ (ji5))
      obtain ⟨ji9, hji9⟩ : ∃ j_ : Int, (shr .i64 (wrap64 (ji7)) (ji5)) = j_ := ⟨_, rfl⟩
      replace H : (some ji9) = some r := by first | (rw [hji9] at H; exact H) | (simp only [hji9] at H ⊢; exact H)
      have hji9_ : ((wrap64 (ji7)) / 2 ^ min (ji5).toNat 64) = ji9 := hji9
      have hji9z : (ji5) ≤ 64 → ((wrap64 (ji7)) / 2 ^ (ji5).toNat) = ji9 := shr_small hji9
      obtain rfl := Option.some.inj H
      go_enter Try.func15, Try.ntmps15
      go_wp2
      go_ret
      exact ⟨by first | rfl | (simp [errW_none, errW_some] <;> rfl) | (simp only [← hji4, ← hji5, ← hji7, ← hji9]; first | rfl | (simp [errW_none, errW_some] <;> rfl)) | (simp [*, errW_none, errW_some] <;> rfl), by repeat (first | (with_reducible first | exact HB.out | apply below_alloc | apply pw_below_drewN | apply below_drew1) | exact HB.out)⟩
    · rw [if_neg c6] at H
      exact absurd H (by simp)

/-! ### imm_pieces: function 22 -/
def imm_pieces.f (a0 : Int) : Option ((List (S44)) × Int) := if a0 = 1 then (some ((([(⟨0, 20, 12⟩ : S44)] : List (S44))), 12)) else (if a0 = 2 then (some ((([(⟨0, 7, 5⟩ : S44), (⟨5, 25, 7⟩ : S44)] : List (S44))), 12)) else (if a0 = 3 then (some ((([(⟨1, 8, 4⟩ : S44), (⟨5, 25, 6⟩ : S44), (⟨11, 7, 1⟩ : S44), (⟨12, 31, 1⟩ : S44)] : List (S44))), 13)) else (if a0 = 4 then (some ((([(⟨0, 12, 20⟩ : S44)] : List (S44))), 20)) else (if a0 = 5 then (some ((([(⟨1, 21, 10⟩ : S44), (⟨11, 20, 1⟩ : S44), (⟨12, 12, 8⟩ : S44), (⟨20, 31, 1⟩ : S44)] : List (S44))), 21)) else (some (([] : List (S44)), 0))))))
set_option maxHeartbeats 8000000 in
set_option maxRecDepth 100000 in
theorem imm_pieces.calls (a0 : Int) (r1 : List (S44)) (r2 : Int) (w : World) (h : imm_pieces.f a0 = some (r1, r2)) :
    Calls Try.prog 22 #[.int .i64 a0] w fun e w' => ∃ v0_ : Value, e = .returned (.tuple #[v0_, .int .i64 r2]) ∧ Kd.R k44 44 w' w.heap.size (fun _ => True) v0_ r1 ∧ Below w.heap.size w w' := by
  have hu44 := Try.underlying44
  have HB := Aside0.mk (Below.refl w.heap.size w)
  have H : (if a0 = 1 then (some ((([(⟨0, 20, 12⟩ : S44)] : List (S44))), 12)) else (if a0 = 2 then (some ((([(⟨0, 7, 5⟩ : S44), (⟨5, 25, 7⟩ : S44)] : List (S44))), 12)) else (if a0 = 3 then (some ((([(⟨1, 8, 4⟩ : S44), (⟨5, 25, 6⟩ : S44), (⟨11, 7, 1⟩ : S44), (⟨12, 31, 1⟩ : S44)] : List (S44))), 13)) else (if a0 = 4 then (some ((([(⟨0, 12, 20⟩ : S44)] : List (S44))), 20)) else (if a0 = 5 then (some ((([(⟨1, 21, 10⟩ : S44), (⟨11, 20, 1⟩ : S44), (⟨12, 12, 8⟩ : S44), (⟨20, 31, 1⟩ : S44)] : List (S44))), 21)) else (some (([] : List (S44)), 0))))))) = some (r1, r2) := h
  clear h
  by_cases c2 : a0 = 1
  · rw [if_pos c2] at H
    have c2b0 : (a0 == 1) = true := beq_iff_eq.mpr c2
    have c2b1 : (a0 != 1) = false := bne_eq_false_iff_eq.mpr c2
    clear c2
    obtain ⟨y101, hy101⟩ : ∃ y_ : List (S44), y_ = (([(⟨0, 20, 12⟩ : S44)] : List (S44))) := ⟨_, rfl⟩
    replace H : (some (y101, 12)) = some (r1, r2) := by first | (rw [hy101]; with_reducible exact H) | (have H2_ := (Option.bind_some _ _).symm.trans H; rw [hy101]; with_reducible exact H2_) | (have H2_ := (Option.bind_some _ _).symm.trans H; with_reducible exact H2_) | with_reducible exact H | (rw [hy101]; exact H) | exact H
    have Ny101 := Aside0.mk hy101
    clear hy101
    simp only [Option.some.injEq, Prod.mk.injEq] at H
    obtain ⟨rfl, rfl⟩ := H
    go_enter Try.func22, Try.ntmps22
    go_wp2_with (first | ((with_reducible refine gate_dst (N := 8) rfl ?_); refine Kd.R_lit k44 _ 44 ?hg (N := 8) ?hd (xs := ([(⟨0, 20, 12⟩ : S44)] : List (S44))) (inner := [.int .i64 0, .int .i64 20, .int .i64 12]) (ok := fun _ => True) (okp := fun _ => True) ?hr ?hp (fun _ hk => hk) trivial (Below.refl _ _) (Nat.le_refl _) (by simp) ?_; (case hd => rfl); (case hg => rfl); (case hr => first | (go_simp; done) | (go_simp; rfl)); (case hp => exact (Reps.c3 (show Kd.M k44 _ _ _ (⟨0, 20, 12⟩ : S44) [.int .i64 0, .int .i64 20, .int .i64 12] from (k44_mkM _ _ _ (⟨0, 20, 12⟩ : S44) )) (Reps.none _ _))); intro v102 w3 ho4 hb hg_ hnew_; clear hg_ hnew_; (first | rw [← Ny101.out] at ho4 | (simp only [Int.reduceToNat] at ho4; rw [← Ny101.out] at ho4)); have n0_ := Aside0.mk (Kd.R_lower ho4 (below_size (by repeat (first | (with_reducible first | exact HB.out | apply below_alloc | apply pw_below_drewN | apply below_drew1) | exact HB.out)))); have n1_ := Aside0.mk (below_step (by repeat (first | (with_reducible first | exact HB.out | apply below_alloc | apply pw_below_drewN | apply below_drew1) | exact HB.out)) hb); clear HB; have HO103 := n0_; have HB := n1_; clear n0_ n1_; clear hb ho4))
    go_ret2
    exact ⟨_, by first | rfl | (simp [errW_none, errW_some] <;> rfl) | (simp [*, errW_none, errW_some] <;> rfl), by (with_reducible repeat (first | apply Kd.R_alloc | apply Kd.R_drewN | apply Kd.R_drew)); exact HO103.out, by repeat (first | (with_reducible first | exact HB.out | apply below_alloc | apply pw_below_drewN | apply below_drew1) | exact HB.out)⟩
  · rw [if_neg c2] at H
    have c2b0 : (a0 == 1) = false := beq_eq_false_iff_ne.mpr c2
    have c2b1 : (a0 != 1) = true := bne_iff_ne.mpr c2
    by_cases c5 : a0 = 2
    · rw [if_pos c5] at H
      have c5b0 : (a0 == 2) = true := beq_iff_eq.mpr c5
      have c5b1 : (a0 != 2) = false := bne_eq_false_iff_eq.mpr c5
      clear c5
      obtain ⟨y104, hy104⟩ : ∃ y_ : List (S44), y_ = (([(⟨0, 7, 5⟩ : S44), (⟨5, 25, 7⟩ : S44)] : List (S44))) := ⟨_, rfl⟩
      replace H : (some (y104, 12)) = some (r1, r2) := by first | (rw [hy104]; with_reducible exact H) | (have H2_ := (Option.bind_some _ _).symm.trans H; rw [hy104]; with_reducible exact H2_) | (have H2_ := (Option.bind_some _ _).symm.trans H; with_reducible exact H2_) | with_reducible exact H | (rw [hy104]; exact H) | exact H
      have Ny104 := Aside0.mk hy104
      clear hy104
      simp only [Option.some.injEq, Prod.mk.injEq] at H
      obtain ⟨rfl, rfl⟩ := H
      go_enter Try.func22, Try.ntmps22
      go_wp2_with (first | ((with_reducible refine gate_dst (N := 13) rfl ?_); refine Kd.R_lit k44 _ 44 ?hg (N := 13) ?hd (xs := ([(⟨0, 7, 5⟩ : S44), (⟨5, 25, 7⟩ : S44)] : List (S44))) (inner := [.int .i64 0, .int .i64 7, .int .i64 5, .int .i64 5, .int .i64 25, .int .i64 7]) (ok := fun _ => True) (okp := fun _ => True) ?hr ?hp (fun _ hk => hk) trivial (Below.refl _ _) (Nat.le_refl _) (by simp) ?_; (case hd => rfl); (case hg => rfl); (case hr => first | (go_simp; done) | (go_simp; rfl)); (case hp => exact (Reps.c3 (show Kd.M k44 _ _ _ (⟨0, 7, 5⟩ : S44) [.int .i64 0, .int .i64 7, .int .i64 5] from (k44_mkM _ _ _ (⟨0, 7, 5⟩ : S44) )) (Reps.c3 (show Kd.M k44 _ _ _ (⟨5, 25, 7⟩ : S44) [.int .i64 5, .int .i64 25, .int .i64 7] from (k44_mkM _ _ _ (⟨5, 25, 7⟩ : S44) )) (Reps.none _ _)))); intro v105 w6 ho7 hb hg_ hnew_; clear hg_ hnew_; (first | rw [← Ny104.out] at ho7 | (simp only [Int.reduceToNat] at ho7; rw [← Ny104.out] at ho7)); have n0_ := Aside0.mk (Kd.R_lower ho7 (below_size (by repeat (first | (with_reducible first | exact HB.out | apply below_alloc | apply pw_below_drewN | apply below_drew1) | exact HB.out)))); have n1_ := Aside0.mk (below_step (by repeat (first | (with_reducible first | exact HB.out | apply below_alloc | apply pw_below_drewN | apply below_drew1) | exact HB.out)) hb); clear HB; have HO106 := n0_; have HB := n1_; clear n0_ n1_; clear hb ho7))
      go_ret2
      exact ⟨_, by first | rfl | (simp [errW_none, errW_some] <;> rfl) | (simp [*, errW_none, errW_some] <;> rfl), by (with_reducible repeat (first | apply Kd.R_alloc | apply Kd.R_drewN | apply Kd.R_drew)); exact HO106.out, by repeat (first | (with_reducible first | exact HB.out | apply below_alloc | apply pw_below_drewN | apply below_drew1) | exact HB.out)⟩
    · rw [if_neg c5] at H
      have c5b0 : (a0 == 2) = false := beq_eq_false_iff_ne.mpr c5
      have c5b1 : (a0 != 2) = true := bne_iff_ne.mpr c5
      by_cases c8 : a0 = 3
      · rw [if_pos c8] at H
        have c8b0 : (a0 == 3) = true := beq_iff_eq.mpr c8
        have c8b1 : (a0 != 3) = false := bne_eq_false_iff_eq.mpr c8
        clear c8
        obtain ⟨y107, hy107⟩ : ∃ y_ : List (S44), y_ = (([(⟨1, 8, 4⟩ : S44), (⟨5, 25, 6⟩ : S44), (⟨11, 7, 1⟩ : S44), (⟨12, 31, 1⟩ : S44)] : List (S44))) := ⟨_, rfl⟩
        replace H : (some (y107, 13)) = some (r1, r2) := by first | (rw [hy107]; with_reducible exact H) | (have H2_ := (Option.bind_some _ _).symm.trans H; rw [hy107]; with_reducible exact H2_) | (have H2_ := (Option.bind_some _ _).symm.trans H; with_reducible exact H2_) | with_reducible exact H | (rw [hy107]; exact H) | exact H
        have Ny107 := Aside0.mk hy107
        clear hy107
        simp only [Option.some.injEq, Prod.mk.injEq] at H
        obtain ⟨rfl, rfl⟩ := H
        go_enter Try.func22, Try.ntmps22
        go_wp2_with (first | ((with_reducible refine gate_dst (N := 20) rfl ?_); refine Kd.R_lit k44 _ 44 ?hg (N := 20) ?hd (xs := ([(⟨1, 8, 4⟩ : S44), (⟨5, 25, 6⟩ : S44), (⟨11, 7, 1⟩ : S44), (⟨12, 31, 1⟩ : S44)] : List (S44))) (inner := [.int .i64 1, .int .i64 8, .int .i64 4, .int .i64 5, .int .i64 25, .int .i64 6, .int .i64 11, .int .i64 7, .int .i64 1, .int .i64 12, .int .i64 31, .int .i64 1]) (ok := fun _ => True) (okp := fun _ => True) ?hr ?hp (fun _ hk => hk) trivial (Below.refl _ _) (Nat.le_refl _) (by simp) ?_; (case hd => rfl); (case hg => rfl); (case hr => first | (go_simp; done) | (go_simp; rfl)); (case hp => exact (Reps.c3 (show Kd.M k44 _ _ _ (⟨1, 8, 4⟩ : S44) [.int .i64 1, .int .i64 8, .int .i64 4] from (k44_mkM _ _ _ (⟨1, 8, 4⟩ : S44) )) (Reps.c3 (show Kd.M k44 _ _ _ (⟨5, 25, 6⟩ : S44) [.int .i64 5, .int .i64 25, .int .i64 6] from (k44_mkM _ _ _ (⟨5, 25, 6⟩ : S44) )) (Reps.c3 (show Kd.M k44 _ _ _ (⟨11, 7, 1⟩ : S44) [.int .i64 11, .int .i64 7, .int .i64 1] from (k44_mkM _ _ _ (⟨11, 7, 1⟩ : S44) )) (Reps.c3 (show Kd.M k44 _ _ _ (⟨12, 31, 1⟩ : S44) [.int .i64 12, .int .i64 31, .int .i64 1] from (k44_mkM _ _ _ (⟨12, 31, 1⟩ : S44) )) (Reps.none _ _)))))); intro v108 w9 ho10 hb hg_ hnew_; clear hg_ hnew_; (first | rw [← Ny107.out] at ho10 | (simp only [Int.reduceToNat] at ho10; rw [← Ny107.out] at ho10)); have n0_ := Aside0.mk (Kd.R_lower ho10 (below_size (by repeat (first | (with_reducible first | exact HB.out | apply below_alloc | apply pw_below_drewN | apply below_drew1) | exact HB.out)))); have n1_ := Aside0.mk (below_step (by repeat (first | (with_reducible first | exact HB.out | apply below_alloc | apply pw_below_drewN | apply below_drew1) | exact HB.out)) hb); clear HB; have HO109 := n0_; have HB := n1_; clear n0_ n1_; clear hb ho10))
        go_ret2
        exact ⟨_, by first | rfl | (simp [errW_none, errW_some] <;> rfl) | (simp [*, errW_none, errW_some] <;> rfl), by (with_reducible repeat (first | apply Kd.R_alloc | apply Kd.R_drewN | apply Kd.R_drew)); exact HO109.out, by repeat (first | (with_reducible first | exact HB.out | apply below_alloc | apply pw_below_drewN | apply below_drew1) | exact HB.out)⟩
      · rw [if_neg c8] at H
        have c8b0 : (a0 == 3) = false := beq_eq_false_iff_ne.mpr c8
        have c8b1 : (a0 != 3) = true := bne_iff_ne.mpr c8
        by_cases c11 : a0 = 4
        · rw [if_pos c11] at H
          have c11b0 : (a0 == 4) = true := beq_iff_eq.mpr c11
          have c11b1 : (a0 != 4) = false := bne_eq_false_iff_eq.mpr c11
          clear c11
          obtain ⟨y110, hy110⟩ : ∃ y_ : List (S44), y_ = (([(⟨0, 12, 20⟩ : S44)] : List (S44))) := ⟨_, rfl⟩
          replace H : (some (y110, 20)) = some (r1, r2) := by first | (rw [hy110]; with_reducible exact H) | (have H2_ := (Option.bind_some _ _).symm.trans H; rw [hy110]; with_reducible exact H2_) | (have H2_ := (Option.bind_some _ _).symm.trans H; with_reducible exact H2_) | with_reducible exact H | (rw [hy110]; exact H) | exact H
          have Ny110 := Aside0.mk hy110
          clear hy110
          simp only [Option.some.injEq, Prod.mk.injEq] at H
          obtain ⟨rfl, rfl⟩ := H
          go_enter Try.func22, Try.ntmps22
          go_wp2_with (first | ((with_reducible refine gate_dst (N := 24) rfl ?_); refine Kd.R_lit k44 _ 44 ?hg (N := 24) ?hd (xs := ([(⟨0, 12, 20⟩ : S44)] : List (S44))) (inner := [.int .i64 0, .int .i64 12, .int .i64 20]) (ok := fun _ => True) (okp := fun _ => True) ?hr ?hp (fun _ hk => hk) trivial (Below.refl _ _) (Nat.le_refl _) (by simp) ?_; (case hd => rfl); (case hg => rfl); (case hr => first | (go_simp; done) | (go_simp; rfl)); (case hp => exact (Reps.c3 (show Kd.M k44 _ _ _ (⟨0, 12, 20⟩ : S44) [.int .i64 0, .int .i64 12, .int .i64 20] from (k44_mkM _ _ _ (⟨0, 12, 20⟩ : S44) )) (Reps.none _ _))); intro v111 w12 ho13 hb hg_ hnew_; clear hg_ hnew_; (first | rw [← Ny110.out] at ho13 | (simp only [Int.reduceToNat] at ho13; rw [← Ny110.out] at ho13)); have n0_ := Aside0.mk (Kd.R_lower ho13 (below_size (by repeat (first | (with_reducible first | exact HB.out | apply below_alloc | apply pw_below_drewN | apply below_drew1) | exact HB.out)))); have n1_ := Aside0.mk (below_step (by repeat (first | (with_reducible first | exact HB.out | apply below_alloc | apply pw_below_drewN | apply below_drew1) | exact HB.out)) hb); clear HB; have HO112 := n0_; have HB := n1_; clear n0_ n1_; clear hb ho13))
          go_ret2
          exact ⟨_, by first | rfl | (simp [errW_none, errW_some] <;> rfl) | (simp [*, errW_none, errW_some] <;> rfl), by (with_reducible repeat (first | apply Kd.R_alloc | apply Kd.R_drewN | apply Kd.R_drew)); exact HO112.out, by repeat (first | (with_reducible first | exact HB.out | apply below_alloc | apply pw_below_drewN | apply below_drew1) | exact HB.out)⟩
        · rw [if_neg c11] at H
          have c11b0 : (a0 == 4) = false := beq_eq_false_iff_ne.mpr c11
          have c11b1 : (a0 != 4) = true := bne_iff_ne.mpr c11
          by_cases c14 : a0 = 5
          · rw [if_pos c14] at H
            have c14b0 : (a0 == 5) = true := beq_iff_eq.mpr c14
            have c14b1 : (a0 != 5) = false := bne_eq_false_iff_eq.mpr c14
            clear c14
            obtain ⟨y113, hy113⟩ : ∃ y_ : List (S44), y_ = (([(⟨1, 21, 10⟩ : S44), (⟨11, 20, 1⟩ : S44), (⟨12, 12, 8⟩ : S44), (⟨20, 31, 1⟩ : S44)] : List (S44))) := ⟨_, rfl⟩
            replace H : (some (y113, 21)) = some (r1, r2) := by first | (rw [hy113]; with_reducible exact H) | (have H2_ := (Option.bind_some _ _).symm.trans H; rw [hy113]; with_reducible exact H2_) | (have H2_ := (Option.bind_some _ _).symm.trans H; with_reducible exact H2_) | with_reducible exact H | (rw [hy113]; exact H) | exact H
            have Ny113 := Aside0.mk hy113
            clear hy113
            simp only [Option.some.injEq, Prod.mk.injEq] at H
            obtain ⟨rfl, rfl⟩ := H
            go_enter Try.func22, Try.ntmps22
            go_wp2_with (first | ((with_reducible refine gate_dst (N := 31) rfl ?_); refine Kd.R_lit k44 _ 44 ?hg (N := 31) ?hd (xs := ([(⟨1, 21, 10⟩ : S44), (⟨11, 20, 1⟩ : S44), (⟨12, 12, 8⟩ : S44), (⟨20, 31, 1⟩ : S44)] : List (S44))) (inner := [.int .i64 1, .int .i64 21, .int .i64 10, .int .i64 11, .int .i64 20, .int .i64 1, .int .i64 12, .int .i64 12, .int .i64 8, .int .i64 20, .int .i64 31, .int .i64 1]) (ok := fun _ => True) (okp := fun _ => True) ?hr ?hp (fun _ hk => hk) trivial (Below.refl _ _) (Nat.le_refl _) (by simp) ?_; (case hd => rfl); (case hg => rfl); (case hr => first | (go_simp; done) | (go_simp; rfl)); (case hp => exact (Reps.c3 (show Kd.M k44 _ _ _ (⟨1, 21, 10⟩ : S44) [.int .i64 1, .int .i64 21, .int .i64 10] from (k44_mkM _ _ _ (⟨1, 21, 10⟩ : S44) )) (Reps.c3 (show Kd.M k44 _ _ _ (⟨11, 20, 1⟩ : S44) [.int .i64 11, .int .i64 20, .int .i64 1] from (k44_mkM _ _ _ (⟨11, 20, 1⟩ : S44) )) (Reps.c3 (show Kd.M k44 _ _ _ (⟨12, 12, 8⟩ : S44) [.int .i64 12, .int .i64 12, .int .i64 8] from (k44_mkM _ _ _ (⟨12, 12, 8⟩ : S44) )) (Reps.c3 (show Kd.M k44 _ _ _ (⟨20, 31, 1⟩ : S44) [.int .i64 20, .int .i64 31, .int .i64 1] from (k44_mkM _ _ _ (⟨20, 31, 1⟩ : S44) )) (Reps.none _ _)))))); intro v114 w15 ho16 hb hg_ hnew_; clear hg_ hnew_; (first | rw [← Ny113.out] at ho16 | (simp only [Int.reduceToNat] at ho16; rw [← Ny113.out] at ho16)); have n0_ := Aside0.mk (Kd.R_lower ho16 (below_size (by repeat (first | (with_reducible first | exact HB.out | apply below_alloc | apply pw_below_drewN | apply below_drew1) | exact HB.out)))); have n1_ := Aside0.mk (below_step (by repeat (first | (with_reducible first | exact HB.out | apply below_alloc | apply pw_below_drewN | apply below_drew1) | exact HB.out)) hb); clear HB; have HO115 := n0_; have HB := n1_; clear n0_ n1_; clear hb ho16))
            go_ret2
            exact ⟨_, by first | rfl | (simp [errW_none, errW_some] <;> rfl) | (simp [*, errW_none, errW_some] <;> rfl), by (with_reducible repeat (first | apply Kd.R_alloc | apply Kd.R_drewN | apply Kd.R_drew)); exact HO115.out, by repeat (first | (with_reducible first | exact HB.out | apply below_alloc | apply pw_below_drewN | apply below_drew1) | exact HB.out)⟩
          · rw [if_neg c14] at H
            have c14b0 : (a0 == 5) = false := beq_eq_false_iff_ne.mpr c14
            have c14b1 : (a0 != 5) = true := bne_iff_ne.mpr c14
            simp only [Option.some.injEq, Prod.mk.injEq] at H
            obtain ⟨rfl, rfl⟩ := H
            go_enter Try.func22, Try.ntmps22
            go_wp2
            go_ret2
            exact ⟨_, by first | rfl | (simp [errW_none, errW_some] <;> rfl) | (simp [*, errW_none, errW_some] <;> rfl), by first | exact Kd.R_nil _ _ _ _ _ | exact Kd.N_nil _ _ _ _ _ | exact Kd.V_nil _ _ _ _ _ | exact Kd.Q_nil _ _ _ _ _ | exact Kd.S_nil _ _ _ _ _, by repeat (first | (with_reducible first | exact HB.out | apply below_alloc | apply pw_below_drewN | apply below_drew1) | exact HB.out)⟩

/-! ### imm_Fits: function 13 -/
def imm_Fits.f (a0 : Int) (a1 : Int) : Option (Bool) := (imm_pieces.f a0).bind fun bt116 => (if a0 = 3 then (if (Int.tmod a1 2) = 0 then ((imm_Sign.f (IntKind.u64.wrap (a1)) bt116.2).bind fun t120 => (some (t120 == a1))) else (some false)) else (if a0 = 5 then (if (Int.tmod a1 2) = 0 then ((imm_Sign.f (IntKind.u64.wrap (a1)) bt116.2).bind fun t121 => (some (t121 == a1))) else (some false)) else ((imm_Sign.f (IntKind.u64.wrap (a1)) bt116.2).bind fun t122 => (some (t122 == a1)))))
set_option maxHeartbeats 8000000 in
set_option maxRecDepth 100000 in
theorem imm_Fits.calls (a0 : Int) (a1 : Int) (r : Bool) (w : World) (h : imm_Fits.f a0 a1 = some r) :
    Calls Try.prog 13 #[.int .i64 a0, .int .i64 a1] w fun e w' => e = .returned (.bool r) ∧ Below w.heap.size w w' := by
  have HB := Aside0.mk (Below.refl w.heap.size w)
  have H : ((imm_pieces.f a0).bind fun bt116 => (if a0 = 3 then (if (Int.tmod a1 2) = 0 then ((imm_Sign.f (IntKind.u64.wrap (a1)) bt116.2).bind fun t120 => (some (t120 == a1))) else (some false)) else (if a0 = 5 then (if (Int.tmod a1 2) = 0 then ((imm_Sign.f (IntKind.u64.wrap (a1)) bt116.2).bind fun t121 => (some (t121 == a1))) else (some false)) else ((imm_Sign.f (IntKind.u64.wrap (a1)) bt116.2).bind fun t122 => (some (t122 == a1)))))) = some r := h
  clear h
  replace H := Option.bind_eq_some_iff.mp H
  obtain ⟨⟨t116, t117⟩, A30, H⟩ := H
  replace H : (if a0 = 3 then (if (Int.tmod a1 2) = 0 then ((imm_Sign.f (IntKind.u64.wrap (a1)) t117).bind fun t120 => (some (t120 == a1))) else (some false)) else (if a0 = 5 then (if (Int.tmod a1 2) = 0 then ((imm_Sign.f (IntKind.u64.wrap (a1)) t117).bind fun t121 => (some (t121 == a1))) else (some false)) else ((imm_Sign.f (IntKind.u64.wrap (a1)) t117).bind fun t122 => (some (t122 == a1))))) = some r := H
  have A3 := Aside0.mk A30
  clear A30
  by_cases c4 : a0 = 3
  · rw [if_pos c4] at H
    have c4b0 : (a0 == 3) = true := beq_iff_eq.mpr c4
    have c4b1 : (a0 != 3) = false := bne_eq_false_iff_eq.mpr c4
    clear c4
    by_cases c5 : (Int.tmod a1 2) = 0
    · rw [if_pos c5] at H
      have c5b0 : ((Int.tmod a1 2) == 0) = true := beq_iff_eq.mpr c5
      have c5b1 : ((Int.tmod a1 2) != 0) = false := bne_eq_false_iff_eq.mpr c5
      clear c5
      replace H := Option.bind_eq_some_iff.mp H
      obtain ⟨t120, A60, H⟩ := H
      replace H : (some (t120 == a1)) = some r := H
      have A6 := Aside0.mk A60
      clear A60
      obtain rfl := Option.some.inj H
      go_enter Try.func13, Try.ntmps13
      go_wp2_with (first | ((with_reducible refine gate_callee (f := 22) rfl ?_); refine goesL_ (some 9) rfl rfl Try.func22 (by kernel_rfl) rfl #[.int .i64 a0] rfl (by (try simp only [List.map_toArray, List.map_cons, List.map_nil]); first | done | rfl | (simp only [List.length_drop, List.length_take]; rfl)) ?_; (with_reducible refine (imm_pieces.calls a0 t116 t117 _ A3.out).mono ?_); rintro e w7 ⟨v118, rfl, ho0, hb⟩; refine ⟨_, rfl, ?_⟩; have n0_ := Aside0.mk (Kd.R_lower ho0 (below_size (by repeat (first | (with_reducible first | exact HB.out | apply below_alloc | apply pw_below_drewN | apply below_drew1) | exact HB.out)))); have n1_ := Aside0.mk (below_step (by repeat (first | (with_reducible first | exact HB.out | apply below_alloc | apply pw_below_drewN | apply below_drew1) | exact HB.out)) hb); clear HB; have HO119 := n0_; have HB := n1_; clear n0_ n1_; (try clear hb); (try clear hb2); (try clear hk); (try clear hi); (try clear ho0)) | ((with_reducible refine gate_callee (f := 15) rfl ?_); refine goesL_ (some 26) rfl rfl Try.func15 (by kernel_rfl) rfl #[.int .u64 (IntKind.u64.wrap (a1)), .int .i64 t117] rfl (by (try simp only [List.map_toArray, List.map_cons, List.map_nil]); first | done | rfl | (simp only [List.length_drop, List.length_take]; rfl)) ?_; (with_reducible refine (imm_Sign.calls (IntKind.u64.wrap (a1)) t117 t120 _ A6.out).mono ?_); rintro e w8 ⟨rfl, hb⟩; refine ⟨_, rfl, ?_⟩; have n0_ := Aside0.mk (Kd.R_below (by (with_reducible repeat (first | apply Kd.R_alloc | apply Kd.R_drewN | apply Kd.R_drew)); exact HO119.out) hb); have n1_ := Aside0.mk (below_step (by repeat (first | (with_reducible first | exact HB.out | apply below_alloc | apply pw_below_drewN | apply below_drew1) | exact HB.out)) hb); clear HO119; clear HB; have HO119 := n0_; have HB := n1_; clear n0_ n1_; (try clear hb); (try clear hb2); (try clear hk); (try clear hi)))
      go_ret
      exact ⟨by first | rfl | (simp [errW_none, errW_some] <;> rfl) | (simp [*, errW_none, errW_some] <;> rfl), by repeat (first | (with_reducible first | exact HB.out | apply below_alloc | apply pw_below_drewN | apply below_drew1) | exact HB.out)⟩
    · rw [if_neg c5] at H
      have c5b0 : ((Int.tmod a1 2) == 0) = false := beq_eq_false_iff_ne.mpr c5
      have c5b1 : ((Int.tmod a1 2) != 0) = true := bne_iff_ne.mpr c5
      obtain rfl := Option.some.inj H
      go_enter Try.func13, Try.ntmps13
      go_wp2_with (first | ((with_reducible refine gate_callee (f := 22) rfl ?_); refine goesL_ (some 9) rfl rfl Try.func22 (by kernel_rfl) rfl #[.int .i64 a0] rfl (by (try simp only [List.map_toArray, List.map_cons, List.map_nil]); first | done | rfl | (simp only [List.length_drop, List.length_take]; rfl)) ?_; (with_reducible refine (imm_pieces.calls a0 t116 t117 _ A3.out).mono ?_); rintro e w9 ⟨v118, rfl, ho0, hb⟩; refine ⟨_, rfl, ?_⟩; have n0_ := Aside0.mk (Kd.R_lower ho0 (below_size (by repeat (first | (with_reducible first | exact HB.out | apply below_alloc | apply pw_below_drewN | apply below_drew1) | exact HB.out)))); have n1_ := Aside0.mk (below_step (by repeat (first | (with_reducible first | exact HB.out | apply below_alloc | apply pw_below_drewN | apply below_drew1) | exact HB.out)) hb); clear HB; have HO119 := n0_; have HB := n1_; clear n0_ n1_; (try clear hb); (try clear hb2); (try clear hk); (try clear hi); (try clear ho0)))
      go_ret
      exact ⟨by first | rfl | (simp [errW_none, errW_some] <;> rfl) | (simp [*, errW_none, errW_some] <;> rfl), by repeat (first | (with_reducible first | exact HB.out | apply below_alloc | apply pw_below_drewN | apply below_drew1) | exact HB.out)⟩
  · rw [if_neg c4] at H
    have c4b0 : (a0 == 3) = false := beq_eq_false_iff_ne.mpr c4
    have c4b1 : (a0 != 3) = true := bne_iff_ne.mpr c4
    by_cases c10 : a0 = 5
    · rw [if_pos c10] at H
      have c10b0 : (a0 == 5) = true := beq_iff_eq.mpr c10
      have c10b1 : (a0 != 5) = false := bne_eq_false_iff_eq.mpr c10
      clear c10
      by_cases c11 : (Int.tmod a1 2) = 0
      · rw [if_pos c11] at H
        have c11b0 : ((Int.tmod a1 2) == 0) = true := beq_iff_eq.mpr c11
        have c11b1 : ((Int.tmod a1 2) != 0) = false := bne_eq_false_iff_eq.mpr c11
        clear c11
        replace H := Option.bind_eq_some_iff.mp H
        obtain ⟨t121, A120, H⟩ := H
        replace H : (some (t121 == a1)) = some r := H
        have A12 := Aside0.mk A120
        clear A120
        obtain rfl := Option.some.inj H
        go_enter Try.func13, Try.ntmps13
        go_wp2_with (first | ((with_reducible refine gate_callee (f := 22) rfl ?_); refine goesL_ (some 9) rfl rfl Try.func22 (by kernel_rfl) rfl #[.int .i64 a0] rfl (by (try simp only [List.map_toArray, List.map_cons, List.map_nil]); first | done | rfl | (simp only [List.length_drop, List.length_take]; rfl)) ?_; (with_reducible refine (imm_pieces.calls a0 t116 t117 _ A3.out).mono ?_); rintro e w13 ⟨v118, rfl, ho0, hb⟩; refine ⟨_, rfl, ?_⟩; have n0_ := Aside0.mk (Kd.R_lower ho0 (below_size (by repeat (first | (with_reducible first | exact HB.out | apply below_alloc | apply pw_below_drewN | apply below_drew1) | exact HB.out)))); have n1_ := Aside0.mk (below_step (by repeat (first | (with_reducible first | exact HB.out | apply below_alloc | apply pw_below_drewN | apply below_drew1) | exact HB.out)) hb); clear HB; have HO119 := n0_; have HB := n1_; clear n0_ n1_; (try clear hb); (try clear hb2); (try clear hk); (try clear hi); (try clear ho0)) | ((with_reducible refine gate_callee (f := 15) rfl ?_); refine goesL_ (some 26) rfl rfl Try.func15 (by kernel_rfl) rfl #[.int .u64 (IntKind.u64.wrap (a1)), .int .i64 t117] rfl (by (try simp only [List.map_toArray, List.map_cons, List.map_nil]); first | done | rfl | (simp only [List.length_drop, List.length_take]; rfl)) ?_; (with_reducible refine (imm_Sign.calls (IntKind.u64.wrap (a1)) t117 t121 _ A12.out).mono ?_); rintro e w14 ⟨rfl, hb⟩; refine ⟨_, rfl, ?_⟩; have n0_ := Aside0.mk (Kd.R_below (by (with_reducible repeat (first | apply Kd.R_alloc | apply Kd.R_drewN | apply Kd.R_drew)); exact HO119.out) hb); have n1_ := Aside0.mk (below_step (by repeat (first | (with_reducible first | exact HB.out | apply below_alloc | apply pw_below_drewN | apply below_drew1) | exact HB.out)) hb); clear HO119; clear HB; have HO119 := n0_; have HB := n1_; clear n0_ n1_; (try clear hb); (try clear hb2); (try clear hk); (try clear hi)))
        go_ret
        exact ⟨by first | rfl | (simp [errW_none, errW_some] <;> rfl) | (simp [*, errW_none, errW_some] <;> rfl), by repeat (first | (with_reducible first | exact HB.out | apply below_alloc | apply pw_below_drewN | apply below_drew1) | exact HB.out)⟩
      · rw [if_neg c11] at H
        have c11b0 : ((Int.tmod a1 2) == 0) = false := beq_eq_false_iff_ne.mpr c11
        have c11b1 : ((Int.tmod a1 2) != 0) = true := bne_iff_ne.mpr c11
        obtain rfl := Option.some.inj H
        go_enter Try.func13, Try.ntmps13
        go_wp2_with (first | ((with_reducible refine gate_callee (f := 22) rfl ?_); refine goesL_ (some 9) rfl rfl Try.func22 (by kernel_rfl) rfl #[.int .i64 a0] rfl (by (try simp only [List.map_toArray, List.map_cons, List.map_nil]); first | done | rfl | (simp only [List.length_drop, List.length_take]; rfl)) ?_; (with_reducible refine (imm_pieces.calls a0 t116 t117 _ A3.out).mono ?_); rintro e w15 ⟨v118, rfl, ho0, hb⟩; refine ⟨_, rfl, ?_⟩; have n0_ := Aside0.mk (Kd.R_lower ho0 (below_size (by repeat (first | (with_reducible first | exact HB.out | apply below_alloc | apply pw_below_drewN | apply below_drew1) | exact HB.out)))); have n1_ := Aside0.mk (below_step (by repeat (first | (with_reducible first | exact HB.out | apply below_alloc | apply pw_below_drewN | apply below_drew1) | exact HB.out)) hb); clear HB; have HO119 := n0_; have HB := n1_; clear n0_ n1_; (try clear hb); (try clear hb2); (try clear hk); (try clear hi); (try clear ho0)))
        go_ret
        exact ⟨by first | rfl | (simp [errW_none, errW_some] <;> rfl) | (simp [*, errW_none, errW_some] <;> rfl), by repeat (first | (with_reducible first | exact HB.out | apply below_alloc | apply pw_below_drewN | apply below_drew1) | exact HB.out)⟩
    · rw [if_neg c10] at H
      have c10b0 : (a0 == 5) = false := beq_eq_false_iff_ne.mpr c10
      have c10b1 : (a0 != 5) = true := bne_iff_ne.mpr c10
      replace H := Option.bind_eq_some_iff.mp H
      obtain ⟨t122, A160, H⟩ := H
      replace H : (some (t122 == a1)) = some r := H
      have A16 := Aside0.mk A160
      clear A160
      obtain rfl := Option.some.inj H
      go_enter Try.func13, Try.ntmps13
      go_wp2_with (first | ((with_reducible refine gate_callee (f := 22) rfl ?_); refine goesL_ (some 9) rfl rfl Try.func22 (by kernel_rfl) rfl #[.int .i64 a0] rfl (by (try simp only [List.map_toArray, List.map_cons, List.map_nil]); first | done | rfl | (simp only [List.length_drop, List.length_take]; rfl)) ?_; (with_reducible refine (imm_pieces.calls a0 t116 t117 _ A3.out).mono ?_); rintro e w17 ⟨v118, rfl, ho0, hb⟩; refine ⟨_, rfl, ?_⟩; have n0_ := Aside0.mk (Kd.R_lower ho0 (below_size (by repeat (first | (with_reducible first | exact HB.out | apply below_alloc | apply pw_below_drewN | apply below_drew1) | exact HB.out)))); have n1_ := Aside0.mk (below_step (by repeat (first | (with_reducible first | exact HB.out | apply below_alloc | apply pw_below_drewN | apply below_drew1) | exact HB.out)) hb); clear HB; have HO119 := n0_; have HB := n1_; clear n0_ n1_; (try clear hb); (try clear hb2); (try clear hk); (try clear hi); (try clear ho0)) | ((with_reducible refine gate_callee (f := 15) rfl ?_); refine goesL_ (some 26) rfl rfl Try.func15 (by kernel_rfl) rfl #[.int .u64 (IntKind.u64.wrap (a1)), .int .i64 t117] rfl (by (try simp only [List.map_toArray, List.map_cons, List.map_nil]); first | done | rfl | (simp only [List.length_drop, List.length_take]; rfl)) ?_; (with_reducible refine (imm_Sign.calls (IntKind.u64.wrap (a1)) t117 t122 _ A16.out).mono ?_); rintro e w18 ⟨rfl, hb⟩; refine ⟨_, rfl, ?_⟩; have n0_ := Aside0.mk (Kd.R_below (by (with_reducible repeat (first | apply Kd.R_alloc | apply Kd.R_drewN | apply Kd.R_drew)); exact HO119.out) hb); have n1_ := Aside0.mk (below_step (by repeat (first | (with_reducible first | exact HB.out | apply below_alloc | apply pw_below_drewN | apply below_drew1) | exact HB.out)) hb); clear HO119; clear HB; have HO119 := n0_; have HB := n1_; clear n0_ n1_; (try clear hb); (try clear hb2); (try clear hk); (try clear hi)))
      go_ret
      exact ⟨by first | rfl | (simp [errW_none, errW_some] <;> rfl) | (simp [*, errW_none, errW_some] <;> rfl), by repeat (first | (with_reducible first | exact HB.out | apply below_alloc | apply pw_below_drewN | apply below_drew1) | exact HB.out)⟩

/-! ### imm_Put: function 9 -/
def imm_Put.l0 : Nat → Int → Int → List (S44) → Int → Int → Option (Int × Bool)
  | 0, _, _, _, _, _ => none
  | k + 1, x1, x2, x22, x23, x24 => if x24 < x23 then (if 0 ≤ x24 then (if x24 < (x22.length : Int) then (if 0 ≤ (IntKind.u64.wrap ((rd_T44 x22 x24).f2)) then (if 0 ≤ (IntKind.u64.wrap ((rd_T44 x22 x24).f1)) then (if 0 ≤ (IntKind.u64.wrap ((rd_T44 x22 x24).f0)) then (imm_Put.l0 k (Go.bits .or .u32 (Go.bits .andNot .u32 x1 (shl .u32 (((shl .u32 1 (IntKind.u64.wrap ((rd_T44 x22 x24).f2))) - 1) % 4294967296) (IntKind.u64.wrap ((rd_T44 x22 x24).f1)))) (shl .u32 (Go.bits .and .u32 ((shr .u64 (IntKind.u64.wrap (x2)) (IntKind.u64.wrap ((rd_T44 x22 x24).f0))) % 4294967296) (((shl .u32 1 (IntKind.u64.wrap ((rd_T44 x22 x24).f2))) - 1) % 4294967296)) (IntKind.u64.wrap ((rd_T44 x22 x24).f1)))) x2 x22 x23 (wrap64 (x24 + 1))) else (none)) else (none)) else (none)) else (none)) else (none)) else (some (x1, true))
def imm_Put.f (k : Nat) (a0 : Int) (a1 : Int) (a2 : Int) : Option (Int × Bool) := (imm_Fits.f a0 a2).bind fun t123 => (if t123 = true then ((imm_pieces.f a0).bind fun bt124 => (imm_Put.l0 k a1 a2 bt124.1 (bt124.1.length : Int) 0)) else (some (0, false)))
theorem imm_Put.mono_l : ∀ k, (∀ y0 y1 y2 y3 y4, LeO (imm_Put.l0 k y0 y1 y2 y3 y4) (imm_Put.l0 (k + 1) y0 y1 y2 y3 y4))
  | 0 => fun _ _ _ _ _ r h => by simp [imm_Put.l0] at h
  | k + 1 => by
    have ih0 := imm_Put.mono_l k
    · intro y0 y1 y2 y3 y4
      unfold imm_Put.l0
      repeat' first
      | (with_reducible exact ih0 _ _ _ _ _)
      | (with_reducible exact LeO.refl _)
      | (with_reducible exact LeO.none _)
      | (with_reducible refine LeO.ite ?_ ?_)
      | (with_reducible refine LeO.bind ?_ (fun _ => ?_))
      | exact ih0 _ _ _ _ _
      | exact LeO.none _
      | refine LeO.ite ?_ ?_
      | refine LeO.bind ?_ (fun _ => ?_)
theorem imm_Put.mono : ∀ a0 a1 a2 k, LeO (imm_Put.f k a0 a1 a2) (imm_Put.f (k + 1) a0 a1 a2) := by
  intro a0 a1 a2 k
  have ih0 := imm_Put.mono_l k
  unfold imm_Put.f
  repeat' first
      | (with_reducible exact ih0 _ _ _ _ _)
      | (with_reducible exact LeO.refl _)
      | (with_reducible exact LeO.none _)
      | (with_reducible refine LeO.ite ?_ ?_)
      | (with_reducible refine LeO.bind ?_ (fun _ => ?_))
      | exact ih0 _ _ _ _ _
      | exact LeO.none _
      | refine LeO.ite ?_ ?_
      | refine LeO.bind ?_ (fun _ => ?_)
set_option maxHeartbeats 8000000 in
set_option maxRecDepth 100000 in
theorem imm_Put.calls (k : Nat) (a0 : Int) (a1 : Int) (a2 : Int) (r1 : Int) (r2 : Bool) (w : World) (h : imm_Put.f k a0 a1 a2 = some (r1, r2)) :
    Calls Try.prog 9 #[.int .i64 a0, .int .u32 a1, .int .i64 a2] w fun e w' => e = .returned (.tuple #[.int .u32 r1, .bool r2]) ∧ Below w.heap.size w w' := by
  have hu44 := Try.underlying44
  have HB := Aside0.mk (Below.refl w.heap.size w)
  have H : ((imm_Fits.f a0 a2).bind fun t123 => (if t123 = true then ((imm_pieces.f a0).bind fun bt124 => (imm_Put.l0 k a1 a2 bt124.1 (bt124.1.length : Int) 0)) else (some (0, false)))) = some (r1, r2) := h
  clear h
  replace H := Option.bind_eq_some_iff.mp H
  obtain ⟨t123, A40, H⟩ := H
  replace H : (if t123 = true then ((imm_pieces.f a0).bind fun bt124 => (imm_Put.l0 k a1 a2 bt124.1 (bt124.1.length : Int) 0)) else (some (0, false))) = some (r1, r2) := H
  have A4 := Aside0.mk A40
  clear A40
  by_cases c5 : t123 = true
  · subst c5
    have H1 : ((imm_pieces.f a0).bind fun bt124 => (imm_Put.l0 k a1 a2 bt124.1 (bt124.1.length : Int) 0)) = some (r1, r2) := by rw [if_pos rfl] at H; exact H
    clear H
    have H := H1
    clear H1
    replace H := Option.bind_eq_some_iff.mp H
    obtain ⟨⟨t124, t125⟩, A60, H⟩ := H
    replace H : (imm_Put.l0 k a1 a2 t124 (t124.length : Int) 0) = some (r1, r2) := H
    have A6 := Aside0.mk A60
    clear A60
    have H' := Aside0.mk H
    clear H
    go_enter Try.func9, Try.ntmps9
    go_wp2_with (first | ((with_reducible refine gate_callee (f := 13) rfl ?_); refine goesL_ (some 15) rfl rfl Try.func13 (by kernel_rfl) rfl #[.int .i64 a0, .int .i64 a2] rfl (by (try simp only [List.map_toArray, List.map_cons, List.map_nil]); first | done | rfl | (simp only [List.length_drop, List.length_take]; rfl)) ?_; (with_reducible refine (imm_Fits.calls a0 a2 true _ A4.out).mono ?_); rintro e w7 ⟨rfl, hb⟩; refine ⟨_, rfl, ?_⟩; have n0_ := Aside0.mk (below_step (by repeat (first | (with_reducible first | exact HB.out | apply below_alloc | apply pw_below_drewN | apply below_drew1) | exact HB.out)) hb); clear HB; have HB := n0_; clear n0_; (try clear hb); (try clear hb2); (try clear hk); (try clear hi)) | ((with_reducible refine gate_callee (f := 22) rfl ?_); refine goesL_ (some 19) rfl rfl Try.func22 (by kernel_rfl) rfl #[.int .i64 a0] rfl (by (try simp only [List.map_toArray, List.map_cons, List.map_nil]); first | done | rfl | (simp only [List.length_drop, List.length_take]; rfl)) ?_; (with_reducible refine (imm_pieces.calls a0 t124 t125 _ A6.out).mono ?_); rintro e w8 ⟨v126, rfl, ho0, hb⟩; refine ⟨_, rfl, ?_⟩; have n0_ := Aside0.mk (Kd.R_lower ho0 (below_size (by repeat (first | (with_reducible first | exact HB.out | apply below_alloc | apply pw_below_drewN | apply below_drew1) | exact HB.out)))); have n1_ := Aside0.mk (below_step (by repeat (first | (with_reducible first | exact HB.out | apply below_alloc | apply pw_below_drewN | apply below_drew1) | exact HB.out)) hb); clear HB; have HO127 := n0_; have HB := n1_; clear n0_ n1_; (try clear hb); (try clear hb2); (try clear hk); (try clear hi); (try clear ho0); obtain ⟨Ao9, co9, eo9⟩ := Kd.R_slice HO127.out; subst eo9))
    go_loopg [1, 24] k (fun kq v1 v24 w' => ∃ (x1_1 : Int) (x24_1 : Int), v1 = .int .u32 x1_1 ∧ v24 = .int .i64 x24_1 ∧ Aside0 (imm_Put.l0 kq x1_1 a2 t124 (t124.length : Int) x24_1 = some (r1, r2)) ∧ Aside0 (kq ≤ k) ∧ Aside0 (Kd.R k44 44 w' w.heap.size (fun _ => True) (.slice Ao9 t124.length co9) t124) ∧ Aside0 (Below w.heap.size w w'))
    case atStart => exact ⟨(a1), (0), (by first | rfl | (simp; done) | (simp [*]; done)), (by first | rfl | (simp; done) | (simp [*]; done)), H', ⟨Nat.le_refl _⟩, ⟨by (with_reducible repeat (first | apply Kd.R_alloc | apply Kd.R_drewN | apply Kd.R_drew)); exact HO127.out⟩, ⟨by repeat (first | (with_reducible first | exact HB.out | apply below_alloc | apply pw_below_drewN | apply below_drew1) | exact HB.out)⟩⟩
    case round =>
      clear H'
      try clear c1
      try clear c2
      try clear p2
      try clear c5
      try clear c9
      obtain ⟨x1_1, x24_1, rfl, rfl, HA, HK1, HO_22, HB⟩ := hrel
      cases gk with
      | zero => exact absurd HA.out (by simp [imm_Put.l0])
      | succ k1 =>
        have H := HA.out
        clear HA
        simp only [imm_Put.l0] at H
        by_cases c10 : x24_1 < (t124.length : Int)
        · rw [if_pos c10] at H
          have c10b0 : decide (x24_1 < (t124.length : Int)) = true := decide_eq_true c10
          clear c10
          by_cases c11 : 0 ≤ x24_1
          · rw [if_pos c11] at H
            have c11b0 : decide (0 ≤ x24_1) = true := decide_eq_true c11
            clear c11
            by_cases c12 : x24_1 < (t124.length : Int)
            · rw [if_pos c12] at H
              have c12b0 : decide (x24_1 < (t124.length : Int)) = true := decide_eq_true c12
              clear c12
              obtain ⟨ji13, hji13⟩ : ∃ j_ : Int, (IntKind.u64.wrap ((rd_T44 t124 x24_1).f2)) = j_ := ⟨_, rfl⟩
              replace H : (if 0 ≤ (ji13) then (if 0 ≤ (IntKind.u64.wrap ((rd_T44 t124 x24_1).f1)) then (if 0 ≤ (IntKind.u64.wrap ((rd_T44 t124 x24_1).f0)) then (imm_Put.l0 k1 (Go.bits .or .u32 (Go.bits .andNot .u32 x1_1 (shl .u32 (((shl .u32 1 (ji13)) - 1) % 4294967296) (IntKind.u64.wrap ((rd_T44 t124 x24_1).f1)))) (shl .u32 (Go.bits .and .u32 ((shr .u64 (IntKind.u64.wrap (a2)) (IntKind.u64.wrap ((rd_T44 t124 x24_1).f0))) % 4294967296) (((shl .u32 1 (ji13)) - 1) % 4294967296)) (IntKind.u64.wrap ((rd_T44 t124 x24_1).f1)))) a2 t124 (t124.length : Int) (wrap64 (x24_1 + 1))) else (none)) else (none)) else (none)) = some (r1, r2) := by first | (rw [hji13] at H; exact H) | (simp only [hji13] at H ⊢; exact H)
              by_cases c14 : 0 ≤ (ji13)
              · rw [if_pos c14] at H
                have c14b0 := eq_true c14
                have c14b1 : decide (0 ≤ (ji13)) = true := decide_eq_true c14
                clear c14
                obtain ⟨ji15, hji15⟩ : ∃ j_ : Int, (shl .u32 1 (ji13)) = j_ := ⟨_, rfl⟩
                replace H : (if 0 ≤ (IntKind.u64.wrap ((rd_T44 t124 x24_1).f1)) then (if 0 ≤ (IntKind.u64.wrap ((rd_T44 t124 x24_1).f0)) then (imm_Put.l0 k1 (Go.bits .or .u32 (Go.bits .andNot .u32 x1_1 (shl .u32 (((ji15) - 1) % 4294967296) (IntKind.u64.wrap ((rd_T44 t124 x24_1).f1)))) (shl .u32 (Go.bits .and .u32 ((shr .u64 (IntKind.u64.wrap (a2)) (IntKind.u64.wrap ((rd_T44 t124 x24_1).f0))) % 4294967296) (((ji15) - 1) % 4294967296)) (IntKind.u64.wrap ((rd_T44 t124 x24_1).f1)))) a2 t124 (t124.length : Int) (wrap64 (x24_1 + 1))) else (none)) else (none)) = some (r1, r2) := by first | (rw [hji15] at H; exact H) | (simp only [hji15] at H ⊢; exact H)
                have hji15_ : (IntKind.u32.wrap (1 * 2 ^ min (ji13).toNat 32)) = ji15 := hji15
                have hji15z : (ji13) ≤ 32 → (IntKind.u32.wrap (1 * 2 ^ (ji13).toNat)) = ji15 := shl_small hji15
                have hji15u : (IntKind.u32.wrap (2 ^ min (ji13).toNat 32)) = ji15 := by have h_ := hji15_; rw [Int.one_mul] at h_; exact h_
                have hji15v : (ji13) ≤ 32 → (IntKind.u32.wrap (2 ^ (ji13).toNat)) = ji15 := fun hle_ => by have h_ := hji15z hle_; rw [Int.one_mul] at h_; exact h_
                obtain ⟨ji16, hji16⟩ : ∃ j_ : Int, (IntKind.u64.wrap ((rd_T44 t124 x24_1).f1)) = j_ := ⟨_, rfl⟩
                replace H : (if 0 ≤ (ji16) then (if 0 ≤ (IntKind.u64.wrap ((rd_T44 t124 x24_1).f0)) then (imm_Put.l0 k1 (Go.bits .or .u32 (Go.bits .andNot .u32 x1_1 (shl .u32 (((ji15) - 1) % 4294967296) (ji16))) (shl .u32 (Go.bits .and .u32 ((shr .u64 (IntKind.u64.wrap (a2)) (IntKind.u64.wrap ((rd_T44 t124 x24_1).f0))) % 4294967296) (((ji15) - 1) % 4294967296)) (ji16))) a2 t124 (t124.length : Int) (wrap64 (x24_1 + 1))) else (none)) else (none)) = some (r1, r2) := by first | (rw [hji16] at H; exact H) | (simp only [hji16] at H ⊢; exact H)
                by_cases c17 : 0 ≤ (ji16)
                · rw [if_pos c17] at H
                  have c17b0 := eq_true c17
                  have c17b1 : decide (0 ≤ (ji16)) = true := decide_eq_true c17
                  clear c17
                  obtain ⟨ji18, hji18⟩ : ∃ j_ : Int, (shl .u32 (((ji15) - 1) % 4294967296) (ji16)) = j_ := ⟨_, rfl⟩
                  replace H : (if 0 ≤ (IntKind.u64.wrap ((rd_T44 t124 x24_1).f0)) then (imm_Put.l0 k1 (Go.bits .or .u32 (Go.bits .andNot .u32 x1_1 (ji18)) (shl .u32 (Go.bits .and .u32 ((shr .u64 (IntKind.u64.wrap (a2)) (IntKind.u64.wrap ((rd_T44 t124 x24_1).f0))) % 4294967296) (((ji15) - 1) % 4294967296)) (ji16))) a2 t124 (t124.length : Int) (wrap64 (x24_1 + 1))) else (none)) = some (r1, r2) := by first | (rw [hji18] at H; exact H) | (simp only [hji18] at H ⊢; exact H)
                  have hji18_ : (IntKind.u32.wrap ((((ji15) - 1) % 4294967296) * 2 ^ min (ji16).toNat 32)) = ji18 := hji18
                  have hji18z : (ji16) ≤ 32 → (IntKind.u32.wrap ((((ji15) - 1) % 4294967296) * 2 ^ (ji16).toNat)) = ji18 := shl_small hji18
                  obtain ⟨ji19, hji19⟩ : ∃ j_ : Int, (IntKind.u64.wrap ((rd_T44 t124 x24_1).f0)) = j_ := ⟨_, rfl⟩
                  replace H : (if 0 ≤ (ji19) then (imm_Put.l0 k1 (Go.bits .or .u32 (Go.bits .andNot .u32 x1_1 (ji18)) (shl .u32 (Go.bits .and .u32 ((shr .u64 (IntKind.u64.wrap (a2)) (ji19)) % 4294967296) (((ji15) - 1) % 4294967296)) (ji16))) a2 t124 (t124.length : Int) (wrap64 (x24_1 + 1))) else (none)) = some (r1, r2) := by first | (rw [hji19] at H; exact H) | (simp only [hji19] at H ⊢; exact H)
                  by_cases c20 : 0 ≤ (ji19)
                  · rw [if_pos c20] at H
                    have c20b0 := eq_true c20
                    have c20b1 : decide (0 ≤ (ji19)) = true := decide_eq_true c20
                    clear c20
                    obtain ⟨ji21, hji21⟩ : ∃ j_ : Int, (shr .u64 (IntKind.u64.wrap (a2)) (ji19)) = j_ := ⟨_, rfl⟩
                    replace H : (imm_Put.l0 k1 (Go.bits .or .u32 (Go.bits .andNot .u32 x1_1 (ji18)) (shl .u32 (Go.bits .and .u32 ((ji21) % 4294967296) (((ji15) - 1) % 4294967296)) (ji16))) a2 t124 (t124.length : Int) (wrap64 (x24_1 + 1))) = some (r1, r2) := by first | (rw [hji21] at H; exact H) | (simp only [hji21] at H ⊢; exact H)
                    have hji21_ : ((IntKind.u64.wrap (a2)) / 2 ^ min (ji19).toNat 64) = ji21 := hji21
                    have hji21z : (ji19) ≤ 64 → ((IntKind.u64.wrap (a2)) / 2 ^ (ji19).toNat) = ji21 := shr_small hji21
                    have c22b0 := eq_true (of_decide_eq_true (by first | (with_reducible assumption) | assumption) : 0 ≤ (ji16))
                    obtain ⟨ji23, hji23⟩ : ∃ j_ : Int, (shl .u32 (Go.bits .and .u32 ((ji21) % 4294967296) (((ji15) - 1) % 4294967296)) (ji16)) = j_ := ⟨_, rfl⟩
                    replace H : (imm_Put.l0 k1 (Go.bits .or .u32 (Go.bits .andNot .u32 x1_1 (ji18)) (ji23)) a2 t124 (t124.length : Int) (wrap64 (x24_1 + 1))) = some (r1, r2) := by first | (rw [hji23] at H; exact H) | (simp only [hji23] at H ⊢; exact H)
                    have hji23_ : (IntKind.u32.wrap ((Go.bits .and .u32 ((ji21) % 4294967296) (((ji15) - 1) % 4294967296)) * 2 ^ min (ji16).toNat 32)) = ji23 := hji23
                    have hji23z : (ji16) ≤ 32 → (IntKind.u32.wrap ((Go.bits .and .u32 ((ji21) % 4294967296) (((ji15) - 1) % 4294967296)) * 2 ^ (ji16).toNat)) = ji23 := shl_small hji23
                    have H' := Aside0.mk H
                    clear H
                    have p128 : 0 ≤ (x24_1 : Int) := of_decide_eq_true (by first | (with_reducible assumption) | assumption)
                    have q128 : x24_1 < (t124.length : Int) := of_decide_eq_true (by first | (with_reducible assumption) | assumption)
                    obtain ⟨ad128, e128, hx128_0, hx128_1, hx128_2⟩ := at_T44 (Kd.R_reads' HO_22.out).2.2 x24_1 p128 q128
                    cases e128
                    replace p128 := eq_true p128
                    replace q128 := eq_true q128
                    go_wp2_with (first | ((with_reducible refine gate_dst (N := 11) rfl ?_); refine box_event ?hg (N := 11) ?hd (cs := #[.int .i64 0, .int .i64 0, .int .i64 0]) (t := 44) ?hr ?_; (case hd => rfl); (case hg => rfl); (case hr => first | (go_simp; done) | (go_simp; rfl)); intro gb129 hg w24 hbox hb; have n0_ := Aside0.mk (Kd.R_below (Kd.R_elderB (by (with_reducible repeat (first | apply Kd.R_alloc | apply Kd.R_drewN | apply Kd.R_drew)); exact HO_22.out) gb129 (Nat.le_of_eq hg.symm)) hb); have n1_ := Aside0.mk (below_step (by repeat (first | (with_reducible first | exact HB.out | apply below_alloc | apply pw_below_drewN | apply below_drew1) | exact HB.out)) hb); have n2_ := Aside0.mk (hbox); have n3_ := Aside0.mk ((by rw [hg]; exact (below_size (by repeat (first | (with_reducible first | exact HB.out | apply below_alloc | apply pw_below_drewN | apply below_drew1) | exact HB.out))) : w.heap.size ≤ gb129)); have n4_ := Aside0.mk ((by rw [hg]; exact (below_size (by repeat (first | (with_reducible first | exact HB.out | apply below_alloc | apply pw_below_drewN | apply below_drew1) | exact HB.out))) : w.heap.size ≤ gb129)); clear HO_22; clear HB; have HO_22 := n0_; have HB := n1_; have BK129 := n2_; have GW129 := n3_; have GE129 := n4_; clear n0_ n1_ n2_ n3_ n4_; clear hb hbox hg; have hcz25_0 : w24.cell? ⟨gb129, 0, none⟩ = some (.int .i64 0) := (blk_cell BK129.out 0).trans rfl; have hcz25_1 : w24.cell? ⟨gb129, 1, none⟩ = some (.int .i64 0) := (blk_cell BK129.out 1).trans rfl; have hcz25_2 : w24.cell? ⟨gb129, 2, none⟩ = some (.int .i64 0) := (blk_cell BK129.out 2).trans rfl; have hfz25_0 := blk_frozen BK129.out 0; have hfz25_1 := blk_frozen BK129.out 1; have hfz25_2 := blk_frozen BK129.out 2))
                    go_roundg k1
                    case measure => have := HK1.out; omega
                    case rel => exact ⟨(Go.bits .or .u32 (Go.bits .andNot .u32 x1_1 (ji18)) (ji23)), (wrap64 (x24_1 + 1)), (by first | rfl | (simp; done) | (simp only [← hji18, ← hji23] <;> (first | rfl | simp)) | (simp [*]; done)), (by first | rfl | (simp; done) | (simp [*]; done)), H', ⟨by have := HK1.out; omega⟩, ⟨by (with_reducible repeat (first | apply Kd.R_alloc | apply Kd.R_drewN | apply Kd.R_drew)); exact Kd.R_mono (Kd.R_far (p := ⟨gb129, 2, none⟩) (Kd.R_far (p := ⟨gb129, 1, none⟩) (Kd.R_far (p := ⟨gb129, 0, none⟩) (Kd.R_mono HO_22.out (fun k_ hk => (⟨hk, hk.2⟩ : _ ∧ k_ ≠ gb129))) (fun _ hk => hk.2) (.int .i64 ((rd_T44 t124 x24_1).f0))) (fun _ hk => hk.2) (.int .i64 ((rd_T44 t124 x24_1).f1))) (fun _ hk => hk.2) (.int .i64 ((rd_T44 t124 x24_1).f2))) (fun _ hk => trivial)⟩, ⟨by repeat (first | (with_reducible first | exact HB.out | apply below_alloc | apply pw_below_drewN | apply below_drew1 | refine below_set ?_ GE129.out) | exact HB.out)⟩⟩
                  · rw [if_neg c20] at H
                    exact absurd H (by simp)
                · rw [if_neg c17] at H
                  exact absurd H (by simp)
              · rw [if_neg c14] at H
                exact absurd H (by simp)
            · rw [if_neg c12] at H
              exact absurd H (by simp)
          · rw [if_neg c11] at H
            exact absurd H (by simp)
        · rw [if_neg c10] at H
          have c10b0 : decide (x24_1 < (t124.length : Int)) = false := decide_eq_false c10
          clear c10
          simp only [Option.some.injEq, Prod.mk.injEq] at H
          obtain ⟨rfl, rfl⟩ := H
          go_wp2
          go_ret2
          exact ⟨by first | rfl | (simp [errW_none, errW_some] <;> rfl) | (simp [*, errW_none, errW_some] <;> rfl), by repeat (first | (with_reducible first | exact HB.out | apply below_alloc | apply pw_below_drewN | apply below_drew1) | exact HB.out)⟩
  · replace c5 := Bool.eq_false_iff.mpr c5
    subst c5
    have H1 : (some (0, false)) = some (r1, r2) := by rw [if_neg (show ¬ (false = true) by decide)] at H; exact H
    clear H
    have H := H1
    clear H1
    simp only [Option.some.injEq, Prod.mk.injEq] at H
    obtain ⟨rfl, rfl⟩ := H
    go_enter Try.func9, Try.ntmps9
    go_wp2_with (first | ((with_reducible refine gate_callee (f := 13) rfl ?_); refine goesL_ (some 15) rfl rfl Try.func13 (by kernel_rfl) rfl #[.int .i64 a0, .int .i64 a2] rfl (by (try simp only [List.map_toArray, List.map_cons, List.map_nil]); first | done | rfl | (simp only [List.length_drop, List.length_take]; rfl)) ?_; (with_reducible refine (imm_Fits.calls a0 a2 false _ A4.out).mono ?_); rintro e w26 ⟨rfl, hb⟩; refine ⟨_, rfl, ?_⟩; have n0_ := Aside0.mk (below_step (by repeat (first | (with_reducible first | exact HB.out | apply below_alloc | apply pw_below_drewN | apply below_drew1) | exact HB.out)) hb); clear HB; have HB := n0_; clear n0_; (try clear hb); (try clear hb2); (try clear hk); (try clear hi)))
    go_ret2
    exact ⟨by first | rfl | (simp [errW_none, errW_some] <;> rfl) | (simp [*, errW_none, errW_some] <;> rfl), by repeat (first | (with_reducible first | exact HB.out | apply below_alloc | apply pw_below_drewN | apply below_drew1) | exact HB.out)⟩

/-! ### imm_Get: function 11 -/
def imm_Get.l0 : Nat → Int → Int → Int → List (S44) → Int → Int → Option (Int)
  | 0, _, _, _, _, _, _ => none
  | k + 1, x1, x6, x7, x15, x16, x17 => if x17 < x16 then (if 0 ≤ x17 then (if x17 < (x15.length : Int) then (if 0 ≤ (IntKind.u64.wrap ((rd_T44 x15 x17).f1)) then (if 0 ≤ (IntKind.u64.wrap ((rd_T44 x15 x17).f2)) then (if 0 ≤ (IntKind.u64.wrap ((rd_T44 x15 x17).f0)) then (imm_Get.l0 k x1 x6 (Go.bits .or .u64 x7 (shl .u64 (Go.bits .and .u64 (shr .u64 (IntKind.u64.wrap (x1)) (IntKind.u64.wrap ((rd_T44 x15 x17).f1))) (IntKind.u64.wrap ((shl .u64 1 (IntKind.u64.wrap ((rd_T44 x15 x17).f2))) - 1))) (IntKind.u64.wrap ((rd_T44 x15 x17).f0)))) x15 x16 (wrap64 (x17 + 1))) else (none)) else (none)) else (none)) else (none)) else (none)) else ((imm_Sign.f x7 x6).bind fun t136 => (some t136))
def imm_Get.f (k : Nat) (a0 : Int) (a1 : Int) : Option (Int) := (imm_pieces.f a0).bind fun bt130 => (imm_Get.l0 k a1 bt130.2 0 bt130.1 (bt130.1.length : Int) 0)
theorem imm_Get.mono_l : ∀ k, (∀ y0 y1 y2 y3 y4 y5, LeO (imm_Get.l0 k y0 y1 y2 y3 y4 y5) (imm_Get.l0 (k + 1) y0 y1 y2 y3 y4 y5))
  | 0 => fun _ _ _ _ _ _ r h => by simp [imm_Get.l0] at h
  | k + 1 => by
    have ih0 := imm_Get.mono_l k
    · intro y0 y1 y2 y3 y4 y5
      unfold imm_Get.l0
      repeat' first
      | (with_reducible exact ih0 _ _ _ _ _ _)
      | (with_reducible exact LeO.refl _)
      | (with_reducible exact LeO.none _)
      | (with_reducible refine LeO.ite ?_ ?_)
      | (with_reducible refine LeO.bind ?_ (fun _ => ?_))
      | exact ih0 _ _ _ _ _ _
      | exact LeO.none _
      | refine LeO.ite ?_ ?_
      | refine LeO.bind ?_ (fun _ => ?_)
theorem imm_Get.mono : ∀ a0 a1 k, LeO (imm_Get.f k a0 a1) (imm_Get.f (k + 1) a0 a1) := by
  intro a0 a1 k
  have ih0 := imm_Get.mono_l k
  unfold imm_Get.f
  repeat' first
      | (with_reducible exact ih0 _ _ _ _ _ _)
      | (with_reducible exact LeO.refl _)
      | (with_reducible exact LeO.none _)
      | (with_reducible refine LeO.ite ?_ ?_)
      | (with_reducible refine LeO.bind ?_ (fun _ => ?_))
      | exact ih0 _ _ _ _ _ _
      | exact LeO.none _
      | refine LeO.ite ?_ ?_
      | refine LeO.bind ?_ (fun _ => ?_)
set_option maxHeartbeats 8000000 in
set_option maxRecDepth 100000 in
theorem imm_Get.calls (k : Nat) (a0 : Int) (a1 : Int) (r : Int) (w : World) (h : imm_Get.f k a0 a1 = some r) :
    Calls Try.prog 11 #[.int .i64 a0, .int .u32 a1] w fun e w' => e = .returned (.int .i64 r) ∧ Below w.heap.size w w' := by
  have hu44 := Try.underlying44
  have HB := Aside0.mk (Below.refl w.heap.size w)
  have H : ((imm_pieces.f a0).bind fun bt130 => (imm_Get.l0 k a1 bt130.2 0 bt130.1 (bt130.1.length : Int) 0)) = some r := h
  clear h
  replace H := Option.bind_eq_some_iff.mp H
  obtain ⟨⟨t130, t131⟩, A30, H⟩ := H
  replace H : (imm_Get.l0 k a1 t131 0 t130 (t130.length : Int) 0) = some r := H
  have A3 := Aside0.mk A30
  clear A30
  have H' := Aside0.mk H
  clear H
  go_enter Try.func11, Try.ntmps11
  go_wp2_with (first | ((with_reducible refine gate_callee (f := 22) rfl ?_); refine goesL_ (some 12) rfl rfl Try.func22 (by kernel_rfl) rfl #[.int .i64 a0] rfl (by (try simp only [List.map_toArray, List.map_cons, List.map_nil]); first | done | rfl | (simp only [List.length_drop, List.length_take]; rfl)) ?_; (with_reducible refine (imm_pieces.calls a0 t130 t131 _ A3.out).mono ?_); rintro e w4 ⟨v132, rfl, ho0, hb⟩; refine ⟨_, rfl, ?_⟩; have n0_ := Aside0.mk (Kd.R_lower ho0 (below_size (by repeat (first | (with_reducible first | exact HB.out | apply below_alloc | apply pw_below_drewN | apply below_drew1) | exact HB.out)))); have n1_ := Aside0.mk (below_step (by repeat (first | (with_reducible first | exact HB.out | apply below_alloc | apply pw_below_drewN | apply below_drew1) | exact HB.out)) hb); clear HB; have HO133 := n0_; have HB := n1_; clear n0_ n1_; (try clear hb); (try clear hb2); (try clear hk); (try clear hi); (try clear ho0); obtain ⟨Ao5, co5, eo5⟩ := Kd.R_slice HO133.out; subst eo5))
  go_loopg [7, 17] k (fun kq v7 v17 w' => ∃ (x7_1 : Int) (x17_1 : Int), v7 = .int .u64 x7_1 ∧ v17 = .int .i64 x17_1 ∧ Aside0 (imm_Get.l0 kq a1 t131 x7_1 t130 (t130.length : Int) x17_1 = some r) ∧ Aside0 (kq ≤ k) ∧ Aside0 (Kd.R k44 44 w' w.heap.size (fun _ => True) (.slice Ao5 t130.length co5) t130) ∧ Aside0 (Below w.heap.size w w'))
  case atStart => exact ⟨(0), (0), (by first | rfl | (simp; done) | (simp [*]; done)), (by first | rfl | (simp; done) | (simp [*]; done)), H', ⟨Nat.le_refl _⟩, ⟨by (with_reducible repeat (first | apply Kd.R_alloc | apply Kd.R_drewN | apply Kd.R_drew)); exact HO133.out⟩, ⟨by repeat (first | (with_reducible first | exact HB.out | apply below_alloc | apply pw_below_drewN | apply below_drew1) | exact HB.out)⟩⟩
  case round =>
    clear H'
    try clear c1
    try clear c2
    try clear p2
    obtain ⟨x7_1, x17_1, rfl, rfl, HA, HK1, HO_15, HB⟩ := hrel
    cases gk with
    | zero => exact absurd HA.out (by simp [imm_Get.l0])
    | succ k1 =>
      have H := HA.out
      clear HA
      simp only [imm_Get.l0] at H
      by_cases c6 : x17_1 < (t130.length : Int)
      · rw [if_pos c6] at H
        have c6b0 : decide (x17_1 < (t130.length : Int)) = true := decide_eq_true c6
        clear c6
        by_cases c7 : 0 ≤ x17_1
        · rw [if_pos c7] at H
          have c7b0 : decide (0 ≤ x17_1) = true := decide_eq_true c7
          clear c7
          by_cases c8 : x17_1 < (t130.length : Int)
          · rw [if_pos c8] at H
            have c8b0 : decide (x17_1 < (t130.length : Int)) = true := decide_eq_true c8
            clear c8
            obtain ⟨ji9, hji9⟩ : ∃ j_ : Int, (IntKind.u64.wrap ((rd_T44 t130 x17_1).f1)) = j_ := ⟨_, rfl⟩
            replace H : (if 0 ≤ (ji9) then (if 0 ≤ (IntKind.u64.wrap ((rd_T44 t130 x17_1).f2)) then (if 0 ≤ (IntKind.u64.wrap ((rd_T44 t130 x17_1).f0)) then (imm_Get.l0 k1 a1 t131 (Go.bits .or .u64 x7_1 (shl .u64 (Go.bits .and .u64 (shr .u64 (IntKind.u64.wrap (a1)) (ji9)) (IntKind.u64.wrap ((shl .u64 1 (IntKind.u64.wrap ((rd_T44 t130 x17_1).f2))) - 1))) (IntKind.u64.wrap ((rd_T44 t130 x17_1).f0)))) t130 (t130.length : Int) (wrap64 (x17_1 + 1))) else (none)) else (none)) else (none)) = some r := by first | (rw [hji9] at H; exact H) | (simp only [hji9] at H ⊢; exact H)
            by_cases c10 : 0 ≤ (ji9)
            · rw [if_pos c10] at H
              have c10b0 := eq_true c10
              have c10b1 : decide (0 ≤ (ji9)) = true := decide_eq_true c10
              clear c10
              obtain ⟨ji11, hji11⟩ : ∃ j_ : Int, (shr .u64 (IntKind.u64.wrap (a1)) (ji9)) = j_ := ⟨_, rfl⟩
              replace H : (if 0 ≤ (IntKind.u64.wrap ((rd_T44 t130 x17_1).f2)) then (if 0 ≤ (IntKind.u64.wrap ((rd_T44 t130 x17_1).f0)) then (imm_Get.l0 k1 a1 t131 (Go.bits .or .u64 x7_1 (shl .u64 (Go.bits .and .u64 (ji11) (IntKind.u64.wrap ((shl .u64 1 (IntKind.u64.wrap ((rd_T44 t130 x17_1).f2))) - 1))) (IntKind.u64.wrap ((rd_T44 t130 x17_1).f0)))) t130 (t130.length : Int) (wrap64 (x17_1 + 1))) else (none)) else (none)) = some r := by first | (rw [hji11] at H; exact H) | (simp only [hji11] at H ⊢; exact H)
              have hji11_ : ((IntKind.u64.wrap (a1)) / 2 ^ min (ji9).toNat 64) = ji11 := hji11
              have hji11z : (ji9) ≤ 64 → ((IntKind.u64.wrap (a1)) / 2 ^ (ji9).toNat) = ji11 := shr_small hji11
              obtain ⟨ji12, hji12⟩ : ∃ j_ : Int, (IntKind.u64.wrap ((rd_T44 t130 x17_1).f2)) = j_ := ⟨_, rfl⟩
              replace H : (if 0 ≤ (ji12) then (if 0 ≤ (IntKind.u64.wrap ((rd_T44 t130 x17_1).f0)) then (imm_Get.l0 k1 a1 t131 (Go.bits .or .u64 x7_1 (shl .u64 (Go.bits .and .u64 (ji11) (IntKind.u64.wrap ((shl .u64 1 (ji12)) - 1))) (IntKind.u64.wrap ((rd_T44 t130 x17_1).f0)))) t130 (t130.length : Int) (wrap64 (x17_1 + 1))) else (none)) else (none)) = some r := by first | (rw [hji12] at H; exact H) | (simp only [hji12] at H ⊢; exact H)
              by_cases c13 : 0 ≤ (ji12)
              · rw [if_pos c13] at H
                have c13b0 := eq_true c13
                have c13b1 : decide (0 ≤ (ji12)) = true := decide_eq_true c13
                clear c13
                obtain ⟨ji14, hji14⟩ : ∃ j_ : Int, (shl .u64 1 (ji12)) = j_ := ⟨_, rfl⟩
                replace H : (if 0 ≤ (IntKind.u64.wrap ((rd_T44 t130 x17_1).f0)) then (imm_Get.l0 k1 a1 t131 (Go.bits .or .u64 x7_1 (shl .u64 (Go.bits .and .u64 (ji11) (IntKind.u64.wrap ((ji14) - 1))) (IntKind.u64.wrap ((rd_T44 t130 x17_1).f0)))) t130 (t130.length : Int) (wrap64 (x17_1 + 1))) else (none)) = some r := by first | (rw [hji14] at H; exact H) | (simp only [hji14] at H ⊢; exact H)
                have hji14_ : (IntKind.u64.wrap (1 * 2 ^ min (ji12).toNat 64)) = ji14 := hji14
                have hji14z : (ji12) ≤ 64 → (IntKind.u64.wrap (1 * 2 ^ (ji12).toNat)) = ji14 := shl_small hji14
                have hji14u : (IntKind.u64.wrap (2 ^ min (ji12).toNat 64)) = ji14 := by have h_ := hji14_; rw [Int.one_mul] at h_; exact h_
                have hji14v : (ji12) ≤ 64 → (IntKind.u64.wrap (2 ^ (ji12).toNat)) = ji14 := fun hle_ => by have h_ := hji14z hle_; rw [Int.one_mul] at h_; exact h_
                obtain ⟨ji15, hji15⟩ : ∃ j_ : Int, (IntKind.u64.wrap ((rd_T44 t130 x17_1).f0)) = j_ := ⟨_, rfl⟩
                replace H : (if 0 ≤ (ji15) then (imm_Get.l0 k1 a1 t131 (Go.bits .or .u64 x7_1 (shl .u64 (Go.bits .and .u64 (ji11) (IntKind.u64.wrap ((ji14) - 1))) (ji15))) t130 (t130.length : Int) (wrap64 (x17_1 + 1))) else (none)) = some r := by first | (rw [hji15] at H; exact H) | (simp only [hji15] at H ⊢; exact H)
                by_cases c16 : 0 ≤ (ji15)
                · rw [if_pos c16] at H
                  have c16b0 := eq_true c16
                  have c16b1 : decide (0 ≤ (ji15)) = true := decide_eq_true c16
                  clear c16
                  obtain ⟨ji17, hji17⟩ : ∃ j_ : Int, (shl .u64 (Go.bits .and .u64 (ji11) (IntKind.u64.wrap ((ji14) - 1))) (ji15)) = j_ := ⟨_, rfl⟩
                  replace H : (imm_Get.l0 k1 a1 t131 (Go.bits .or .u64 x7_1 (ji17)) t130 (t130.length : Int) (wrap64 (x17_1 + 1))) = some r := by first | (rw [hji17] at H; exact H) | (simp only [hji17] at H ⊢; exact H)
                  have hji17_ : (IntKind.u64.wrap ((Go.bits .and .u64 (ji11) (IntKind.u64.wrap ((ji14) - 1))) * 2 ^ min (ji15).toNat 64)) = ji17 := hji17
                  have hji17z : (ji15) ≤ 64 → (IntKind.u64.wrap ((Go.bits .and .u64 (ji11) (IntKind.u64.wrap ((ji14) - 1))) * 2 ^ (ji15).toNat)) = ji17 := shl_small hji17
                  have H' := Aside0.mk H
                  clear H
                  have p134 : 0 ≤ (x17_1 : Int) := of_decide_eq_true (by first | (with_reducible assumption) | assumption)
                  have q134 : x17_1 < (t130.length : Int) := of_decide_eq_true (by first | (with_reducible assumption) | assumption)
                  obtain ⟨ad134, e134, hx134_0, hx134_1, hx134_2⟩ := at_T44 (Kd.R_reads' HO_15.out).2.2 x17_1 p134 q134
                  cases e134
                  replace p134 := eq_true p134
                  replace q134 := eq_true q134
                  go_wp2_with (first | ((with_reducible refine gate_dst (N := 9) rfl ?_); refine box_event ?hg (N := 9) ?hd (cs := #[.int .i64 0, .int .i64 0, .int .i64 0]) (t := 44) ?hr ?_; (case hd => rfl); (case hg => rfl); (case hr => first | (go_simp; done) | (go_simp; rfl)); intro gb135 hg w18 hbox hb; have n0_ := Aside0.mk (Kd.R_below (Kd.R_elderB (by (with_reducible repeat (first | apply Kd.R_alloc | apply Kd.R_drewN | apply Kd.R_drew)); exact HO_15.out) gb135 (Nat.le_of_eq hg.symm)) hb); have n1_ := Aside0.mk (below_step (by repeat (first | (with_reducible first | exact HB.out | apply below_alloc | apply pw_below_drewN | apply below_drew1) | exact HB.out)) hb); have n2_ := Aside0.mk (hbox); have n3_ := Aside0.mk ((by rw [hg]; exact (below_size (by repeat (first | (with_reducible first | exact HB.out | apply below_alloc | apply pw_below_drewN | apply below_drew1) | exact HB.out))) : w.heap.size ≤ gb135)); have n4_ := Aside0.mk ((by rw [hg]; exact (below_size (by repeat (first | (with_reducible first | exact HB.out | apply below_alloc | apply pw_below_drewN | apply below_drew1) | exact HB.out))) : w.heap.size ≤ gb135)); clear HO_15; clear HB; have HO_15 := n0_; have HB := n1_; have BK135 := n2_; have GW135 := n3_; have GE135 := n4_; clear n0_ n1_ n2_ n3_ n4_; clear hb hbox hg; have hcz19_0 : w18.cell? ⟨gb135, 0, none⟩ = some (.int .i64 0) := (blk_cell BK135.out 0).trans rfl; have hcz19_1 : w18.cell? ⟨gb135, 1, none⟩ = some (.int .i64 0) := (blk_cell BK135.out 1).trans rfl; have hcz19_2 : w18.cell? ⟨gb135, 2, none⟩ = some (.int .i64 0) := (blk_cell BK135.out 2).trans rfl; have hfz19_0 := blk_frozen BK135.out 0; have hfz19_1 := blk_frozen BK135.out 1; have hfz19_2 := blk_frozen BK135.out 2))
                  go_roundg k1
                  case measure => have := HK1.out; omega
                  case rel => exact ⟨(Go.bits .or .u64 x7_1 (ji17)), (wrap64 (x17_1 + 1)), (by first | rfl | (simp; done) | (simp only [← hji17] <;> (first | rfl | simp)) | (simp [*]; done)), (by first | rfl | (simp; done) | (simp [*]; done)), H', ⟨by have := HK1.out; omega⟩, ⟨by (with_reducible repeat (first | apply Kd.R_alloc | apply Kd.R_drewN | apply Kd.R_drew)); exact Kd.R_mono (Kd.R_far (p := ⟨gb135, 2, none⟩) (Kd.R_far (p := ⟨gb135, 1, none⟩) (Kd.R_far (p := ⟨gb135, 0, none⟩) (Kd.R_mono HO_15.out (fun k_ hk => (⟨hk, hk.2⟩ : _ ∧ k_ ≠ gb135))) (fun _ hk => hk.2) (.int .i64 ((rd_T44 t130 x17_1).f0))) (fun _ hk => hk.2) (.int .i64 ((rd_T44 t130 x17_1).f1))) (fun _ hk => hk.2) (.int .i64 ((rd_T44 t130 x17_1).f2))) (fun _ hk => trivial)⟩, ⟨by repeat (first | (with_reducible first | exact HB.out | apply below_alloc | apply pw_below_drewN | apply below_drew1 | refine below_set ?_ GE135.out) | exact HB.out)⟩⟩
                · rw [if_neg c16] at H
                  exact absurd H (by simp)
              · rw [if_neg c13] at H
                exact absurd H (by simp)
            · rw [if_neg c10] at H
              exact absurd H (by simp)
          · rw [if_neg c8] at H
            exact absurd H (by simp)
        · rw [if_neg c7] at H
          exact absurd H (by simp)
      · rw [if_neg c6] at H
        have c6b0 : decide (x17_1 < (t130.length : Int)) = false := decide_eq_false c6
        clear c6
        replace H := Option.bind_eq_some_iff.mp H
        obtain ⟨t136, A200, H⟩ := H
        replace H : (some t136) = some r := H
        have A20 := Aside0.mk A200
        clear A200
        obtain rfl := Option.some.inj H
        go_wp2_with (first | ((with_reducible refine gate_callee (f := 15) rfl ?_); refine goesL_ (some 42) rfl rfl Try.func15 (by kernel_rfl) rfl #[.int .u64 x7_1, .int .i64 t131] rfl (by (try simp only [List.map_toArray, List.map_cons, List.map_nil]); first | done | rfl | (simp only [List.length_drop, List.length_take]; rfl)) ?_; (with_reducible refine (imm_Sign.calls x7_1 t131 t136 _ A20.out).mono ?_); rintro e w21 ⟨rfl, hb⟩; refine ⟨_, rfl, ?_⟩; have n0_ := Aside0.mk (Kd.R_below (by (with_reducible repeat (first | apply Kd.R_alloc | apply Kd.R_drewN | apply Kd.R_drew)); exact HO_15.out) hb); have n1_ := Aside0.mk (below_step (by repeat (first | (with_reducible first | exact HB.out | apply below_alloc | apply pw_below_drewN | apply below_drew1) | exact HB.out)) hb); clear HO_15; clear HB; have HO_15 := n0_; have HB := n1_; clear n0_ n1_; (try clear hb); (try clear hb2); (try clear hk); (try clear hi)))
        go_ret
        exact ⟨by first | rfl | (simp [errW_none, errW_some] <;> rfl) | (simp [*, errW_none, errW_some] <;> rfl), by repeat (first | (with_reducible first | exact HB.out | apply below_alloc | apply pw_below_drewN | apply below_drew1) | exact HB.out)⟩

/-! ### imm_Hi: function 17 -/
def imm_Hi.f (a0 : Int) : Option (Int) := some ((wrap64 (IntKind.u64.wrap ((IntKind.u64.wrap (a0)) + 2048))) / 4096)
set_option maxHeartbeats 8000000 in
set_option maxRecDepth 100000 in
theorem imm_Hi.calls (a0 : Int) (r : Int) (w : World) (h : imm_Hi.f a0 = some r) :
    Calls Try.prog 17 #[.int .i64 a0] w fun e w' => e = .returned (.int .i64 r) ∧ Drawn0 w w' := by
  have H : (some ((wrap64 (IntKind.u64.wrap ((IntKind.u64.wrap (a0)) + 2048))) / 4096)) = some r := h
  clear h
  obtain rfl := Option.some.inj H
  go_enter Try.func17, Try.ntmps17
  go_wp2
  go_ret
  exact ⟨by first | rfl | (simp; done) | (simp [*]; done), by repeat (first | exact Drawn0.refl _ | apply Drawn0.step)⟩

/-! ### imm_Lo: function 19 -/
def imm_Lo.f (a0 : Int) : Option (Int) := (imm_Sign.f (IntKind.u64.wrap (a0)) 12).bind fun t137 => (some t137)
set_option maxHeartbeats 8000000 in
set_option maxRecDepth 100000 in
theorem imm_Lo.calls (a0 : Int) (r : Int) (w : World) (h : imm_Lo.f a0 = some r) :
    Calls Try.prog 19 #[.int .i64 a0] w fun e w' => e = .returned (.int .i64 r) ∧ Below w.heap.size w w' := by
  have HB := Aside0.mk (Below.refl w.heap.size w)
  have H : ((imm_Sign.f (IntKind.u64.wrap (a0)) 12).bind fun t137 => (some t137)) = some r := h
  clear h
  replace H := Option.bind_eq_some_iff.mp H
  obtain ⟨t137, A20, H⟩ := H
  replace H : (some t137) = some r := H
  have A2 := Aside0.mk A20
  clear A20
  obtain rfl := Option.some.inj H
  go_enter Try.func19, Try.ntmps19
  go_wp2_with (first | ((with_reducible refine gate_callee (f := 15) rfl ?_); refine goesL_ (some 5) rfl rfl Try.func15 (by kernel_rfl) rfl #[.int .u64 (IntKind.u64.wrap (a0)), .int .i64 12] rfl (by (try simp only [List.map_toArray, List.map_cons, List.map_nil]); first | done | rfl | (simp only [List.length_drop, List.length_take]; rfl)) ?_; (with_reducible refine (imm_Sign.calls (IntKind.u64.wrap (a0)) 12 t137 _ A2.out).mono ?_); rintro e w3 ⟨rfl, hb⟩; refine ⟨_, rfl, ?_⟩; have n0_ := Aside0.mk (below_step (by repeat (first | (with_reducible first | exact HB.out | apply below_alloc | apply pw_below_drewN | apply below_drew1) | exact HB.out)) hb); clear HB; have HB := n0_; clear n0_; (try clear hb); (try clear hb2); (try clear hk); (try clear hi)))
  go_ret
  exact ⟨by first | rfl | (simp [errW_none, errW_some] <;> rfl) | (simp [*, errW_none, errW_some] <;> rfl), by repeat (first | (with_reducible first | exact HB.out | apply below_alloc | apply pw_below_drewN | apply below_drew1) | exact HB.out)⟩

/-! ### dovetaillaw3_known: function 8 -/
def dovetaillaw3_known.f (k : Nat)  : Option (Bool) := (imm_Put.f k 1 19 (-1)).bind fun bt138 => ((imm_Put.f k 3 99 3).bind fun bt140 => ((imm_Get.f k 1 4293918739).bind fun t142 => (if t142 = (-1) then (if bt138.1 = 4293918739 then (if bt138.2 = true then (if bt140.2 = true then (some false) else ((imm_Hi.f 4095).bind fun t143 => (if t143 = 1 then ((imm_Lo.f 4095).bind fun t144 => (if t144 = (-1) then ((imm_Sign.f 255 8).bind fun t145 => (some (t145 == (-1)))) else (some false))) else (some false)))) else (some false)) else (some false)) else (some false))))
theorem dovetaillaw3_known.mono : ∀ k, LeO (dovetaillaw3_known.f k ) (dovetaillaw3_known.f (k + 1) ) := by
  intro  k
  unfold dovetaillaw3_known.f
  repeat' first
      | (with_reducible exact imm_Get.mono _ _ _)
      | (with_reducible exact imm_Put.mono _ _ _ _)
      | (with_reducible exact LeO.refl _)
      | (with_reducible exact LeO.none _)
      | (with_reducible refine LeO.ite ?_ ?_)
      | (with_reducible refine LeO.bind ?_ (fun _ => ?_))
      | exact imm_Get.mono _ _ _
      | exact imm_Put.mono _ _ _ _
      | exact LeO.none _
      | refine LeO.ite ?_ ?_
      | refine LeO.bind ?_ (fun _ => ?_)
set_option maxHeartbeats 8000000 in
set_option maxRecDepth 100000 in
theorem dovetaillaw3_known.calls (k : Nat)  (r : Bool) (w : World) (h : dovetaillaw3_known.f k  = some r) :
    Calls Try.prog 8 #[] w fun e w' => e = .returned (.bool r) ∧ Below w.heap.size w w' := by
  have HB := Aside0.mk (Below.refl w.heap.size w)
  have H : ((imm_Put.f k 1 19 (-1)).bind fun bt138 => ((imm_Put.f k 3 99 3).bind fun bt140 => ((imm_Get.f k 1 4293918739).bind fun t142 => (if t142 = (-1) then (if bt138.1 = 4293918739 then (if bt138.2 = true then (if bt140.2 = true then (some false) else ((imm_Hi.f 4095).bind fun t143 => (if t143 = 1 then ((imm_Lo.f 4095).bind fun t144 => (if t144 = (-1) then ((imm_Sign.f 255 8).bind fun t145 => (some (t145 == (-1)))) else (some false))) else (some false)))) else (some false)) else (some false)) else (some false))))) = some r := h
  clear h
  replace H := Option.bind_eq_some_iff.mp H
  obtain ⟨⟨t138, t139⟩, A10, H⟩ := H
  replace H : ((imm_Put.f k 3 99 3).bind fun bt140 => ((imm_Get.f k 1 4293918739).bind fun t142 => (if t142 = (-1) then (if t138 = 4293918739 then (if t139 = true then (if bt140.2 = true then (some false) else ((imm_Hi.f 4095).bind fun t143 => (if t143 = 1 then ((imm_Lo.f 4095).bind fun t144 => (if t144 = (-1) then ((imm_Sign.f 255 8).bind fun t145 => (some (t145 == (-1)))) else (some false))) else (some false)))) else (some false)) else (some false)) else (some false)))) = some r := H
  have A1 := Aside0.mk A10
  clear A10
  replace H := Option.bind_eq_some_iff.mp H
  obtain ⟨⟨t140, t141⟩, A20, H⟩ := H
  replace H : ((imm_Get.f k 1 4293918739).bind fun t142 => (if t142 = (-1) then (if t138 = 4293918739 then (if t139 = true then (if t141 = true then (some false) else ((imm_Hi.f 4095).bind fun t143 => (if t143 = 1 then ((imm_Lo.f 4095).bind fun t144 => (if t144 = (-1) then ((imm_Sign.f 255 8).bind fun t145 => (some (t145 == (-1)))) else (some false))) else (some false)))) else (some false)) else (some false)) else (some false))) = some r := H
  have A2 := Aside0.mk A20
  clear A20
  replace H := Option.bind_eq_some_iff.mp H
  obtain ⟨t142, A30, H⟩ := H
  replace H : (if t142 = (-1) then (if t138 = 4293918739 then (if t139 = true then (if t141 = true then (some false) else ((imm_Hi.f 4095).bind fun t143 => (if t143 = 1 then ((imm_Lo.f 4095).bind fun t144 => (if t144 = (-1) then ((imm_Sign.f 255 8).bind fun t145 => (some (t145 == (-1)))) else (some false))) else (some false)))) else (some false)) else (some false)) else (some false)) = some r := H
  have A3 := Aside0.mk A30
  clear A30
  by_cases c4 : t142 = (-1)
  · rw [if_pos c4] at H
    have c4b0 : (t142 == (-1)) = true := beq_iff_eq.mpr c4
    have c4b1 : (t142 != (-1)) = false := bne_eq_false_iff_eq.mpr c4
    clear c4
    by_cases c5 : t138 = 4293918739
    · rw [if_pos c5] at H
      have c5b0 : (t138 == 4293918739) = true := beq_iff_eq.mpr c5
      have c5b1 : (t138 != 4293918739) = false := bne_eq_false_iff_eq.mpr c5
      clear c5
      by_cases c6 : t139 = true
      · subst c6
        have H1 : (if t141 = true then (some false) else ((imm_Hi.f 4095).bind fun t143 => (if t143 = 1 then ((imm_Lo.f 4095).bind fun t144 => (if t144 = (-1) then ((imm_Sign.f 255 8).bind fun t145 => (some (t145 == (-1)))) else (some false))) else (some false)))) = some r := by rw [if_pos rfl] at H; exact H
        clear H
        have H := H1
        clear H1
        by_cases c7 : t141 = true
        · subst c7
          have H1 : (some false) = some r := by rw [if_pos rfl] at H; exact H
          clear H
          have H := H1
          clear H1
          obtain rfl := Option.some.inj H
          go_enter Try.func8, Try.ntmps8
          go_wp2_with (first | ((with_reducible refine gate_callee (f := 9) rfl ?_); refine goesL_ (some 6) rfl rfl Try.func9 (by kernel_rfl) rfl #[.int .i64 1, .int .u32 19, .int .i64 (-1)] rfl (by (try simp only [List.map_toArray, List.map_cons, List.map_nil]); first | done | rfl | (simp only [List.length_drop, List.length_take]; rfl)) ?_; (with_reducible refine (imm_Put.calls k 1 19 (-1) t138 true _ A1.out).mono ?_); rintro e w8 ⟨rfl, hb⟩; refine ⟨_, rfl, ?_⟩; have n0_ := Aside0.mk (below_step (by repeat (first | (with_reducible first | exact HB.out | apply below_alloc | apply pw_below_drewN | apply below_drew1) | exact HB.out)) hb); clear HB; have HB := n0_; clear n0_; (try clear hb); (try clear hb2); (try clear hk); (try clear hi)) | ((with_reducible refine gate_callee (f := 9) rfl ?_); refine goesL_ (some 10) rfl rfl Try.func9 (by kernel_rfl) rfl #[.int .i64 3, .int .u32 99, .int .i64 3] rfl (by (try simp only [List.map_toArray, List.map_cons, List.map_nil]); first | done | rfl | (simp only [List.length_drop, List.length_take]; rfl)) ?_; (with_reducible refine (imm_Put.calls k 3 99 3 t140 true _ A2.out).mono ?_); rintro e w9 ⟨rfl, hb⟩; refine ⟨_, rfl, ?_⟩; have n0_ := Aside0.mk (below_step (by repeat (first | (with_reducible first | exact HB.out | apply below_alloc | apply pw_below_drewN | apply below_drew1) | exact HB.out)) hb); clear HB; have HB := n0_; clear n0_; (try clear hb); (try clear hb2); (try clear hk); (try clear hi)) | ((with_reducible refine gate_callee (f := 11) rfl ?_); refine goesL_ (some 13) rfl rfl Try.func11 (by kernel_rfl) rfl #[.int .i64 1, .int .u32 4293918739] rfl (by (try simp only [List.map_toArray, List.map_cons, List.map_nil]); first | done | rfl | (simp only [List.length_drop, List.length_take]; rfl)) ?_; (with_reducible refine (imm_Get.calls k 1 4293918739 t142 _ A3.out).mono ?_); rintro e w10 ⟨rfl, hb⟩; refine ⟨_, rfl, ?_⟩; have n0_ := Aside0.mk (below_step (by repeat (first | (with_reducible first | exact HB.out | apply below_alloc | apply pw_below_drewN | apply below_drew1) | exact HB.out)) hb); clear HB; have HB := n0_; clear n0_; (try clear hb); (try clear hb2); (try clear hk); (try clear hi)))
          go_ret
          exact ⟨by first | rfl | (simp [errW_none, errW_some] <;> rfl) | (simp [*, errW_none, errW_some] <;> rfl), by repeat (first | (with_reducible first | exact HB.out | apply below_alloc | apply pw_below_drewN | apply below_drew1) | exact HB.out)⟩
        · replace c7 := Bool.eq_false_iff.mpr c7
          subst c7
          have H1 : ((imm_Hi.f 4095).bind fun t143 => (if t143 = 1 then ((imm_Lo.f 4095).bind fun t144 => (if t144 = (-1) then ((imm_Sign.f 255 8).bind fun t145 => (some (t145 == (-1)))) else (some false))) else (some false))) = some r := by rw [if_neg (show ¬ (false = true) by decide)] at H; exact H
          clear H
          have H := H1
          clear H1
          replace H := Option.bind_eq_some_iff.mp H
          obtain ⟨t143, A110, H⟩ := H
          replace H : (if t143 = 1 then ((imm_Lo.f 4095).bind fun t144 => (if t144 = (-1) then ((imm_Sign.f 255 8).bind fun t145 => (some (t145 == (-1)))) else (some false))) else (some false)) = some r := H
          have A11 := Aside0.mk A110
          clear A110
          by_cases c12 : t143 = 1
          · rw [if_pos c12] at H
            have c12b0 : (t143 == 1) = true := beq_iff_eq.mpr c12
            have c12b1 : (t143 != 1) = false := bne_eq_false_iff_eq.mpr c12
            clear c12
            replace H := Option.bind_eq_some_iff.mp H
            obtain ⟨t144, A130, H⟩ := H
            replace H : (if t144 = (-1) then ((imm_Sign.f 255 8).bind fun t145 => (some (t145 == (-1)))) else (some false)) = some r := H
            have A13 := Aside0.mk A130
            clear A130
            by_cases c14 : t144 = (-1)
            · rw [if_pos c14] at H
              have c14b0 : (t144 == (-1)) = true := beq_iff_eq.mpr c14
              have c14b1 : (t144 != (-1)) = false := bne_eq_false_iff_eq.mpr c14
              clear c14
              replace H := Option.bind_eq_some_iff.mp H
              obtain ⟨t145, A150, H⟩ := H
              replace H : (some (t145 == (-1))) = some r := H
              have A15 := Aside0.mk A150
              clear A150
              obtain rfl := Option.some.inj H
              go_enter Try.func8, Try.ntmps8
              go_wp2_with (first | ((with_reducible refine gate_callee (f := 9) rfl ?_); refine goesL_ (some 6) rfl rfl Try.func9 (by kernel_rfl) rfl #[.int .i64 1, .int .u32 19, .int .i64 (-1)] rfl (by (try simp only [List.map_toArray, List.map_cons, List.map_nil]); first | done | rfl | (simp only [List.length_drop, List.length_take]; rfl)) ?_; (with_reducible refine (imm_Put.calls k 1 19 (-1) t138 true _ A1.out).mono ?_); rintro e w16 ⟨rfl, hb⟩; refine ⟨_, rfl, ?_⟩; have n0_ := Aside0.mk (below_step (by repeat (first | (with_reducible first | exact HB.out | apply below_alloc | apply pw_below_drewN | apply below_drew1) | exact HB.out)) hb); clear HB; have HB := n0_; clear n0_; (try clear hb); (try clear hb2); (try clear hk); (try clear hi)) | ((with_reducible refine gate_callee (f := 9) rfl ?_); refine goesL_ (some 10) rfl rfl Try.func9 (by kernel_rfl) rfl #[.int .i64 3, .int .u32 99, .int .i64 3] rfl (by (try simp only [List.map_toArray, List.map_cons, List.map_nil]); first | done | rfl | (simp only [List.length_drop, List.length_take]; rfl)) ?_; (with_reducible refine (imm_Put.calls k 3 99 3 t140 false _ A2.out).mono ?_); rintro e w17 ⟨rfl, hb⟩; refine ⟨_, rfl, ?_⟩; have n0_ := Aside0.mk (below_step (by repeat (first | (with_reducible first | exact HB.out | apply below_alloc | apply pw_below_drewN | apply below_drew1) | exact HB.out)) hb); clear HB; have HB := n0_; clear n0_; (try clear hb); (try clear hb2); (try clear hk); (try clear hi)) | ((with_reducible refine gate_callee (f := 11) rfl ?_); refine goesL_ (some 13) rfl rfl Try.func11 (by kernel_rfl) rfl #[.int .i64 1, .int .u32 4293918739] rfl (by (try simp only [List.map_toArray, List.map_cons, List.map_nil]); first | done | rfl | (simp only [List.length_drop, List.length_take]; rfl)) ?_; (with_reducible refine (imm_Get.calls k 1 4293918739 t142 _ A3.out).mono ?_); rintro e w18 ⟨rfl, hb⟩; refine ⟨_, rfl, ?_⟩; have n0_ := Aside0.mk (below_step (by repeat (first | (with_reducible first | exact HB.out | apply below_alloc | apply pw_below_drewN | apply below_drew1) | exact HB.out)) hb); clear HB; have HB := n0_; clear n0_; (try clear hb); (try clear hb2); (try clear hk); (try clear hi)) | (go_at_call 17; (with_reducible refine (imm_Hi.calls 4095 t143 _ A11.out).mono ?_); rintro e w' ⟨rfl, ⟨nd, rfl⟩⟩) | (go_at_call 19; (with_reducible refine (imm_Lo.calls 4095 t144 _ A13.out).mono ?_); rintro e w19 ⟨rfl, hb⟩; have n0_ := Aside0.mk (below_step (by repeat (first | (with_reducible first | exact HB.out | apply below_alloc | apply pw_below_drewN | apply below_drew1) | exact HB.out)) hb); clear HB; have HB := n0_; clear n0_; (try clear hb); (try clear hb2); (try clear hk); (try clear hi)) | (go_at_call 15; (with_reducible refine (imm_Sign.calls 255 8 t145 _ A15.out).mono ?_); rintro e w20 ⟨rfl, hb⟩; have n0_ := Aside0.mk (below_step (by repeat (first | (with_reducible first | exact HB.out | apply below_alloc | apply pw_below_drewN | apply below_drew1) | exact HB.out)) hb); clear HB; have HB := n0_; clear n0_; (try clear hb); (try clear hb2); (try clear hk); (try clear hi)))
              go_ret
              exact ⟨by first | rfl | (simp [errW_none, errW_some] <;> rfl) | (simp [*, errW_none, errW_some] <;> rfl), by repeat (first | (with_reducible first | exact HB.out | apply below_alloc | apply pw_below_drewN | apply below_drew1) | exact HB.out)⟩
            · rw [if_neg c14] at H
              have c14b0 : (t144 == (-1)) = false := beq_eq_false_iff_ne.mpr c14
              have c14b1 : (t144 != (-1)) = true := bne_iff_ne.mpr c14
              obtain rfl := Option.some.inj H
              go_enter Try.func8, Try.ntmps8
              go_wp2_with (first | ((with_reducible refine gate_callee (f := 9) rfl ?_); refine goesL_ (some 6) rfl rfl Try.func9 (by kernel_rfl) rfl #[.int .i64 1, .int .u32 19, .int .i64 (-1)] rfl (by (try simp only [List.map_toArray, List.map_cons, List.map_nil]); first | done | rfl | (simp only [List.length_drop, List.length_take]; rfl)) ?_; (with_reducible refine (imm_Put.calls k 1 19 (-1) t138 true _ A1.out).mono ?_); rintro e w21 ⟨rfl, hb⟩; refine ⟨_, rfl, ?_⟩; have n0_ := Aside0.mk (below_step (by repeat (first | (with_reducible first | exact HB.out | apply below_alloc | apply pw_below_drewN | apply below_drew1) | exact HB.out)) hb); clear HB; have HB := n0_; clear n0_; (try clear hb); (try clear hb2); (try clear hk); (try clear hi)) | ((with_reducible refine gate_callee (f := 9) rfl ?_); refine goesL_ (some 10) rfl rfl Try.func9 (by kernel_rfl) rfl #[.int .i64 3, .int .u32 99, .int .i64 3] rfl (by (try simp only [List.map_toArray, List.map_cons, List.map_nil]); first | done | rfl | (simp only [List.length_drop, List.length_take]; rfl)) ?_; (with_reducible refine (imm_Put.calls k 3 99 3 t140 false _ A2.out).mono ?_); rintro e w22 ⟨rfl, hb⟩; refine ⟨_, rfl, ?_⟩; have n0_ := Aside0.mk (below_step (by repeat (first | (with_reducible first | exact HB.out | apply below_alloc | apply pw_below_drewN | apply below_drew1) | exact HB.out)) hb); clear HB; have HB := n0_; clear n0_; (try clear hb); (try clear hb2); (try clear hk); (try clear hi)) | ((with_reducible refine gate_callee (f := 11) rfl ?_); refine goesL_ (some 13) rfl rfl Try.func11 (by kernel_rfl) rfl #[.int .i64 1, .int .u32 4293918739] rfl (by (try simp only [List.map_toArray, List.map_cons, List.map_nil]); first | done | rfl | (simp only [List.length_drop, List.length_take]; rfl)) ?_; (with_reducible refine (imm_Get.calls k 1 4293918739 t142 _ A3.out).mono ?_); rintro e w23 ⟨rfl, hb⟩; refine ⟨_, rfl, ?_⟩; have n0_ := Aside0.mk (below_step (by repeat (first | (with_reducible first | exact HB.out | apply below_alloc | apply pw_below_drewN | apply below_drew1) | exact HB.out)) hb); clear HB; have HB := n0_; clear n0_; (try clear hb); (try clear hb2); (try clear hk); (try clear hi)) | (go_at_call 17; (with_reducible refine (imm_Hi.calls 4095 t143 _ A11.out).mono ?_); rintro e w' ⟨rfl, ⟨nd, rfl⟩⟩) | (go_at_call 19; (with_reducible refine (imm_Lo.calls 4095 t144 _ A13.out).mono ?_); rintro e w24 ⟨rfl, hb⟩; have n0_ := Aside0.mk (below_step (by repeat (first | (with_reducible first | exact HB.out | apply below_alloc | apply pw_below_drewN | apply below_drew1) | exact HB.out)) hb); clear HB; have HB := n0_; clear n0_; (try clear hb); (try clear hb2); (try clear hk); (try clear hi)))
              go_ret
              exact ⟨by first | rfl | (simp [errW_none, errW_some] <;> rfl) | (simp [*, errW_none, errW_some] <;> rfl), by repeat (first | (with_reducible first | exact HB.out | apply below_alloc | apply pw_below_drewN | apply below_drew1) | exact HB.out)⟩
          · rw [if_neg c12] at H
            have c12b0 : (t143 == 1) = false := beq_eq_false_iff_ne.mpr c12
            have c12b1 : (t143 != 1) = true := bne_iff_ne.mpr c12
            obtain rfl := Option.some.inj H
            go_enter Try.func8, Try.ntmps8
            go_wp2_with (first | ((with_reducible refine gate_callee (f := 9) rfl ?_); refine goesL_ (some 6) rfl rfl Try.func9 (by kernel_rfl) rfl #[.int .i64 1, .int .u32 19, .int .i64 (-1)] rfl (by (try simp only [List.map_toArray, List.map_cons, List.map_nil]); first | done | rfl | (simp only [List.length_drop, List.length_take]; rfl)) ?_; (with_reducible refine (imm_Put.calls k 1 19 (-1) t138 true _ A1.out).mono ?_); rintro e w25 ⟨rfl, hb⟩; refine ⟨_, rfl, ?_⟩; have n0_ := Aside0.mk (below_step (by repeat (first | (with_reducible first | exact HB.out | apply below_alloc | apply pw_below_drewN | apply below_drew1) | exact HB.out)) hb); clear HB; have HB := n0_; clear n0_; (try clear hb); (try clear hb2); (try clear hk); (try clear hi)) | ((with_reducible refine gate_callee (f := 9) rfl ?_); refine goesL_ (some 10) rfl rfl Try.func9 (by kernel_rfl) rfl #[.int .i64 3, .int .u32 99, .int .i64 3] rfl (by (try simp only [List.map_toArray, List.map_cons, List.map_nil]); first | done | rfl | (simp only [List.length_drop, List.length_take]; rfl)) ?_; (with_reducible refine (imm_Put.calls k 3 99 3 t140 false _ A2.out).mono ?_); rintro e w26 ⟨rfl, hb⟩; refine ⟨_, rfl, ?_⟩; have n0_ := Aside0.mk (below_step (by repeat (first | (with_reducible first | exact HB.out | apply below_alloc | apply pw_below_drewN | apply below_drew1) | exact HB.out)) hb); clear HB; have HB := n0_; clear n0_; (try clear hb); (try clear hb2); (try clear hk); (try clear hi)) | ((with_reducible refine gate_callee (f := 11) rfl ?_); refine goesL_ (some 13) rfl rfl Try.func11 (by kernel_rfl) rfl #[.int .i64 1, .int .u32 4293918739] rfl (by (try simp only [List.map_toArray, List.map_cons, List.map_nil]); first | done | rfl | (simp only [List.length_drop, List.length_take]; rfl)) ?_; (with_reducible refine (imm_Get.calls k 1 4293918739 t142 _ A3.out).mono ?_); rintro e w27 ⟨rfl, hb⟩; refine ⟨_, rfl, ?_⟩; have n0_ := Aside0.mk (below_step (by repeat (first | (with_reducible first | exact HB.out | apply below_alloc | apply pw_below_drewN | apply below_drew1) | exact HB.out)) hb); clear HB; have HB := n0_; clear n0_; (try clear hb); (try clear hb2); (try clear hk); (try clear hi)) | (go_at_call 17; (with_reducible refine (imm_Hi.calls 4095 t143 _ A11.out).mono ?_); rintro e w' ⟨rfl, ⟨nd, rfl⟩⟩))
            go_ret
            exact ⟨by first | rfl | (simp [errW_none, errW_some] <;> rfl) | (simp [*, errW_none, errW_some] <;> rfl), by repeat (first | (with_reducible first | exact HB.out | apply below_alloc | apply pw_below_drewN | apply below_drew1) | exact HB.out)⟩
      · replace c6 := Bool.eq_false_iff.mpr c6
        subst c6
        have H1 : (some false) = some r := by rw [if_neg (show ¬ (false = true) by decide)] at H; exact H
        clear H
        have H := H1
        clear H1
        obtain rfl := Option.some.inj H
        go_enter Try.func8, Try.ntmps8
        go_wp2_with (first | ((with_reducible refine gate_callee (f := 9) rfl ?_); refine goesL_ (some 6) rfl rfl Try.func9 (by kernel_rfl) rfl #[.int .i64 1, .int .u32 19, .int .i64 (-1)] rfl (by (try simp only [List.map_toArray, List.map_cons, List.map_nil]); first | done | rfl | (simp only [List.length_drop, List.length_take]; rfl)) ?_; (with_reducible refine (imm_Put.calls k 1 19 (-1) t138 false _ A1.out).mono ?_); rintro e w28 ⟨rfl, hb⟩; refine ⟨_, rfl, ?_⟩; have n0_ := Aside0.mk (below_step (by repeat (first | (with_reducible first | exact HB.out | apply below_alloc | apply pw_below_drewN | apply below_drew1) | exact HB.out)) hb); clear HB; have HB := n0_; clear n0_; (try clear hb); (try clear hb2); (try clear hk); (try clear hi)) | ((with_reducible refine gate_callee (f := 9) rfl ?_); refine goesL_ (some 10) rfl rfl Try.func9 (by kernel_rfl) rfl #[.int .i64 3, .int .u32 99, .int .i64 3] rfl (by (try simp only [List.map_toArray, List.map_cons, List.map_nil]); first | done | rfl | (simp only [List.length_drop, List.length_take]; rfl)) ?_; (with_reducible refine (imm_Put.calls k 3 99 3 t140 t141 _ A2.out).mono ?_); rintro e w29 ⟨rfl, hb⟩; refine ⟨_, rfl, ?_⟩; have n0_ := Aside0.mk (below_step (by repeat (first | (with_reducible first | exact HB.out | apply below_alloc | apply pw_below_drewN | apply below_drew1) | exact HB.out)) hb); clear HB; have HB := n0_; clear n0_; (try clear hb); (try clear hb2); (try clear hk); (try clear hi)) | ((with_reducible refine gate_callee (f := 11) rfl ?_); refine goesL_ (some 13) rfl rfl Try.func11 (by kernel_rfl) rfl #[.int .i64 1, .int .u32 4293918739] rfl (by (try simp only [List.map_toArray, List.map_cons, List.map_nil]); first | done | rfl | (simp only [List.length_drop, List.length_take]; rfl)) ?_; (with_reducible refine (imm_Get.calls k 1 4293918739 t142 _ A3.out).mono ?_); rintro e w30 ⟨rfl, hb⟩; refine ⟨_, rfl, ?_⟩; have n0_ := Aside0.mk (below_step (by repeat (first | (with_reducible first | exact HB.out | apply below_alloc | apply pw_below_drewN | apply below_drew1) | exact HB.out)) hb); clear HB; have HB := n0_; clear n0_; (try clear hb); (try clear hb2); (try clear hk); (try clear hi)))
        go_ret
        exact ⟨by first | rfl | (simp [errW_none, errW_some] <;> rfl) | (simp [*, errW_none, errW_some] <;> rfl), by repeat (first | (with_reducible first | exact HB.out | apply below_alloc | apply pw_below_drewN | apply below_drew1) | exact HB.out)⟩
    · rw [if_neg c5] at H
      have c5b0 : (t138 == 4293918739) = false := beq_eq_false_iff_ne.mpr c5
      have c5b1 : (t138 != 4293918739) = true := bne_iff_ne.mpr c5
      obtain rfl := Option.some.inj H
      go_enter Try.func8, Try.ntmps8
      go_wp2_with (first | ((with_reducible refine gate_callee (f := 9) rfl ?_); refine goesL_ (some 6) rfl rfl Try.func9 (by kernel_rfl) rfl #[.int .i64 1, .int .u32 19, .int .i64 (-1)] rfl (by (try simp only [List.map_toArray, List.map_cons, List.map_nil]); first | done | rfl | (simp only [List.length_drop, List.length_take]; rfl)) ?_; (with_reducible refine (imm_Put.calls k 1 19 (-1) t138 t139 _ A1.out).mono ?_); rintro e w31 ⟨rfl, hb⟩; refine ⟨_, rfl, ?_⟩; have n0_ := Aside0.mk (below_step (by repeat (first | (with_reducible first | exact HB.out | apply below_alloc | apply pw_below_drewN | apply below_drew1) | exact HB.out)) hb); clear HB; have HB := n0_; clear n0_; (try clear hb); (try clear hb2); (try clear hk); (try clear hi)) | ((with_reducible refine gate_callee (f := 9) rfl ?_); refine goesL_ (some 10) rfl rfl Try.func9 (by kernel_rfl) rfl #[.int .i64 3, .int .u32 99, .int .i64 3] rfl (by (try simp only [List.map_toArray, List.map_cons, List.map_nil]); first | done | rfl | (simp only [List.length_drop, List.length_take]; rfl)) ?_; (with_reducible refine (imm_Put.calls k 3 99 3 t140 t141 _ A2.out).mono ?_); rintro e w32 ⟨rfl, hb⟩; refine ⟨_, rfl, ?_⟩; have n0_ := Aside0.mk (below_step (by repeat (first | (with_reducible first | exact HB.out | apply below_alloc | apply pw_below_drewN | apply below_drew1) | exact HB.out)) hb); clear HB; have HB := n0_; clear n0_; (try clear hb); (try clear hb2); (try clear hk); (try clear hi)) | ((with_reducible refine gate_callee (f := 11) rfl ?_); refine goesL_ (some 13) rfl rfl Try.func11 (by kernel_rfl) rfl #[.int .i64 1, .int .u32 4293918739] rfl (by (try simp only [List.map_toArray, List.map_cons, List.map_nil]); first | done | rfl | (simp only [List.length_drop, List.length_take]; rfl)) ?_; (with_reducible refine (imm_Get.calls k 1 4293918739 t142 _ A3.out).mono ?_); rintro e w33 ⟨rfl, hb⟩; refine ⟨_, rfl, ?_⟩; have n0_ := Aside0.mk (below_step (by repeat (first | (with_reducible first | exact HB.out | apply below_alloc | apply pw_below_drewN | apply below_drew1) | exact HB.out)) hb); clear HB; have HB := n0_; clear n0_; (try clear hb); (try clear hb2); (try clear hk); (try clear hi)))
      go_ret
      exact ⟨by first | rfl | (simp [errW_none, errW_some] <;> rfl) | (simp [*, errW_none, errW_some] <;> rfl), by repeat (first | (with_reducible first | exact HB.out | apply below_alloc | apply pw_below_drewN | apply below_drew1) | exact HB.out)⟩
  · rw [if_neg c4] at H
    have c4b0 : (t142 == (-1)) = false := beq_eq_false_iff_ne.mpr c4
    have c4b1 : (t142 != (-1)) = true := bne_iff_ne.mpr c4
    obtain rfl := Option.some.inj H
    go_enter Try.func8, Try.ntmps8
    go_wp2_with (first | ((with_reducible refine gate_callee (f := 9) rfl ?_); refine goesL_ (some 6) rfl rfl Try.func9 (by kernel_rfl) rfl #[.int .i64 1, .int .u32 19, .int .i64 (-1)] rfl (by (try simp only [List.map_toArray, List.map_cons, List.map_nil]); first | done | rfl | (simp only [List.length_drop, List.length_take]; rfl)) ?_; (with_reducible refine (imm_Put.calls k 1 19 (-1) t138 t139 _ A1.out).mono ?_); rintro e w34 ⟨rfl, hb⟩; refine ⟨_, rfl, ?_⟩; have n0_ := Aside0.mk (below_step (by repeat (first | (with_reducible first | exact HB.out | apply below_alloc | apply pw_below_drewN | apply below_drew1) | exact HB.out)) hb); clear HB; have HB := n0_; clear n0_; (try clear hb); (try clear hb2); (try clear hk); (try clear hi)) | ((with_reducible refine gate_callee (f := 9) rfl ?_); refine goesL_ (some 10) rfl rfl Try.func9 (by kernel_rfl) rfl #[.int .i64 3, .int .u32 99, .int .i64 3] rfl (by (try simp only [List.map_toArray, List.map_cons, List.map_nil]); first | done | rfl | (simp only [List.length_drop, List.length_take]; rfl)) ?_; (with_reducible refine (imm_Put.calls k 3 99 3 t140 t141 _ A2.out).mono ?_); rintro e w35 ⟨rfl, hb⟩; refine ⟨_, rfl, ?_⟩; have n0_ := Aside0.mk (below_step (by repeat (first | (with_reducible first | exact HB.out | apply below_alloc | apply pw_below_drewN | apply below_drew1) | exact HB.out)) hb); clear HB; have HB := n0_; clear n0_; (try clear hb); (try clear hb2); (try clear hk); (try clear hi)) | ((with_reducible refine gate_callee (f := 11) rfl ?_); refine goesL_ (some 13) rfl rfl Try.func11 (by kernel_rfl) rfl #[.int .i64 1, .int .u32 4293918739] rfl (by (try simp only [List.map_toArray, List.map_cons, List.map_nil]); first | done | rfl | (simp only [List.length_drop, List.length_take]; rfl)) ?_; (with_reducible refine (imm_Get.calls k 1 4293918739 t142 _ A3.out).mono ?_); rintro e w36 ⟨rfl, hb⟩; refine ⟨_, rfl, ?_⟩; have n0_ := Aside0.mk (below_step (by repeat (first | (with_reducible first | exact HB.out | apply below_alloc | apply pw_below_drewN | apply below_drew1) | exact HB.out)) hb); clear HB; have HB := n0_; clear n0_; (try clear hb); (try clear hb2); (try clear hk); (try clear hi)))
    go_ret
    exact ⟨by first | rfl | (simp [errW_none, errW_some] <;> rfl) | (simp [*, errW_none, errW_some] <;> rfl), by repeat (first | (with_reducible first | exact HB.out | apply below_alloc | apply pw_below_drewN | apply below_drew1) | exact HB.out)⟩

-- NOT PRINTED: function 6 (dovetaillaw3_ImmRanges)

end Go.Proofs.Ytpjjgipomjenlaa.PImmRanges
