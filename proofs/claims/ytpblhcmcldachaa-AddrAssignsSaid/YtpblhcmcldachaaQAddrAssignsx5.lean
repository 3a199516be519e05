/- Contracts of what a law reaches, each function as a plain Lean function: written by a program of this claim's repo (myprint.py); conditions: those of each theorem. -/
import Derived.Test.YtpblhcmcldachaaQAddrAssignsx0
namespace Go.Proofs.Ytpblhcmcldachaa.QAddrAssigns
open Go.Proofs.Ytpblhcmcldachaa.Man
open Go.RowKit Go.Proofs.YtpblhcmcldachaaW.PrintWords Go.Proofs.YtpblhcmcldachaaW.PrintLast Go.Proofs.YtpblhcmcldachaaW.PrintMore
attribute [local go_sem] max2_int min2_int max_two min_two max_three min_three max_four min_four   -- for this text's walks alone
set_option linter.unusedVariables false
set_option linter.unusedSimpArgs false

/-! ### dovetailref1_Pow2: function 22 -/
def dovetailref1_Pow2.f (a0 : Int) : Option (Bool) := if a0 = 0 then (some false) else (some ((Go.bits .and .u64 a0 (IntKind.u64.wrap (a0 - 1))) == 0))
set_option maxHeartbeats 8000000 in
set_option maxRecDepth 100000 in
theorem dovetailref1_Pow2.calls (a0 : Int) (r : Bool) (w : World) (h : dovetailref1_Pow2.f a0 = some r) :
    Calls Try.prog 22 #[.int .u64 a0] w fun e w' => e = .returned (.bool r) ∧ Drawn0 w w' := by
  have H : (if a0 = 0 then (some false) else (some ((Go.bits .and .u64 a0 (IntKind.u64.wrap (a0 - 1))) == 0))) = some r := h
  clear h
  by_cases c2 : a0 = 0
  · rw [if_pos c2] at H
    have c2b0 : (a0 == 0) = true := beq_iff_eq.mpr c2
    have c2b1 : (a0 != 0) = false := bne_eq_false_iff_eq.mpr c2
    clear c2
    obtain rfl := Option.some.inj H
    go_enter Try.func22, Try.ntmps22
    go_wp2
    go_ret
    exact ⟨by first | rfl | (simp; done) | (simp [*]; done), by repeat (first | exact Drawn0.refl _ | apply Drawn0.step)⟩
  · rw [if_neg c2] at H
    have c2b0 : (a0 == 0) = false := beq_eq_false_iff_ne.mpr c2
    have c2b1 : (a0 != 0) = true := bne_iff_ne.mpr c2
    obtain rfl := Option.some.inj H
    go_enter Try.func22, Try.ntmps22
    go_wp2
    go_ret
    exact ⟨by first | rfl | (simp; done) | (simp [*]; done), by repeat (first | exact Drawn0.refl _ | apply Drawn0.step)⟩

/-! ### dovetailref1_Up: function 16 -/
def dovetailref1_Up.f (a0 : Int) (a1 : Int) : Option (Int × Bool) := (dovetailref1_Pow2.f a1).bind fun t142 => (if t142 = true then (if (Go.bits .and .u64 a0 (IntKind.u64.wrap (a1 - 1))) = 0 then (some (a0, true)) else (if (IntKind.u64.wrap (a0 + (IntKind.u64.wrap (a1 - (Go.bits .and .u64 a0 (IntKind.u64.wrap (a1 - 1))))))) < a0 then (some (0, false)) else (some (IntKind.u64.wrap (a0 + (IntKind.u64.wrap (a1 - (Go.bits .and .u64 a0 (IntKind.u64.wrap (a1 - 1)))))), true)))) else (some (0, false)))
set_option maxHeartbeats 8000000 in
set_option maxRecDepth 100000 in
theorem dovetailref1_Up.calls (a0 : Int) (a1 : Int) (r1 : Int) (r2 : Bool) (w : World) (h : dovetailref1_Up.f a0 a1 = some (r1, r2)) :
    Calls Try.prog 16 #[.int .u64 a0, .int .u64 a1] w fun e w' => e = .returned (.tuple #[.int .u64 r1, .bool r2]) ∧ Drawn0 w w' := by
  have H : ((dovetailref1_Pow2.f a1).bind fun t142 => (if t142 = true then (if (Go.bits .and .u64 a0 (IntKind.u64.wrap (a1 - 1))) = 0 then (some (a0, true)) else (if (IntKind.u64.wrap (a0 + (IntKind.u64.wrap (a1 - (Go.bits .and .u64 a0 (IntKind.u64.wrap (a1 - 1))))))) < a0 then (some (0, false)) else (some (IntKind.u64.wrap (a0 + (IntKind.u64.wrap (a1 - (Go.bits .and .u64 a0 (IntKind.u64.wrap (a1 - 1)))))), true)))) else (some (0, false)))) = some (r1, r2) := h
  clear h
  replace H := Option.bind_eq_some_iff.mp H
  obtain ⟨t142, A30, H⟩ := H
  replace H : (if t142 = true then (if (Go.bits .and .u64 a0 (IntKind.u64.wrap (a1 - 1))) = 0 then (some (a0, true)) else (if (IntKind.u64.wrap (a0 + (IntKind.u64.wrap (a1 - (Go.bits .and .u64 a0 (IntKind.u64.wrap (a1 - 1))))))) < a0 then (some (0, false)) else (some (IntKind.u64.wrap (a0 + (IntKind.u64.wrap (a1 - (Go.bits .and .u64 a0 (IntKind.u64.wrap (a1 - 1)))))), true)))) else (some (0, false))) = some (r1, r2) := H
  have A3 := Aside0.mk A30
  clear A30
  by_cases c4 : t142 = true
  · subst c4
    have H1 : (if (Go.bits .and .u64 a0 (IntKind.u64.wrap (a1 - 1))) = 0 then (some (a0, true)) else (if (IntKind.u64.wrap (a0 + (IntKind.u64.wrap (a1 - (Go.bits .and .u64 a0 (IntKind.u64.wrap (a1 - 1))))))) < a0 then (some (0, false)) else (some (IntKind.u64.wrap (a0 + (IntKind.u64.wrap (a1 - (Go.bits .and .u64 a0 (IntKind.u64.wrap (a1 - 1)))))), true)))) = some (r1, r2) := by rw [if_pos rfl] at H; exact H
    clear H
    have H := H1
    clear H1
    by_cases c5 : (Go.bits .and .u64 a0 (IntKind.u64.wrap (a1 - 1))) = 0
    · rw [if_pos c5] at H
      have c5b0 : ((Go.bits .and .u64 a0 (IntKind.u64.wrap (a1 - 1))) == 0) = true := beq_iff_eq.mpr c5
      have c5b1 : ((Go.bits .and .u64 a0 (IntKind.u64.wrap (a1 - 1))) != 0) = false := bne_eq_false_iff_eq.mpr c5
      clear c5
      simp only [Option.some.injEq, Prod.mk.injEq] at H
      obtain ⟨rfl, rfl⟩ := H
      go_enter Try.func16, Try.ntmps16
      go_wp2_with (first | ((with_reducible refine gate_callee (f := 22) rfl ?_); refine goesL_ (some 9) rfl rfl Try.func22 (by kernel_rfl) rfl #[.int .u64 a1] rfl (by (try simp only [List.map_toArray, List.map_cons, List.map_nil]); first | done | rfl | (simp only [List.length_drop, List.length_take]; rfl)) ?_; (with_reducible refine (dovetailref1_Pow2.calls a1 true _ A3.out).mono ?_); rintro e w' ⟨rfl, ⟨nd, rfl⟩⟩; refine ⟨_, rfl, ?_⟩))
      go_ret2
      exact ⟨by first | rfl | (simp; done) | (simp [*]; done), by repeat (first | exact Drawn0.refl _ | apply Drawn0.step)⟩
    · rw [if_neg c5] at H
      have c5b0 : ((Go.bits .and .u64 a0 (IntKind.u64.wrap (a1 - 1))) == 0) = false := beq_eq_false_iff_ne.mpr c5
      have c5b1 : ((Go.bits .and .u64 a0 (IntKind.u64.wrap (a1 - 1))) != 0) = true := bne_iff_ne.mpr c5
      by_cases c6 : (IntKind.u64.wrap (a0 + (IntKind.u64.wrap (a1 - (Go.bits .and .u64 a0 (IntKind.u64.wrap (a1 - 1))))))) < a0
      · rw [if_pos c6] at H
        have c6b0 : decide ((IntKind.u64.wrap (a0 + (IntKind.u64.wrap (a1 - (Go.bits .and .u64 a0 (IntKind.u64.wrap (a1 - 1))))))) < a0) = true := decide_eq_true c6
        clear c6
        simp only [Option.some.injEq, Prod.mk.injEq] at H
        obtain ⟨rfl, rfl⟩ := H
        go_enter Try.func16, Try.ntmps16
        go_wp2_with (first | ((with_reducible refine gate_callee (f := 22) rfl ?_); refine goesL_ (some 9) rfl rfl Try.func22 (by kernel_rfl) rfl #[.int .u64 a1] rfl (by (try simp only [List.map_toArray, List.map_cons, List.map_nil]); first | done | rfl | (simp only [List.length_drop, List.length_take]; rfl)) ?_; (with_reducible refine (dovetailref1_Pow2.calls a1 true _ A3.out).mono ?_); rintro e w' ⟨rfl, ⟨nd, rfl⟩⟩; refine ⟨_, rfl, ?_⟩))
        go_ret2
        exact ⟨by first | rfl | (simp; done) | (simp [*]; done), by repeat (first | exact Drawn0.refl _ | apply Drawn0.step)⟩
      · rw [if_neg c6] at H
        have c6b0 : decide ((IntKind.u64.wrap (a0 + (IntKind.u64.wrap (a1 - (Go.bits .and .u64 a0 (IntKind.u64.wrap (a1 - 1))))))) < a0) = false := decide_eq_false c6
        clear c6
        simp only [Option.some.injEq, Prod.mk.injEq] at H
        obtain ⟨rfl, rfl⟩ := H
        go_enter Try.func16, Try.ntmps16
        go_wp2_with (first | ((with_reducible refine gate_callee (f := 22) rfl ?_); refine goesL_ (some 9) rfl rfl Try.func22 (by kernel_rfl) rfl #[.int .u64 a1] rfl (by (try simp only [List.map_toArray, List.map_cons, List.map_nil]); first | done | rfl | (simp only [List.length_drop, List.length_take]; rfl)) ?_; (with_reducible refine (dovetailref1_Pow2.calls a1 true _ A3.out).mono ?_); rintro e w' ⟨rfl, ⟨nd, rfl⟩⟩; refine ⟨_, rfl, ?_⟩))
        go_ret2
        exact ⟨by first | rfl | (simp; done) | (simp [*]; done), by repeat (first | exact Drawn0.refl _ | apply Drawn0.step)⟩
  · replace c4 := Bool.eq_false_iff.mpr c4
    subst c4
    have H1 : (some (0, false)) = some (r1, r2) := by rw [if_neg (show ¬ (false = true) by decide)] at H; exact H
    clear H
    have H := H1
    clear H1
    simp only [Option.some.injEq, Prod.mk.injEq] at H
    obtain ⟨rfl, rfl⟩ := H
    go_enter Try.func16, Try.ntmps16
    go_wp2_with (first | ((with_reducible refine gate_callee (f := 22) rfl ?_); refine goesL_ (some 9) rfl rfl Try.func22 (by kernel_rfl) rfl #[.int .u64 a1] rfl (by (try simp only [List.map_toArray, List.map_cons, List.map_nil]); first | done | rfl | (simp only [List.length_drop, List.length_take]; rfl)) ?_; (with_reducible refine (dovetailref1_Pow2.calls a1 false _ A3.out).mono ?_); rintro e w' ⟨rfl, ⟨nd, rfl⟩⟩; refine ⟨_, rfl, ?_⟩))
    go_ret2
    exact ⟨by first | rfl | (simp; done) | (simp [*]; done), by repeat (first | exact Drawn0.refl _ | apply Drawn0.step)⟩

/-! ### dovetailref20_segment: function 17 -/
def dovetailref20_segment.f (a0 : Int) : Option (Int) := (some (([0, 1, 2, 2] : List Int) : List Int)).bind fun y143 => (if 0 ≤ (Int.tmod a0 4) then (if (Int.tmod a0 4) < (y143.length : Int) then (some (rd y143 (Int.tmod a0 4))) else (none)) else (none))
set_option maxHeartbeats 8000000 in
set_option maxRecDepth 100000 in
theorem dovetailref20_segment.calls (a0 : Int) (r : Int) (w : World) (h : dovetailref20_segment.f a0 = some r) :
    Calls Try.prog 17 #[.int .i64 a0] w fun e w' => e = .returned (.int .i64 r) ∧ Below w.heap.size w w' := by
  have HB := Aside0.mk (Below.refl w.heap.size w)
  have H : ((some (([0, 1, 2, 2] : List Int) : List Int)).bind fun y143 => (if 0 ≤ (Int.tmod a0 4) then (if (Int.tmod a0 4) < (y143.length : Int) then (some (rd y143 (Int.tmod a0 4))) else (none)) else (none))) = some r := h
  clear h
  obtain ⟨y143, hy143⟩ : ∃ y_ : List Int, y_ = (([0, 1, 2, 2] : List Int)) := ⟨_, rfl⟩
  replace H : (if 0 ≤ (Int.tmod a0 4) then (if (Int.tmod a0 4) < (y143.length : Int) then (some (rd y143 (Int.tmod a0 4))) else (none)) else (none)) = some r := by first | (rw [hy143]; with_reducible exact H) | (have H2_ := (Option.bind_some _ _).symm.trans H; rw [hy143]; with_reducible exact H2_) | (have H2_ := (Option.bind_some _ _).symm.trans H; with_reducible exact H2_) | with_reducible exact H | (rw [hy143]; exact H) | exact H
  have Ny143 := Aside0.mk hy143
  clear hy143
  obtain ⟨ji2, hji2⟩ : ∃ j_ : Int, (Int.tmod a0 4) = j_ := ⟨_, rfl⟩
  replace H : (if 0 ≤ (ji2) then (if (ji2) < (y143.length : Int) then (some (rd y143 (ji2))) else (none)) else (none)) = some r := by first | (rw [hji2] at H; exact H) | (simp only [hji2] at H ⊢; exact H)
  by_cases c3 : 0 ≤ (ji2)
  · rw [if_pos c3] at H
    have c3b0 : decide (0 ≤ (ji2)) = true := decide_eq_true c3
    clear c3
    by_cases c4 : (ji2) < (y143.length : Int)
    · rw [if_pos c4] at H
      have c4b0 : decide ((ji2) < (y143.length : Int)) = true := decide_eq_true c4
      clear c4
      obtain rfl := Option.some.inj H
      go_enter Try.func17, Try.ntmps17
      go_wp2_with (first | ((with_reducible refine gate_dst (N := 3) rfl ?_); refine Kd.R_lit (Kd.int .i64) _ 3 ?hg (N := 3) ?hd (xs := ([0, 1, 2, 2] : List Int)) (inner := [.int .i64 0, .int .i64 1, .int .i64 2, .int .i64 2]) (ok := fun _ => True) (okp := fun _ => True) ?hr ?hp (fun _ hk => hk) trivial (Below.refl _ _) (Nat.le_refl _) (by simp) ?_; (case hd => rfl); (case hg => rfl); (case hr => first | (go_simp; done) | (go_simp; rfl)); (case hp => exact (Reps.one (show Kd.M (Kd.int .i64) _ _ _ 0 [.int .i64 0] from rfl) (Reps.one (show Kd.M (Kd.int .i64) _ _ _ 1 [.int .i64 1] from rfl) (Reps.one (show Kd.M (Kd.int .i64) _ _ _ 2 [.int .i64 2] from rfl) (Reps.one (show Kd.M (Kd.int .i64) _ _ _ 2 [.int .i64 2] from rfl) (Reps.none _ _)))))); intro v144 w5 ho6 hb hg_ hnew_; clear hg_ hnew_; (first | rw [← Ny143.out] at ho6 | (simp only [Int.reduceToNat] at ho6; rw [← Ny143.out] at ho6)); have n0_ := Aside0.mk (Kd.R_lower ho6 (below_size (by repeat (first | (with_reducible first | exact HB.out | apply below_alloc | apply pw_below_drewN | apply below_drew1) | exact HB.out)))); have n1_ := Aside0.mk (below_step (by repeat (first | (with_reducible first | exact HB.out | apply below_alloc | apply pw_below_drewN | apply below_drew1) | exact HB.out)) hb); clear HB; have HO145 := n0_; have HB := n1_; clear n0_ n1_; clear hb ho6; obtain ⟨Ao7, co7, eo7⟩ := Kd.R_slice HO145.out; subst eo7; have p146 : 0 ≤ ((ji2) : Int) := of_decide_eq_true (by first | (with_reducible assumption) | assumption); have q146 : (ji2) < (y143.length : Int) := of_decide_eq_true (by first | (with_reducible assumption) | assumption); obtain ⟨ad146, e146, hx146_0⟩ := Kd.at_int (Kd.R_reads' HO145.out).2.2 (ji2) p146 q146; cases e146; replace p146 := eq_true p146; replace q146 := eq_true q146))
      go_ret
      exact ⟨by first | rfl | (simp [errW_none, errW_some] <;> rfl) | (simp only [← hji2]; first | rfl | (simp [errW_none, errW_some] <;> rfl)) | (simp [*, errW_none, errW_some] <;> rfl), by repeat (first | (with_reducible first | exact HB.out | apply below_alloc | apply pw_below_drewN | apply below_drew1) | exact HB.out)⟩
    · rw [if_neg c4] at H
      exact absurd H (by simp)
  · rw [if_neg c3] at H
    exact absurd H (by simp)

/-! ### dovetailref20_Perm: function 18 -/
def dovetailref20_Perm.f (a0 : Int) : Option (Int) := (some (([5, 4, 6] : List Int) : List Int)).bind fun y147 => (if 0 ≤ a0 then (if a0 < (y147.length : Int) then (some (rd y147 a0)) else (none)) else (none))
set_option maxHeartbeats 8000000 in
set_option maxRecDepth 100000 in
theorem dovetailref20_Perm.calls (a0 : Int) (r : Int) (w : World) (h : dovetailref20_Perm.f a0 = some r) :
    Calls Try.prog 18 #[.int .i64 a0] w fun e w' => e = .returned (.int .i64 r) ∧ Below w.heap.size w w' := by
  have HB := Aside0.mk (Below.refl w.heap.size w)
  have H : ((some (([5, 4, 6] : List Int) : List Int)).bind fun y147 => (if 0 ≤ a0 then (if a0 < (y147.length : Int) then (some (rd y147 a0)) else (none)) else (none))) = some r := h
  clear h
  obtain ⟨y147, hy147⟩ : ∃ y_ : List Int, y_ = (([5, 4, 6] : List Int)) := ⟨_, rfl⟩
  replace H : (if 0 ≤ a0 then (if a0 < (y147.length : Int) then (some (rd y147 a0)) else (none)) else (none)) = some r := by first | (rw [hy147]; with_reducible exact H) | (have H2_ := (Option.bind_some _ _).symm.trans H; rw [hy147]; with_reducible exact H2_) | (have H2_ := (Option.bind_some _ _).symm.trans H; with_reducible exact H2_) | with_reducible exact H | (rw [hy147]; exact H) | exact H
  have Ny147 := Aside0.mk hy147
  clear hy147
  by_cases c2 : 0 ≤ a0
  · rw [if_pos c2] at H
    have c2b0 : decide (0 ≤ a0) = true := decide_eq_true c2
    clear c2
    by_cases c3 : a0 < (y147.length : Int)
    · rw [if_pos c3] at H
      have c3b0 : decide (a0 < (y147.length : Int)) = true := decide_eq_true c3
      clear c3
      obtain rfl := Option.some.inj H
      go_enter Try.func18, Try.ntmps18
      go_wp2_with (first | ((with_reducible refine gate_dst (N := 3) rfl ?_); refine Kd.R_lit (Kd.int .i64) _ 3 ?hg (N := 3) ?hd (xs := ([5, 4, 6] : List Int)) (inner := [.int .i64 5, .int .i64 4, .int .i64 6]) (ok := fun _ => True) (okp := fun _ => True) ?hr ?hp (fun _ hk => hk) trivial (Below.refl _ _) (Nat.le_refl _) (by simp) ?_; (case hd => rfl); (case hg => rfl); (case hr => first | (go_simp; done) | (go_simp; rfl)); (case hp => exact (Reps.one (show Kd.M (Kd.int .i64) _ _ _ 5 [.int .i64 5] from rfl) (Reps.one (show Kd.M (Kd.int .i64) _ _ _ 4 [.int .i64 4] from rfl) (Reps.one (show Kd.M (Kd.int .i64) _ _ _ 6 [.int .i64 6] from rfl) (Reps.none _ _))))); intro v148 w4 ho5 hb hg_ hnew_; clear hg_ hnew_; (first | rw [← Ny147.out] at ho5 | (simp only [Int.reduceToNat] at ho5; rw [← Ny147.out] at ho5)); have n0_ := Aside0.mk (Kd.R_lower ho5 (below_size (by repeat (first | (with_reducible first | exact HB.out | apply below_alloc | apply pw_below_drewN | apply below_drew1) | exact HB.out)))); have n1_ := Aside0.mk (below_step (by repeat (first | (with_reducible first | exact HB.out | apply below_alloc | apply pw_below_drewN | apply below_drew1) | exact HB.out)) hb); clear HB; have HO149 := n0_; have HB := n1_; clear n0_ n1_; clear hb ho5; obtain ⟨Ao6, co6, eo6⟩ := Kd.R_slice HO149.out; subst eo6; have p150 : 0 ≤ (a0 : Int) := of_decide_eq_true (by first | (with_reducible assumption) | assumption); have q150 : a0 < (y147.length : Int) := of_decide_eq_true (by first | (with_reducible assumption) | assumption); obtain ⟨ad150, e150, hx150_0⟩ := Kd.at_int (Kd.R_reads' HO149.out).2.2 a0 p150 q150; cases e150; replace p150 := eq_true p150; replace q150 := eq_true q150))
      go_ret
      exact ⟨by first | rfl | (simp [errW_none, errW_some] <;> rfl) | (simp [*, errW_none, errW_some] <;> rfl), by repeat (first | (with_reducible first | exact HB.out | apply below_alloc | apply pw_below_drewN | apply below_drew1) | exact HB.out)⟩
    · rw [if_neg c3] at H
      exact absurd H (by simp)
  · rw [if_neg c2] at H
    exact absurd H (by simp)

/-! ### dovetailref20_Assign: function 10 -/
mutual
def dovetailref20_Assign.l0 : Nat → List (S37) → List (S40) → Int → Int → Int → Option ((List (S37)) × (List (S40)) × Int)
  | 0, _, _, _, _, _ => none
  | k + 1, x5, x6, x7, x8, x9 => if x9 < 3 then ((dovetailref1_Up.f x7 4096).bind fun bt154 => (if bt154.2 = true then (dovetailref20_Assign.j1 k x5 x6 x7 x8 x9 bt154.1 (decide (bt154.1 > 140737488355328))) else (dovetailref20_Assign.j1 k x5 x6 x7 x8 x9 bt154.1 true))) else (some (x5, x6, 0))
def dovetailref20_Assign.j1 : Nat → List (S37) → List (S40) → Int → Int → Int → Int → Bool → Option ((List (S37)) × (List (S40)) × Int)
  | 0, _, _, _, _, _, _, _ => none
  | k + 1, x5, x6, x7, x8, x9, x10, x33 => if x33 = true then (dovetailref20_Assign.j2 k x5 x6 x7 x8 x9 140737488355328) else (dovetailref20_Assign.j2 k x5 x6 x7 x8 x9 x10)
def dovetailref20_Assign.j2 : Nat → List (S37) → List (S40) → Int → Int → Int → Int → Option ((List (S37)) × (List (S40)) × Int)
  | 0, _, _, _, _, _, _ => none
  | k + 1, x5, x6, x7, x8, x9, x10 => dovetailref20_Assign.l1 k x5 x6 x7 x8 x9 x10 x10 false 0
def dovetailref20_Assign.l1 : Nat → List (S37) → List (S40) → Int → Int → Int → Int → Int → Bool → Int → Option ((List (S37)) × (List (S40)) × Int)
  | 0, _, _, _, _, _, _, _, _, _ => none
  | k + 1, x5, x6, x7, x8, x9, x10, x12, x13, x14 => if x14 < (x5.length : Int) then (if 0 ≤ x14 then (if ((rd_T37 x5 x14).f2) < 0 then (dovetailref20_Assign.j4 k x5 x6 x7 x8 x9 x10 x12 x13 x14 true) else (if ((rd_T37 x5 x14).f2) ≥ 4 then (dovetailref20_Assign.j4 k x5 x6 x7 x8 x9 x10 x12 x13 x14 true) else ((dovetailref20_segment.f ((rd_T37 x5 x14).f2)).bind fun t159 => (dovetailref20_Assign.j4 k x5 x6 x7 x8 x9 x10 x12 x13 x14 (t159 != x9))))) else (none)) else (if x13 = true then (if x12 > x10 then ((dovetailref20_Perm.f x9).bind fun t166 => (if x6.length < 2932031007402 then (if (IntKind.u64.wrap (x8 + (IntKind.u64.wrap (x12 - x10)))) > 134217728 then (some (([] : List (S37)), ([] : List (S40)), 55)) else (dovetailref20_Assign.l0 k x5 (x6 ++ [(⟨x10, t166, ([] : List Int), IntKind.u64.wrap (x12 - x10)⟩ : S40)]) x12 (IntKind.u64.wrap (x8 + (IntKind.u64.wrap (x12 - x10)))) (wrap64 (x9 + 1)))) else (none))) else (if x8 > 134217728 then (some (([] : List (S37)), ([] : List (S40)), 55)) else (dovetailref20_Assign.l0 k x5 x6 x12 x8 (wrap64 (x9 + 1))))) else (dovetailref20_Assign.l0 k x5 x6 x7 x8 (wrap64 (x9 + 1))))
def dovetailref20_Assign.j4 : Nat → List (S37) → List (S40) → Int → Int → Int → Int → Int → Bool → Int → Bool → Option ((List (S37)) × (List (S40)) × Int)
  | 0, _, _, _, _, _, _, _, _, _, _ => none
  | k + 1, x5, x6, x7, x8, x9, x10, x12, x13, x14, x64 => if x64 = true then (dovetailref20_Assign.l1 k x5 x6 x7 x8 x9 x10 x12 x13 (wrap64 (x14 + 1))) else (if 0 ≤ x14 then (if x14 < (x5.length : Int) then ((dovetailref1_Up.f x12 ((rd_T37 x5 x14).f4)).bind fun bt161 => (if bt161.2 = true then (if bt161.1 > 140737488355328 then (some (([] : List (S37)), ([] : List (S40)), 55)) else (if ((rd_T37 x5 x14).f5) > (IntKind.u64.wrap (140737488355328 - bt161.1)) then (some (([] : List (S37)), ([] : List (S40)), 55)) else ((some (x5.set (x14 : Int).toNat (⟨(rd_T37 x5 x14).f0, (rd_T37 x5 x14).f1, (rd_T37 x5 x14).f2, (rd_T37 x5 x14).f3, (rd_T37 x5 x14).f4, (rd_T37 x5 x14).f5, bt161.1⟩ : S37) : List (S37))).bind fun y164 => (dovetailref20_Assign.l1 k y164 x6 x7 x8 x9 x10 (IntKind.u64.wrap (bt161.1 + ((rd_T37 y164 x14).f5))) true (wrap64 (x14 + 1)))))) else (some (([] : List (S37)), ([] : List (S40)), 55)))) else (none)) else (none))
end
def dovetailref20_Assign.f (k : Nat) (l0 : List (S37)) : Option ((List (S37)) × (List (S40)) × Int) := if ([] : List (S37)).length + l0.length < 2199023255552 then (dovetailref20_Assign.l0 k (([] : List (S37)) ++ l0) ([] : List (S40)) 65536 0 0) else (none)
theorem dovetailref20_Assign.mono_l : ∀ k, (∀ y0 y1 y2 y3 y4, LeO (dovetailref20_Assign.l0 k y0 y1 y2 y3 y4) (dovetailref20_Assign.l0 (k + 1) y0 y1 y2 y3 y4)) ∧ (∀ y0 y1 y2 y3 y4 y5 y6, LeO (dovetailref20_Assign.j1 k y0 y1 y2 y3 y4 y5 y6) (dovetailref20_Assign.j1 (k + 1) y0 y1 y2 y3 y4 y5 y6)) ∧ (∀ y0 y1 y2 y3 y4 y5, LeO (dovetailref20_Assign.j2 k y0 y1 y2 y3 y4 y5) (dovetailref20_Assign.j2 (k + 1) y0 y1 y2 y3 y4 y5)) ∧ (∀ y0 y1 y2 y3 y4 y5 y6 y7 y8, LeO (dovetailref20_Assign.l1 k y0 y1 y2 y3 y4 y5 y6 y7 y8) (dovetailref20_Assign.l1 (k + 1) y0 y1 y2 y3 y4 y5 y6 y7 y8)) ∧ (∀ y0 y1 y2 y3 y4 y5 y6 y7 y8 y9, LeO (dovetailref20_Assign.j4 k y0 y1 y2 y3 y4 y5 y6 y7 y8 y9) (dovetailref20_Assign.j4 (k + 1) y0 y1 y2 y3 y4 y5 y6 y7 y8 y9))
  | 0 => ⟨fun _ _ _ _ _ r h => by simp [dovetailref20_Assign.l0] at h, fun _ _ _ _ _ _ _ r h => by simp [dovetailref20_Assign.j1] at h, fun _ _ _ _ _ _ r h => by simp [dovetailref20_Assign.j2] at h, fun _ _ _ _ _ _ _ _ _ r h => by simp [dovetailref20_Assign.l1] at h, fun _ _ _ _ _ _ _ _ _ _ r h => by simp [dovetailref20_Assign.j4] at h⟩
  | k + 1 => by
    obtain ⟨ih0, ih1, ih2, ih3, ih4⟩ := dovetailref20_Assign.mono_l k
    refine ⟨?_, ?_, ?_, ?_, ?_⟩
    · intro y0 y1 y2 y3 y4
      unfold dovetailref20_Assign.l0
      repeat' first
      | (with_reducible exact ih0 _ _ _ _ _)
      | (with_reducible exact ih1 _ _ _ _ _ _ _)
      | (with_reducible exact ih2 _ _ _ _ _ _)
      | (with_reducible exact ih3 _ _ _ _ _ _ _ _ _)
      | (with_reducible exact ih4 _ _ _ _ _ _ _ _ _ _)
      | (with_reducible exact LeO.refl _)
      | (with_reducible exact LeO.none _)
      | (with_reducible refine LeO.ite ?_ ?_)
      | (with_reducible refine LeO.bind ?_ (fun _ => ?_))
      | exact ih0 _ _ _ _ _
      | exact ih1 _ _ _ _ _ _ _
      | exact ih2 _ _ _ _ _ _
      | exact ih3 _ _ _ _ _ _ _ _ _
      | exact ih4 _ _ _ _ _ _ _ _ _ _
      | exact LeO.none _
      | refine LeO.ite ?_ ?_
      | refine LeO.bind ?_ (fun _ => ?_)
    · intro y0 y1 y2 y3 y4 y5 y6
      unfold dovetailref20_Assign.j1
      repeat' first
      | (with_reducible exact ih0 _ _ _ _ _)
      | (with_reducible exact ih1 _ _ _ _ _ _ _)
      | (with_reducible exact ih2 _ _ _ _ _ _)
      | (with_reducible exact ih3 _ _ _ _ _ _ _ _ _)
      | (with_reducible exact ih4 _ _ _ _ _ _ _ _ _ _)
      | (with_reducible exact LeO.refl _)
      | (with_reducible exact LeO.none _)
      | (with_reducible refine LeO.ite ?_ ?_)
      | (with_reducible refine LeO.bind ?_ (fun _ => ?_))
      | exact ih0 _ _ _ _ _
      | exact ih1 _ _ _ _ _ _ _
      | exact ih2 _ _ _ _ _ _
      | exact ih3 _ _ _ _ _ _ _ _ _
      | exact ih4 _ _ _ _ _ _ _ _ _ _
      | exact LeO.none _
      | refine LeO.ite ?_ ?_
      | refine LeO.bind ?_ (fun _ => ?_)
    · intro y0 y1 y2 y3 y4 y5
      unfold dovetailref20_Assign.j2
      repeat' first
      | (with_reducible exact ih0 _ _ _ _ _)
      | (with_reducible exact ih1 _ _ _ _ _ _ _)
      | (with_reducible exact ih2 _ _ _ _ _ _)
      | (with_reducible exact ih3 _ _ _ _ _ _ _ _ _)
      | (with_reducible exact ih4 _ _ _ _ _ _ _ _ _ _)
      | (with_reducible exact LeO.refl _)
      | (with_reducible exact LeO.none _)
      | (with_reducible refine LeO.ite ?_ ?_)
      | (with_reducible refine LeO.bind ?_ (fun _ => ?_))
      | exact ih0 _ _ _ _ _
      | exact ih1 _ _ _ _ _ _ _
      | exact ih2 _ _ _ _ _ _
      | exact ih3 _ _ _ _ _ _ _ _ _
      | exact ih4 _ _ _ _ _ _ _ _ _ _
      | exact LeO.none _
      | refine LeO.ite ?_ ?_
      | refine LeO.bind ?_ (fun _ => ?_)
    · intro y0 y1 y2 y3 y4 y5 y6 y7 y8
      unfold dovetailref20_Assign.l1
      repeat' first
      | (with_reducible exact ih0 _ _ _ _ _)
      | (with_reducible exact ih1 _ _ _ _ _ _ _)
      | (with_reducible exact ih2 _ _ _ _ _ _)
      | (with_reducible exact ih3 _ _ _ _ _ _ _ _ _)
      | (with_reducible exact ih4 _ _ _ _ _ _ _ _ _ _)
      | (with_reducible exact LeO.refl _)
      | (with_reducible exact LeO.none _)
      | (with_reducible refine LeO.ite ?_ ?_)
      | (with_reducible refine LeO.bind ?_ (fun _ => ?_))
      | exact ih0 _ _ _ _ _
      | exact ih1 _ _ _ _ _ _ _
      | exact ih2 _ _ _ _ _ _
      | exact ih3 _ _ _ _ _ _ _ _ _
      | exact ih4 _ _ _ _ _ _ _ _ _ _
      | exact LeO.none _
      | refine LeO.ite ?_ ?_
      | refine LeO.bind ?_ (fun _ => ?_)
    · intro y0 y1 y2 y3 y4 y5 y6 y7 y8 y9
      unfold dovetailref20_Assign.j4
      repeat' first
      | (with_reducible exact ih0 _ _ _ _ _)
      | (with_reducible exact ih1 _ _ _ _ _ _ _)
      | (with_reducible exact ih2 _ _ _ _ _ _)
      | (with_reducible exact ih3 _ _ _ _ _ _ _ _ _)
      | (with_reducible exact ih4 _ _ _ _ _ _ _ _ _ _)
      | (with_reducible exact LeO.refl _)
      | (with_reducible exact LeO.none _)
      | (with_reducible refine LeO.ite ?_ ?_)
      | (with_reducible refine LeO.bind ?_ (fun _ => ?_))
      | exact ih0 _ _ _ _ _
      | exact ih1 _ _ _ _ _ _ _
      | exact ih2 _ _ _ _ _ _
      | exact ih3 _ _ _ _ _ _ _ _ _
      | exact ih4 _ _ _ _ _ _ _ _ _ _
      | exact LeO.none _
      | refine LeO.ite ?_ ?_
      | refine LeO.bind ?_ (fun _ => ?_)
theorem dovetailref20_Assign.mono : ∀ a0 k, LeO (dovetailref20_Assign.f k a0) (dovetailref20_Assign.f (k + 1) a0) := by
  intro a0 k
  obtain ⟨ih0, ih1, ih2, ih3, ih4⟩ := dovetailref20_Assign.mono_l k
  unfold dovetailref20_Assign.f
  repeat' first
      | (with_reducible exact ih0 _ _ _ _ _)
      | (with_reducible exact ih1 _ _ _ _ _ _ _)
      | (with_reducible exact ih2 _ _ _ _ _ _)
      | (with_reducible exact ih3 _ _ _ _ _ _ _ _ _)
      | (with_reducible exact ih4 _ _ _ _ _ _ _ _ _ _)
      | (with_reducible exact LeO.refl _)
      | (with_reducible exact LeO.none _)
      | (with_reducible refine LeO.ite ?_ ?_)
      | (with_reducible refine LeO.bind ?_ (fun _ => ?_))
      | exact ih0 _ _ _ _ _
      | exact ih1 _ _ _ _ _ _ _
      | exact ih2 _ _ _ _ _ _
      | exact ih3 _ _ _ _ _ _ _ _ _
      | exact ih4 _ _ _ _ _ _ _ _ _ _
      | exact LeO.none _
      | refine LeO.ite ?_ ?_
      | refine LeO.bind ?_ (fun _ => ?_)
set_option maxHeartbeats 8000000 in
set_option maxRecDepth 100000 in
theorem dovetailref20_Assign.calls (k : Nat) (A0 : Option Addr) (c0 : Nat) (l0 : List (S37)) (r1 : List (S37)) (r2 : List (S40)) (r3 : Int) (w : World) (hr0 : Kd.C k37 w A0 l0.length l0) (hc0 : l0.length ≤ c0) (h : dovetailref20_Assign.f k l0 = some (r1, r2, r3)) :
    Calls Try.prog 10 #[.slice A0 l0.length c0] w fun e w' => ∃ v0_ v1_ : Value, e = .returned (.tuple #[v0_, v1_, .int .i64 r3]) ∧ Kd.R k37 37 w' w.heap.size (fun _ => True) v0_ r1 ∧ Kd.S k40 40 w' w.heap.size (fun _ => True) v1_ r2 ∧ Below w.heap.size w w' := by
  have hu40 := Try.underlying40
  have HR0 := Aside0.mk hr0
  have HC0 := Aside0.mk hc0
  clear hr0 hc0
  have HB := Aside0.mk (Below.refl w.heap.size w)
  have H : (if ([] : List (S37)).length + l0.length < 2199023255552 then (dovetailref20_Assign.l0 k (([] : List (S37)) ++ l0) ([] : List (S40)) 65536 0 0) else (none)) = some (r1, r2, r3) := h
  clear h
  by_cases c2 : ([] : List (S37)).length + l0.length < 2199023255552
  · rw [if_pos c2] at H
    have LMc2 := Aside0.mk c2
    clear c2
    obtain ⟨y151, hy151⟩ : ∃ y_ : List (S37), y_ = (([] : List (S37)) ++ l0) := ⟨_, rfl⟩
    replace H : (dovetailref20_Assign.l0 k y151 ([] : List (S40)) 65536 0 0) = some (r1, r2, r3) := by first | (rw [hy151]; with_reducible exact H) | (have H2_ := (Option.bind_some _ _).symm.trans H; rw [hy151]; with_reducible exact H2_) | (have H2_ := (Option.bind_some _ _).symm.trans H; with_reducible exact H2_) | with_reducible exact H | (rw [hy151]; exact H) | exact H
    have Ny151 := Aside0.mk hy151
    clear hy151
    have H' := Aside0.mk H
    clear H
    go_enter Try.func10, Try.ntmps10
    go_wp2_with (first | ((with_reducible refine gate_builtin (b := .append) (xs := #[.const (.slice none 0 0), .tmp 17]) rfl ?_); at_builtin; refine Kd.R_append_rows k37 (w0 := w) w.heap.size rfl (.const (.slice none 0 0)) (.tmp 17) 24 37 (.agg #[(.int .i64 0), (.int .i64 0), (.int .i64 0), (.string ⟨#[]⟩), (.int .u64 0), (.int .u64 0), (.int .u64 0)]) 64 rfl Try.underlying24 info37 rfl (by decide) (by omega) (.slice none 0 0) ([] : List (S37)) l0 _ _ _ (fun _ => True) (fun _ => False) rfl rfl ?aO ?aR (fun _ _ h => h) (fun _ h => h.elim) ?aF ?aB ?aS ?aL ?_; (case aR => repeat (first | exact HR0.out | (with_reducible refine Kd.C_alloc ?_ _) | (with_reducible refine Kd.C_drewN ?_ _) | (with_reducible refine Kd.C_drew ?_))); (case aB => exact (by repeat (first | (with_reducible first | exact HB.out | apply below_alloc | apply pw_below_drewN | apply below_drew1) | exact HB.out))); (case aF => exact (fun _ _ => trivial)); (case aO => exact ((Kd.R_nil _ _ _ _ (fun _ => True)))); (case aS => exact (below_size (by repeat (first | (with_reducible first | exact HB.out | apply below_alloc | apply pw_below_drewN | apply below_drew1) | exact HB.out)))); (case aL => have := LMc2.out; omega); intro v152 w3 ho hb hg hat; rw [← Ny151.out] at ho; have n0_ := Aside0.mk (hb); have n1_ := Aside0.mk (ho); clear HB; have HB := n0_; have HO153 := n1_; clear n0_ n1_; clear ho hb hg hat))
    go_loopg [6, 7, 8, 9] k (fun kq v6 v7 v8 v9 w' => ∃ (x5_1 : List (S37)) (x6_1 : List (S40)) (x7_1 : Int) (x8_1 : Int) (x9_1 : Int), v7 = .int .u64 x7_1 ∧ v8 = .int .u64 x8_1 ∧ v9 = .int .i64 x9_1 ∧ Aside0 (dovetailref20_Assign.l0 kq x5_1 x6_1 x7_1 x8_1 x9_1 = some (r1, r2, r3)) ∧ Aside0 (kq ≤ k) ∧ Aside0 (Kd.R k37 37 w' w.heap.size (fun _ => True) v152 x5_1) ∧ Aside0 (Kd.S k40 40 w' w.heap.size (fun _ => True) v6 x6_1) ∧ Aside0 (Below w.heap.size w w'))
    case atStart => exact ⟨(y151), (([] : List (S40))), (65536), (0), (0), (by first | rfl | (simp; done) | (simp [*]; done)), (by first | rfl | (simp; done) | (simp [*]; done)), (by first | rfl | (simp; done) | (simp [*]; done)), H', ⟨Nat.le_refl _⟩, ⟨by (with_reducible repeat (first | apply Kd.R_alloc | apply Kd.R_drewN | apply Kd.R_drew)); exact HO153.out⟩, ⟨by first | exact Kd.S_nil _ _ _ _ _ | exact Kd.N_nil _ _ _ _ _ | exact Kd.V_nil _ _ _ _ _ | exact Kd.Q_nil _ _ _ _ _ | exact Kd.R_nil _ _ _ _ _⟩, ⟨by repeat (first | (with_reducible first | exact HB.out | apply below_alloc | apply pw_below_drewN | apply below_drew1) | exact HB.out)⟩⟩
    case round =>
      clear H'
      try clear c1
      try clear c2
      try clear p2
      obtain ⟨x5_1, x6_1, x7_1, x8_1, x9_1, rfl, rfl, rfl, HA, HK1, HO_5, HO_6, HB⟩ := hrel
      cases gk with
      | zero => exact absurd HA.out (by simp [dovetailref20_Assign.l0])
      | succ k1 =>
        have H := HA.out
        clear HA
        simp only [dovetailref20_Assign.l0] at H
        by_cases c4 : x9_1 < 3
        · rw [if_pos c4] at H
          have c4b0 : decide (x9_1 < 3) = true := decide_eq_true c4
          clear c4
          replace H := Option.bind_eq_some_iff.mp H
          obtain ⟨⟨t154, t155⟩, A50, H⟩ := H
          replace H : (if t155 = true then (dovetailref20_Assign.j1 k1 x5_1 x6_1 x7_1 x8_1 x9_1 t154 (decide (t154 > 140737488355328))) else (dovetailref20_Assign.j1 k1 x5_1 x6_1 x7_1 x8_1 x9_1 t154 true)) = some (r1, r2, r3) := H
          have A5 := Aside0.mk A50
          clear A50
          have HC6 := Aside0.mk H
          clear H
          go_upto_region 8 with (first | ((with_reducible refine gate_callee (f := 16) rfl ?_); refine goesL_ (some 25) rfl rfl Try.func16 (by kernel_rfl) rfl #[.int .u64 x7_1, .int .u64 4096] rfl (by (try simp only [List.map_toArray, List.map_cons, List.map_nil]); first | done | rfl | (simp only [List.length_drop, List.length_take]; rfl)) ?_; (with_reducible refine (dovetailref1_Up.calls x7_1 4096 t154 t155 _ A5.out).mono ?_); rintro e w' ⟨rfl, ⟨nd, rfl⟩⟩; refine ⟨_, rfl, ?_⟩))
          (try simp only [Act.put, List.setIfInBounds_toArray, List.set_cons_zero, List.set_cons_succ])
          go_cut [33] (fun v33 wc => ∃ (kq : Nat) (x33_5 : Bool), v33 = .bool x33_5 ∧ Aside0 (dovetailref20_Assign.j1 kq x5_1 x6_1 x7_1 x8_1 x9_1 t154 x33_5 = some (r1, r2, r3)) ∧ Aside0 (kq ≤ k1) ∧ Aside0 (Kd.R k37 37 wc w.heap.size (fun _ => True) v152 x5_1) ∧ Aside0 (Kd.S k40 40 wc w.heap.size (fun _ => True) u6 x6_1) ∧ Aside0 (Below w.heap.size w wc))
          case first =>
            have H := HC6.out
            clear HC6
            by_cases c7 : t155 = true
            · subst c7
              have H1 : (dovetailref20_Assign.j1 k1 x5_1 x6_1 x7_1 x8_1 x9_1 t154 (decide (t154 > 140737488355328))) = some (r1, r2, r3) := by rw [if_pos rfl] at H; exact H
              clear H
              have H := H1
              clear H1
              have H' := Aside0.mk H
              clear H
              go_wp2
              go_meet
              case rel => exact ⟨_, (decide (t154 > 140737488355328)), (by first | rfl | (simp; done) | (simp [*]; done)), H', ⟨by have := HK1.out; first | omega | exact Nat.le_refl _⟩, ⟨by (with_reducible repeat (first | apply Kd.R_alloc | apply Kd.R_drewN | apply Kd.R_drew)); exact HO_5.out⟩, ⟨by (with_reducible repeat (first | apply Kd.S_alloc | apply Kd.S_drewN | apply Kd.S_drew)); exact HO_6.out⟩, ⟨by repeat (first | (with_reducible first | exact HB.out | apply below_alloc | apply pw_below_drewN | apply below_drew1) | exact HB.out)⟩⟩
            · replace c7 := Bool.eq_false_iff.mpr c7
              subst c7
              have H1 : (dovetailref20_Assign.j1 k1 x5_1 x6_1 x7_1 x8_1 x9_1 t154 true) = some (r1, r2, r3) := by rw [if_neg (show ¬ (false = true) by decide)] at H; exact H
              clear H
              have H := H1
              clear H1
              have H' := Aside0.mk H
              clear H
              go_wp2
              go_meet
              case rel => exact ⟨_, (true), (by first | rfl | (simp; done) | (simp [*]; done)), H', ⟨by have := HK1.out; first | omega | exact Nat.le_refl _⟩, ⟨by (with_reducible repeat (first | apply Kd.R_alloc | apply Kd.R_drewN | apply Kd.R_drew)); exact HO_5.out⟩, ⟨by (with_reducible repeat (first | apply Kd.S_alloc | apply Kd.S_drewN | apply Kd.S_drew)); exact HO_6.out⟩, ⟨by repeat (first | (with_reducible first | exact HB.out | apply below_alloc | apply pw_below_drewN | apply below_drew1) | exact HB.out)⟩⟩
          case rest =>
            clear HC6
            try clear c1
            try clear c2
            try clear p2
            try clear c4
            try clear c4b0
            try clear c7
            try clear p2
            obtain ⟨kq, x33_5, rfl, HA, HJ5, HO_5, HO_6, HB⟩ := hcut
            cases kq with
            | zero => exact absurd HA.out (by simp [dovetailref20_Assign.j1])
            | succ kj5 =>
              have H := HA.out
              clear HA
              simp only [dovetailref20_Assign.j1] at H
              have HC8 := Aside0.mk H
              clear H
              go_upto_if 33 with (fail)
              go_cut [10] (fun v10 wc => ∃ (kq : Nat) (x10_7 : Int), v10 = .int .u64 x10_7 ∧ Aside0 (dovetailref20_Assign.j2 kq x5_1 x6_1 x7_1 x8_1 x9_1 x10_7 = some (r1, r2, r3)) ∧ Aside0 (kq ≤ kj5) ∧ Aside0 (Kd.R k37 37 wc w.heap.size (fun _ => True) v152 x5_1) ∧ Aside0 (Kd.S k40 40 wc w.heap.size (fun _ => True) u6 x6_1) ∧ Aside0 (Below w.heap.size w wc))
              case first =>
                have H := HC8.out
                clear HC8
                by_cases c9 : x33_5 = true
                · subst c9
                  have H1 : (dovetailref20_Assign.j2 kj5 x5_1 x6_1 x7_1 x8_1 x9_1 140737488355328) = some (r1, r2, r3) := by rw [if_pos rfl] at H; exact H
                  clear H
                  have H := H1
                  clear H1
                  have H' := Aside0.mk H
                  clear H
                  go_wp2
                  go_meet
                  case rel => exact ⟨_, (140737488355328), (by first | rfl | (simp; done) | (simp [*]; done)), H', ⟨by have := HK1.out; have := HJ5.out; first | omega | exact Nat.le_refl _⟩, ⟨by (with_reducible repeat (first | apply Kd.R_alloc | apply Kd.R_drewN | apply Kd.R_drew)); exact HO_5.out⟩, ⟨by (with_reducible repeat (first | apply Kd.S_alloc | apply Kd.S_drewN | apply Kd.S_drew)); exact HO_6.out⟩, ⟨by repeat (first | (with_reducible first | exact HB.out | apply below_alloc | apply pw_below_drewN | apply below_drew1) | exact HB.out)⟩⟩
                · replace c9 := Bool.eq_false_iff.mpr c9
                  subst c9
                  have H1 : (dovetailref20_Assign.j2 kj5 x5_1 x6_1 x7_1 x8_1 x9_1 t154) = some (r1, r2, r3) := by rw [if_neg (show ¬ (false = true) by decide)] at H; exact H
                  clear H
                  have H := H1
                  clear H1
                  have H' := Aside0.mk H
                  clear H
                  go_wp2
                  go_meet
                  case rel => exact ⟨_, (t154), (by first | rfl | (simp; done) | (simp [*]; done)), H', ⟨by have := HK1.out; have := HJ5.out; first | omega | exact Nat.le_refl _⟩, ⟨by (with_reducible repeat (first | apply Kd.R_alloc | apply Kd.R_drewN | apply Kd.R_drew)); exact HO_5.out⟩, ⟨by (with_reducible repeat (first | apply Kd.S_alloc | apply Kd.S_drewN | apply Kd.S_drew)); exact HO_6.out⟩, ⟨by repeat (first | (with_reducible first | exact HB.out | apply below_alloc | apply pw_below_drewN | apply below_drew1) | exact HB.out)⟩⟩
              case rest =>
                clear HC8
                try clear c1
                try clear c2
                try clear p2
                try clear c4
                try clear c4b0
                try clear c7
                try clear c9
                try clear p2
                obtain ⟨kq, x10_7, rfl, HA, HJ7, HO_5, HO_6, HB⟩ := hcut
                cases kq with
                | zero => exact absurd HA.out (by simp [dovetailref20_Assign.j2])
                | succ kj7 =>
                  have H := HA.out
                  clear HA
                  simp only [dovetailref20_Assign.j2] at H
                  have H' := Aside0.mk H
                  clear H
                  go_wp2
                  go_loopg [12, 13, 14] kj7 (fun kq v12 v13 v14 w' => ∃ (x5_4 : List (S37)) (x12_4 : Int) (x13_4 : Bool) (x14_4 : Int), v12 = .int .u64 x12_4 ∧ v13 = .bool x13_4 ∧ v14 = .int .i64 x14_4 ∧ Aside0 (dovetailref20_Assign.l1 kq x5_4 x6_1 x7_1 x8_1 x9_1 x10_7 x12_4 x13_4 x14_4 = some (r1, r2, r3)) ∧ Aside0 (kq ≤ kj7) ∧ Aside0 (Kd.R k37 37 w' w.heap.size (fun _ => True) v152 x5_4) ∧ Aside0 (Kd.S k40 40 w' w.heap.size (fun _ => True) u6 x6_1) ∧ Aside0 (Below w.heap.size w w'))
                  case atStart => exact ⟨(x5_1), (x10_7), (false), (0), (by first | rfl | (simp; done) | (simp [*]; done)), (by first | rfl | (simp; done) | (simp [*]; done)), (by first | rfl | (simp; done) | (simp [*]; done)), H', ⟨Nat.le_refl _⟩, ⟨by (with_reducible repeat (first | apply Kd.R_alloc | apply Kd.R_drewN | apply Kd.R_drew)); exact HO_5.out⟩, ⟨by (with_reducible repeat (first | apply Kd.S_alloc | apply Kd.S_drewN | apply Kd.S_drew)); exact HO_6.out⟩, ⟨by repeat (first | (with_reducible first | exact HB.out | apply below_alloc | apply pw_below_drewN | apply below_drew1) | exact HB.out)⟩⟩
                  case round =>
                    clear H'
                    try clear c1
                    try clear c2
                    try clear p2
                    try clear c4
                    try clear c4b0
                    try clear c7
                    try clear c9
                    try clear p2
                    obtain ⟨x5_4, x12_4, x13_4, x14_4, rfl, rfl, rfl, HA, HK4, HO_5, HO_6, HB⟩ := hrel
                    cases gk with
                    | zero => exact absurd HA.out (by simp [dovetailref20_Assign.l1])
                    | succ k4 =>
                      have H := HA.out
                      clear HA
                      simp only [dovetailref20_Assign.l1] at H
                      by_cases c10 : x14_4 < (x5_4.length : Int)
                      · rw [if_pos c10] at H
                        have c10b0 : decide (x14_4 < (x5_4.length : Int)) = true := decide_eq_true c10
                        clear c10
                        have HC11 := Aside0.mk H
                        clear H
                        obtain ⟨Ao12, co12, eo12⟩ := Kd.R_slice HO_5.out
                        subst eo12
                        go_upto_region 15 with (fail)
                        go_cut [64] (fun v64 wc => ∃ (kq : Nat) (x64_10 : Bool), v64 = .bool x64_10 ∧ Aside0 (dovetailref20_Assign.j4 kq x5_4 x6_1 x7_1 x8_1 x9_1 x10_7 x12_4 x13_4 x14_4 x64_10 = some (r1, r2, r3)) ∧ Aside0 (kq ≤ k4) ∧ Aside0 (Kd.R k37 37 wc w.heap.size (fun _ => True) (.slice Ao12 x5_4.length co12) x5_4) ∧ Aside0 (Kd.S k40 40 wc w.heap.size (fun _ => True) u6 x6_1) ∧ Aside0 (Below w.heap.size w wc))
                        case first =>
                          have H := HC11.out
                          clear HC11
                          by_cases c13 : 0 ≤ x14_4
                          · rw [if_pos c13] at H
                            have c13b0 : decide (0 ≤ x14_4) = true := decide_eq_true c13
                            clear c13
                            (first | rw [c13b0] | (simp only [i64_w, i32_w]; rw [c13b0]) | skip)
                            by_cases c14 : ((rd_T37 x5_4 x14_4).f2) < 0
                            · rw [if_pos c14] at H
                              have c14b0 : decide (((rd_T37 x5_4 x14_4).f2) < 0) = true := decide_eq_true c14
                              clear c14
                              have H' := Aside0.mk H
                              clear H
                              have p156 : 0 ≤ (x14_4 : Int) := of_decide_eq_true (by first | (with_reducible assumption) | assumption)
                              have q156 : x14_4 < (x5_4.length : Int) := of_decide_eq_true (by first | (with_reducible assumption) | assumption)
                              obtain ⟨ad156, e156, hx156_0, hx156_1, hx156_2, hx156_3, hx156_4, hx156_5, hx156_6⟩ := at_T37 (Kd.R_reads' HO_5.out).2.2 x14_4 p156 q156
                              cases e156
                              replace p156 := eq_true p156
                              replace q156 := eq_true q156
                              go_wp2
                              go_meet
                              case rel => exact ⟨_, (true), (by first | rfl | (simp; done) | (simp [*]; done)), H', ⟨by have := HK1.out; have := HJ5.out; have := HJ7.out; have := HK4.out; first | omega | exact Nat.le_refl _⟩, ⟨by (with_reducible repeat (first | apply Kd.R_alloc | apply Kd.R_drewN | apply Kd.R_drew)); exact HO_5.out⟩, ⟨by (with_reducible repeat (first | apply Kd.S_alloc | apply Kd.S_drewN | apply Kd.S_drew)); exact HO_6.out⟩, ⟨by repeat (first | (with_reducible first | exact HB.out | apply below_alloc | apply pw_below_drewN | apply below_drew1) | exact HB.out)⟩⟩
                            · rw [if_neg c14] at H
                              have c14b0 : decide (((rd_T37 x5_4 x14_4).f2) < 0) = false := decide_eq_false c14
                              clear c14
                              by_cases c15 : ((rd_T37 x5_4 x14_4).f2) ≥ 4
                              · rw [if_pos c15] at H
                                have c15b0 : decide (4 ≤ ((rd_T37 x5_4 x14_4).f2)) = true := decide_eq_true c15
                                clear c15
                                have H' := Aside0.mk H
                                clear H
                                have p156 : 0 ≤ (x14_4 : Int) := of_decide_eq_true (by first | (with_reducible assumption) | assumption)
                                have q156 : x14_4 < (x5_4.length : Int) := of_decide_eq_true (by first | (with_reducible assumption) | assumption)
                                obtain ⟨ad156, e156, hx156_0, hx156_1, hx156_2, hx156_3, hx156_4, hx156_5, hx156_6⟩ := at_T37 (Kd.R_reads' HO_5.out).2.2 x14_4 p156 q156
                                cases e156
                                replace p156 := eq_true p156
                                replace q156 := eq_true q156
                                have p157 : 0 ≤ (x14_4 : Int) := of_decide_eq_true (by first | (with_reducible assumption) | assumption)
                                have q157 : x14_4 < (x5_4.length : Int) := of_decide_eq_true (by first | (with_reducible assumption) | assumption)
                                obtain ⟨ad157, e157, hx157_0, hx157_1, hx157_2, hx157_3, hx157_4, hx157_5, hx157_6⟩ := at_T37 (Kd.R_reads' HO_5.out).2.2 x14_4 p157 q157
                                obtain rfl : ad156 = ad157 := (by injection e157)
                                replace p157 := eq_true p157
                                replace q157 := eq_true q157
                                go_wp2
                                go_meet
                                case rel => exact ⟨_, (true), (by first | rfl | (simp; done) | (simp [*]; done)), H', ⟨by have := HK1.out; have := HJ5.out; have := HJ7.out; have := HK4.out; first | omega | exact Nat.le_refl _⟩, ⟨by (with_reducible repeat (first | apply Kd.R_alloc | apply Kd.R_drewN | apply Kd.R_drew)); exact HO_5.out⟩, ⟨by (with_reducible repeat (first | apply Kd.S_alloc | apply Kd.S_drewN | apply Kd.S_drew)); exact HO_6.out⟩, ⟨by repeat (first | (with_reducible first | exact HB.out | apply below_alloc | apply pw_below_drewN | apply below_drew1) | exact HB.out)⟩⟩
                              · rw [if_neg c15] at H
                                have c15b0 : decide (4 ≤ ((rd_T37 x5_4 x14_4).f2)) = false := decide_eq_false c15
                                clear c15
                                replace H := Option.bind_eq_some_iff.mp H
                                obtain ⟨t159, A160, H⟩ := H
                                replace H : (dovetailref20_Assign.j4 k4 x5_4 x6_1 x7_1 x8_1 x9_1 x10_7 x12_4 x13_4 x14_4 (t159 != x9_1)) = some (r1, r2, r3) := H
                                have A16 := Aside0.mk A160
                                clear A160
                                have H' := Aside0.mk H
                                clear H
                                have p156 : 0 ≤ (x14_4 : Int) := of_decide_eq_true (by first | (with_reducible assumption) | assumption)
                                have q156 : x14_4 < (x5_4.length : Int) := of_decide_eq_true (by first | (with_reducible assumption) | assumption)
                                obtain ⟨ad156, e156, hx156_0, hx156_1, hx156_2, hx156_3, hx156_4, hx156_5, hx156_6⟩ := at_T37 (Kd.R_reads' HO_5.out).2.2 x14_4 p156 q156
                                cases e156
                                replace p156 := eq_true p156
                                replace q156 := eq_true q156
                                have p157 : 0 ≤ (x14_4 : Int) := of_decide_eq_true (by first | (with_reducible assumption) | assumption)
                                have q157 : x14_4 < (x5_4.length : Int) := of_decide_eq_true (by first | (with_reducible assumption) | assumption)
                                obtain ⟨ad157, e157, hx157_0, hx157_1, hx157_2, hx157_3, hx157_4, hx157_5, hx157_6⟩ := at_T37 (Kd.R_reads' HO_5.out).2.2 x14_4 p157 q157
                                obtain rfl : ad156 = ad157 := (by injection e157)
                                replace p157 := eq_true p157
                                replace q157 := eq_true q157
                                have p158 : 0 ≤ (x14_4 : Int) := of_decide_eq_true (by first | (with_reducible assumption) | assumption)
                                have q158 : x14_4 < (x5_4.length : Int) := of_decide_eq_true (by first | (with_reducible assumption) | assumption)
                                obtain ⟨ad158, e158, hx158_0, hx158_1, hx158_2, hx158_3, hx158_4, hx158_5, hx158_6⟩ := at_T37 (Kd.R_reads' HO_5.out).2.2 x14_4 p158 q158
                                obtain rfl : ad156 = ad158 := (by injection e158)
                                replace p158 := eq_true p158
                                replace q158 := eq_true q158
                                go_wp2_with (first | (go_at_call 17; (with_reducible refine (dovetailref20_segment.calls ((rd_T37 x5_4 x14_4).f2) t159 _ A16.out).mono ?_); rintro e w17 ⟨rfl, hb⟩; have n0_ := Aside0.mk (Kd.R_below (by (with_reducible repeat (first | apply Kd.R_alloc | apply Kd.R_drewN | apply Kd.R_drew)); exact HO_5.out) hb); have n1_ := Aside0.mk (Kd.S_below (by (with_reducible repeat (first | apply Kd.S_alloc | apply Kd.S_drewN | apply Kd.S_drew)); exact HO_6.out) hb); have n2_ := Aside0.mk (below_step (by repeat (first | (with_reducible first | exact HB.out | apply below_alloc | apply pw_below_drewN | apply below_drew1) | exact HB.out)) hb); clear HO_5; clear HO_6; clear HB; have HO_5 := n0_; have HO_6 := n1_; have HB := n2_; clear n0_ n1_ n2_; (try clear hb); (try clear hb2); (try clear hk); (try clear hi)))
                                go_meet
                                case rel => exact ⟨_, ((t159 != x9_1)), (by first | rfl | (simp; done) | (simp [*]; done)), H', ⟨by have := HK1.out; have := HJ5.out; have := HJ7.out; have := HK4.out; first | omega | exact Nat.le_refl _⟩, ⟨by (with_reducible repeat (first | apply Kd.R_alloc | apply Kd.R_drewN | apply Kd.R_drew)); exact HO_5.out⟩, ⟨by (with_reducible repeat (first | apply Kd.S_alloc | apply Kd.S_drewN | apply Kd.S_drew)); exact HO_6.out⟩, ⟨by repeat (first | (with_reducible first | exact HB.out | apply below_alloc | apply pw_below_drewN | apply below_drew1) | exact HB.out)⟩⟩
                          · rw [if_neg c13] at H
                            exact absurd H (by simp)
                        case rest =>
                          clear HC11
                          try clear c1
                          try clear p1
                          try clear q1
                          try clear hx1
                          try clear c2
                          try clear p2
                          try clear c4
                          try clear c4b0
                          try clear c7
                          try clear c9
                          try clear c10
                          try clear c10b0
                          try clear c13
                          try clear c13b0
                          try clear c14
                          try clear c14b0
                          try clear c15
                          try clear c15b0
                          try clear p15
                          try clear q15
                          try clear hx15
                          try clear c16
                          try clear hx156_0
                          try clear hx156_1
                          try clear hx156_2
                          try clear hx156_3
                          try clear hx156_4
                          try clear hx156_5
                          try clear hx156_6
                          try clear hx157_0
                          try clear hx157_1
                          try clear hx157_2
                          try clear hx157_3
                          try clear hx157_4
                          try clear hx157_5
                          try clear hx157_6
                          try clear hx158_0
                          try clear hx158_1
                          try clear hx158_2
                          try clear hx158_3
                          try clear hx158_4
                          try clear hx158_5
                          try clear hx158_6
                          try clear p156
                          try clear p157
                          try clear p158
                          try clear p2
                          try clear q156
                          try clear q157
                          try clear q158
                          obtain ⟨kq, x64_10, rfl, HA, HJ10, HO_5, HO_6, HB⟩ := hcut
                          cases kq with
                          | zero => exact absurd HA.out (by simp [dovetailref20_Assign.j4])
                          | succ kj10 =>
                            have H := HA.out
                            clear HA
                            simp only [dovetailref20_Assign.j4] at H
                            by_cases c18 : x64_10 = true
                            · subst c18
                              have H1 : (dovetailref20_Assign.l1 kj10 x5_4 x6_1 x7_1 x8_1 x9_1 x10_7 x12_4 x13_4 (wrap64 (x14_4 + 1))) = some (r1, r2, r3) := by rw [if_pos rfl] at H; exact H
                              clear H
                              have H := H1
                              clear H1
                              have H' := Aside0.mk H
                              clear H
                              go_wp2
                              go_roundg kj10
                              case measure => have := HK1.out; have := HJ5.out; have := HJ7.out; have := HK4.out; have := HJ10.out; omega
                              case rel => exact ⟨(x5_4), (x12_4), (x13_4), (wrap64 (x14_4 + 1)), (by first | rfl | (simp; done) | (simp [*]; done)), (by first | rfl | (simp; done) | (simp [*]; done)), (by first | rfl | (simp; done) | (simp [*]; done)), H', ⟨by have := HK1.out; have := HJ5.out; have := HJ7.out; have := HK4.out; have := HJ10.out; omega⟩, ⟨by (with_reducible repeat (first | apply Kd.R_alloc | apply Kd.R_drewN | apply Kd.R_drew)); exact HO_5.out⟩, ⟨by (with_reducible repeat (first | apply Kd.S_alloc | apply Kd.S_drewN | apply Kd.S_drew)); exact HO_6.out⟩, ⟨by repeat (first | (with_reducible first | exact HB.out | apply below_alloc | apply pw_below_drewN | apply below_drew1) | exact HB.out)⟩⟩
                            · replace c18 := Bool.eq_false_iff.mpr c18
                              subst c18
                              have H1 : (if 0 ≤ x14_4 then (if x14_4 < (x5_4.length : Int) then ((dovetailref1_Up.f x12_4 ((rd_T37 x5_4 x14_4).f4)).bind fun bt161 => (if bt161.2 = true then (if bt161.1 > 140737488355328 then (some (([] : List (S37)), ([] : List (S40)), 55)) else (if ((rd_T37 x5_4 x14_4).f5) > (IntKind.u64.wrap (140737488355328 - bt161.1)) then (some (([] : List (S37)), ([] : List (S40)), 55)) else ((some (x5_4.set (x14_4 : Int).toNat (⟨(rd_T37 x5_4 x14_4).f0, (rd_T37 x5_4 x14_4).f1, (rd_T37 x5_4 x14_4).f2, (rd_T37 x5_4 x14_4).f3, (rd_T37 x5_4 x14_4).f4, (rd_T37 x5_4 x14_4).f5, bt161.1⟩ : S37) : List (S37))).bind fun y164 => (dovetailref20_Assign.l1 kj10 y164 x6_1 x7_1 x8_1 x9_1 x10_7 (IntKind.u64.wrap (bt161.1 + ((rd_T37 y164 x14_4).f5))) true (wrap64 (x14_4 + 1)))))) else (some (([] : List (S37)), ([] : List (S40)), 55)))) else (none)) else (none)) = some (r1, r2, r3) := by rw [if_neg (show ¬ (false = true) by decide)] at H; exact H
                              clear H
                              have H := H1
                              clear H1
                              by_cases c19 : 0 ≤ x14_4
                              · rw [if_pos c19] at H
                                have c19b0 : decide (0 ≤ x14_4) = true := decide_eq_true c19
                                clear c19
                                by_cases c20 : x14_4 < (x5_4.length : Int)
                                · rw [if_pos c20] at H
                                  have c20b0 : decide (x14_4 < (x5_4.length : Int)) = true := decide_eq_true c20
                                  clear c20
                                  replace H := Option.bind_eq_some_iff.mp H
                                  obtain ⟨⟨t161, t162⟩, A210, H⟩ := H
                                  replace H : (if t162 = true then (if t161 > 140737488355328 then (some (([] : List (S37)), ([] : List (S40)), 55)) else (if ((rd_T37 x5_4 x14_4).f5) > (IntKind.u64.wrap (140737488355328 - t161)) then (some (([] : List (S37)), ([] : List (S40)), 55)) else ((some (x5_4.set (x14_4 : Int).toNat (⟨(rd_T37 x5_4 x14_4).f0, (rd_T37 x5_4 x14_4).f1, (rd_T37 x5_4 x14_4).f2, (rd_T37 x5_4 x14_4).f3, (rd_T37 x5_4 x14_4).f4, (rd_T37 x5_4 x14_4).f5, t161⟩ : S37) : List (S37))).bind fun y164 => (dovetailref20_Assign.l1 kj10 y164 x6_1 x7_1 x8_1 x9_1 x10_7 (IntKind.u64.wrap (t161 + ((rd_T37 y164 x14_4).f5))) true (wrap64 (x14_4 + 1)))))) else (some (([] : List (S37)), ([] : List (S40)), 55))) = some (r1, r2, r3) := H
                                  have A21 := Aside0.mk A210
                                  clear A210
                                  by_cases c22 : t162 = true
                                  · subst c22
                                    have H1 : (if t161 > 140737488355328 then (some (([] : List (S37)), ([] : List (S40)), 55)) else (if ((rd_T37 x5_4 x14_4).f5) > (IntKind.u64.wrap (140737488355328 - t161)) then (some (([] : List (S37)), ([] : List (S40)), 55)) else ((some (x5_4.set (x14_4 : Int).toNat (⟨(rd_T37 x5_4 x14_4).f0, (rd_T37 x5_4 x14_4).f1, (rd_T37 x5_4 x14_4).f2, (rd_T37 x5_4 x14_4).f3, (rd_T37 x5_4 x14_4).f4, (rd_T37 x5_4 x14_4).f5, t161⟩ : S37) : List (S37))).bind fun y164 => (dovetailref20_Assign.l1 kj10 y164 x6_1 x7_1 x8_1 x9_1 x10_7 (IntKind.u64.wrap (t161 + ((rd_T37 y164 x14_4).f5))) true (wrap64 (x14_4 + 1)))))) = some (r1, r2, r3) := by rw [if_pos rfl] at H; exact H
                                    clear H
                                    have H := H1
                                    clear H1
                                    by_cases c23 : t161 > 140737488355328
                                    · rw [if_pos c23] at H
                                      have c23b0 : decide (140737488355328 < t161) = true := decide_eq_true c23
                                      clear c23
                                      simp only [Option.some.injEq, Prod.mk.injEq] at H
                                      obtain ⟨rfl, rfl, rfl⟩ := H
                                      have p160 : 0 ≤ (x14_4 : Int) := of_decide_eq_true (by first | (with_reducible assumption) | assumption)
                                      have q160 : x14_4 < (x5_4.length : Int) := of_decide_eq_true (by first | (with_reducible assumption) | assumption)
                                      obtain ⟨ad160, e160, hx160_0, hx160_1, hx160_2, hx160_3, hx160_4, hx160_5, hx160_6⟩ := at_T37 (Kd.R_reads' HO_5.out).2.2 x14_4 p160 q160
                                      cases e160
                                      replace p160 := eq_true p160
                                      replace q160 := eq_true q160
                                      go_wp2_with (first | ((with_reducible refine gate_callee (f := 16) rfl ?_); refine goesL_ (some 72) rfl rfl Try.func16 (by kernel_rfl) rfl #[.int .u64 x12_4, .int .u64 ((rd_T37 x5_4 x14_4).f4)] rfl (by (try simp only [List.map_toArray, List.map_cons, List.map_nil]); first | done | rfl | (simp only [List.length_drop, List.length_take]; rfl)) ?_; (with_reducible refine (dovetailref1_Up.calls x12_4 ((rd_T37 x5_4 x14_4).f4) t161 true _ A21.out).mono ?_); rintro e w' ⟨rfl, ⟨nd, rfl⟩⟩; refine ⟨_, rfl, ?_⟩))
                                      go_ret3
                                      exact ⟨_, _, by first | rfl | (simp [errW_none, errW_some] <;> rfl) | (simp [*, errW_none, errW_some] <;> rfl), by first | exact Kd.R_nil _ _ _ _ _ | exact Kd.N_nil _ _ _ _ _ | exact Kd.V_nil _ _ _ _ _ | exact Kd.Q_nil _ _ _ _ _ | exact Kd.S_nil _ _ _ _ _, by first | exact Kd.S_nil _ _ _ _ _ | exact Kd.N_nil _ _ _ _ _ | exact Kd.V_nil _ _ _ _ _ | exact Kd.Q_nil _ _ _ _ _ | exact Kd.R_nil _ _ _ _ _, by repeat (first | (with_reducible first | exact HB.out | apply below_alloc | apply pw_below_drewN | apply below_drew1) | exact HB.out)⟩
                                    · rw [if_neg c23] at H
                                      have c23b0 : decide (140737488355328 < t161) = false := decide_eq_false c23
                                      clear c23
                                      by_cases c24 : ((rd_T37 x5_4 x14_4).f5) > (IntKind.u64.wrap (140737488355328 - t161))
                                      · rw [if_pos c24] at H
                                        have c24b0 : decide ((IntKind.u64.wrap (140737488355328 - t161)) < ((rd_T37 x5_4 x14_4).f5)) = true := decide_eq_true c24
                                        clear c24
                                        simp only [Option.some.injEq, Prod.mk.injEq] at H
                                        obtain ⟨rfl, rfl, rfl⟩ := H
                                        have p160 : 0 ≤ (x14_4 : Int) := of_decide_eq_true (by first | (with_reducible assumption) | assumption)
                                        have q160 : x14_4 < (x5_4.length : Int) := of_decide_eq_true (by first | (with_reducible assumption) | assumption)
                                        obtain ⟨ad160, e160, hx160_0, hx160_1, hx160_2, hx160_3, hx160_4, hx160_5, hx160_6⟩ := at_T37 (Kd.R_reads' HO_5.out).2.2 x14_4 p160 q160
                                        cases e160
                                        replace p160 := eq_true p160
                                        replace q160 := eq_true q160
                                        go_wp2_with (first | ((with_reducible refine gate_callee (f := 16) rfl ?_); refine goesL_ (some 72) rfl rfl Try.func16 (by kernel_rfl) rfl #[.int .u64 x12_4, .int .u64 ((rd_T37 x5_4 x14_4).f4)] rfl (by (try simp only [List.map_toArray, List.map_cons, List.map_nil]); first | done | rfl | (simp only [List.length_drop, List.length_take]; rfl)) ?_; (with_reducible refine (dovetailref1_Up.calls x12_4 ((rd_T37 x5_4 x14_4).f4) t161 true _ A21.out).mono ?_); rintro e w' ⟨rfl, ⟨nd, rfl⟩⟩; refine ⟨_, rfl, ?_⟩; have p163 : 0 ≤ (x14_4 : Int) := of_decide_eq_true (by first | (with_reducible assumption) | assumption); have q163 : x14_4 < (x5_4.length : Int) := of_decide_eq_true (by first | (with_reducible assumption) | assumption); obtain ⟨ad163, e163, hx163_0, hx163_1, hx163_2, hx163_3, hx163_4, hx163_5, hx163_6⟩ := at_T37 (Kd.R_reads' HO_5.out).2.2 x14_4 p163 q163; obtain rfl : ad160 = ad163 := (by injection e163); replace p163 := eq_true p163; replace q163 := eq_true q163))
                                        go_ret3
                                        exact ⟨_, _, by first | rfl | (simp [errW_none, errW_some] <;> rfl) | (simp [*, errW_none, errW_some] <;> rfl), by first | exact Kd.R_nil _ _ _ _ _ | exact Kd.N_nil _ _ _ _ _ | exact Kd.V_nil _ _ _ _ _ | exact Kd.Q_nil _ _ _ _ _ | exact Kd.S_nil _ _ _ _ _, by first | exact Kd.S_nil _ _ _ _ _ | exact Kd.N_nil _ _ _ _ _ | exact Kd.V_nil _ _ _ _ _ | exact Kd.Q_nil _ _ _ _ _ | exact Kd.R_nil _ _ _ _ _, by repeat (first | (with_reducible first | exact HB.out | apply below_alloc | apply pw_below_drewN | apply below_drew1) | exact HB.out)⟩
                                      · rw [if_neg c24] at H
                                        have c24b0 : decide ((IntKind.u64.wrap (140737488355328 - t161)) < ((rd_T37 x5_4 x14_4).f5)) = false := decide_eq_false c24
                                        clear c24
                                        obtain ⟨y164, hy164⟩ : ∃ y_ : List (S37), y_ = (x5_4.set (x14_4 : Int).toNat (⟨(rd_T37 x5_4 x14_4).f0, (rd_T37 x5_4 x14_4).f1, (rd_T37 x5_4 x14_4).f2, (rd_T37 x5_4 x14_4).f3, (rd_T37 x5_4 x14_4).f4, (rd_T37 x5_4 x14_4).f5, t161⟩ : S37)) := ⟨_, rfl⟩
                                        replace H : (dovetailref20_Assign.l1 kj10 y164 x6_1 x7_1 x8_1 x9_1 x10_7 (IntKind.u64.wrap (t161 + ((rd_T37 y164 x14_4).f5))) true (wrap64 (x14_4 + 1))) = some (r1, r2, r3) := by first | (rw [hy164]; with_reducible exact H) | (have H2_ := (Option.bind_some _ _).symm.trans H; rw [hy164]; with_reducible exact H2_) | (have H2_ := (Option.bind_some _ _).symm.trans H; with_reducible exact H2_) | with_reducible exact H | (rw [hy164]; exact H) | exact H
                                        have Ny164 := Aside0.mk hy164
                                        clear hy164
                                        have H' := Aside0.mk H
                                        clear H
                                        have p160 : 0 ≤ (x14_4 : Int) := of_decide_eq_true (by first | (with_reducible assumption) | assumption)
                                        have q160 : x14_4 < (x5_4.length : Int) := of_decide_eq_true (by first | (with_reducible assumption) | assumption)
                                        obtain ⟨ad160, e160, hx160_0, hx160_1, hx160_2, hx160_3, hx160_4, hx160_5, hx160_6⟩ := at_T37 (Kd.R_reads' HO_5.out).2.2 x14_4 p160 q160
                                        cases e160
                                        replace p160 := eq_true p160
                                        replace q160 := eq_true q160
                                        go_wp2_with (first | ((with_reducible refine gate_callee (f := 16) rfl ?_); refine goesL_ (some 72) rfl rfl Try.func16 (by kernel_rfl) rfl #[.int .u64 x12_4, .int .u64 ((rd_T37 x5_4 x14_4).f4)] rfl (by (try simp only [List.map_toArray, List.map_cons, List.map_nil]); first | done | rfl | (simp only [List.length_drop, List.length_take]; rfl)) ?_; (with_reducible refine (dovetailref1_Up.calls x12_4 ((rd_T37 x5_4 x14_4).f4) t161 true _ A21.out).mono ?_); rintro e w' ⟨rfl, ⟨nd, rfl⟩⟩; refine ⟨_, rfl, ?_⟩; (try (rw [drewN_self wc]; generalize hq_ : World.drewN wc _ = wc; have n0_ : Aside0 (Kd.R k37 37 wc w.heap.size (fun _ => True) (.slice (some ad160) x5_4.length co12) x5_4) := ⟨by rw [← hq_]; exact (by (with_reducible repeat (first | apply Kd.R_alloc | apply Kd.R_drewN | apply Kd.R_drew)); exact HO_5.out)⟩; have n1_ : Aside0 (Kd.S k40 40 wc w.heap.size (fun _ => True) u6 x6_1) := ⟨by rw [← hq_]; exact (by (with_reducible repeat (first | apply Kd.S_alloc | apply Kd.S_drewN | apply Kd.S_drew)); exact HO_6.out)⟩; have n2_ : Aside0 (Below w.heap.size w wc) := ⟨by rw [← hq_]; exact (by repeat (first | (with_reducible first | exact HB.out | apply below_alloc | apply pw_below_drewN | apply below_drew1) | exact HB.out))⟩; clear HO_5 HO_6 HB hq_; have HO_5 := n0_; have HO_6 := n1_; have HB := n2_; clear n0_ n1_ n2_)); have p163 : 0 ≤ (x14_4 : Int) := of_decide_eq_true (by first | (with_reducible assumption) | assumption); have q163 : x14_4 < (x5_4.length : Int) := of_decide_eq_true (by first | (with_reducible assumption) | assumption); obtain ⟨ad163, e163, hx163_0, hx163_1, hx163_2, hx163_3, hx163_4, hx163_5, hx163_6⟩ := at_T37 (Kd.R_reads' HO_5.out).2.2 x14_4 p163 q163; obtain rfl : ad160 = ad163 := (by injection e163); replace p163 := eq_true p163; replace q163 := eq_true q163; have p25 : 0 ≤ (x14_4 : Int) := of_decide_eq_true (by first | (with_reducible assumption) | assumption); have q25 : (x14_4 : Int) < ((x5_4.length : Int) : Int) := of_decide_eq_true (by first | (with_reducible assumption) | assumption); obtain ⟨go25, co25, eo25, gb25, gl25, cl25, HG25⟩ := Kd.R_form HO_5.out (by omega); (first | cases eo25 | (injection eo25 with ea_ en_ ec_; (first | subst ea_ | (injection ea_ with ea_; subst ea_)); subst ec_; clear en_)); have GB25 := Aside0.mk gb25; have GG25 := Aside0.mk HG25; clear gb25 gl25 HG25; (first | simp only [add_plain] at hx160_0 | skip); (first | simp only [add_plain] at hx160_1 | skip); (first | simp only [add_plain] at hx160_2 | skip); (first | simp only [add_plain] at hx160_3 | skip); (first | simp only [add_plain] at hx160_4 | skip); (first | simp only [add_plain] at hx160_5 | skip); (first | simp only [add_plain] at hx160_6 | skip); (first | simp only [add_plain] at hx163_0 | skip); (first | simp only [add_plain] at hx163_1 | skip); (first | simp only [add_plain] at hx163_2 | skip); (first | simp only [add_plain] at hx163_3 | skip); (first | simp only [add_plain] at hx163_4 | skip); (first | simp only [add_plain] at hx163_5 | skip); (first | simp only [add_plain] at hx163_6 | skip); obtain ⟨ce25, hcl25, hM25, hcc25, hfr25⟩ := Kd.R_elem HO_5.out z37 (x14_4 : Int) p25 q25; obtain rfl := k37_openM hM25; have hx25_0 : wc.cell? ⟨go25, (x14_4 : Int).toNat * 7, none⟩ = some (.int .i64 ((rd_T37 x5_4 x14_4).f0)) := hcc25 0 _ rfl; have hx25_1 : wc.cell? ⟨go25, (x14_4 : Int).toNat * 7 + 1, none⟩ = some (.int .i64 ((rd_T37 x5_4 x14_4).f1)) := hcc25 1 _ rfl; have hx25_2 : wc.cell? ⟨go25, (x14_4 : Int).toNat * 7 + 2, none⟩ = some (.int .i64 ((rd_T37 x5_4 x14_4).f2)) := hcc25 2 _ rfl; have hx25_3 : wc.cell? ⟨go25, (x14_4 : Int).toNat * 7 + 3, none⟩ = some (.string ((rd_T37 x5_4 x14_4).f3)) := hcc25 3 _ rfl; have hx25_4 : wc.cell? ⟨go25, (x14_4 : Int).toNat * 7 + 4, none⟩ = some (.int .u64 ((rd_T37 x5_4 x14_4).f4)) := hcc25 4 _ rfl; have hx25_5 : wc.cell? ⟨go25, (x14_4 : Int).toNat * 7 + 5, none⟩ = some (.int .u64 ((rd_T37 x5_4 x14_4).f5)) := hcc25 5 _ rfl; have hx25_6 : wc.cell? ⟨go25, (x14_4 : Int).toNat * 7 + 6, none⟩ = some (.int .u64 ((rd_T37 x5_4 x14_4).f6)) := hcc25 6 _ rfl; have hf25_0 : wc.frozen? ⟨go25, (x14_4 : Int).toNat * 7, none⟩ = false := hfr25 0; have hf25_1 : wc.frozen? ⟨go25, (x14_4 : Int).toNat * 7 + 1, none⟩ = false := hfr25 1; have hf25_2 : wc.frozen? ⟨go25, (x14_4 : Int).toNat * 7 + 2, none⟩ = false := hfr25 2; have hf25_3 : wc.frozen? ⟨go25, (x14_4 : Int).toNat * 7 + 3, none⟩ = false := hfr25 3; have hf25_4 : wc.frozen? ⟨go25, (x14_4 : Int).toNat * 7 + 4, none⟩ = false := hfr25 4; have hf25_5 : wc.frozen? ⟨go25, (x14_4 : Int).toNat * 7 + 5, none⟩ = false := hfr25 5; have hf25_6 : wc.frozen? ⟨go25, (x14_4 : Int).toNat * 7 + 6, none⟩ = false := hfr25 6; clear hcl25 hcc25 hfr25 hM25; replace p25 := eq_true p25; replace q25 := eq_true q25; have HX26 := Aside0.mk (show Kd.R k37 37 wc w.heap.size (fun _ => True) (.slice (some ⟨go25, 0, none⟩) x5_4.length co12) x5_4 from (by (with_reducible repeat (first | apply Kd.R_alloc | apply Kd.R_drewN | apply Kd.R_drew)); exact HO_5.out)); obtain ⟨ce26, hcl26, hM26, hcc26, hfr26⟩ := Kd.R_elem HX26.out z37 (x14_4 : Int) (of_decide_eq_true (by first | (with_reducible assumption) | assumption)) (by have h_ : (x14_4 : Int) < ((x5_4.length : Int) : Int) := of_decide_eq_true (by first | (with_reducible assumption) | assumption); first | exact h_ | (have e_ := (Kd.R_reads' HO_5.out).1; omega) | simpa using h_); obtain rfl := k37_openM hM26; have HP26 := Kd.R_seg HX26.out (x14_4 : Int) (of_decide_eq_true (by first | (with_reducible assumption) | assumption)) (by have h_ : (x14_4 : Int) < ((x5_4.length : Int) : Int) := of_decide_eq_true (by first | (with_reducible assumption) | assumption); first | exact h_ | (have e_ := (Kd.R_reads' HO_5.out).1; omega) | simpa using h_) (seg := [.int .u64 t161]) (j := 6) hcl26 hcc26 (show 7 ≤ 7 from by decide) (x' := (⟨(rd_T37 x5_4 x14_4).f0, (rd_T37 x5_4 x14_4).f1, (rd_T37 x5_4 x14_4).f2, (rd_T37 x5_4 x14_4).f3, (rd_T37 x5_4 x14_4).f4, (rd_T37 x5_4 x14_4).f5, t161⟩ : S37)) (k37_mkM _ _ _ (⟨(rd_T37 x5_4 x14_4).f0, (rd_T37 x5_4 x14_4).f1, (rd_T37 x5_4 x14_4).f2, (rd_T37 x5_4 x14_4).f3, (rd_T37 x5_4 x14_4).f4, (rd_T37 x5_4 x14_4).f5, t161⟩ : S37) ) (fun _ hk => hk); have hx26_6 := hcc26 6 _ rfl; (try simp only [show (k37).sz = 7 from rfl, Nat.mul_one, Nat.add_zero] at hx26_6); have hf26_6 := hfr26 6; (try simp only [show (k37).sz = 7 from rfl, Nat.mul_one, Nat.add_zero] at hf26_6); clear hcl26 hcc26 hfr26 hM26) | ((with_reducible refine gate_store (t := 35) (p := 95) rfl ?_); refine store_event (t := 35) (p := 95) (v := ?vo_w27) (w1 := (wc.setCell ⟨go25, (x14_4 : Int).toNat * 7 + 6, none⟩ (.int .u64 t161))) ?hg ?ho ?hn ?hr ?_; (case ho => rfl); (case hg => rfl); (case hn => rfl); (case hr => first | (go_simp; done) | (go_simp; rfl)); intro w27 hw; have hg : wc.grownBy w27 (some go25) := (by rw [hw]; exact HP26.2); have hp_ : Kd.R k37 37 w27 w.heap.size (fun _ => True) (.slice (some ⟨go25, 0, none⟩) x5_4.length co12) y164 := (by rw [hw, Ny164.out]; exact HP26.1); clear HP26; have n0_ := Aside0.mk (hp_); have n1_ := Aside0.mk (Kd.S_over' (v := (.slice (some ⟨go25, 0, none⟩) x5_4.length co12)) (by (with_reducible repeat (first | apply Kd.S_alloc | apply Kd.S_drewN | apply Kd.S_drew)); exact HO_6.out) (Kd.R_typed HO_5.out) (by decide) hg); have n2_ := Aside0.mk ((by rw [hw]; exact below_set (HB.out) GB25.out : Below w.heap.size w w27)); clear HO_5; clear HO_6; clear HB; have HO_5 := n0_; have HO_6 := n1_; have HB := n2_; clear n0_ n1_ n2_; clear hg hw hp_; have p165 : 0 ≤ (x14_4 : Int) := of_decide_eq_true (by first | (with_reducible assumption) | assumption); have q165 : x14_4 < (y164.length : Int) := (by have h_ : (x14_4 : Int) < ((x5_4.length : Int) : Int) := of_decide_eq_true (by first | (with_reducible assumption) | assumption); first | (have e_ := (Kd.R_reads' HO_5.out).1; omega) | simpa only [Ny164.out, List.length_set] using h_); have ql165 : ((x14_4 : Int) < ((x5_4.length : Int) : Int)) = True := eq_true (of_decide_eq_true (by first | (with_reducible assumption) | assumption)); obtain ⟨ad165, e165, hx165_0, hx165_1, hx165_2, hx165_3, hx165_4, hx165_5, hx165_6⟩ := at_T37 (Kd.R_reads' HO_5.out).2.2 x14_4 p165 q165; obtain rfl : (⟨go25, 0, none⟩ : Addr) = ad165 := (by injection e165); (first | simp only [add_plain] at hx165_0 | simp only [add_at] at hx165_0 | simp only [Addr.add, Nat.zero_add] at hx165_0 | skip); (first | simp only [add_plain] at hx165_1 | simp only [add_at] at hx165_1 | simp only [Addr.add, Nat.zero_add] at hx165_1 | skip); (first | simp only [add_plain] at hx165_2 | simp only [add_at] at hx165_2 | simp only [Addr.add, Nat.zero_add] at hx165_2 | skip); (first | simp only [add_plain] at hx165_3 | simp only [add_at] at hx165_3 | simp only [Addr.add, Nat.zero_add] at hx165_3 | skip); (first | simp only [add_plain] at hx165_4 | simp only [add_at] at hx165_4 | simp only [Addr.add, Nat.zero_add] at hx165_4 | skip); (first | simp only [add_plain] at hx165_5 | simp only [add_at] at hx165_5 | simp only [Addr.add, Nat.zero_add] at hx165_5 | skip); (first | simp only [add_plain] at hx165_6 | simp only [add_at] at hx165_6 | simp only [Addr.add, Nat.zero_add] at hx165_6 | skip); replace p165 := eq_true p165; replace q165 := eq_true q165))
                                        go_roundg kj10
                                        case measure => have := HK1.out; have := HJ5.out; have := HJ7.out; have := HK4.out; have := HJ10.out; omega
                                        case rel => exact ⟨(y164), (IntKind.u64.wrap (t161 + ((rd_T37 y164 x14_4).f5))), (true), (wrap64 (x14_4 + 1)), (by first | rfl | (simp; done) | (simp [*]; done)), (by first | rfl | (simp; done) | (simp [*]; done)), (by first | rfl | (simp; done) | (simp [*]; done)), H', ⟨by have := HK1.out; have := HJ5.out; have := HJ7.out; have := HK4.out; have := HJ10.out; omega⟩, ⟨by (with_reducible repeat (first | apply Kd.R_alloc | apply Kd.R_drewN | apply Kd.R_drew)); exact HO_5.out⟩, ⟨by (with_reducible repeat (first | apply Kd.S_alloc | apply Kd.S_drewN | apply Kd.S_drew)); exact HO_6.out⟩, ⟨by repeat (first | (with_reducible first | exact HB.out | apply below_alloc | apply pw_below_drewN | apply below_drew1) | exact HB.out)⟩⟩
                                  · replace c22 := Bool.eq_false_iff.mpr c22
                                    subst c22
                                    have H1 : (some (([] : List (S37)), ([] : List (S40)), 55)) = some (r1, r2, r3) := by rw [if_neg (show ¬ (false = true) by decide)] at H; exact H
                                    clear H
                                    have H := H1
                                    clear H1
                                    simp only [Option.some.injEq, Prod.mk.injEq] at H
                                    obtain ⟨rfl, rfl, rfl⟩ := H
                                    have p160 : 0 ≤ (x14_4 : Int) := of_decide_eq_true (by first | (with_reducible assumption) | assumption)
                                    have q160 : x14_4 < (x5_4.length : Int) := of_decide_eq_true (by first | (with_reducible assumption) | assumption)
                                    obtain ⟨ad160, e160, hx160_0, hx160_1, hx160_2, hx160_3, hx160_4, hx160_5, hx160_6⟩ := at_T37 (Kd.R_reads' HO_5.out).2.2 x14_4 p160 q160
                                    cases e160
                                    replace p160 := eq_true p160
                                    replace q160 := eq_true q160
                                    go_wp2_with (first | ((with_reducible refine gate_callee (f := 16) rfl ?_); refine goesL_ (some 72) rfl rfl Try.func16 (by kernel_rfl) rfl #[.int .u64 x12_4, .int .u64 ((rd_T37 x5_4 x14_4).f4)] rfl (by (try simp only [List.map_toArray, List.map_cons, List.map_nil]); first | done | rfl | (simp only [List.length_drop, List.length_take]; rfl)) ?_; (with_reducible refine (dovetailref1_Up.calls x12_4 ((rd_T37 x5_4 x14_4).f4) t161 false _ A21.out).mono ?_); rintro e w' ⟨rfl, ⟨nd, rfl⟩⟩; refine ⟨_, rfl, ?_⟩))
                                    go_ret3
                                    exact ⟨_, _, by first | rfl | (simp [errW_none, errW_some] <;> rfl) | (simp [*, errW_none, errW_some] <;> rfl), by first | exact Kd.R_nil _ _ _ _ _ | exact Kd.N_nil _ _ _ _ _ | exact Kd.V_nil _ _ _ _ _ | exact Kd.Q_nil _ _ _ _ _ | exact Kd.S_nil _ _ _ _ _, by first | exact Kd.S_nil _ _ _ _ _ | exact Kd.N_nil _ _ _ _ _ | exact Kd.V_nil _ _ _ _ _ | exact Kd.Q_nil _ _ _ _ _ | exact Kd.R_nil _ _ _ _ _, by repeat (first | (with_reducible first | exact HB.out | apply below_alloc | apply pw_below_drewN | apply below_drew1) | exact HB.out)⟩
                                · rw [if_neg c20] at H
                                  exact absurd H (by simp)
                              · rw [if_neg c19] at H
                                exact absurd H (by simp)
                      · rw [if_neg c10] at H
                        have c10b0 : decide (x14_4 < (x5_4.length : Int)) = false := decide_eq_false c10
                        clear c10
                        by_cases c28 : x13_4 = true
                        · subst c28
                          have H1 : (if x12_4 > x10_7 then ((dovetailref20_Perm.f x9_1).bind fun t166 => (if x6_1.length < 2932031007402 then (if (IntKind.u64.wrap (x8_1 + (IntKind.u64.wrap (x12_4 - x10_7)))) > 134217728 then (some (([] : List (S37)), ([] : List (S40)), 55)) else (dovetailref20_Assign.l0 k4 x5_4 (x6_1 ++ [(⟨x10_7, t166, ([] : List Int), IntKind.u64.wrap (x12_4 - x10_7)⟩ : S40)]) x12_4 (IntKind.u64.wrap (x8_1 + (IntKind.u64.wrap (x12_4 - x10_7)))) (wrap64 (x9_1 + 1)))) else (none))) else (if x8_1 > 134217728 then (some (([] : List (S37)), ([] : List (S40)), 55)) else (dovetailref20_Assign.l0 k4 x5_4 x6_1 x12_4 x8_1 (wrap64 (x9_1 + 1))))) = some (r1, r2, r3) := by rw [if_pos rfl] at H; exact H
                          clear H
                          have H := H1
                          clear H1
                          by_cases c29 : x12_4 > x10_7
                          · rw [if_pos c29] at H
                            have c29b0 : decide (x10_7 < x12_4) = true := decide_eq_true c29
                            clear c29
                            replace H := Option.bind_eq_some_iff.mp H
                            obtain ⟨t166, A300, H⟩ := H
                            replace H : (if x6_1.length < 2932031007402 then (if (IntKind.u64.wrap (x8_1 + (IntKind.u64.wrap (x12_4 - x10_7)))) > 134217728 then (some (([] : List (S37)), ([] : List (S40)), 55)) else (dovetailref20_Assign.l0 k4 x5_4 (x6_1 ++ [(⟨x10_7, t166, ([] : List Int), IntKind.u64.wrap (x12_4 - x10_7)⟩ : S40)]) x12_4 (IntKind.u64.wrap (x8_1 + (IntKind.u64.wrap (x12_4 - x10_7)))) (wrap64 (x9_1 + 1)))) else (none)) = some (r1, r2, r3) := H
                            have A30 := Aside0.mk A300
                            clear A300
                            by_cases c31 : x6_1.length < 2932031007402
                            · rw [if_pos c31] at H
                              have LMc31 := Aside0.mk c31
                              clear c31
                              obtain ⟨y167, hy167⟩ : ∃ y_ : List (S40), y_ = (x6_1 ++ [(⟨x10_7, t166, ([] : List Int), IntKind.u64.wrap (x12_4 - x10_7)⟩ : S40)]) := ⟨_, rfl⟩
                              replace H : (if (IntKind.u64.wrap (x8_1 + (IntKind.u64.wrap (x12_4 - x10_7)))) > 134217728 then (some (([] : List (S37)), ([] : List (S40)), 55)) else (dovetailref20_Assign.l0 k4 x5_4 y167 x12_4 (IntKind.u64.wrap (x8_1 + (IntKind.u64.wrap (x12_4 - x10_7)))) (wrap64 (x9_1 + 1)))) = some (r1, r2, r3) := by first | (rw [hy167]; with_reducible exact H) | (have H2_ := (Option.bind_some _ _).symm.trans H; rw [hy167]; with_reducible exact H2_) | (have H2_ := (Option.bind_some _ _).symm.trans H; with_reducible exact H2_) | with_reducible exact H | (rw [hy167]; exact H) | exact H
                              have Ny167 := Aside0.mk hy167
                              clear hy167
                              by_cases c32 : (IntKind.u64.wrap (x8_1 + (IntKind.u64.wrap (x12_4 - x10_7)))) > 134217728
                              · rw [if_pos c32] at H
                                have c32b0 : decide (134217728 < (IntKind.u64.wrap (x8_1 + (IntKind.u64.wrap (x12_4 - x10_7))))) = true := decide_eq_true c32
                                clear c32
                                simp only [Option.some.injEq, Prod.mk.injEq] at H
                                obtain ⟨rfl, rfl, rfl⟩ := H
                                obtain ⟨Ao33, co33, eo33⟩ := Kd.R_slice HO_5.out
                                subst eo33
                                go_wp2_with (first | ((with_reducible refine gate_callee (f := 18) rfl ?_); refine goesL_ (some 117) rfl rfl Try.func18 (by kernel_rfl) rfl #[.int .i64 x9_1] rfl (by (try simp only [List.map_toArray, List.map_cons, List.map_nil]); first | done | rfl | (simp only [List.length_drop, List.length_take]; rfl)) ?_; (with_reducible refine (dovetailref20_Perm.calls x9_1 t166 _ A30.out).mono ?_); rintro e w34 ⟨rfl, hb⟩; refine ⟨_, rfl, ?_⟩; have n0_ := Aside0.mk (Kd.R_below (by (with_reducible repeat (first | apply Kd.R_alloc | apply Kd.R_drewN | apply Kd.R_drew)); exact HO_5.out) hb); have n1_ := Aside0.mk (Kd.S_below (by (with_reducible repeat (first | apply Kd.S_alloc | apply Kd.S_drewN | apply Kd.S_drew)); exact HO_6.out) hb); have n2_ := Aside0.mk (below_step (by repeat (first | (with_reducible first | exact HB.out | apply below_alloc | apply pw_below_drewN | apply below_drew1) | exact HB.out)) hb); clear HO_5; clear HO_6; clear HB; have HO_5 := n0_; have HO_6 := n1_; have HB := n2_; clear n0_ n1_ n2_; (try clear hb); (try clear hb2); (try clear hk); (try clear hi)) | ((with_reducible refine gate_builtin (b := .append) (xs := #[.tmp 114, .tmp 122]) rfl ?_); at_builtin; refine Kd.S_append k40 (w0 := w) w.heap.size rfl (.tmp 114) (.tmp 122) 25 40 (.agg #[(.int .u64 0), (.int .i64 0), (.slice none 0 0), (.int .u64 0)]) 48 rfl Try.underlying25 info40 rfl (by decide) (by omega) u6 x6_1 (⟨x10_7, t166, ([] : List Int), IntKind.u64.wrap (x12_4 - x10_7)⟩ : S40) [.int .u64 x10_7, .int .i64 t166, .slice none 0 0, .int .u64 (IntKind.u64.wrap (x12_4 - x10_7))] (fun _ => True) (fun _ => False) rfl rfl ?aP (fun k_ hk_ => hk_.elim) ?aF ?aO ?aB ?aS ?aL ?_; (case aP => exact k40_mkM _ _ _ (⟨x10_7, t166, ([] : List Int), IntKind.u64.wrap (x12_4 - x10_7)⟩ : S40) (Kd.R_nil _ _ _ _ _)); (case aB => exact (by repeat (first | (with_reducible first | exact HB.out | apply below_alloc | apply pw_below_drewN | apply below_drew1) | exact HB.out))); (case aF => exact (fun _ _ => trivial)); (case aO => exact (by (with_reducible repeat (first | apply Kd.S_alloc | apply Kd.S_drewN | apply Kd.S_drew)); exact Kd.S_mono HO_6.out (fun k_ hk => ⟨trivial, fun e_ => e_⟩))); (case aS => exact (below_size (by repeat (first | (with_reducible first | exact HB.out | apply below_alloc | apply pw_below_drewN | apply below_drew1) | exact HB.out)))); (case aL => have := LMc31.out; omega); intro v168 w35 ho hb hg hat; rw [← Ny167.out] at ho; have n0_ := Aside0.mk (Kd.R_over' (by (with_reducible repeat (first | apply Kd.R_alloc | apply Kd.R_drewN | apply Kd.R_drew)); exact HO_5.out) (Kd.S_typed (by (with_reducible repeat (first | apply Kd.S_alloc | apply Kd.S_drewN | apply Kd.S_drew)); exact HO_6.out)) (by decide) hg); have n1_ := Aside0.mk (hb); have n2_ := Aside0.mk (ho); clear HO_5; clear HB; clear HO_6; have HO_5 := n0_; have HB := n1_; have HO169 := n2_; clear n0_ n1_ n2_; clear ho hb hg hat))
                                go_ret3
                                exact ⟨_, _, by first | rfl | (simp [errW_none, errW_some] <;> rfl) | (simp [*, errW_none, errW_some] <;> rfl), by first | exact Kd.R_nil _ _ _ _ _ | exact Kd.N_nil _ _ _ _ _ | exact Kd.V_nil _ _ _ _ _ | exact Kd.Q_nil _ _ _ _ _ | exact Kd.S_nil _ _ _ _ _, by first | exact Kd.S_nil _ _ _ _ _ | exact Kd.N_nil _ _ _ _ _ | exact Kd.V_nil _ _ _ _ _ | exact Kd.Q_nil _ _ _ _ _ | exact Kd.R_nil _ _ _ _ _, by repeat (first | (with_reducible first | exact HB.out | apply below_alloc | apply pw_below_drewN | apply below_drew1) | exact HB.out)⟩
                              · rw [if_neg c32] at H
                                have c32b0 : decide (134217728 < (IntKind.u64.wrap (x8_1 + (IntKind.u64.wrap (x12_4 - x10_7))))) = false := decide_eq_false c32
                                clear c32
                                have H' := Aside0.mk H
                                clear H
                                obtain ⟨Ao36, co36, eo36⟩ := Kd.R_slice HO_5.out
                                subst eo36
                                go_wp2_with (first | ((with_reducible refine gate_callee (f := 18) rfl ?_); refine goesL_ (some 117) rfl rfl Try.func18 (by kernel_rfl) rfl #[.int .i64 x9_1] rfl (by (try simp only [List.map_toArray, List.map_cons, List.map_nil]); first | done | rfl | (simp only [List.length_drop, List.length_take]; rfl)) ?_; (with_reducible refine (dovetailref20_Perm.calls x9_1 t166 _ A30.out).mono ?_); rintro e w37 ⟨rfl, hb⟩; refine ⟨_, rfl, ?_⟩; have n0_ := Aside0.mk (Kd.R_below (by (with_reducible repeat (first | apply Kd.R_alloc | apply Kd.R_drewN | apply Kd.R_drew)); exact HO_5.out) hb); have n1_ := Aside0.mk (Kd.S_below (by (with_reducible repeat (first | apply Kd.S_alloc | apply Kd.S_drewN | apply Kd.S_drew)); exact HO_6.out) hb); have n2_ := Aside0.mk (below_step (by repeat (first | (with_reducible first | exact HB.out | apply below_alloc | apply pw_below_drewN | apply below_drew1) | exact HB.out)) hb); clear HO_5; clear HO_6; clear HB; have HO_5 := n0_; have HO_6 := n1_; have HB := n2_; clear n0_ n1_ n2_; (try clear hb); (try clear hb2); (try clear hk); (try clear hi)) | ((with_reducible refine gate_builtin (b := .append) (xs := #[.tmp 114, .tmp 122]) rfl ?_); at_builtin; refine Kd.S_append k40 (w0 := w) w.heap.size rfl (.tmp 114) (.tmp 122) 25 40 (.agg #[(.int .u64 0), (.int .i64 0), (.slice none 0 0), (.int .u64 0)]) 48 rfl Try.underlying25 info40 rfl (by decide) (by omega) u6 x6_1 (⟨x10_7, t166, ([] : List Int), IntKind.u64.wrap (x12_4 - x10_7)⟩ : S40) [.int .u64 x10_7, .int .i64 t166, .slice none 0 0, .int .u64 (IntKind.u64.wrap (x12_4 - x10_7))] (fun _ => True) (fun _ => False) rfl rfl ?aP (fun k_ hk_ => hk_.elim) ?aF ?aO ?aB ?aS ?aL ?_; (case aP => exact k40_mkM _ _ _ (⟨x10_7, t166, ([] : List Int), IntKind.u64.wrap (x12_4 - x10_7)⟩ : S40) (Kd.R_nil _ _ _ _ _)); (case aB => exact (by repeat (first | (with_reducible first | exact HB.out | apply below_alloc | apply pw_below_drewN | apply below_drew1) | exact HB.out))); (case aF => exact (fun _ _ => trivial)); (case aO => exact (by (with_reducible repeat (first | apply Kd.S_alloc | apply Kd.S_drewN | apply Kd.S_drew)); exact Kd.S_mono HO_6.out (fun k_ hk => ⟨trivial, fun e_ => e_⟩))); (case aS => exact (below_size (by repeat (first | (with_reducible first | exact HB.out | apply below_alloc | apply pw_below_drewN | apply below_drew1) | exact HB.out)))); (case aL => have := LMc31.out; omega); intro v168 w38 ho hb hg hat; rw [← Ny167.out] at ho; have n0_ := Aside0.mk (Kd.R_over' (by (with_reducible repeat (first | apply Kd.R_alloc | apply Kd.R_drewN | apply Kd.R_drew)); exact HO_5.out) (Kd.S_typed (by (with_reducible repeat (first | apply Kd.S_alloc | apply Kd.S_drewN | apply Kd.S_drew)); exact HO_6.out)) (by decide) hg); have n1_ := Aside0.mk (hb); have n2_ := Aside0.mk (ho); clear HO_5; clear HB; clear HO_6; have HO_5 := n0_; have HB := n1_; have HO169 := n2_; clear n0_ n1_ n2_; clear ho hb hg hat))
                                go_roundg k4
                                case measure => have := HK1.out; have := HJ5.out; have := HJ7.out; have := HK4.out; omega
                                case rel => exact ⟨(x5_4), (y167), (x12_4), (IntKind.u64.wrap (x8_1 + (IntKind.u64.wrap (x12_4 - x10_7)))), (wrap64 (x9_1 + 1)), (by first | rfl | (simp; done) | (simp [*]; done)), (by first | rfl | (simp; done) | (simp [*]; done)), (by first | rfl | (simp; done) | (simp [*]; done)), H', ⟨by have := HK1.out; have := HJ5.out; have := HJ7.out; have := HK4.out; omega⟩, ⟨by (with_reducible repeat (first | apply Kd.R_alloc | apply Kd.R_drewN | apply Kd.R_drew)); exact HO_5.out⟩, ⟨by (with_reducible repeat (first | apply Kd.S_alloc | apply Kd.S_drewN | apply Kd.S_drew)); exact HO169.out⟩, ⟨by repeat (first | (with_reducible first | exact HB.out | apply below_alloc | apply pw_below_drewN | apply below_drew1) | exact HB.out)⟩⟩
                            · rw [if_neg c31] at H
                              exact absurd H (by simp)
                          · rw [if_neg c29] at H
                            have c29b0 : decide (x10_7 < x12_4) = false := decide_eq_false c29
                            clear c29
                            by_cases c39 : x8_1 > 134217728
                            · rw [if_pos c39] at H
                              have c39b0 : decide (134217728 < x8_1) = true := decide_eq_true c39
                              clear c39
                              simp only [Option.some.injEq, Prod.mk.injEq] at H
                              obtain ⟨rfl, rfl, rfl⟩ := H
                              obtain ⟨Ao40, co40, eo40⟩ := Kd.R_slice HO_5.out
                              subst eo40
                              go_wp2
                              go_ret3
                              exact ⟨_, _, by first | rfl | (simp [errW_none, errW_some] <;> rfl) | (simp [*, errW_none, errW_some] <;> rfl), by first | exact Kd.R_nil _ _ _ _ _ | exact Kd.N_nil _ _ _ _ _ | exact Kd.V_nil _ _ _ _ _ | exact Kd.Q_nil _ _ _ _ _ | exact Kd.S_nil _ _ _ _ _, by first | exact Kd.S_nil _ _ _ _ _ | exact Kd.N_nil _ _ _ _ _ | exact Kd.V_nil _ _ _ _ _ | exact Kd.Q_nil _ _ _ _ _ | exact Kd.R_nil _ _ _ _ _, by repeat (first | (with_reducible first | exact HB.out | apply below_alloc | apply pw_below_drewN | apply below_drew1) | exact HB.out)⟩
                            · rw [if_neg c39] at H
                              have c39b0 : decide (134217728 < x8_1) = false := decide_eq_false c39
                              clear c39
                              have H' := Aside0.mk H
                              clear H
                              obtain ⟨Ao41, co41, eo41⟩ := Kd.R_slice HO_5.out
                              subst eo41
                              go_wp2
                              go_roundg k4
                              case measure => have := HK1.out; have := HJ5.out; have := HJ7.out; have := HK4.out; omega
                              case rel => exact ⟨(x5_4), (x6_1), (x12_4), (x8_1), (wrap64 (x9_1 + 1)), (by first | rfl | (simp; done) | (simp [*]; done)), (by first | rfl | (simp; done) | (simp [*]; done)), (by first | rfl | (simp; done) | (simp [*]; done)), H', ⟨by have := HK1.out; have := HJ5.out; have := HJ7.out; have := HK4.out; omega⟩, ⟨by (with_reducible repeat (first | apply Kd.R_alloc | apply Kd.R_drewN | apply Kd.R_drew)); exact HO_5.out⟩, ⟨by (with_reducible repeat (first | apply Kd.S_alloc | apply Kd.S_drewN | apply Kd.S_drew)); exact HO_6.out⟩, ⟨by repeat (first | (with_reducible first | exact HB.out | apply below_alloc | apply pw_below_drewN | apply below_drew1) | exact HB.out)⟩⟩
                        · replace c28 := Bool.eq_false_iff.mpr c28
                          subst c28
                          have H1 : (dovetailref20_Assign.l0 k4 x5_4 x6_1 x7_1 x8_1 (wrap64 (x9_1 + 1))) = some (r1, r2, r3) := by rw [if_neg (show ¬ (false = true) by decide)] at H; exact H
                          clear H
                          have H := H1
                          clear H1
                          have H' := Aside0.mk H
                          clear H
                          obtain ⟨Ao42, co42, eo42⟩ := Kd.R_slice HO_5.out
                          subst eo42
                          go_wp2
                          go_roundg k4
                          case measure => have := HK1.out; have := HJ5.out; have := HJ7.out; have := HK4.out; omega
                          case rel => exact ⟨(x5_4), (x6_1), (x7_1), (x8_1), (wrap64 (x9_1 + 1)), (by first | rfl | (simp; done) | (simp [*]; done)), (by first | rfl | (simp; done) | (simp [*]; done)), (by first | rfl | (simp; done) | (simp [*]; done)), H', ⟨by have := HK1.out; have := HJ5.out; have := HJ7.out; have := HK4.out; omega⟩, ⟨by (with_reducible repeat (first | apply Kd.R_alloc | apply Kd.R_drewN | apply Kd.R_drew)); exact HO_5.out⟩, ⟨by (with_reducible repeat (first | apply Kd.S_alloc | apply Kd.S_drewN | apply Kd.S_drew)); exact HO_6.out⟩, ⟨by repeat (first | (with_reducible first | exact HB.out | apply below_alloc | apply pw_below_drewN | apply below_drew1) | exact HB.out)⟩⟩
        · rw [if_neg c4] at H
          have c4b0 : decide (x9_1 < 3) = false := decide_eq_false c4
          clear c4
          simp only [Option.some.injEq, Prod.mk.injEq] at H
          obtain ⟨rfl, rfl, rfl⟩ := H
          go_wp2
          go_ret3
          exact ⟨_, _, by first | rfl | (simp [errW_none, errW_some] <;> rfl) | (simp [*, errW_none, errW_some] <;> rfl), by (with_reducible repeat (first | apply Kd.R_alloc | apply Kd.R_drewN | apply Kd.R_drew)); exact HO_5.out, by (with_reducible repeat (first | apply Kd.S_alloc | apply Kd.S_drewN | apply Kd.S_drew)); exact HO_6.out, by repeat (first | (with_reducible first | exact HB.out | apply below_alloc | apply pw_below_drewN | apply below_drew1) | exact HB.out)⟩
  · rw [if_neg c2] at H
    exact absurd H (by simp)

end Go.Proofs.Ytpblhcmcldachaa.QAddrAssigns
