/- Contracts of what a law reaches, each function as a plain Lean function: written by a program of this claim's repo (myprint.py); conditions: those of each theorem. -/
import Derived.Test.YtpblhcmcldachaaQAddrGapsx0
import Derived.Test.YtpblhcmcldachaaQAddrGapsx1
import Derived.Test.YtpblhcmcldachaaQAddrGapsx2
import Derived.Test.YtpblhcmcldachaaQAddrGapsx3
namespace Go.Proofs.Ytpblhcmcldachaa.QAddrGaps
open Go.Proofs.Ytpblhcmcldachaa.Man
open Go.RowKit Go.Proofs.YtpblhcmcldachaaW.PrintWords Go.Proofs.YtpblhcmcldachaaW.PrintLast Go.Proofs.YtpblhcmcldachaaW.PrintMore
attribute [local go_sem] max2_int min2_int max_two min_two max_three min_three max_four min_four   -- for this text's walks alone
set_option linter.unusedVariables false
set_option linter.unusedSimpArgs false

/-! ### dovetaillaw23_AddrGaps: function 5 -/
mutual
def dovetaillaw23_AddrGaps.l0 : Nat → List (S37) → List (S40) → Int → Int → Int → Option (Bool)
  | 0, _, _, _, _, _ => none
  | k + 1, x3, x4, x6, x7, x8 => if x8 < (x3.length : Int) then ((some (([0, 1, 2, 2] : List Int) : List Int)).bind fun y153 => (if 0 ≤ x8 then (if 0 ≤ ((rd_T37 x3 x8).f2) then (if ((rd_T37 x3 x8).f2) < (y153.length : Int) then (if (rd y153 ((rd_T37 x3 x8).f2)) = x7 then (if ((rd_T37 x3 x8).f6) < x6 then (some false) else (if (IntKind.u64.wrap (((rd_T37 x3 x8).f6) - x6)) ≥ ((rd_T37 x3 x8).f4) then (some false) else (dovetaillaw23_AddrGaps.l0 k x3 x4 (IntKind.u64.wrap (((rd_T37 x3 x8).f6) + ((rd_T37 x3 x8).f5))) x7 (wrap64 (x8 + 1))))) else (if ((rd_T37 x3 x8).f6) < (IntKind.u64.wrap ((IntKind.u64.wrap (Int.tdiv (IntKind.u64.wrap ((IntKind.u64.wrap (x6 + 4096)) - 1)) 4096)) * 4096)) then (some false) else (if (IntKind.u64.wrap (((rd_T37 x3 x8).f6) - (IntKind.u64.wrap ((IntKind.u64.wrap (Int.tdiv (IntKind.u64.wrap ((IntKind.u64.wrap (x6 + 4096)) - 1)) 4096)) * 4096)))) ≥ ((rd_T37 x3 x8).f4) then (some false) else (dovetaillaw23_AddrGaps.l0 k x3 x4 (IntKind.u64.wrap (((rd_T37 x3 x8).f6) + ((rd_T37 x3 x8).f5))) (rd y153 ((rd_T37 x3 x8).f2)) (wrap64 (x8 + 1)))))) else (none)) else (none)) else (none))) else (dovetaillaw23_AddrGaps.l1 k x3 x4 0)
def dovetaillaw23_AddrGaps.l1 : Nat → List (S37) → List (S40) → Int → Option (Bool)
  | 0, _, _, _ => none
  | k + 1, x3, x4, x10 => if x10 < (x4.length : Int) then (dovetaillaw23_AddrGaps.l2 k x3 x4 x10 false 0) else (some true)
def dovetaillaw23_AddrGaps.l2 : Nat → List (S37) → List (S40) → Int → Bool → Int → Option (Bool)
  | 0, _, _, _, _, _ => none
  | k + 1, x3, x4, x10, x11, x12 => if x12 < (x3.length : Int) then (if x11 = true then (dovetaillaw23_AddrGaps.l2 k x3 x4 x10 true (wrap64 (x12 + 1))) else (if 0 ≤ x12 then (if 0 ≤ x10 then (if x10 < (x4.length : Int) then (dovetaillaw23_AddrGaps.l2 k x3 x4 x10 (((rd_T37 x3 x12).f6) == ((rd_T40 x4 x10).f0)) (wrap64 (x12 + 1))) else (none)) else (none)) else (none))) else (if x11 = true then (dovetaillaw23_AddrGaps.l1 k x3 x4 (wrap64 (x10 + 1))) else (some false))
end
def dovetaillaw23_AddrGaps.f (k : Nat) (l0 : List (S57)) : Option (Bool) := (dovetaillaw23_known.f).bind fun t142 => (if t142 = true then (if (l0.length : Int) > 20 then (some true) else ((dovetaillaw23_pieces.f k l0).bind fun t143 => ((addr_Assign.f t143).bind fun bt146 => (if bt146.2.2 = 0 then (dovetaillaw23_AddrGaps.l0 k bt146.1 bt146.2.1 65536 (-1) 0) else (some true))))) else (some false))
theorem dovetaillaw23_AddrGaps.mono_l : ∀ k, (∀ y0 y1 y2 y3 y4, LeO (dovetaillaw23_AddrGaps.l0 k y0 y1 y2 y3 y4) (dovetaillaw23_AddrGaps.l0 (k + 1) y0 y1 y2 y3 y4)) ∧ (∀ y0 y1 y2, LeO (dovetaillaw23_AddrGaps.l1 k y0 y1 y2) (dovetaillaw23_AddrGaps.l1 (k + 1) y0 y1 y2)) ∧ (∀ y0 y1 y2 y3 y4, LeO (dovetaillaw23_AddrGaps.l2 k y0 y1 y2 y3 y4) (dovetaillaw23_AddrGaps.l2 (k + 1) y0 y1 y2 y3 y4))
  | 0 => ⟨fun _ _ _ _ _ r h => by simp [dovetaillaw23_AddrGaps.l0] at h, fun _ _ _ r h => by simp [dovetaillaw23_AddrGaps.l1] at h, fun _ _ _ _ _ r h => by simp [dovetaillaw23_AddrGaps.l2] at h⟩
  | k + 1 => by
    obtain ⟨ih0, ih1, ih2⟩ := dovetaillaw23_AddrGaps.mono_l k
    refine ⟨?_, ?_, ?_⟩
    · intro y0 y1 y2 y3 y4
      unfold dovetaillaw23_AddrGaps.l0
      repeat' first
      | (with_reducible exact ih0 _ _ _ _ _)
      | (with_reducible exact ih1 _ _ _)
      | (with_reducible exact ih2 _ _ _ _ _)
      | (with_reducible exact dovetaillaw23_pieces.mono _ _)
      | (with_reducible exact LeO.refl _)
      | (with_reducible exact LeO.none _)
      | (with_reducible refine LeO.ite ?_ ?_)
      | (with_reducible refine LeO.bind ?_ (fun _ => ?_))
      | exact ih0 _ _ _ _ _
      | exact ih1 _ _ _
      | exact ih2 _ _ _ _ _
      | exact dovetaillaw23_pieces.mono _ _
      | exact LeO.none _
      | refine LeO.ite ?_ ?_
      | refine LeO.bind ?_ (fun _ => ?_)
    · intro y0 y1 y2
      unfold dovetaillaw23_AddrGaps.l1
      repeat' first
      | (with_reducible exact ih0 _ _ _ _ _)
      | (with_reducible exact ih1 _ _ _)
      | (with_reducible exact ih2 _ _ _ _ _)
      | (with_reducible exact dovetaillaw23_pieces.mono _ _)
      | (with_reducible exact LeO.refl _)
      | (with_reducible exact LeO.none _)
      | (with_reducible refine LeO.ite ?_ ?_)
      | (with_reducible refine LeO.bind ?_ (fun _ => ?_))
      | exact ih0 _ _ _ _ _
      | exact ih1 _ _ _
      | exact ih2 _ _ _ _ _
      | exact dovetaillaw23_pieces.mono _ _
      | exact LeO.none _
      | refine LeO.ite ?_ ?_
      | refine LeO.bind ?_ (fun _ => ?_)
    · intro y0 y1 y2 y3 y4
      unfold dovetaillaw23_AddrGaps.l2
      repeat' first
      | (with_reducible exact ih0 _ _ _ _ _)
      | (with_reducible exact ih1 _ _ _)
      | (with_reducible exact ih2 _ _ _ _ _)
      | (with_reducible exact dovetaillaw23_pieces.mono _ _)
      | (with_reducible exact LeO.refl _)
      | (with_reducible exact LeO.none _)
      | (with_reducible refine LeO.ite ?_ ?_)
      | (with_reducible refine LeO.bind ?_ (fun _ => ?_))
      | exact ih0 _ _ _ _ _
      | exact ih1 _ _ _
      | exact ih2 _ _ _ _ _
      | exact dovetaillaw23_pieces.mono _ _
      | exact LeO.none _
      | refine LeO.ite ?_ ?_
      | refine LeO.bind ?_ (fun _ => ?_)
theorem dovetaillaw23_AddrGaps.mono : ∀ a0 k, LeO (dovetaillaw23_AddrGaps.f k a0) (dovetaillaw23_AddrGaps.f (k + 1) a0) := by
  intro a0 k
  obtain ⟨ih0, ih1, ih2⟩ := dovetaillaw23_AddrGaps.mono_l k
  unfold dovetaillaw23_AddrGaps.f
  repeat' first
      | (with_reducible exact ih0 _ _ _ _ _)
      | (with_reducible exact ih1 _ _ _)
      | (with_reducible exact ih2 _ _ _ _ _)
      | (with_reducible exact dovetaillaw23_pieces.mono _ _)
      | (with_reducible exact LeO.refl _)
      | (with_reducible exact LeO.none _)
      | (with_reducible refine LeO.ite ?_ ?_)
      | (with_reducible refine LeO.bind ?_ (fun _ => ?_))
      | exact ih0 _ _ _ _ _
      | exact ih1 _ _ _
      | exact ih2 _ _ _ _ _
      | exact dovetaillaw23_pieces.mono _ _
      | exact LeO.none _
      | refine LeO.ite ?_ ?_
      | refine LeO.bind ?_ (fun _ => ?_)
set_option maxHeartbeats 8000000 in
set_option maxRecDepth 100000 in
theorem dovetaillaw23_AddrGaps.calls (k : Nat) (A0 : Option Addr) (c0 : Nat) (l0 : List (S57)) (r : Bool) (w : World) (hr0 : Kd.C k57 w A0 l0.length l0) (hc0 : l0.length ≤ c0) (h : dovetaillaw23_AddrGaps.f k l0 = some r) :
    Calls Try.prog 5 #[.slice A0 l0.length c0] w fun e w' => e = .returned (.bool r) ∧ Below w.heap.size w w' := by
  have HR0 := Aside0.mk hr0
  have HC0 := Aside0.mk hc0
  clear hr0 hc0
  have HB := Aside0.mk (Below.refl w.heap.size w)
  have H : ((dovetaillaw23_known.f).bind fun t142 => (if t142 = true then (if (l0.length : Int) > 20 then (some true) else ((dovetaillaw23_pieces.f k l0).bind fun t143 => ((addr_Assign.f t143).bind fun bt146 => (if bt146.2.2 = 0 then (dovetaillaw23_AddrGaps.l0 k bt146.1 bt146.2.1 65536 (-1) 0) else (some true))))) else (some false))) = some r := h
  clear h
  replace H := Option.bind_eq_some_iff.mp H
  obtain ⟨t142, A20, H⟩ := H
  replace H : (if t142 = true then (if (l0.length : Int) > 20 then (some true) else ((dovetaillaw23_pieces.f k l0).bind fun t143 => ((addr_Assign.f t143).bind fun bt146 => (if bt146.2.2 = 0 then (dovetaillaw23_AddrGaps.l0 k bt146.1 bt146.2.1 65536 (-1) 0) else (some true))))) else (some false)) = some r := H
  have A2 := Aside0.mk A20
  clear A20
  by_cases c3 : t142 = true
  · subst c3
    have H1 : (if (l0.length : Int) > 20 then (some true) else ((dovetaillaw23_pieces.f k l0).bind fun t143 => ((addr_Assign.f t143).bind fun bt146 => (if bt146.2.2 = 0 then (dovetaillaw23_AddrGaps.l0 k bt146.1 bt146.2.1 65536 (-1) 0) else (some true))))) = some r := by rw [if_pos rfl] at H; exact H
    clear H
    have H := H1
    clear H1
    by_cases c4 : (l0.length : Int) > 20
    · rw [if_pos c4] at H
      have c4b0 : decide (20 < (l0.length : Int)) = true := decide_eq_true c4
      have c4b1 : decide (20 < l0.length) = true := decide_eq_true (by omega)
      clear c4
      obtain rfl := Option.some.inj H
      go_enter Try.func5, Try.ntmps5
      go_wp2_with (first | (go_at_call 7; (with_reducible refine (dovetaillaw23_known.calls  true _ A2.out).mono ?_); rintro e w5 ⟨rfl, hb⟩; have n0_ := Aside0.mk (below_step (by repeat (first | (with_reducible first | exact HB.out | apply below_alloc | apply pw_below_drewN | apply below_drew1) | exact HB.out)) hb); clear HB; have HB := n0_; clear n0_; (try clear hb); (try clear hb2); (try clear hk); (try clear hi)))
      repeat (go_quiet (first | (go_at_call 7; (with_reducible refine (dovetaillaw23_known.calls  true _ A2.out).mono ?_); rintro e w5 ⟨rfl, hb⟩; have n0_ := Aside0.mk (below_step (by repeat (first | (with_reducible first | exact HB.out | apply below_alloc | apply pw_below_drewN | apply below_drew1) | exact HB.out)) hb); clear HB; have HB := n0_; clear n0_; (try clear hb); (try clear hb2); (try clear hk); (try clear hi))); try go_wp2_with (first | (go_at_call 7; (with_reducible refine (dovetaillaw23_known.calls  true _ A2.out).mono ?_); rintro e w5 ⟨rfl, hb⟩; have n0_ := Aside0.mk (below_step (by repeat (first | (with_reducible first | exact HB.out | apply below_alloc | apply pw_below_drewN | apply below_drew1) | exact HB.out)) hb); clear HB; have HB := n0_; clear n0_; (try clear hb); (try clear hb2); (try clear hk); (try clear hi))))
      go_ret
      exact ⟨by first | rfl | (simp [errW_none, errW_some] <;> rfl) | (simp [*, errW_none, errW_some] <;> rfl), by repeat (first | (with_reducible first | exact HB.out | apply below_alloc | apply pw_below_drewN | apply below_drew1) | exact HB.out)⟩
    · rw [if_neg c4] at H
      have c4b0 : decide (20 < (l0.length : Int)) = false := decide_eq_false c4
      have c4b1 : decide (20 < l0.length) = false := decide_eq_false (by omega)
      clear c4
      replace H := Option.bind_eq_some_iff.mp H
      obtain ⟨t143, A60, H⟩ := H
      replace H : ((addr_Assign.f t143).bind fun bt146 => (if bt146.2.2 = 0 then (dovetaillaw23_AddrGaps.l0 k bt146.1 bt146.2.1 65536 (-1) 0) else (some true))) = some r := H
      have A6 := Aside0.mk A60
      clear A60
      replace H := Option.bind_eq_some_iff.mp H
      obtain ⟨⟨t146, t147, t148⟩, A70, H⟩ := H
      replace H : (if t148 = 0 then (dovetaillaw23_AddrGaps.l0 k t146 t147 65536 (-1) 0) else (some true)) = some r := H
      have A7 := Aside0.mk A70
      clear A70
      by_cases c8 : t148 = 0
      · rw [if_pos c8] at H
        have c8b0 : (t148 == 0) = true := beq_iff_eq.mpr c8
        have c8b1 : (t148 != 0) = false := bne_eq_false_iff_eq.mpr c8
        clear c8
        have H' := Aside0.mk H
        clear H
        go_enter Try.func5, Try.ntmps5
        go_wp2_with (first | (go_at_call 7; (with_reducible refine (dovetaillaw23_known.calls  true _ A2.out).mono ?_); rintro e w9 ⟨rfl, hb⟩; have n0_ := Aside0.mk (below_step (by repeat (first | (with_reducible first | exact HB.out | apply below_alloc | apply pw_below_drewN | apply below_drew1) | exact HB.out)) hb); clear HB; have HB := n0_; clear n0_; (try clear hb); (try clear hb2); (try clear hk); (try clear hi)) | (go_at_call 9; (with_reducible refine (dovetaillaw23_pieces.calls k _ _ l0 t143 _ ?side1 ?side2 A6.out).mono ?_); (case side1 => repeat (first | exact (Kd.C_below HR0.out HB.out) | (with_reducible refine Kd.C_alloc ?_ _) | (with_reducible refine Kd.C_drewN ?_ _) | (with_reducible refine Kd.C_drew ?_))); (case side2 => exact HC0.out); rintro e w10 ⟨v144, rfl, ho0, hb⟩; have n0_ := Aside0.mk (Kd.R_lower ho0 (below_size (by repeat (first | (with_reducible first | exact HB.out | apply below_alloc | apply pw_below_drewN | apply below_drew1) | exact HB.out)))); have n1_ := Aside0.mk (below_step (by repeat (first | (with_reducible first | exact HB.out | apply below_alloc | apply pw_below_drewN | apply below_drew1) | exact HB.out)) hb); clear HB; have HO145 := n0_; have HB := n1_; clear n0_ n1_; (try clear hb); (try clear hb2); (try clear hk); (try clear hi); (try clear ho0); obtain ⟨Ao11, co11, eo11⟩ := Kd.R_slice HO145.out; subst eo11) | (go_at_call 8; (with_reducible refine (addr_Assign.calls _ _ t143 t146 t147 t148 _ ?side1 ?side2 A7.out).mono ?_); (case side1 => repeat (first | exact (Kd.R_reads' HO145.out).2.2 | (with_reducible refine Kd.C_alloc ?_ _) | (with_reducible refine Kd.C_drewN ?_ _) | (with_reducible refine Kd.C_drew ?_))); (case side2 => exact (Kd.R_reads' HO145.out).2.1); rintro e w12 ⟨v149, v151, rfl, ho0, ho1, hb⟩; have n0_ := Aside0.mk (Kd.R_elder' (by (with_reducible repeat (first | apply Kd.R_alloc | apply Kd.R_drewN | apply Kd.R_drew)); exact HO145.out) (Kd.R_base ho0) hb); have n1_ := Aside0.mk (Kd.R_lower (Kd.R_new' ho0 (Kd.R_lt (by (with_reducible repeat (first | apply Kd.R_alloc | apply Kd.R_drewN | apply Kd.R_drew)); exact HO145.out))) (below_size (by repeat (first | (with_reducible first | exact HB.out | apply below_alloc | apply pw_below_drewN | apply below_drew1) | exact HB.out)))); have n2_ := Aside0.mk (Kd.S_lower ho1 (below_size (by repeat (first | (with_reducible first | exact HB.out | apply below_alloc | apply pw_below_drewN | apply below_drew1) | exact HB.out)))); have n3_ := Aside0.mk (below_step (by repeat (first | (with_reducible first | exact HB.out | apply below_alloc | apply pw_below_drewN | apply below_drew1) | exact HB.out)) hb); clear HO145; clear HB; have HO145 := n0_; have HO150 := n1_; have HO152 := n2_; have HB := n3_; clear n0_ n1_ n2_ n3_; (try clear hb); (try clear hb2); (try clear hk); (try clear hi); (try clear ho0); (try clear ho1)))
        repeat (go_quiet (first | (go_at_call 7; (with_reducible refine (dovetaillaw23_known.calls  true _ A2.out).mono ?_); rintro e w9 ⟨rfl, hb⟩; have n0_ := Aside0.mk (below_step (by repeat (first | (with_reducible first | exact HB.out | apply below_alloc | apply pw_below_drewN | apply below_drew1) | exact HB.out)) hb); clear HB; have HB := n0_; clear n0_; (try clear hb); (try clear hb2); (try clear hk); (try clear hi)) | (go_at_call 9; (with_reducible refine (dovetaillaw23_pieces.calls k _ _ l0 t143 _ ?side1 ?side2 A6.out).mono ?_); (case side1 => repeat (first | exact (Kd.C_below HR0.out HB.out) | (with_reducible refine Kd.C_alloc ?_ _) | (with_reducible refine Kd.C_drewN ?_ _) | (with_reducible refine Kd.C_drew ?_))); (case side2 => exact HC0.out); rintro e w10 ⟨v144, rfl, ho0, hb⟩; have n0_ := Aside0.mk (Kd.R_lower ho0 (below_size (by repeat (first | (with_reducible first | exact HB.out | apply below_alloc | apply pw_below_drewN | apply below_drew1) | exact HB.out)))); have n1_ := Aside0.mk (below_step (by repeat (first | (with_reducible first | exact HB.out | apply below_alloc | apply pw_below_drewN | apply below_drew1) | exact HB.out)) hb); clear HB; have HO145 := n0_; have HB := n1_; clear n0_ n1_; (try clear hb); (try clear hb2); (try clear hk); (try clear hi); (try clear ho0); obtain ⟨Ao11, co11, eo11⟩ := Kd.R_slice HO145.out; subst eo11) | (go_at_call 8; (with_reducible refine (addr_Assign.calls _ _ t143 t146 t147 t148 _ ?side1 ?side2 A7.out).mono ?_); (case side1 => repeat (first | exact (Kd.R_reads' HO145.out).2.2 | (with_reducible refine Kd.C_alloc ?_ _) | (with_reducible refine Kd.C_drewN ?_ _) | (with_reducible refine Kd.C_drew ?_))); (case side2 => exact (Kd.R_reads' HO145.out).2.1); rintro e w12 ⟨v149, v151, rfl, ho0, ho1, hb⟩; have n0_ := Aside0.mk (Kd.R_elder' (by (with_reducible repeat (first | apply Kd.R_alloc | apply Kd.R_drewN | apply Kd.R_drew)); exact HO145.out) (Kd.R_base ho0) hb); have n1_ := Aside0.mk (Kd.R_lower (Kd.R_new' ho0 (Kd.R_lt (by (with_reducible repeat (first | apply Kd.R_alloc | apply Kd.R_drewN | apply Kd.R_drew)); exact HO145.out))) (below_size (by repeat (first | (with_reducible first | exact HB.out | apply below_alloc | apply pw_below_drewN | apply below_drew1) | exact HB.out)))); have n2_ := Aside0.mk (Kd.S_lower ho1 (below_size (by repeat (first | (with_reducible first | exact HB.out | apply below_alloc | apply pw_below_drewN | apply below_drew1) | exact HB.out)))); have n3_ := Aside0.mk (below_step (by repeat (first | (with_reducible first | exact HB.out | apply below_alloc | apply pw_below_drewN | apply below_drew1) | exact HB.out)) hb); clear HO145; clear HB; have HO145 := n0_; have HO150 := n1_; have HO152 := n2_; have HB := n3_; clear n0_ n1_ n2_ n3_; (try clear hb); (try clear hb2); (try clear hk); (try clear hi); (try clear ho0); (try clear ho1))); try go_wp2_with (first | (go_at_call 7; (with_reducible refine (dovetaillaw23_known.calls  true _ A2.out).mono ?_); rintro e w9 ⟨rfl, hb⟩; have n0_ := Aside0.mk (below_step (by repeat (first | (with_reducible first | exact HB.out | apply below_alloc | apply pw_below_drewN | apply below_drew1) | exact HB.out)) hb); clear HB; have HB := n0_; clear n0_; (try clear hb); (try clear hb2); (try clear hk); (try clear hi)) | (go_at_call 9; (with_reducible refine (dovetaillaw23_pieces.calls k _ _ l0 t143 _ ?side1 ?side2 A6.out).mono ?_); (case side1 => repeat (first | exact (Kd.C_below HR0.out HB.out) | (with_reducible refine Kd.C_alloc ?_ _) | (with_reducible refine Kd.C_drewN ?_ _) | (with_reducible refine Kd.C_drew ?_))); (case side2 => exact HC0.out); rintro e w10 ⟨v144, rfl, ho0, hb⟩; have n0_ := Aside0.mk (Kd.R_lower ho0 (below_size (by repeat (first | (with_reducible first | exact HB.out | apply below_alloc | apply pw_below_drewN | apply below_drew1) | exact HB.out)))); have n1_ := Aside0.mk (below_step (by repeat (first | (with_reducible first | exact HB.out | apply below_alloc | apply pw_below_drewN | apply below_drew1) | exact HB.out)) hb); clear HB; have HO145 := n0_; have HB := n1_; clear n0_ n1_; (try clear hb); (try clear hb2); (try clear hk); (try clear hi); (try clear ho0); obtain ⟨Ao11, co11, eo11⟩ := Kd.R_slice HO145.out; subst eo11) | (go_at_call 8; (with_reducible refine (addr_Assign.calls _ _ t143 t146 t147 t148 _ ?side1 ?side2 A7.out).mono ?_); (case side1 => repeat (first | exact (Kd.R_reads' HO145.out).2.2 | (with_reducible refine Kd.C_alloc ?_ _) | (with_reducible refine Kd.C_drewN ?_ _) | (with_reducible refine Kd.C_drew ?_))); (case side2 => exact (Kd.R_reads' HO145.out).2.1); rintro e w12 ⟨v149, v151, rfl, ho0, ho1, hb⟩; have n0_ := Aside0.mk (Kd.R_elder' (by (with_reducible repeat (first | apply Kd.R_alloc | apply Kd.R_drewN | apply Kd.R_drew)); exact HO145.out) (Kd.R_base ho0) hb); have n1_ := Aside0.mk (Kd.R_lower (Kd.R_new' ho0 (Kd.R_lt (by (with_reducible repeat (first | apply Kd.R_alloc | apply Kd.R_drewN | apply Kd.R_drew)); exact HO145.out))) (below_size (by repeat (first | (with_reducible first | exact HB.out | apply below_alloc | apply pw_below_drewN | apply below_drew1) | exact HB.out)))); have n2_ := Aside0.mk (Kd.S_lower ho1 (below_size (by repeat (first | (with_reducible first | exact HB.out | apply below_alloc | apply pw_below_drewN | apply below_drew1) | exact HB.out)))); have n3_ := Aside0.mk (below_step (by repeat (first | (with_reducible first | exact HB.out | apply below_alloc | apply pw_below_drewN | apply below_drew1) | exact HB.out)) hb); clear HO145; clear HB; have HO145 := n0_; have HO150 := n1_; have HO152 := n2_; have HB := n3_; clear n0_ n1_ n2_ n3_; (try clear hb); (try clear hb2); (try clear hk); (try clear hi); (try clear ho0); (try clear ho1))))
        go_loopg [6, 7, 8] k (fun kq v6 v7 v8 w' => ∃ (x6_1 : Int) (x7_1 : Int) (x8_1 : Int), v6 = .int .u64 x6_1 ∧ v7 = .int .i64 x7_1 ∧ v8 = .int .i64 x8_1 ∧ Aside0 (dovetaillaw23_AddrGaps.l0 kq t146 t147 x6_1 x7_1 x8_1 = some r) ∧ Aside0 (kq ≤ k) ∧ Aside0 (Kd.R k37 37 w' w.heap.size (fun _ => True) v149 t146) ∧ Aside0 (Kd.S k40 40 w' w.heap.size (fun _ => True) v151 t147) ∧ Aside0 (Below w.heap.size w w'))
        case atStart => exact ⟨(65536), ((-1)), (0), (by first | rfl | (simp; done) | (simp [*]; done)), (by first | rfl | (simp; done) | (simp [*]; done)), (by first | rfl | (simp; done) | (simp [*]; done)), H', ⟨Nat.le_refl _⟩, ⟨by (with_reducible repeat (first | apply Kd.R_alloc | apply Kd.R_drewN | apply Kd.R_drew)); exact Kd.R_mono HO150.out (fun _ hk => trivial)⟩, ⟨by (with_reducible repeat (first | apply Kd.S_alloc | apply Kd.S_drewN | apply Kd.S_drew)); exact HO152.out⟩, ⟨by repeat (first | (with_reducible first | exact HB.out | apply below_alloc | apply pw_below_drewN | apply below_drew1) | exact HB.out)⟩⟩
        case round =>
          clear H'
          try clear p2
          try clear c3
          try clear c4
          try clear c4b0
          try clear c4b1
          try clear c5
          try clear c8
          try clear c8b0
          try clear c8b1
          obtain ⟨x6_1, x7_1, x8_1, rfl, rfl, rfl, HA, HK1, HO_3, HO_4, HB⟩ := hrel
          cases gk with
          | zero => exact absurd HA.out (by simp [dovetaillaw23_AddrGaps.l0])
          | succ k1 =>
            have H := HA.out
            clear HA
            simp only [dovetaillaw23_AddrGaps.l0] at H
            by_cases c13 : x8_1 < (t146.length : Int)
            · rw [if_pos c13] at H
              have c13b0 : decide (x8_1 < (t146.length : Int)) = true := decide_eq_true c13
              clear c13
              obtain ⟨y153, hy153⟩ : ∃ y_ : List Int, y_ = (([0, 1, 2, 2] : List Int)) := ⟨_, rfl⟩
              replace H : (if 0 ≤ x8_1 then (if 0 ≤ ((rd_T37 t146 x8_1).f2) then (if ((rd_T37 t146 x8_1).f2) < (y153.length : Int) then (if (rd y153 ((rd_T37 t146 x8_1).f2)) = x7_1 then (if ((rd_T37 t146 x8_1).f6) < x6_1 then (some false) else (if (IntKind.u64.wrap (((rd_T37 t146 x8_1).f6) - x6_1)) ≥ ((rd_T37 t146 x8_1).f4) then (some false) else (dovetaillaw23_AddrGaps.l0 k1 t146 t147 (IntKind.u64.wrap (((rd_T37 t146 x8_1).f6) + ((rd_T37 t146 x8_1).f5))) x7_1 (wrap64 (x8_1 + 1))))) else (if ((rd_T37 t146 x8_1).f6) < (IntKind.u64.wrap ((IntKind.u64.wrap (Int.tdiv (IntKind.u64.wrap ((IntKind.u64.wrap (x6_1 + 4096)) - 1)) 4096)) * 4096)) then (some false) else (if (IntKind.u64.wrap (((rd_T37 t146 x8_1).f6) - (IntKind.u64.wrap ((IntKind.u64.wrap (Int.tdiv (IntKind.u64.wrap ((IntKind.u64.wrap (x6_1 + 4096)) - 1)) 4096)) * 4096)))) ≥ ((rd_T37 t146 x8_1).f4) then (some false) else (dovetaillaw23_AddrGaps.l0 k1 t146 t147 (IntKind.u64.wrap (((rd_T37 t146 x8_1).f6) + ((rd_T37 t146 x8_1).f5))) (rd y153 ((rd_T37 t146 x8_1).f2)) (wrap64 (x8_1 + 1)))))) else (none)) else (none)) else (none)) = some r := by first | (rw [hy153]; with_reducible exact H) | (have H2_ := (Option.bind_some _ _).symm.trans H; rw [hy153]; with_reducible exact H2_) | (have H2_ := (Option.bind_some _ _).symm.trans H; with_reducible exact H2_) | with_reducible exact H | (rw [hy153]; exact H) | exact H
              have Ny153 := Aside0.mk hy153
              clear hy153
              by_cases c14 : 0 ≤ x8_1
              · rw [if_pos c14] at H
                have c14b0 : decide (0 ≤ x8_1) = true := decide_eq_true c14
                clear c14
                by_cases c15 : 0 ≤ ((rd_T37 t146 x8_1).f2)
                · rw [if_pos c15] at H
                  have c15b0 : decide (0 ≤ ((rd_T37 t146 x8_1).f2)) = true := decide_eq_true c15
                  clear c15
                  by_cases c16 : ((rd_T37 t146 x8_1).f2) < (y153.length : Int)
                  · rw [if_pos c16] at H
                    have c16b0 : decide (((rd_T37 t146 x8_1).f2) < (y153.length : Int)) = true := decide_eq_true c16
                    clear c16
                    by_cases c17 : (rd y153 ((rd_T37 t146 x8_1).f2)) = x7_1
                    · rw [if_pos c17] at H
                      have c17b0 : ((rd y153 ((rd_T37 t146 x8_1).f2)) == x7_1) = true := beq_iff_eq.mpr c17
                      have c17b1 : ((rd y153 ((rd_T37 t146 x8_1).f2)) != x7_1) = false := bne_eq_false_iff_eq.mpr c17
                      clear c17
                      by_cases c18 : ((rd_T37 t146 x8_1).f6) < x6_1
                      · rw [if_pos c18] at H
                        have c18b0 : decide (((rd_T37 t146 x8_1).f6) < x6_1) = true := decide_eq_true c18
                        clear c18
                        obtain rfl := Option.some.inj H
                        obtain ⟨Ao19, co19, eo19⟩ := Kd.R_slice HO_3.out
                        subst eo19
                        go_wp2_with (first | ((with_reducible refine gate_dst (N := 33) rfl ?_); refine Kd.R_lit (Kd.int .i64) _ 3 ?hg (N := 33) ?hd (xs := ([0, 1, 2, 2] : List Int)) (inner := [.int .i64 0, .int .i64 1, .int .i64 2, .int .i64 2]) (ok := fun _ => True) (okp := fun _ => True) ?hr ?hp (fun _ hk => hk) trivial (Below.refl _ _) (Nat.le_refl _) (by simp) ?_; (case hd => rfl); (case hg => rfl); (case hr => first | (go_simp; done) | (go_simp; rfl)); (case hp => exact (Reps.one (show Kd.M (Kd.int .i64) _ _ _ 0 [.int .i64 0] from rfl) (Reps.one (show Kd.M (Kd.int .i64) _ _ _ 1 [.int .i64 1] from rfl) (Reps.one (show Kd.M (Kd.int .i64) _ _ _ 2 [.int .i64 2] from rfl) (Reps.one (show Kd.M (Kd.int .i64) _ _ _ 2 [.int .i64 2] from rfl) (Reps.none _ _)))))); intro v154 w20 ho21 hb hg_ hnew_; clear hg_ hnew_; (first | rw [← Ny153.out] at ho21 | (simp only [Int.reduceToNat] at ho21; rw [← Ny153.out] at ho21)); have n0_ := Aside0.mk (Kd.R_below (by (with_reducible repeat (first | apply Kd.R_alloc | apply Kd.R_drewN | apply Kd.R_drew)); exact HO_3.out) hb); have n1_ := Aside0.mk (Kd.S_below (by (with_reducible repeat (first | apply Kd.S_alloc | apply Kd.S_drewN | apply Kd.S_drew)); exact HO_4.out) hb); have n2_ := Aside0.mk (Kd.R_lower ho21 (below_size (by repeat (first | (with_reducible first | exact HB.out | apply below_alloc | apply pw_below_drewN | apply below_drew1) | exact HB.out)))); have n3_ := Aside0.mk (below_step (by repeat (first | (with_reducible first | exact HB.out | apply below_alloc | apply pw_below_drewN | apply below_drew1) | exact HB.out)) hb); clear HO_3; clear HO_4; clear HB; have HO_3 := n0_; have HO_4 := n1_; have HO155 := n2_; have HB := n3_; clear n0_ n1_ n2_ n3_; clear hb ho21; have p156 : 0 ≤ (x8_1 : Int) := of_decide_eq_true (by first | (with_reducible assumption) | assumption); have q156 : x8_1 < (t146.length : Int) := of_decide_eq_true (by first | (with_reducible assumption) | assumption); obtain ⟨ad156, e156, hx156_0, hx156_1, hx156_2, hx156_3, hx156_4, hx156_5, hx156_6⟩ := at_T37 (Kd.R_reads' HO_3.out).2.2 x8_1 p156 q156; cases e156; replace p156 := eq_true p156; replace q156 := eq_true q156; obtain ⟨Ao22, co22, eo22⟩ := Kd.R_slice HO155.out; subst eo22; have p157 : 0 ≤ (((rd_T37 t146 x8_1).f2) : Int) := of_decide_eq_true (by first | (with_reducible assumption) | assumption); have q157 : ((rd_T37 t146 x8_1).f2) < (y153.length : Int) := of_decide_eq_true (by first | (with_reducible assumption) | assumption); obtain ⟨ad157, e157, hx157_0⟩ := Kd.at_int (Kd.R_reads' HO155.out).2.2 ((rd_T37 t146 x8_1).f2) p157 q157; cases e157; replace p157 := eq_true p157; replace q157 := eq_true q157; have p158 : 0 ≤ (x8_1 : Int) := of_decide_eq_true (by first | (with_reducible assumption) | assumption); have q158 : x8_1 < (t146.length : Int) := of_decide_eq_true (by first | (with_reducible assumption) | assumption); obtain ⟨ad158, e158, hx158_0, hx158_1, hx158_2, hx158_3, hx158_4, hx158_5, hx158_6⟩ := at_T37 (Kd.R_reads' HO_3.out).2.2 x8_1 p158 q158; obtain rfl : ad156 = ad158 := (by injection e158); replace p158 := eq_true p158; replace q158 := eq_true q158))
                        repeat (go_quiet (first | ((with_reducible refine gate_dst (N := 33) rfl ?_); refine Kd.R_lit (Kd.int .i64) _ 3 ?hg (N := 33) ?hd (xs := ([0, 1, 2, 2] : List Int)) (inner := [.int .i64 0, .int .i64 1, .int .i64 2, .int .i64 2]) (ok := fun _ => True) (okp := fun _ => True) ?hr ?hp (fun _ hk => hk) trivial (Below.refl _ _) (Nat.le_refl _) (by simp) ?_; (case hd => rfl); (case hg => rfl); (case hr => first | (go_simp; done) | (go_simp; rfl)); (case hp => exact (Reps.one (show Kd.M (Kd.int .i64) _ _ _ 0 [.int .i64 0] from rfl) (Reps.one (show Kd.M (Kd.int .i64) _ _ _ 1 [.int .i64 1] from rfl) (Reps.one (show Kd.M (Kd.int .i64) _ _ _ 2 [.int .i64 2] from rfl) (Reps.one (show Kd.M (Kd.int .i64) _ _ _ 2 [.int .i64 2] from rfl) (Reps.none _ _)))))); intro v154 w20 ho21 hb hg_ hnew_; clear hg_ hnew_; (first | rw [← Ny153.out] at ho21 | (simp only [Int.reduceToNat] at ho21; rw [← Ny153.out] at ho21)); have n0_ := Aside0.mk (Kd.R_below (by (with_reducible repeat (first | apply Kd.R_alloc | apply Kd.R_drewN | apply Kd.R_drew)); exact HO_3.out) hb); have n1_ := Aside0.mk (Kd.S_below (by (with_reducible repeat (first | apply Kd.S_alloc | apply Kd.S_drewN | apply Kd.S_drew)); exact HO_4.out) hb); have n2_ := Aside0.mk (Kd.R_lower ho21 (below_size (by repeat (first | (with_reducible first | exact HB.out | apply below_alloc | apply pw_below_drewN | apply below_drew1) | exact HB.out)))); have n3_ := Aside0.mk (below_step (by repeat (first | (with_reducible first | exact HB.out | apply below_alloc | apply pw_below_drewN | apply below_drew1) | exact HB.out)) hb); clear HO_3; clear HO_4; clear HB; have HO_3 := n0_; have HO_4 := n1_; have HO155 := n2_; have HB := n3_; clear n0_ n1_ n2_ n3_; clear hb ho21; have p156 : 0 ≤ (x8_1 : Int) := of_decide_eq_true (by first | (with_reducible assumption) | assumption); have q156 : x8_1 < (t146.length : Int) := of_decide_eq_true (by first | (with_reducible assumption) | assumption); obtain ⟨ad156, e156, hx156_0, hx156_1, hx156_2, hx156_3, hx156_4, hx156_5, hx156_6⟩ := at_T37 (Kd.R_reads' HO_3.out).2.2 x8_1 p156 q156; cases e156; replace p156 := eq_true p156; replace q156 := eq_true q156; obtain ⟨Ao22, co22, eo22⟩ := Kd.R_slice HO155.out; subst eo22; have p157 : 0 ≤ (((rd_T37 t146 x8_1).f2) : Int) := of_decide_eq_true (by first | (with_reducible assumption) | assumption); have q157 : ((rd_T37 t146 x8_1).f2) < (y153.length : Int) := of_decide_eq_true (by first | (with_reducible assumption) | assumption); obtain ⟨ad157, e157, hx157_0⟩ := Kd.at_int (Kd.R_reads' HO155.out).2.2 ((rd_T37 t146 x8_1).f2) p157 q157; cases e157; replace p157 := eq_true p157; replace q157 := eq_true q157; have p158 : 0 ≤ (x8_1 : Int) := of_decide_eq_true (by first | (with_reducible assumption) | assumption); have q158 : x8_1 < (t146.length : Int) := of_decide_eq_true (by first | (with_reducible assumption) | assumption); obtain ⟨ad158, e158, hx158_0, hx158_1, hx158_2, hx158_3, hx158_4, hx158_5, hx158_6⟩ := at_T37 (Kd.R_reads' HO_3.out).2.2 x8_1 p158 q158; obtain rfl : ad156 = ad158 := (by injection e158); replace p158 := eq_true p158; replace q158 := eq_true q158)); try go_wp2_with (first | ((with_reducible refine gate_dst (N := 33) rfl ?_); refine Kd.R_lit (Kd.int .i64) _ 3 ?hg (N := 33) ?hd (xs := ([0, 1, 2, 2] : List Int)) (inner := [.int .i64 0, .int .i64 1, .int .i64 2, .int .i64 2]) (ok := fun _ => True) (okp := fun _ => True) ?hr ?hp (fun _ hk => hk) trivial (Below.refl _ _) (Nat.le_refl _) (by simp) ?_; (case hd => rfl); (case hg => rfl); (case hr => first | (go_simp; done) | (go_simp; rfl)); (case hp => exact (Reps.one (show Kd.M (Kd.int .i64) _ _ _ 0 [.int .i64 0] from rfl) (Reps.one (show Kd.M (Kd.int .i64) _ _ _ 1 [.int .i64 1] from rfl) (Reps.one (show Kd.M (Kd.int .i64) _ _ _ 2 [.int .i64 2] from rfl) (Reps.one (show Kd.M (Kd.int .i64) _ _ _ 2 [.int .i64 2] from rfl) (Reps.none _ _)))))); intro v154 w20 ho21 hb hg_ hnew_; clear hg_ hnew_; (first | rw [← Ny153.out] at ho21 | (simp only [Int.reduceToNat] at ho21; rw [← Ny153.out] at ho21)); have n0_ := Aside0.mk (Kd.R_below (by (with_reducible repeat (first | apply Kd.R_alloc | apply Kd.R_drewN | apply Kd.R_drew)); exact HO_3.out) hb); have n1_ := Aside0.mk (Kd.S_below (by (with_reducible repeat (first | apply Kd.S_alloc | apply Kd.S_drewN | apply Kd.S_drew)); exact HO_4.out) hb); have n2_ := Aside0.mk (Kd.R_lower ho21 (below_size (by repeat (first | (with_reducible first | exact HB.out | apply below_alloc | apply pw_below_drewN | apply below_drew1) | exact HB.out)))); have n3_ := Aside0.mk (below_step (by repeat (first | (with_reducible first | exact HB.out | apply below_alloc | apply pw_below_drewN | apply below_drew1) | exact HB.out)) hb); clear HO_3; clear HO_4; clear HB; have HO_3 := n0_; have HO_4 := n1_; have HO155 := n2_; have HB := n3_; clear n0_ n1_ n2_ n3_; clear hb ho21; have p156 : 0 ≤ (x8_1 : Int) := of_decide_eq_true (by first | (with_reducible assumption) | assumption); have q156 : x8_1 < (t146.length : Int) := of_decide_eq_true (by first | (with_reducible assumption) | assumption); obtain ⟨ad156, e156, hx156_0, hx156_1, hx156_2, hx156_3, hx156_4, hx156_5, hx156_6⟩ := at_T37 (Kd.R_reads' HO_3.out).2.2 x8_1 p156 q156; cases e156; replace p156 := eq_true p156; replace q156 := eq_true q156; obtain ⟨Ao22, co22, eo22⟩ := Kd.R_slice HO155.out; subst eo22; have p157 : 0 ≤ (((rd_T37 t146 x8_1).f2) : Int) := of_decide_eq_true (by first | (with_reducible assumption) | assumption); have q157 : ((rd_T37 t146 x8_1).f2) < (y153.length : Int) := of_decide_eq_true (by first | (with_reducible assumption) | assumption); obtain ⟨ad157, e157, hx157_0⟩ := Kd.at_int (Kd.R_reads' HO155.out).2.2 ((rd_T37 t146 x8_1).f2) p157 q157; cases e157; replace p157 := eq_true p157; replace q157 := eq_true q157; have p158 : 0 ≤ (x8_1 : Int) := of_decide_eq_true (by first | (with_reducible assumption) | assumption); have q158 : x8_1 < (t146.length : Int) := of_decide_eq_true (by first | (with_reducible assumption) | assumption); obtain ⟨ad158, e158, hx158_0, hx158_1, hx158_2, hx158_3, hx158_4, hx158_5, hx158_6⟩ := at_T37 (Kd.R_reads' HO_3.out).2.2 x8_1 p158 q158; obtain rfl : ad156 = ad158 := (by injection e158); replace p158 := eq_true p158; replace q158 := eq_true q158)))
                        go_ret
                        exact ⟨by first | rfl | (simp [errW_none, errW_some] <;> rfl) | (simp [*, errW_none, errW_some] <;> rfl), by repeat (first | (with_reducible first | exact HB.out | apply below_alloc | apply pw_below_drewN | apply below_drew1) | exact HB.out)⟩
                      · rw [if_neg c18] at H
                        have c18b0 : decide (((rd_T37 t146 x8_1).f6) < x6_1) = false := decide_eq_false c18
                        clear c18
                        by_cases c23 : (IntKind.u64.wrap (((rd_T37 t146 x8_1).f6) - x6_1)) ≥ ((rd_T37 t146 x8_1).f4)
                        · rw [if_pos c23] at H
                          have c23b0 : decide (((rd_T37 t146 x8_1).f4) ≤ (IntKind.u64.wrap (((rd_T37 t146 x8_1).f6) - x6_1))) = true := decide_eq_true c23
                          clear c23
                          obtain rfl := Option.some.inj H
                          obtain ⟨Ao24, co24, eo24⟩ := Kd.R_slice HO_3.out
                          subst eo24
                          go_wp2_with (first | ((with_reducible refine gate_dst (N := 33) rfl ?_); refine Kd.R_lit (Kd.int .i64) _ 3 ?hg (N := 33) ?hd (xs := ([0, 1, 2, 2] : List Int)) (inner := [.int .i64 0, .int .i64 1, .int .i64 2, .int .i64 2]) (ok := fun _ => True) (okp := fun _ => True) ?hr ?hp (fun _ hk => hk) trivial (Below.refl _ _) (Nat.le_refl _) (by simp) ?_; (case hd => rfl); (case hg => rfl); (case hr => first | (go_simp; done) | (go_simp; rfl)); (case hp => exact (Reps.one (show Kd.M (Kd.int .i64) _ _ _ 0 [.int .i64 0] from rfl) (Reps.one (show Kd.M (Kd.int .i64) _ _ _ 1 [.int .i64 1] from rfl) (Reps.one (show Kd.M (Kd.int .i64) _ _ _ 2 [.int .i64 2] from rfl) (Reps.one (show Kd.M (Kd.int .i64) _ _ _ 2 [.int .i64 2] from rfl) (Reps.none _ _)))))); intro v154 w25 ho26 hb hg_ hnew_; clear hg_ hnew_; (first | rw [← Ny153.out] at ho26 | (simp only [Int.reduceToNat] at ho26; rw [← Ny153.out] at ho26)); have n0_ := Aside0.mk (Kd.R_below (by (with_reducible repeat (first | apply Kd.R_alloc | apply Kd.R_drewN | apply Kd.R_drew)); exact HO_3.out) hb); have n1_ := Aside0.mk (Kd.S_below (by (with_reducible repeat (first | apply Kd.S_alloc | apply Kd.S_drewN | apply Kd.S_drew)); exact HO_4.out) hb); have n2_ := Aside0.mk (Kd.R_lower ho26 (below_size (by repeat (first | (with_reducible first | exact HB.out | apply below_alloc | apply pw_below_drewN | apply below_drew1) | exact HB.out)))); have n3_ := Aside0.mk (below_step (by repeat (first | (with_reducible first | exact HB.out | apply below_alloc | apply pw_below_drewN | apply below_drew1) | exact HB.out)) hb); clear HO_3; clear HO_4; clear HB; have HO_3 := n0_; have HO_4 := n1_; have HO155 := n2_; have HB := n3_; clear n0_ n1_ n2_ n3_; clear hb ho26; have p156 : 0 ≤ (x8_1 : Int) := of_decide_eq_true (by first | (with_reducible assumption) | assumption); have q156 : x8_1 < (t146.length : Int) := of_decide_eq_true (by first | (with_reducible assumption) | assumption); obtain ⟨ad156, e156, hx156_0, hx156_1, hx156_2, hx156_3, hx156_4, hx156_5, hx156_6⟩ := at_T37 (Kd.R_reads' HO_3.out).2.2 x8_1 p156 q156; cases e156; replace p156 := eq_true p156; replace q156 := eq_true q156; obtain ⟨Ao27, co27, eo27⟩ := Kd.R_slice HO155.out; subst eo27; have p157 : 0 ≤ (((rd_T37 t146 x8_1).f2) : Int) := of_decide_eq_true (by first | (with_reducible assumption) | assumption); have q157 : ((rd_T37 t146 x8_1).f2) < (y153.length : Int) := of_decide_eq_true (by first | (with_reducible assumption) | assumption); obtain ⟨ad157, e157, hx157_0⟩ := Kd.at_int (Kd.R_reads' HO155.out).2.2 ((rd_T37 t146 x8_1).f2) p157 q157; cases e157; replace p157 := eq_true p157; replace q157 := eq_true q157; have p158 : 0 ≤ (x8_1 : Int) := of_decide_eq_true (by first | (with_reducible assumption) | assumption); have q158 : x8_1 < (t146.length : Int) := of_decide_eq_true (by first | (with_reducible assumption) | assumption); obtain ⟨ad158, e158, hx158_0, hx158_1, hx158_2, hx158_3, hx158_4, hx158_5, hx158_6⟩ := at_T37 (Kd.R_reads' HO_3.out).2.2 x8_1 p158 q158; obtain rfl : ad156 = ad158 := (by injection e158); replace p158 := eq_true p158; replace q158 := eq_true q158; have p159 : 0 ≤ (x8_1 : Int) := of_decide_eq_true (by first | (with_reducible assumption) | assumption); have q159 : x8_1 < (t146.length : Int) := of_decide_eq_true (by first | (with_reducible assumption) | assumption); obtain ⟨ad159, e159, hx159_0, hx159_1, hx159_2, hx159_3, hx159_4, hx159_5, hx159_6⟩ := at_T37 (Kd.R_reads' HO_3.out).2.2 x8_1 p159 q159; obtain rfl : ad156 = ad159 := (by injection e159); replace p159 := eq_true p159; replace q159 := eq_true q159; have p160 : 0 ≤ (x8_1 : Int) := of_decide_eq_true (by first | (with_reducible assumption) | assumption); have q160 : x8_1 < (t146.length : Int) := of_decide_eq_true (by first | (with_reducible assumption) | assumption); obtain ⟨ad160, e160, hx160_0, hx160_1, hx160_2, hx160_3, hx160_4, hx160_5, hx160_6⟩ := at_T37 (Kd.R_reads' HO_3.out).2.2 x8_1 p160 q160; obtain rfl : ad156 = ad160 := (by injection e160); replace p160 := eq_true p160; replace q160 := eq_true q160))
                          repeat (go_quiet (first | ((with_reducible refine gate_dst (N := 33) rfl ?_); refine Kd.R_lit (Kd.int .i64) _ 3 ?hg (N := 33) ?hd (xs := ([0, 1, 2, 2] : List Int)) (inner := [.int .i64 0, .int .i64 1, .int .i64 2, .int .i64 2]) (ok := fun _ => True) (okp := fun _ => True) ?hr ?hp (fun _ hk => hk) trivial (Below.refl _ _) (Nat.le_refl _) (by simp) ?_; (case hd => rfl); (case hg => rfl); (case hr => first | (go_simp; done) | (go_simp; rfl)); (case hp => exact (Reps.one (show Kd.M (Kd.int .i64) _ _ _ 0 [.int .i64 0] from rfl) (Reps.one (show Kd.M (Kd.int .i64) _ _ _ 1 [.int .i64 1] from rfl) (Reps.one (show Kd.M (Kd.int .i64) _ _ _ 2 [.int .i64 2] from rfl) (Reps.one (show Kd.M (Kd.int .i64) _ _ _ 2 [.int .i64 2] from rfl) (Reps.none _ _)))))); intro v154 w25 ho26 hb hg_ hnew_; clear hg_ hnew_; (first | rw [← Ny153.out] at ho26 | (simp only [Int.reduceToNat] at ho26; rw [← Ny153.out] at ho26)); have n0_ := Aside0.mk (Kd.R_below (by (with_reducible repeat (first | apply Kd.R_alloc | apply Kd.R_drewN | apply Kd.R_drew)); exact HO_3.out) hb); have n1_ := Aside0.mk (Kd.S_below (by (with_reducible repeat (first | apply Kd.S_alloc | apply Kd.S_drewN | apply Kd.S_drew)); exact HO_4.out) hb); have n2_ := Aside0.mk (Kd.R_lower ho26 (below_size (by repeat (first | (with_reducible first | exact HB.out | apply below_alloc | apply pw_below_drewN | apply below_drew1) | exact HB.out)))); have n3_ := Aside0.mk (below_step (by repeat (first | (with_reducible first | exact HB.out | apply below_alloc | apply pw_below_drewN | apply below_drew1) | exact HB.out)) hb); clear HO_3; clear HO_4; clear HB; have HO_3 := n0_; have HO_4 := n1_; have HO155 := n2_; have HB := n3_; clear n0_ n1_ n2_ n3_; clear hb ho26; have p156 : 0 ≤ (x8_1 : Int) := of_decide_eq_true (by first | (with_reducible assumption) | assumption); have q156 : x8_1 < (t146.length : Int) := of_decide_eq_true (by first | (with_reducible assumption) | assumption); obtain ⟨ad156, e156, hx156_0, hx156_1, hx156_2, hx156_3, hx156_4, hx156_5, hx156_6⟩ := at_T37 (Kd.R_reads' HO_3.out).2.2 x8_1 p156 q156; cases e156; replace p156 := eq_true p156; replace q156 := eq_true q156; obtain ⟨Ao27, co27, eo27⟩ := Kd.R_slice HO155.out; subst eo27; have p157 : 0 ≤ (((rd_T37 t146 x8_1).f2) : Int) := of_decide_eq_true (by first | (with_reducible assumption) | assumption); have q157 : ((rd_T37 t146 x8_1).f2) < (y153.length : Int) := of_decide_eq_true (by first | (with_reducible assumption) | assumption); obtain ⟨ad157, e157, hx157_0⟩ := Kd.at_int (Kd.R_reads' HO155.out).2.2 ((rd_T37 t146 x8_1).f2) p157 q157; cases e157; replace p157 := eq_true p157; replace q157 := eq_true q157; have p158 : 0 ≤ (x8_1 : Int) := of_decide_eq_true (by first | (with_reducible assumption) | assumption); have q158 : x8_1 < (t146.length : Int) := of_decide_eq_true (by first | (with_reducible assumption) | assumption); obtain ⟨ad158, e158, hx158_0, hx158_1, hx158_2, hx158_3, hx158_4, hx158_5, hx158_6⟩ := at_T37 (Kd.R_reads' HO_3.out).2.2 x8_1 p158 q158; obtain rfl : ad156 = ad158 := (by injection e158); replace p158 := eq_true p158; replace q158 := eq_true q158; have p159 : 0 ≤ (x8_1 : Int) := of_decide_eq_true (by first | (with_reducible assumption) | assumption); have q159 : x8_1 < (t146.length : Int) := of_decide_eq_true (by first | (with_reducible assumption) | assumption); obtain ⟨ad159, e159, hx159_0, hx159_1, hx159_2, hx159_3, hx159_4, hx159_5, hx159_6⟩ := at_T37 (Kd.R_reads' HO_3.out).2.2 x8_1 p159 q159; obtain rfl : ad156 = ad159 := (by injection e159); replace p159 := eq_true p159; replace q159 := eq_true q159; have p160 : 0 ≤ (x8_1 : Int) := of_decide_eq_true (by first | (with_reducible assumption) | assumption); have q160 : x8_1 < (t146.length : Int) := of_decide_eq_true (by first | (with_reducible assumption) | assumption); obtain ⟨ad160, e160, hx160_0, hx160_1, hx160_2, hx160_3, hx160_4, hx160_5, hx160_6⟩ := at_T37 (Kd.R_reads' HO_3.out).2.2 x8_1 p160 q160; obtain rfl : ad156 = ad160 := (by injection e160); replace p160 := eq_true p160; replace q160 := eq_true q160)); try go_wp2_with (first | ((with_reducible refine gate_dst (N := 33) rfl ?_); refine Kd.R_lit (Kd.int .i64) _ 3 ?hg (N := 33) ?hd (xs := ([0, 1, 2, 2] : List Int)) (inner := [.int .i64 0, .int .i64 1, .int .i64 2, .int .i64 2]) (ok := fun _ => True) (okp := fun _ => True) ?hr ?hp (fun _ hk => hk) trivial (Below.refl _ _) (Nat.le_refl _) (by simp) ?_; (case hd => rfl); (case hg => rfl); (case hr => first | (go_simp; done) | (go_simp; rfl)); (case hp => exact (Reps.one (show Kd.M (Kd.int .i64) _ _ _ 0 [.int .i64 0] from rfl) (Reps.one (show Kd.M (Kd.int .i64) _ _ _ 1 [.int .i64 1] from rfl) (Reps.one (show Kd.M (Kd.int .i64) _ _ _ 2 [.int .i64 2] from rfl) (Reps.one (show Kd.M (Kd.int .i64) _ _ _ 2 [.int .i64 2] from rfl) (Reps.none _ _)))))); intro v154 w25 ho26 hb hg_ hnew_; clear hg_ hnew_; (first | rw [← Ny153.out] at ho26 | (simp only [Int.reduceToNat] at ho26; rw [← Ny153.out] at ho26)); have n0_ := Aside0.mk (Kd.R_below (by (with_reducible repeat (first | apply Kd.R_alloc | apply Kd.R_drewN | apply Kd.R_drew)); exact HO_3.out) hb); have n1_ := Aside0.mk (Kd.S_below (by (with_reducible repeat (first | apply Kd.S_alloc | apply Kd.S_drewN | apply Kd.S_drew)); exact HO_4.out) hb); have n2_ := Aside0.mk (Kd.R_lower ho26 (below_size (by repeat (first | (with_reducible first | exact HB.out | apply below_alloc | apply pw_below_drewN | apply below_drew1) | exact HB.out)))); have n3_ := Aside0.mk (below_step (by repeat (first | (with_reducible first | exact HB.out | apply below_alloc | apply pw_below_drewN | apply below_drew1) | exact HB.out)) hb); clear HO_3; clear HO_4; clear HB; have HO_3 := n0_; have HO_4 := n1_; have HO155 := n2_; have HB := n3_; clear n0_ n1_ n2_ n3_; clear hb ho26; have p156 : 0 ≤ (x8_1 : Int) := of_decide_eq_true (by first | (with_reducible assumption) | assumption); have q156 : x8_1 < (t146.length : Int) := of_decide_eq_true (by first | (with_reducible assumption) | assumption); obtain ⟨ad156, e156, hx156_0, hx156_1, hx156_2, hx156_3, hx156_4, hx156_5, hx156_6⟩ := at_T37 (Kd.R_reads' HO_3.out).2.2 x8_1 p156 q156; cases e156; replace p156 := eq_true p156; replace q156 := eq_true q156; obtain ⟨Ao27, co27, eo27⟩ := Kd.R_slice HO155.out; subst eo27; have p157 : 0 ≤ (((rd_T37 t146 x8_1).f2) : Int) := of_decide_eq_true (by first | (with_reducible assumption) | assumption); have q157 : ((rd_T37 t146 x8_1).f2) < (y153.length : Int) := of_decide_eq_true (by first | (with_reducible assumption) | assumption); obtain ⟨ad157, e157, hx157_0⟩ := Kd.at_int (Kd.R_reads' HO155.out).2.2 ((rd_T37 t146 x8_1).f2) p157 q157; cases e157; replace p157 := eq_true p157; replace q157 := eq_true q157; have p158 : 0 ≤ (x8_1 : Int) := of_decide_eq_true (by first | (with_reducible assumption) | assumption); have q158 : x8_1 < (t146.length : Int) := of_decide_eq_true (by first | (with_reducible assumption) | assumption); obtain ⟨ad158, e158, hx158_0, hx158_1, hx158_2, hx158_3, hx158_4, hx158_5, hx158_6⟩ := at_T37 (Kd.R_reads' HO_3.out).2.2 x8_1 p158 q158; obtain rfl : ad156 = ad158 := (by injection e158); replace p158 := eq_true p158; replace q158 := eq_true q158; have p159 : 0 ≤ (x8_1 : Int) := of_decide_eq_true (by first | (with_reducible assumption) | assumption); have q159 : x8_1 < (t146.length : Int) := of_decide_eq_true (by first | (with_reducible assumption) | assumption); obtain ⟨ad159, e159, hx159_0, hx159_1, hx159_2, hx159_3, hx159_4, hx159_5, hx159_6⟩ := at_T37 (Kd.R_reads' HO_3.out).2.2 x8_1 p159 q159; obtain rfl : ad156 = ad159 := (by injection e159); replace p159 := eq_true p159; replace q159 := eq_true q159; have p160 : 0 ≤ (x8_1 : Int) := of_decide_eq_true (by first | (with_reducible assumption) | assumption); have q160 : x8_1 < (t146.length : Int) := of_decide_eq_true (by first | (with_reducible assumption) | assumption); obtain ⟨ad160, e160, hx160_0, hx160_1, hx160_2, hx160_3, hx160_4, hx160_5, hx160_6⟩ := at_T37 (Kd.R_reads' HO_3.out).2.2 x8_1 p160 q160; obtain rfl : ad156 = ad160 := (by injection e160); replace p160 := eq_true p160; replace q160 := eq_true q160)))
                          go_ret
                          exact ⟨by first | rfl | (simp [errW_none, errW_some] <;> rfl) | (simp [*, errW_none, errW_some] <;> rfl), by repeat (first | (with_reducible first | exact HB.out | apply below_alloc | apply pw_below_drewN | apply below_drew1) | exact HB.out)⟩
                        · rw [if_neg c23] at H
                          have c23b0 : decide (((rd_T37 t146 x8_1).f4) ≤ (IntKind.u64.wrap (((rd_T37 t146 x8_1).f6) - x6_1))) = false := decide_eq_false c23
                          clear c23
                          have H' := Aside0.mk H
                          clear H
                          obtain ⟨Ao28, co28, eo28⟩ := Kd.R_slice HO_3.out
                          subst eo28
                          go_wp2_with (first | ((with_reducible refine gate_dst (N := 33) rfl ?_); refine Kd.R_lit (Kd.int .i64) _ 3 ?hg (N := 33) ?hd (xs := ([0, 1, 2, 2] : List Int)) (inner := [.int .i64 0, .int .i64 1, .int .i64 2, .int .i64 2]) (ok := fun _ => True) (okp := fun _ => True) ?hr ?hp (fun _ hk => hk) trivial (Below.refl _ _) (Nat.le_refl _) (by simp) ?_; (case hd => rfl); (case hg => rfl); (case hr => first | (go_simp; done) | (go_simp; rfl)); (case hp => exact (Reps.one (show Kd.M (Kd.int .i64) _ _ _ 0 [.int .i64 0] from rfl) (Reps.one (show Kd.M (Kd.int .i64) _ _ _ 1 [.int .i64 1] from rfl) (Reps.one (show Kd.M (Kd.int .i64) _ _ _ 2 [.int .i64 2] from rfl) (Reps.one (show Kd.M (Kd.int .i64) _ _ _ 2 [.int .i64 2] from rfl) (Reps.none _ _)))))); intro v154 w29 ho30 hb hg_ hnew_; clear hg_ hnew_; (first | rw [← Ny153.out] at ho30 | (simp only [Int.reduceToNat] at ho30; rw [← Ny153.out] at ho30)); have n0_ := Aside0.mk (Kd.R_below (by (with_reducible repeat (first | apply Kd.R_alloc | apply Kd.R_drewN | apply Kd.R_drew)); exact HO_3.out) hb); have n1_ := Aside0.mk (Kd.S_below (by (with_reducible repeat (first | apply Kd.S_alloc | apply Kd.S_drewN | apply Kd.S_drew)); exact HO_4.out) hb); have n2_ := Aside0.mk (Kd.R_lower ho30 (below_size (by repeat (first | (with_reducible first | exact HB.out | apply below_alloc | apply pw_below_drewN | apply below_drew1) | exact HB.out)))); have n3_ := Aside0.mk (below_step (by repeat (first | (with_reducible first | exact HB.out | apply below_alloc | apply pw_below_drewN | apply below_drew1) | exact HB.out)) hb); clear HO_3; clear HO_4; clear HB; have HO_3 := n0_; have HO_4 := n1_; have HO155 := n2_; have HB := n3_; clear n0_ n1_ n2_ n3_; clear hb ho30; have p156 : 0 ≤ (x8_1 : Int) := of_decide_eq_true (by first | (with_reducible assumption) | assumption); have q156 : x8_1 < (t146.length : Int) := of_decide_eq_true (by first | (with_reducible assumption) | assumption); obtain ⟨ad156, e156, hx156_0, hx156_1, hx156_2, hx156_3, hx156_4, hx156_5, hx156_6⟩ := at_T37 (Kd.R_reads' HO_3.out).2.2 x8_1 p156 q156; cases e156; replace p156 := eq_true p156; replace q156 := eq_true q156; obtain ⟨Ao31, co31, eo31⟩ := Kd.R_slice HO155.out; subst eo31; have p157 : 0 ≤ (((rd_T37 t146 x8_1).f2) : Int) := of_decide_eq_true (by first | (with_reducible assumption) | assumption); have q157 : ((rd_T37 t146 x8_1).f2) < (y153.length : Int) := of_decide_eq_true (by first | (with_reducible assumption) | assumption); obtain ⟨ad157, e157, hx157_0⟩ := Kd.at_int (Kd.R_reads' HO155.out).2.2 ((rd_T37 t146 x8_1).f2) p157 q157; cases e157; replace p157 := eq_true p157; replace q157 := eq_true q157; have p158 : 0 ≤ (x8_1 : Int) := of_decide_eq_true (by first | (with_reducible assumption) | assumption); have q158 : x8_1 < (t146.length : Int) := of_decide_eq_true (by first | (with_reducible assumption) | assumption); obtain ⟨ad158, e158, hx158_0, hx158_1, hx158_2, hx158_3, hx158_4, hx158_5, hx158_6⟩ := at_T37 (Kd.R_reads' HO_3.out).2.2 x8_1 p158 q158; obtain rfl : ad156 = ad158 := (by injection e158); replace p158 := eq_true p158; replace q158 := eq_true q158; have p159 : 0 ≤ (x8_1 : Int) := of_decide_eq_true (by first | (with_reducible assumption) | assumption); have q159 : x8_1 < (t146.length : Int) := of_decide_eq_true (by first | (with_reducible assumption) | assumption); obtain ⟨ad159, e159, hx159_0, hx159_1, hx159_2, hx159_3, hx159_4, hx159_5, hx159_6⟩ := at_T37 (Kd.R_reads' HO_3.out).2.2 x8_1 p159 q159; obtain rfl : ad156 = ad159 := (by injection e159); replace p159 := eq_true p159; replace q159 := eq_true q159; have p160 : 0 ≤ (x8_1 : Int) := of_decide_eq_true (by first | (with_reducible assumption) | assumption); have q160 : x8_1 < (t146.length : Int) := of_decide_eq_true (by first | (with_reducible assumption) | assumption); obtain ⟨ad160, e160, hx160_0, hx160_1, hx160_2, hx160_3, hx160_4, hx160_5, hx160_6⟩ := at_T37 (Kd.R_reads' HO_3.out).2.2 x8_1 p160 q160; obtain rfl : ad156 = ad160 := (by injection e160); replace p160 := eq_true p160; replace q160 := eq_true q160; have p161 : 0 ≤ (x8_1 : Int) := of_decide_eq_true (by first | (with_reducible assumption) | assumption); have q161 : x8_1 < (t146.length : Int) := of_decide_eq_true (by first | (with_reducible assumption) | assumption); obtain ⟨ad161, e161, hx161_0, hx161_1, hx161_2, hx161_3, hx161_4, hx161_5, hx161_6⟩ := at_T37 (Kd.R_reads' HO_3.out).2.2 x8_1 p161 q161; obtain rfl : ad156 = ad161 := (by injection e161); replace p161 := eq_true p161; replace q161 := eq_true q161; have p162 : 0 ≤ (x8_1 : Int) := of_decide_eq_true (by first | (with_reducible assumption) | assumption); have q162 : x8_1 < (t146.length : Int) := of_decide_eq_true (by first | (with_reducible assumption) | assumption); obtain ⟨ad162, e162, hx162_0, hx162_1, hx162_2, hx162_3, hx162_4, hx162_5, hx162_6⟩ := at_T37 (Kd.R_reads' HO_3.out).2.2 x8_1 p162 q162; obtain rfl : ad156 = ad162 := (by injection e162); replace p162 := eq_true p162; replace q162 := eq_true q162))
                          repeat (go_quiet (first | ((with_reducible refine gate_dst (N := 33) rfl ?_); refine Kd.R_lit (Kd.int .i64) _ 3 ?hg (N := 33) ?hd (xs := ([0, 1, 2, 2] : List Int)) (inner := [.int .i64 0, .int .i64 1, .int .i64 2, .int .i64 2]) (ok := fun _ => True) (okp := fun _ => True) ?hr ?hp (fun _ hk => hk) trivial (Below.refl _ _) (Nat.le_refl _) (by simp) ?_; (case hd => rfl); (case hg => rfl); (case hr => first | (go_simp; done) | (go_simp; rfl)); (case hp => exact (Reps.one (show Kd.M (Kd.int .i64) _ _ _ 0 [.int .i64 0] from rfl) (Reps.one (show Kd.M (Kd.int .i64) _ _ _ 1 [.int .i64 1] from rfl) (Reps.one (show Kd.M (Kd.int .i64) _ _ _ 2 [.int .i64 2] from rfl) (Reps.one (show Kd.M (Kd.int .i64) _ _ _ 2 [.int .i64 2] from rfl) (Reps.none _ _)))))); intro v154 w29 ho30 hb hg_ hnew_; clear hg_ hnew_; (first | rw [← Ny153.out] at ho30 | (simp only [Int.reduceToNat] at ho30; rw [← Ny153.out] at ho30)); have n0_ := Aside0.mk (Kd.R_below (by (with_reducible repeat (first | apply Kd.R_alloc | apply Kd.R_drewN | apply Kd.R_drew)); exact HO_3.out) hb); have n1_ := Aside0.mk (Kd.S_below (by (with_reducible repeat (first | apply Kd.S_alloc | apply Kd.S_drewN | apply Kd.S_drew)); exact HO_4.out) hb); have n2_ := Aside0.mk (Kd.R_lower ho30 (below_size (by repeat (first | (with_reducible first | exact HB.out | apply below_alloc | apply pw_below_drewN | apply below_drew1) | exact HB.out)))); have n3_ := Aside0.mk (below_step (by repeat (first | (with_reducible first | exact HB.out | apply below_alloc | apply pw_below_drewN | apply below_drew1) | exact HB.out)) hb); clear HO_3; clear HO_4; clear HB; have HO_3 := n0_; have HO_4 := n1_; have HO155 := n2_; have HB := n3_; clear n0_ n1_ n2_ n3_; clear hb ho30; have p156 : 0 ≤ (x8_1 : Int) := of_decide_eq_true (by first | (with_reducible assumption) | assumption); have q156 : x8_1 < (t146.length : Int) := of_decide_eq_true (by first | (with_reducible assumption) | assumption); obtain ⟨ad156, e156, hx156_0, hx156_1, hx156_2, hx156_3, hx156_4, hx156_5, hx156_6⟩ := at_T37 (Kd.R_reads' HO_3.out).2.2 x8_1 p156 q156; cases e156; replace p156 := eq_true p156; replace q156 := eq_true q156; obtain ⟨Ao31, co31, eo31⟩ := Kd.R_slice HO155.out; subst eo31; have p157 : 0 ≤ (((rd_T37 t146 x8_1).f2) : Int) := of_decide_eq_true (by first | (with_reducible assumption) | assumption); have q157 : ((rd_T37 t146 x8_1).f2) < (y153.length : Int) := of_decide_eq_true (by first | (with_reducible assumption) | assumption); obtain ⟨ad157, e157, hx157_0⟩ := Kd.at_int (Kd.R_reads' HO155.out).2.2 ((rd_T37 t146 x8_1).f2) p157 q157; cases e157; replace p157 := eq_true p157; replace q157 := eq_true q157; have p158 : 0 ≤ (x8_1 : Int) := of_decide_eq_true (by first | (with_reducible assumption) | assumption); have q158 : x8_1 < (t146.length : Int) := of_decide_eq_true (by first | (with_reducible assumption) | assumption); obtain ⟨ad158, e158, hx158_0, hx158_1, hx158_2, hx158_3, hx158_4, hx158_5, hx158_6⟩ := at_T37 (Kd.R_reads' HO_3.out).2.2 x8_1 p158 q158; obtain rfl : ad156 = ad158 := (by injection e158); replace p158 := eq_true p158; replace q158 := eq_true q158; have p159 : 0 ≤ (x8_1 : Int) := of_decide_eq_true (by first | (with_reducible assumption) | assumption); have q159 : x8_1 < (t146.length : Int) := of_decide_eq_true (by first | (with_reducible assumption) | assumption); obtain ⟨ad159, e159, hx159_0, hx159_1, hx159_2, hx159_3, hx159_4, hx159_5, hx159_6⟩ := at_T37 (Kd.R_reads' HO_3.out).2.2 x8_1 p159 q159; obtain rfl : ad156 = ad159 := (by injection e159); replace p159 := eq_true p159; replace q159 := eq_true q159; have p160 : 0 ≤ (x8_1 : Int) := of_decide_eq_true (by first | (with_reducible assumption) | assumption); have q160 : x8_1 < (t146.length : Int) := of_decide_eq_true (by first | (with_reducible assumption) | assumption); obtain ⟨ad160, e160, hx160_0, hx160_1, hx160_2, hx160_3, hx160_4, hx160_5, hx160_6⟩ := at_T37 (Kd.R_reads' HO_3.out).2.2 x8_1 p160 q160; obtain rfl : ad156 = ad160 := (by injection e160); replace p160 := eq_true p160; replace q160 := eq_true q160; have p161 : 0 ≤ (x8_1 : Int) := of_decide_eq_true (by first | (with_reducible assumption) | assumption); have q161 : x8_1 < (t146.length : Int) := of_decide_eq_true (by first | (with_reducible assumption) | assumption); obtain ⟨ad161, e161, hx161_0, hx161_1, hx161_2, hx161_3, hx161_4, hx161_5, hx161_6⟩ := at_T37 (Kd.R_reads' HO_3.out).2.2 x8_1 p161 q161; obtain rfl : ad156 = ad161 := (by injection e161); replace p161 := eq_true p161; replace q161 := eq_true q161; have p162 : 0 ≤ (x8_1 : Int) := of_decide_eq_true (by first | (with_reducible assumption) | assumption); have q162 : x8_1 < (t146.length : Int) := of_decide_eq_true (by first | (with_reducible assumption) | assumption); obtain ⟨ad162, e162, hx162_0, hx162_1, hx162_2, hx162_3, hx162_4, hx162_5, hx162_6⟩ := at_T37 (Kd.R_reads' HO_3.out).2.2 x8_1 p162 q162; obtain rfl : ad156 = ad162 := (by injection e162); replace p162 := eq_true p162; replace q162 := eq_true q162)); try go_wp2_with (first | ((with_reducible refine gate_dst (N := 33) rfl ?_); refine Kd.R_lit (Kd.int .i64) _ 3 ?hg (N := 33) ?hd (xs := ([0, 1, 2, 2] : List Int)) (inner := [.int .i64 0, .int .i64 1, .int .i64 2, .int .i64 2]) (ok := fun _ => True) (okp := fun _ => True) ?hr ?hp (fun _ hk => hk) trivial (Below.refl _ _) (Nat.le_refl _) (by simp) ?_; (case hd => rfl); (case hg => rfl); (case hr => first | (go_simp; done) | (go_simp; rfl)); (case hp => exact (Reps.one (show Kd.M (Kd.int .i64) _ _ _ 0 [.int .i64 0] from rfl) (Reps.one (show Kd.M (Kd.int .i64) _ _ _ 1 [.int .i64 1] from rfl) (Reps.one (show Kd.M (Kd.int .i64) _ _ _ 2 [.int .i64 2] from rfl) (Reps.one (show Kd.M (Kd.int .i64) _ _ _ 2 [.int .i64 2] from rfl) (Reps.none _ _)))))); intro v154 w29 ho30 hb hg_ hnew_; clear hg_ hnew_; (first | rw [← Ny153.out] at ho30 | (simp only [Int.reduceToNat] at ho30; rw [← Ny153.out] at ho30)); have n0_ := Aside0.mk (Kd.R_below (by (with_reducible repeat (first | apply Kd.R_alloc | apply Kd.R_drewN | apply Kd.R_drew)); exact HO_3.out) hb); have n1_ := Aside0.mk (Kd.S_below (by (with_reducible repeat (first | apply Kd.S_alloc | apply Kd.S_drewN | apply Kd.S_drew)); exact HO_4.out) hb); have n2_ := Aside0.mk (Kd.R_lower ho30 (below_size (by repeat (first | (with_reducible first | exact HB.out | apply below_alloc | apply pw_below_drewN | apply below_drew1) | exact HB.out)))); have n3_ := Aside0.mk (below_step (by repeat (first | (with_reducible first | exact HB.out | apply below_alloc | apply pw_below_drewN | apply below_drew1) | exact HB.out)) hb); clear HO_3; clear HO_4; clear HB; have HO_3 := n0_; have HO_4 := n1_; have HO155 := n2_; have HB := n3_; clear n0_ n1_ n2_ n3_; clear hb ho30; have p156 : 0 ≤ (x8_1 : Int) := of_decide_eq_true (by first | (with_reducible assumption) | assumption); have q156 : x8_1 < (t146.length : Int) := of_decide_eq_true (by first | (with_reducible assumption) | assumption); obtain ⟨ad156, e156, hx156_0, hx156_1, hx156_2, hx156_3, hx156_4, hx156_5, hx156_6⟩ := at_T37 (Kd.R_reads' HO_3.out).2.2 x8_1 p156 q156; cases e156; replace p156 := eq_true p156; replace q156 := eq_true q156; obtain ⟨Ao31, co31, eo31⟩ := Kd.R_slice HO155.out; subst eo31; have p157 : 0 ≤ (((rd_T37 t146 x8_1).f2) : Int) := of_decide_eq_true (by first | (with_reducible assumption) | assumption); have q157 : ((rd_T37 t146 x8_1).f2) < (y153.length : Int) := of_decide_eq_true (by first | (with_reducible assumption) | assumption); obtain ⟨ad157, e157, hx157_0⟩ := Kd.at_int (Kd.R_reads' HO155.out).2.2 ((rd_T37 t146 x8_1).f2) p157 q157; cases e157; replace p157 := eq_true p157; replace q157 := eq_true q157; have p158 : 0 ≤ (x8_1 : Int) := of_decide_eq_true (by first | (with_reducible assumption) | assumption); have q158 : x8_1 < (t146.length : Int) := of_decide_eq_true (by first | (with_reducible assumption) | assumption); obtain ⟨ad158, e158, hx158_0, hx158_1, hx158_2, hx158_3, hx158_4, hx158_5, hx158_6⟩ := at_T37 (Kd.R_reads' HO_3.out).2.2 x8_1 p158 q158; obtain rfl : ad156 = ad158 := (by injection e158); replace p158 := eq_true p158; replace q158 := eq_true q158; have p159 : 0 ≤ (x8_1 : Int) := of_decide_eq_true (by first | (with_reducible assumption) | assumption); have q159 : x8_1 < (t146.length : Int) := of_decide_eq_true (by first | (with_reducible assumption) | assumption); obtain ⟨ad159, e159, hx159_0, hx159_1, hx159_2, hx159_3, hx159_4, hx159_5, hx159_6⟩ := at_T37 (Kd.R_reads' HO_3.out).2.2 x8_1 p159 q159; obtain rfl : ad156 = ad159 := (by injection e159); replace p159 := eq_true p159; replace q159 := eq_true q159; have p160 : 0 ≤ (x8_1 : Int) := of_decide_eq_true (by first | (with_reducible assumption) | assumption); have q160 : x8_1 < (t146.length : Int) := of_decide_eq_true (by first | (with_reducible assumption) | assumption); obtain ⟨ad160, e160, hx160_0, hx160_1, hx160_2, hx160_3, hx160_4, hx160_5, hx160_6⟩ := at_T37 (Kd.R_reads' HO_3.out).2.2 x8_1 p160 q160; obtain rfl : ad156 = ad160 := (by injection e160); replace p160 := eq_true p160; replace q160 := eq_true q160; have p161 : 0 ≤ (x8_1 : Int) := of_decide_eq_true (by first | (with_reducible assumption) | assumption); have q161 : x8_1 < (t146.length : Int) := of_decide_eq_true (by first | (with_reducible assumption) | assumption); obtain ⟨ad161, e161, hx161_0, hx161_1, hx161_2, hx161_3, hx161_4, hx161_5, hx161_6⟩ := at_T37 (Kd.R_reads' HO_3.out).2.2 x8_1 p161 q161; obtain rfl : ad156 = ad161 := (by injection e161); replace p161 := eq_true p161; replace q161 := eq_true q161; have p162 : 0 ≤ (x8_1 : Int) := of_decide_eq_true (by first | (with_reducible assumption) | assumption); have q162 : x8_1 < (t146.length : Int) := of_decide_eq_true (by first | (with_reducible assumption) | assumption); obtain ⟨ad162, e162, hx162_0, hx162_1, hx162_2, hx162_3, hx162_4, hx162_5, hx162_6⟩ := at_T37 (Kd.R_reads' HO_3.out).2.2 x8_1 p162 q162; obtain rfl : ad156 = ad162 := (by injection e162); replace p162 := eq_true p162; replace q162 := eq_true q162)))
                          go_roundg k1
                          case measure => have := HK1.out; omega
                          case rel => exact ⟨(IntKind.u64.wrap (((rd_T37 t146 x8_1).f6) + ((rd_T37 t146 x8_1).f5))), (x7_1), (wrap64 (x8_1 + 1)), (by first | rfl | (simp; done) | (simp [*]; done)), (by first | rfl | (simp; done) | (simp [*]; done)), (by first | rfl | (simp; done) | (simp [*]; done)), H', ⟨by have := HK1.out; omega⟩, ⟨by (with_reducible repeat (first | apply Kd.R_alloc | apply Kd.R_drewN | apply Kd.R_drew)); exact HO_3.out⟩, ⟨by (with_reducible repeat (first | apply Kd.S_alloc | apply Kd.S_drewN | apply Kd.S_drew)); exact HO_4.out⟩, ⟨by repeat (first | (with_reducible first | exact HB.out | apply below_alloc | apply pw_below_drewN | apply below_drew1) | exact HB.out)⟩⟩
                    · rw [if_neg c17] at H
                      have c17b0 : ((rd y153 ((rd_T37 t146 x8_1).f2)) == x7_1) = false := beq_eq_false_iff_ne.mpr c17
                      have c17b1 : ((rd y153 ((rd_T37 t146 x8_1).f2)) != x7_1) = true := bne_iff_ne.mpr c17
                      by_cases c32 : ((rd_T37 t146 x8_1).f6) < (IntKind.u64.wrap ((IntKind.u64.wrap (Int.tdiv (IntKind.u64.wrap ((IntKind.u64.wrap (x6_1 + 4096)) - 1)) 4096)) * 4096))
                      · rw [if_pos c32] at H
                        have c32b0 : decide (((rd_T37 t146 x8_1).f6) < (IntKind.u64.wrap ((IntKind.u64.wrap (Int.tdiv (IntKind.u64.wrap ((IntKind.u64.wrap (x6_1 + 4096)) - 1)) 4096)) * 4096))) = true := decide_eq_true c32
                        clear c32
                        obtain rfl := Option.some.inj H
                        obtain ⟨Ao33, co33, eo33⟩ := Kd.R_slice HO_3.out
                        subst eo33
                        go_wp2_with (first | ((with_reducible refine gate_dst (N := 33) rfl ?_); refine Kd.R_lit (Kd.int .i64) _ 3 ?hg (N := 33) ?hd (xs := ([0, 1, 2, 2] : List Int)) (inner := [.int .i64 0, .int .i64 1, .int .i64 2, .int .i64 2]) (ok := fun _ => True) (okp := fun _ => True) ?hr ?hp (fun _ hk => hk) trivial (Below.refl _ _) (Nat.le_refl _) (by simp) ?_; (case hd => rfl); (case hg => rfl); (case hr => first | (go_simp; done) | (go_simp; rfl)); (case hp => exact (Reps.one (show Kd.M (Kd.int .i64) _ _ _ 0 [.int .i64 0] from rfl) (Reps.one (show Kd.M (Kd.int .i64) _ _ _ 1 [.int .i64 1] from rfl) (Reps.one (show Kd.M (Kd.int .i64) _ _ _ 2 [.int .i64 2] from rfl) (Reps.one (show Kd.M (Kd.int .i64) _ _ _ 2 [.int .i64 2] from rfl) (Reps.none _ _)))))); intro v154 w34 ho35 hb hg_ hnew_; clear hg_ hnew_; (first | rw [← Ny153.out] at ho35 | (simp only [Int.reduceToNat] at ho35; rw [← Ny153.out] at ho35)); have n0_ := Aside0.mk (Kd.R_below (by (with_reducible repeat (first | apply Kd.R_alloc | apply Kd.R_drewN | apply Kd.R_drew)); exact HO_3.out) hb); have n1_ := Aside0.mk (Kd.S_below (by (with_reducible repeat (first | apply Kd.S_alloc | apply Kd.S_drewN | apply Kd.S_drew)); exact HO_4.out) hb); have n2_ := Aside0.mk (Kd.R_lower ho35 (below_size (by repeat (first | (with_reducible first | exact HB.out | apply below_alloc | apply pw_below_drewN | apply below_drew1) | exact HB.out)))); have n3_ := Aside0.mk (below_step (by repeat (first | (with_reducible first | exact HB.out | apply below_alloc | apply pw_below_drewN | apply below_drew1) | exact HB.out)) hb); clear HO_3; clear HO_4; clear HB; have HO_3 := n0_; have HO_4 := n1_; have HO155 := n2_; have HB := n3_; clear n0_ n1_ n2_ n3_; clear hb ho35; have p156 : 0 ≤ (x8_1 : Int) := of_decide_eq_true (by first | (with_reducible assumption) | assumption); have q156 : x8_1 < (t146.length : Int) := of_decide_eq_true (by first | (with_reducible assumption) | assumption); obtain ⟨ad156, e156, hx156_0, hx156_1, hx156_2, hx156_3, hx156_4, hx156_5, hx156_6⟩ := at_T37 (Kd.R_reads' HO_3.out).2.2 x8_1 p156 q156; cases e156; replace p156 := eq_true p156; replace q156 := eq_true q156; obtain ⟨Ao36, co36, eo36⟩ := Kd.R_slice HO155.out; subst eo36; have p157 : 0 ≤ (((rd_T37 t146 x8_1).f2) : Int) := of_decide_eq_true (by first | (with_reducible assumption) | assumption); have q157 : ((rd_T37 t146 x8_1).f2) < (y153.length : Int) := of_decide_eq_true (by first | (with_reducible assumption) | assumption); obtain ⟨ad157, e157, hx157_0⟩ := Kd.at_int (Kd.R_reads' HO155.out).2.2 ((rd_T37 t146 x8_1).f2) p157 q157; cases e157; replace p157 := eq_true p157; replace q157 := eq_true q157; have p163 : 0 ≤ (x8_1 : Int) := of_decide_eq_true (by first | (with_reducible assumption) | assumption); have q163 : x8_1 < (t146.length : Int) := of_decide_eq_true (by first | (with_reducible assumption) | assumption); obtain ⟨ad163, e163, hx163_0, hx163_1, hx163_2, hx163_3, hx163_4, hx163_5, hx163_6⟩ := at_T37 (Kd.R_reads' HO_3.out).2.2 x8_1 p163 q163; obtain rfl : ad156 = ad163 := (by injection e163); replace p163 := eq_true p163; replace q163 := eq_true q163))
                        repeat (go_quiet (first | ((with_reducible refine gate_dst (N := 33) rfl ?_); refine Kd.R_lit (Kd.int .i64) _ 3 ?hg (N := 33) ?hd (xs := ([0, 1, 2, 2] : List Int)) (inner := [.int .i64 0, .int .i64 1, .int .i64 2, .int .i64 2]) (ok := fun _ => True) (okp := fun _ => True) ?hr ?hp (fun _ hk => hk) trivial (Below.refl _ _) (Nat.le_refl _) (by simp) ?_; (case hd => rfl); (case hg => rfl); (case hr => first | (go_simp; done) | (go_simp; rfl)); (case hp => exact (Reps.one (show Kd.M (Kd.int .i64) _ _ _ 0 [.int .i64 0] from rfl) (Reps.one (show Kd.M (Kd.int .i64) _ _ _ 1 [.int .i64 1] from rfl) (Reps.one (show Kd.M (Kd.int .i64) _ _ _ 2 [.int .i64 2] from rfl) (Reps.one (show Kd.M (Kd.int .i64) _ _ _ 2 [.int .i64 2] from rfl) (Reps.none _ _)))))); intro v154 w34 ho35 hb hg_ hnew_; clear hg_ hnew_; (first | rw [← Ny153.out] at ho35 | (simp only [Int.reduceToNat] at ho35; rw [← Ny153.out] at ho35)); have n0_ := Aside0.mk (Kd.R_below (by (with_reducible repeat (first | apply Kd.R_alloc | apply Kd.R_drewN | apply Kd.R_drew)); exact HO_3.out) hb); have n1_ := Aside0.mk (Kd.S_below (by (with_reducible repeat (first | apply Kd.S_alloc | apply Kd.S_drewN | apply Kd.S_drew)); exact HO_4.out) hb); have n2_ := Aside0.mk (Kd.R_lower ho35 (below_size (by repeat (first | (with_reducible first | exact HB.out | apply below_alloc | apply pw_below_drewN | apply below_drew1) | exact HB.out)))); have n3_ := Aside0.mk (below_step (by repeat (first | (with_reducible first | exact HB.out | apply below_alloc | apply pw_below_drewN | apply below_drew1) | exact HB.out)) hb); clear HO_3; clear HO_4; clear HB; have HO_3 := n0_; have HO_4 := n1_; have HO155 := n2_; have HB := n3_; clear n0_ n1_ n2_ n3_; clear hb ho35; have p156 : 0 ≤ (x8_1 : Int) := of_decide_eq_true (by first | (with_reducible assumption) | assumption); have q156 : x8_1 < (t146.length : Int) := of_decide_eq_true (by first | (with_reducible assumption) | assumption); obtain ⟨ad156, e156, hx156_0, hx156_1, hx156_2, hx156_3, hx156_4, hx156_5, hx156_6⟩ := at_T37 (Kd.R_reads' HO_3.out).2.2 x8_1 p156 q156; cases e156; replace p156 := eq_true p156; replace q156 := eq_true q156; obtain ⟨Ao36, co36, eo36⟩ := Kd.R_slice HO155.out; subst eo36; have p157 : 0 ≤ (((rd_T37 t146 x8_1).f2) : Int) := of_decide_eq_true (by first | (with_reducible assumption) | assumption); have q157 : ((rd_T37 t146 x8_1).f2) < (y153.length : Int) := of_decide_eq_true (by first | (with_reducible assumption) | assumption); obtain ⟨ad157, e157, hx157_0⟩ := Kd.at_int (Kd.R_reads' HO155.out).2.2 ((rd_T37 t146 x8_1).f2) p157 q157; cases e157; replace p157 := eq_true p157; replace q157 := eq_true q157; have p163 : 0 ≤ (x8_1 : Int) := of_decide_eq_true (by first | (with_reducible assumption) | assumption); have q163 : x8_1 < (t146.length : Int) := of_decide_eq_true (by first | (with_reducible assumption) | assumption); obtain ⟨ad163, e163, hx163_0, hx163_1, hx163_2, hx163_3, hx163_4, hx163_5, hx163_6⟩ := at_T37 (Kd.R_reads' HO_3.out).2.2 x8_1 p163 q163; obtain rfl : ad156 = ad163 := (by injection e163); replace p163 := eq_true p163; replace q163 := eq_true q163)); try go_wp2_with (first | ((with_reducible refine gate_dst (N := 33) rfl ?_); refine Kd.R_lit (Kd.int .i64) _ 3 ?hg (N := 33) ?hd (xs := ([0, 1, 2, 2] : List Int)) (inner := [.int .i64 0, .int .i64 1, .int .i64 2, .int .i64 2]) (ok := fun _ => True) (okp := fun _ => True) ?hr ?hp (fun _ hk => hk) trivial (Below.refl _ _) (Nat.le_refl _) (by simp) ?_; (case hd => rfl); (case hg => rfl); (case hr => first | (go_simp; done) | (go_simp; rfl)); (case hp => exact (Reps.one (show Kd.M (Kd.int .i64) _ _ _ 0 [.int .i64 0] from rfl) (Reps.one (show Kd.M (Kd.int .i64) _ _ _ 1 [.int .i64 1] from rfl) (Reps.one (show Kd.M (Kd.int .i64) _ _ _ 2 [.int .i64 2] from rfl) (Reps.one (show Kd.M (Kd.int .i64) _ _ _ 2 [.int .i64 2] from rfl) (Reps.none _ _)))))); intro v154 w34 ho35 hb hg_ hnew_; clear hg_ hnew_; (first | rw [← Ny153.out] at ho35 | (simp only [Int.reduceToNat] at ho35; rw [← Ny153.out] at ho35)); have n0_ := Aside0.mk (Kd.R_below (by (with_reducible repeat (first | apply Kd.R_alloc | apply Kd.R_drewN | apply Kd.R_drew)); exact HO_3.out) hb); have n1_ := Aside0.mk (Kd.S_below (by (with_reducible repeat (first | apply Kd.S_alloc | apply Kd.S_drewN | apply Kd.S_drew)); exact HO_4.out) hb); have n2_ := Aside0.mk (Kd.R_lower ho35 (below_size (by repeat (first | (with_reducible first | exact HB.out | apply below_alloc | apply pw_below_drewN | apply below_drew1) | exact HB.out)))); have n3_ := Aside0.mk (below_step (by repeat (first | (with_reducible first | exact HB.out | apply below_alloc | apply pw_below_drewN | apply below_drew1) | exact HB.out)) hb); clear HO_3; clear HO_4; clear HB; have HO_3 := n0_; have HO_4 := n1_; have HO155 := n2_; have HB := n3_; clear n0_ n1_ n2_ n3_; clear hb ho35; have p156 : 0 ≤ (x8_1 : Int) := of_decide_eq_true (by first | (with_reducible assumption) | assumption); have q156 : x8_1 < (t146.length : Int) := of_decide_eq_true (by first | (with_reducible assumption) | assumption); obtain ⟨ad156, e156, hx156_0, hx156_1, hx156_2, hx156_3, hx156_4, hx156_5, hx156_6⟩ := at_T37 (Kd.R_reads' HO_3.out).2.2 x8_1 p156 q156; cases e156; replace p156 := eq_true p156; replace q156 := eq_true q156; obtain ⟨Ao36, co36, eo36⟩ := Kd.R_slice HO155.out; subst eo36; have p157 : 0 ≤ (((rd_T37 t146 x8_1).f2) : Int) := of_decide_eq_true (by first | (with_reducible assumption) | assumption); have q157 : ((rd_T37 t146 x8_1).f2) < (y153.length : Int) := of_decide_eq_true (by first | (with_reducible assumption) | assumption); obtain ⟨ad157, e157, hx157_0⟩ := Kd.at_int (Kd.R_reads' HO155.out).2.2 ((rd_T37 t146 x8_1).f2) p157 q157; cases e157; replace p157 := eq_true p157; replace q157 := eq_true q157; have p163 : 0 ≤ (x8_1 : Int) := of_decide_eq_true (by first | (with_reducible assumption) | assumption); have q163 : x8_1 < (t146.length : Int) := of_decide_eq_true (by first | (with_reducible assumption) | assumption); obtain ⟨ad163, e163, hx163_0, hx163_1, hx163_2, hx163_3, hx163_4, hx163_5, hx163_6⟩ := at_T37 (Kd.R_reads' HO_3.out).2.2 x8_1 p163 q163; obtain rfl : ad156 = ad163 := (by injection e163); replace p163 := eq_true p163; replace q163 := eq_true q163)))
                        go_ret
                        exact ⟨by first | rfl | (simp [errW_none, errW_some] <;> rfl) | (simp [*, errW_none, errW_some] <;> rfl), by repeat (first | (with_reducible first | exact HB.out | apply below_alloc | apply pw_below_drewN | apply below_drew1) | exact HB.out)⟩
                      · rw [if_neg c32] at H
                        have c32b0 : decide (((rd_T37 t146 x8_1).f6) < (IntKind.u64.wrap ((IntKind.u64.wrap (Int.tdiv (IntKind.u64.wrap ((IntKind.u64.wrap (x6_1 + 4096)) - 1)) 4096)) * 4096))) = false := decide_eq_false c32
                        clear c32
                        by_cases c37 : (IntKind.u64.wrap (((rd_T37 t146 x8_1).f6) - (IntKind.u64.wrap ((IntKind.u64.wrap (Int.tdiv (IntKind.u64.wrap ((IntKind.u64.wrap (x6_1 + 4096)) - 1)) 4096)) * 4096)))) ≥ ((rd_T37 t146 x8_1).f4)
                        · rw [if_pos c37] at H
                          have c37b0 : decide (((rd_T37 t146 x8_1).f4) ≤ (IntKind.u64.wrap (((rd_T37 t146 x8_1).f6) - (IntKind.u64.wrap ((IntKind.u64.wrap (Int.tdiv (IntKind.u64.wrap ((IntKind.u64.wrap (x6_1 + 4096)) - 1)) 4096)) * 4096))))) = true := decide_eq_true c37
                          clear c37
                          obtain rfl := Option.some.inj H
                          obtain ⟨Ao38, co38, eo38⟩ := Kd.R_slice HO_3.out
                          subst eo38
                          go_wp2_with (first | ((with_reducible refine gate_dst (N := 33) rfl ?_); refine Kd.R_lit (Kd.int .i64) _ 3 ?hg (N := 33) ?hd (xs := ([0, 1, 2, 2] : List Int)) (inner := [.int .i64 0, .int .i64 1, .int .i64 2, .int .i64 2]) (ok := fun _ => True) (okp := fun _ => True) ?hr ?hp (fun _ hk => hk) trivial (Below.refl _ _) (Nat.le_refl _) (by simp) ?_; (case hd => rfl); (case hg => rfl); (case hr => first | (go_simp; done) | (go_simp; rfl)); (case hp => exact (Reps.one (show Kd.M (Kd.int .i64) _ _ _ 0 [.int .i64 0] from rfl) (Reps.one (show Kd.M (Kd.int .i64) _ _ _ 1 [.int .i64 1] from rfl) (Reps.one (show Kd.M (Kd.int .i64) _ _ _ 2 [.int .i64 2] from rfl) (Reps.one (show Kd.M (Kd.int .i64) _ _ _ 2 [.int .i64 2] from rfl) (Reps.none _ _)))))); intro v154 w39 ho40 hb hg_ hnew_; clear hg_ hnew_; (first | rw [← Ny153.out] at ho40 | (simp only [Int.reduceToNat] at ho40; rw [← Ny153.out] at ho40)); have n0_ := Aside0.mk (Kd.R_below (by (with_reducible repeat (first | apply Kd.R_alloc | apply Kd.R_drewN | apply Kd.R_drew)); exact HO_3.out) hb); have n1_ := Aside0.mk (Kd.S_below (by (with_reducible repeat (first | apply Kd.S_alloc | apply Kd.S_drewN | apply Kd.S_drew)); exact HO_4.out) hb); have n2_ := Aside0.mk (Kd.R_lower ho40 (below_size (by repeat (first | (with_reducible first | exact HB.out | apply below_alloc | apply pw_below_drewN | apply below_drew1) | exact HB.out)))); have n3_ := Aside0.mk (below_step (by repeat (first | (with_reducible first | exact HB.out | apply below_alloc | apply pw_below_drewN | apply below_drew1) | exact HB.out)) hb); clear HO_3; clear HO_4; clear HB; have HO_3 := n0_; have HO_4 := n1_; have HO155 := n2_; have HB := n3_; clear n0_ n1_ n2_ n3_; clear hb ho40; have p156 : 0 ≤ (x8_1 : Int) := of_decide_eq_true (by first | (with_reducible assumption) | assumption); have q156 : x8_1 < (t146.length : Int) := of_decide_eq_true (by first | (with_reducible assumption) | assumption); obtain ⟨ad156, e156, hx156_0, hx156_1, hx156_2, hx156_3, hx156_4, hx156_5, hx156_6⟩ := at_T37 (Kd.R_reads' HO_3.out).2.2 x8_1 p156 q156; cases e156; replace p156 := eq_true p156; replace q156 := eq_true q156; obtain ⟨Ao41, co41, eo41⟩ := Kd.R_slice HO155.out; subst eo41; have p157 : 0 ≤ (((rd_T37 t146 x8_1).f2) : Int) := of_decide_eq_true (by first | (with_reducible assumption) | assumption); have q157 : ((rd_T37 t146 x8_1).f2) < (y153.length : Int) := of_decide_eq_true (by first | (with_reducible assumption) | assumption); obtain ⟨ad157, e157, hx157_0⟩ := Kd.at_int (Kd.R_reads' HO155.out).2.2 ((rd_T37 t146 x8_1).f2) p157 q157; cases e157; replace p157 := eq_true p157; replace q157 := eq_true q157; have p163 : 0 ≤ (x8_1 : Int) := of_decide_eq_true (by first | (with_reducible assumption) | assumption); have q163 : x8_1 < (t146.length : Int) := of_decide_eq_true (by first | (with_reducible assumption) | assumption); obtain ⟨ad163, e163, hx163_0, hx163_1, hx163_2, hx163_3, hx163_4, hx163_5, hx163_6⟩ := at_T37 (Kd.R_reads' HO_3.out).2.2 x8_1 p163 q163; obtain rfl : ad156 = ad163 := (by injection e163); replace p163 := eq_true p163; replace q163 := eq_true q163; have p164 : 0 ≤ (x8_1 : Int) := of_decide_eq_true (by first | (with_reducible assumption) | assumption); have q164 : x8_1 < (t146.length : Int) := of_decide_eq_true (by first | (with_reducible assumption) | assumption); obtain ⟨ad164, e164, hx164_0, hx164_1, hx164_2, hx164_3, hx164_4, hx164_5, hx164_6⟩ := at_T37 (Kd.R_reads' HO_3.out).2.2 x8_1 p164 q164; obtain rfl : ad156 = ad164 := (by injection e164); replace p164 := eq_true p164; replace q164 := eq_true q164; have p165 : 0 ≤ (x8_1 : Int) := of_decide_eq_true (by first | (with_reducible assumption) | assumption); have q165 : x8_1 < (t146.length : Int) := of_decide_eq_true (by first | (with_reducible assumption) | assumption); obtain ⟨ad165, e165, hx165_0, hx165_1, hx165_2, hx165_3, hx165_4, hx165_5, hx165_6⟩ := at_T37 (Kd.R_reads' HO_3.out).2.2 x8_1 p165 q165; obtain rfl : ad156 = ad165 := (by injection e165); replace p165 := eq_true p165; replace q165 := eq_true q165))
                          repeat (go_quiet (first | ((with_reducible refine gate_dst (N := 33) rfl ?_); refine Kd.R_lit (Kd.int .i64) _ 3 ?hg (N := 33) ?hd (xs := ([0, 1, 2, 2] : List Int)) (inner := [.int .i64 0, .int .i64 1, .int .i64 2, .int .i64 2]) (ok := fun _ => True) (okp := fun _ => True) ?hr ?hp (fun _ hk => hk) trivial (Below.refl _ _) (Nat.le_refl _) (by simp) ?_; (case hd => rfl); (case hg => rfl); (case hr => first | (go_simp; done) | (go_simp; rfl)); (case hp => exact (Reps.one (show Kd.M (Kd.int .i64) _ _ _ 0 [.int .i64 0] from rfl) (Reps.one (show Kd.M (Kd.int .i64) _ _ _ 1 [.int .i64 1] from rfl) (Reps.one (show Kd.M (Kd.int .i64) _ _ _ 2 [.int .i64 2] from rfl) (Reps.one (show Kd.M (Kd.int .i64) _ _ _ 2 [.int .i64 2] from rfl) (Reps.none _ _)))))); intro v154 w39 ho40 hb hg_ hnew_; clear hg_ hnew_; (first | rw [← Ny153.out] at ho40 | (simp only [Int.reduceToNat] at ho40; rw [← Ny153.out] at ho40)); have n0_ := Aside0.mk (Kd.R_below (by (with_reducible repeat (first | apply Kd.R_alloc | apply Kd.R_drewN | apply Kd.R_drew)); exact HO_3.out) hb); have n1_ := Aside0.mk (Kd.S_below (by (with_reducible repeat (first | apply Kd.S_alloc | apply Kd.S_drewN | apply Kd.S_drew)); exact HO_4.out) hb); have n2_ := Aside0.mk (Kd.R_lower ho40 (below_size (by repeat (first | (with_reducible first | exact HB.out | apply below_alloc | apply pw_below_drewN | apply below_drew1) | exact HB.out)))); have n3_ := Aside0.mk (below_step (by repeat (first | (with_reducible first | exact HB.out | apply below_alloc | apply pw_below_drewN | apply below_drew1) | exact HB.out)) hb); clear HO_3; clear HO_4; clear HB; have HO_3 := n0_; have HO_4 := n1_; have HO155 := n2_; have HB := n3_; clear n0_ n1_ n2_ n3_; clear hb ho40; have p156 : 0 ≤ (x8_1 : Int) := of_decide_eq_true (by first | (with_reducible assumption) | assumption); have q156 : x8_1 < (t146.length : Int) := of_decide_eq_true (by first | (with_reducible assumption) | assumption); obtain ⟨ad156, e156, hx156_0, hx156_1, hx156_2, hx156_3, hx156_4, hx156_5, hx156_6⟩ := at_T37 (Kd.R_reads' HO_3.out).2.2 x8_1 p156 q156; cases e156; replace p156 := eq_true p156; replace q156 := eq_true q156; obtain ⟨Ao41, co41, eo41⟩ := Kd.R_slice HO155.out; subst eo41; have p157 : 0 ≤ (((rd_T37 t146 x8_1).f2) : Int) := of_decide_eq_true (by first | (with_reducible assumption) | assumption); have q157 : ((rd_T37 t146 x8_1).f2) < (y153.length : Int) := of_decide_eq_true (by first | (with_reducible assumption) | assumption); obtain ⟨ad157, e157, hx157_0⟩ := Kd.at_int (Kd.R_reads' HO155.out).2.2 ((rd_T37 t146 x8_1).f2) p157 q157; cases e157; replace p157 := eq_true p157; replace q157 := eq_true q157; have p163 : 0 ≤ (x8_1 : Int) := of_decide_eq_true (by first | (with_reducible assumption) | assumption); have q163 : x8_1 < (t146.length : Int) := of_decide_eq_true (by first | (with_reducible assumption) | assumption); obtain ⟨ad163, e163, hx163_0, hx163_1, hx163_2, hx163_3, hx163_4, hx163_5, hx163_6⟩ := at_T37 (Kd.R_reads' HO_3.out).2.2 x8_1 p163 q163; obtain rfl : ad156 = ad163 := (by injection e163); replace p163 := eq_true p163; replace q163 := eq_true q163; have p164 : 0 ≤ (x8_1 : Int) := of_decide_eq_true (by first | (with_reducible assumption) | assumption); have q164 : x8_1 < (t146.length : Int) := of_decide_eq_true (by first | (with_reducible assumption) | assumption); obtain ⟨ad164, e164, hx164_0, hx164_1, hx164_2, hx164_3, hx164_4, hx164_5, hx164_6⟩ := at_T37 (Kd.R_reads' HO_3.out).2.2 x8_1 p164 q164; obtain rfl : ad156 = ad164 := (by injection e164); replace p164 := eq_true p164; replace q164 := eq_true q164; have p165 : 0 ≤ (x8_1 : Int) := of_decide_eq_true (by first | (with_reducible assumption) | assumption); have q165 : x8_1 < (t146.length : Int) := of_decide_eq_true (by first | (with_reducible assumption) | assumption); obtain ⟨ad165, e165, hx165_0, hx165_1, hx165_2, hx165_3, hx165_4, hx165_5, hx165_6⟩ := at_T37 (Kd.R_reads' HO_3.out).2.2 x8_1 p165 q165; obtain rfl : ad156 = ad165 := (by injection e165); replace p165 := eq_true p165; replace q165 := eq_true q165)); try go_wp2_with (first | ((with_reducible refine gate_dst (N := 33) rfl ?_); refine Kd.R_lit (Kd.int .i64) _ 3 ?hg (N := 33) ?hd (xs := ([0, 1, 2, 2] : List Int)) (inner := [.int .i64 0, .int .i64 1, .int .i64 2, .int .i64 2]) (ok := fun _ => True) (okp := fun _ => True) ?hr ?hp (fun _ hk => hk) trivial (Below.refl _ _) (Nat.le_refl _) (by simp) ?_; (case hd => rfl); (case hg => rfl); (case hr => first | (go_simp; done) | (go_simp; rfl)); (case hp => exact (Reps.one (show Kd.M (Kd.int .i64) _ _ _ 0 [.int .i64 0] from rfl) (Reps.one (show Kd.M (Kd.int .i64) _ _ _ 1 [.int .i64 1] from rfl) (Reps.one (show Kd.M (Kd.int .i64) _ _ _ 2 [.int .i64 2] from rfl) (Reps.one (show Kd.M (Kd.int .i64) _ _ _ 2 [.int .i64 2] from rfl) (Reps.none _ _)))))); intro v154 w39 ho40 hb hg_ hnew_; clear hg_ hnew_; (first | rw [← Ny153.out] at ho40 | (simp only [Int.reduceToNat] at ho40; rw [← Ny153.out] at ho40)); have n0_ := Aside0.mk (Kd.R_below (by (with_reducible repeat (first | apply Kd.R_alloc | apply Kd.R_drewN | apply Kd.R_drew)); exact HO_3.out) hb); have n1_ := Aside0.mk (Kd.S_below (by (with_reducible repeat (first | apply Kd.S_alloc | apply Kd.S_drewN | apply Kd.S_drew)); exact HO_4.out) hb); have n2_ := Aside0.mk (Kd.R_lower ho40 (below_size (by repeat (first | (with_reducible first | exact HB.out | apply below_alloc | apply pw_below_drewN | apply below_drew1) | exact HB.out)))); have n3_ := Aside0.mk (below_step (by repeat (first | (with_reducible first | exact HB.out | apply below_alloc | apply pw_below_drewN | apply below_drew1) | exact HB.out)) hb); clear HO_3; clear HO_4; clear HB; have HO_3 := n0_; have HO_4 := n1_; have HO155 := n2_; have HB := n3_; clear n0_ n1_ n2_ n3_; clear hb ho40; have p156 : 0 ≤ (x8_1 : Int) := of_decide_eq_true (by first | (with_reducible assumption) | assumption); have q156 : x8_1 < (t146.length : Int) := of_decide_eq_true (by first | (with_reducible assumption) | assumption); obtain ⟨ad156, e156, hx156_0, hx156_1, hx156_2, hx156_3, hx156_4, hx156_5, hx156_6⟩ := at_T37 (Kd.R_reads' HO_3.out).2.2 x8_1 p156 q156; cases e156; replace p156 := eq_true p156; replace q156 := eq_true q156; obtain ⟨Ao41, co41, eo41⟩ := Kd.R_slice HO155.out; subst eo41; have p157 : 0 ≤ (((rd_T37 t146 x8_1).f2) : Int) := of_decide_eq_true (by first | (with_reducible assumption) | assumption); have q157 : ((rd_T37 t146 x8_1).f2) < (y153.length : Int) := of_decide_eq_true (by first | (with_reducible assumption) | assumption); obtain ⟨ad157, e157, hx157_0⟩ := Kd.at_int (Kd.R_reads' HO155.out).2.2 ((rd_T37 t146 x8_1).f2) p157 q157; cases e157; replace p157 := eq_true p157; replace q157 := eq_true q157; have p163 : 0 ≤ (x8_1 : Int) := of_decide_eq_true (by first | (with_reducible assumption) | assumption); have q163 : x8_1 < (t146.length : Int) := of_decide_eq_true (by first | (with_reducible assumption) | assumption); obtain ⟨ad163, e163, hx163_0, hx163_1, hx163_2, hx163_3, hx163_4, hx163_5, hx163_6⟩ := at_T37 (Kd.R_reads' HO_3.out).2.2 x8_1 p163 q163; obtain rfl : ad156 = ad163 := (by injection e163); replace p163 := eq_true p163; replace q163 := eq_true q163; have p164 : 0 ≤ (x8_1 : Int) := of_decide_eq_true (by first | (with_reducible assumption) | assumption); have q164 : x8_1 < (t146.length : Int) := of_decide_eq_true (by first | (with_reducible assumption) | assumption); obtain ⟨ad164, e164, hx164_0, hx164_1, hx164_2, hx164_3, hx164_4, hx164_5, hx164_6⟩ := at_T37 (Kd.R_reads' HO_3.out).2.2 x8_1 p164 q164; obtain rfl : ad156 = ad164 := (by injection e164); replace p164 := eq_true p164; replace q164 := eq_true q164; have p165 : 0 ≤ (x8_1 : Int) := of_decide_eq_true (by first | (with_reducible assumption) | assumption); have q165 : x8_1 < (t146.length : Int) := of_decide_eq_true (by first | (with_reducible assumption) | assumption); obtain ⟨ad165, e165, hx165_0, hx165_1, hx165_2, hx165_3, hx165_4, hx165_5, hx165_6⟩ := at_T37 (Kd.R_reads' HO_3.out).2.2 x8_1 p165 q165; obtain rfl : ad156 = ad165 := (by injection e165); replace p165 := eq_true p165; replace q165 := eq_true q165)))
                          go_ret
                          exact ⟨by first | rfl | (simp [errW_none, errW_some] <;> rfl) | (simp [*, errW_none, errW_some] <;> rfl), by repeat (first | (with_reducible first | exact HB.out | apply below_alloc | apply pw_below_drewN | apply below_drew1) | exact HB.out)⟩
                        · rw [if_neg c37] at H
                          have c37b0 : decide (((rd_T37 t146 x8_1).f4) ≤ (IntKind.u64.wrap (((rd_T37 t146 x8_1).f6) - (IntKind.u64.wrap ((IntKind.u64.wrap (Int.tdiv (IntKind.u64.wrap ((IntKind.u64.wrap (x6_1 + 4096)) - 1)) 4096)) * 4096))))) = false := decide_eq_false c37
                          clear c37
                          have H' := Aside0.mk H
                          clear H
                          obtain ⟨Ao42, co42, eo42⟩ := Kd.R_slice HO_3.out
                          subst eo42
                          go_wp2_with (first | ((with_reducible refine gate_dst (N := 33) rfl ?_); refine Kd.R_lit (Kd.int .i64) _ 3 ?hg (N := 33) ?hd (xs := ([0, 1, 2, 2] : List Int)) (inner := [.int .i64 0, .int .i64 1, .int .i64 2, .int .i64 2]) (ok := fun _ => True) (okp := fun _ => True) ?hr ?hp (fun _ hk => hk) trivial (Below.refl _ _) (Nat.le_refl _) (by simp) ?_; (case hd => rfl); (case hg => rfl); (case hr => first | (go_simp; done) | (go_simp; rfl)); (case hp => exact (Reps.one (show Kd.M (Kd.int .i64) _ _ _ 0 [.int .i64 0] from rfl) (Reps.one (show Kd.M (Kd.int .i64) _ _ _ 1 [.int .i64 1] from rfl) (Reps.one (show Kd.M (Kd.int .i64) _ _ _ 2 [.int .i64 2] from rfl) (Reps.one (show Kd.M (Kd.int .i64) _ _ _ 2 [.int .i64 2] from rfl) (Reps.none _ _)))))); intro v154 w43 ho44 hb hg_ hnew_; clear hg_ hnew_; (first | rw [← Ny153.out] at ho44 | (simp only [Int.reduceToNat] at ho44; rw [← Ny153.out] at ho44)); have n0_ := Aside0.mk (Kd.R_below (by (with_reducible repeat (first | apply Kd.R_alloc | apply Kd.R_drewN | apply Kd.R_drew)); exact HO_3.out) hb); have n1_ := Aside0.mk (Kd.S_below (by (with_reducible repeat (first | apply Kd.S_alloc | apply Kd.S_drewN | apply Kd.S_drew)); exact HO_4.out) hb); have n2_ := Aside0.mk (Kd.R_lower ho44 (below_size (by repeat (first | (with_reducible first | exact HB.out | apply below_alloc | apply pw_below_drewN | apply below_drew1) | exact HB.out)))); have n3_ := Aside0.mk (below_step (by repeat (first | (with_reducible first | exact HB.out | apply below_alloc | apply pw_below_drewN | apply below_drew1) | exact HB.out)) hb); clear HO_3; clear HO_4; clear HB; have HO_3 := n0_; have HO_4 := n1_; have HO155 := n2_; have HB := n3_; clear n0_ n1_ n2_ n3_; clear hb ho44; have p156 : 0 ≤ (x8_1 : Int) := of_decide_eq_true (by first | (with_reducible assumption) | assumption); have q156 : x8_1 < (t146.length : Int) := of_decide_eq_true (by first | (with_reducible assumption) | assumption); obtain ⟨ad156, e156, hx156_0, hx156_1, hx156_2, hx156_3, hx156_4, hx156_5, hx156_6⟩ := at_T37 (Kd.R_reads' HO_3.out).2.2 x8_1 p156 q156; cases e156; replace p156 := eq_true p156; replace q156 := eq_true q156; obtain ⟨Ao45, co45, eo45⟩ := Kd.R_slice HO155.out; subst eo45; have p157 : 0 ≤ (((rd_T37 t146 x8_1).f2) : Int) := of_decide_eq_true (by first | (with_reducible assumption) | assumption); have q157 : ((rd_T37 t146 x8_1).f2) < (y153.length : Int) := of_decide_eq_true (by first | (with_reducible assumption) | assumption); obtain ⟨ad157, e157, hx157_0⟩ := Kd.at_int (Kd.R_reads' HO155.out).2.2 ((rd_T37 t146 x8_1).f2) p157 q157; cases e157; replace p157 := eq_true p157; replace q157 := eq_true q157; have p163 : 0 ≤ (x8_1 : Int) := of_decide_eq_true (by first | (with_reducible assumption) | assumption); have q163 : x8_1 < (t146.length : Int) := of_decide_eq_true (by first | (with_reducible assumption) | assumption); obtain ⟨ad163, e163, hx163_0, hx163_1, hx163_2, hx163_3, hx163_4, hx163_5, hx163_6⟩ := at_T37 (Kd.R_reads' HO_3.out).2.2 x8_1 p163 q163; obtain rfl : ad156 = ad163 := (by injection e163); replace p163 := eq_true p163; replace q163 := eq_true q163; have p164 : 0 ≤ (x8_1 : Int) := of_decide_eq_true (by first | (with_reducible assumption) | assumption); have q164 : x8_1 < (t146.length : Int) := of_decide_eq_true (by first | (with_reducible assumption) | assumption); obtain ⟨ad164, e164, hx164_0, hx164_1, hx164_2, hx164_3, hx164_4, hx164_5, hx164_6⟩ := at_T37 (Kd.R_reads' HO_3.out).2.2 x8_1 p164 q164; obtain rfl : ad156 = ad164 := (by injection e164); replace p164 := eq_true p164; replace q164 := eq_true q164; have p165 : 0 ≤ (x8_1 : Int) := of_decide_eq_true (by first | (with_reducible assumption) | assumption); have q165 : x8_1 < (t146.length : Int) := of_decide_eq_true (by first | (with_reducible assumption) | assumption); obtain ⟨ad165, e165, hx165_0, hx165_1, hx165_2, hx165_3, hx165_4, hx165_5, hx165_6⟩ := at_T37 (Kd.R_reads' HO_3.out).2.2 x8_1 p165 q165; obtain rfl : ad156 = ad165 := (by injection e165); replace p165 := eq_true p165; replace q165 := eq_true q165; have p166 : 0 ≤ (x8_1 : Int) := of_decide_eq_true (by first | (with_reducible assumption) | assumption); have q166 : x8_1 < (t146.length : Int) := of_decide_eq_true (by first | (with_reducible assumption) | assumption); obtain ⟨ad166, e166, hx166_0, hx166_1, hx166_2, hx166_3, hx166_4, hx166_5, hx166_6⟩ := at_T37 (Kd.R_reads' HO_3.out).2.2 x8_1 p166 q166; obtain rfl : ad156 = ad166 := (by injection e166); replace p166 := eq_true p166; replace q166 := eq_true q166; have p167 : 0 ≤ (x8_1 : Int) := of_decide_eq_true (by first | (with_reducible assumption) | assumption); have q167 : x8_1 < (t146.length : Int) := of_decide_eq_true (by first | (with_reducible assumption) | assumption); obtain ⟨ad167, e167, hx167_0, hx167_1, hx167_2, hx167_3, hx167_4, hx167_5, hx167_6⟩ := at_T37 (Kd.R_reads' HO_3.out).2.2 x8_1 p167 q167; obtain rfl : ad156 = ad167 := (by injection e167); replace p167 := eq_true p167; replace q167 := eq_true q167))
                          repeat (go_quiet (first | ((with_reducible refine gate_dst (N := 33) rfl ?_); refine Kd.R_lit (Kd.int .i64) _ 3 ?hg (N := 33) ?hd (xs := ([0, 1, 2, 2] : List Int)) (inner := [.int .i64 0, .int .i64 1, .int .i64 2, .int .i64 2]) (ok := fun _ => True) (okp := fun _ => True) ?hr ?hp (fun _ hk => hk) trivial (Below.refl _ _) (Nat.le_refl _) (by simp) ?_; (case hd => rfl); (case hg => rfl); (case hr => first | (go_simp; done) | (go_simp; rfl)); (case hp => exact (Reps.one (show Kd.M (Kd.int .i64) _ _ _ 0 [.int .i64 0] from rfl) (Reps.one (show Kd.M (Kd.int .i64) _ _ _ 1 [.int .i64 1] from rfl) (Reps.one (show Kd.M (Kd.int .i64) _ _ _ 2 [.int .i64 2] from rfl) (Reps.one (show Kd.M (Kd.int .i64) _ _ _ 2 [.int .i64 2] from rfl) (Reps.none _ _)))))); intro v154 w43 ho44 hb hg_ hnew_; clear hg_ hnew_; (first | rw [← Ny153.out] at ho44 | (simp only [Int.reduceToNat] at ho44; rw [← Ny153.out] at ho44)); have n0_ := Aside0.mk (Kd.R_below (by (with_reducible repeat (first | apply Kd.R_alloc | apply Kd.R_drewN | apply Kd.R_drew)); exact HO_3.out) hb); have n1_ := Aside0.mk (Kd.S_below (by (with_reducible repeat (first | apply Kd.S_alloc | apply Kd.S_drewN | apply Kd.S_drew)); exact HO_4.out) hb); have n2_ := Aside0.mk (Kd.R_lower ho44 (below_size (by repeat (first | (with_reducible first | exact HB.out | apply below_alloc | apply pw_below_drewN | apply below_drew1) | exact HB.out)))); have n3_ := Aside0.mk (below_step (by repeat (first | (with_reducible first | exact HB.out | apply below_alloc | apply pw_below_drewN | apply below_drew1) | exact HB.out)) hb); clear HO_3; clear HO_4; clear HB; have HO_3 := n0_; have HO_4 := n1_; have HO155 := n2_; have HB := n3_; clear n0_ n1_ n2_ n3_; clear hb ho44; have p156 : 0 ≤ (x8_1 : Int) := of_decide_eq_true (by first | (with_reducible assumption) | assumption); have q156 : x8_1 < (t146.length : Int) := of_decide_eq_true (by first | (with_reducible assumption) | assumption); obtain ⟨ad156, e156, hx156_0, hx156_1, hx156_2, hx156_3, hx156_4, hx156_5, hx156_6⟩ := at_T37 (Kd.R_reads' HO_3.out).2.2 x8_1 p156 q156; cases e156; replace p156 := eq_true p156; replace q156 := eq_true q156; obtain ⟨Ao45, co45, eo45⟩ := Kd.R_slice HO155.out; subst eo45; have p157 : 0 ≤ (((rd_T37 t146 x8_1).f2) : Int) := of_decide_eq_true (by first | (with_reducible assumption) | assumption); have q157 : ((rd_T37 t146 x8_1).f2) < (y153.length : Int) := of_decide_eq_true (by first | (with_reducible assumption) | assumption); obtain ⟨ad157, e157, hx157_0⟩ := Kd.at_int (Kd.R_reads' HO155.out).2.2 ((rd_T37 t146 x8_1).f2) p157 q157; cases e157; replace p157 := eq_true p157; replace q157 := eq_true q157; have p163 : 0 ≤ (x8_1 : Int) := of_decide_eq_true (by first | (with_reducible assumption) | assumption); have q163 : x8_1 < (t146.length : Int) := of_decide_eq_true (by first | (with_reducible assumption) | assumption); obtain ⟨ad163, e163, hx163_0, hx163_1, hx163_2, hx163_3, hx163_4, hx163_5, hx163_6⟩ := at_T37 (Kd.R_reads' HO_3.out).2.2 x8_1 p163 q163; obtain rfl : ad156 = ad163 := (by injection e163); replace p163 := eq_true p163; replace q163 := eq_true q163; have p164 : 0 ≤ (x8_1 : Int) := of_decide_eq_true (by first | (with_reducible assumption) | assumption); have q164 : x8_1 < (t146.length : Int) := of_decide_eq_true (by first | (with_reducible assumption) | assumption); obtain ⟨ad164, e164, hx164_0, hx164_1, hx164_2, hx164_3, hx164_4, hx164_5, hx164_6⟩ := at_T37 (Kd.R_reads' HO_3.out).2.2 x8_1 p164 q164; obtain rfl : ad156 = ad164 := (by injection e164); replace p164 := eq_true p164; replace q164 := eq_true q164; have p165 : 0 ≤ (x8_1 : Int) := of_decide_eq_true (by first | (with_reducible assumption) | assumption); have q165 : x8_1 < (t146.length : Int) := of_decide_eq_true (by first | (with_reducible assumption) | assumption); obtain ⟨ad165, e165, hx165_0, hx165_1, hx165_2, hx165_3, hx165_4, hx165_5, hx165_6⟩ := at_T37 (Kd.R_reads' HO_3.out).2.2 x8_1 p165 q165; obtain rfl : ad156 = ad165 := (by injection e165); replace p165 := eq_true p165; replace q165 := eq_true q165; have p166 : 0 ≤ (x8_1 : Int) := of_decide_eq_true (by first | (with_reducible assumption) | assumption); have q166 : x8_1 < (t146.length : Int) := of_decide_eq_true (by first | (with_reducible assumption) | assumption); obtain ⟨ad166, e166, hx166_0, hx166_1, hx166_2, hx166_3, hx166_4, hx166_5, hx166_6⟩ := at_T37 (Kd.R_reads' HO_3.out).2.2 x8_1 p166 q166; obtain rfl : ad156 = ad166 := (by injection e166); replace p166 := eq_true p166; replace q166 := eq_true q166; have p167 : 0 ≤ (x8_1 : Int) := of_decide_eq_true (by first | (with_reducible assumption) | assumption); have q167 : x8_1 < (t146.length : Int) := of_decide_eq_true (by first | (with_reducible assumption) | assumption); obtain ⟨ad167, e167, hx167_0, hx167_1, hx167_2, hx167_3, hx167_4, hx167_5, hx167_6⟩ := at_T37 (Kd.R_reads' HO_3.out).2.2 x8_1 p167 q167; obtain rfl : ad156 = ad167 := (by injection e167); replace p167 := eq_true p167; replace q167 := eq_true q167)); try go_wp2_with (first | ((with_reducible refine gate_dst (N := 33) rfl ?_); refine Kd.R_lit (Kd.int .i64) _ 3 ?hg (N := 33) ?hd (xs := ([0, 1, 2, 2] : List Int)) (inner := [.int .i64 0, .int .i64 1, .int .i64 2, .int .i64 2]) (ok := fun _ => True) (okp := fun _ => True) ?hr ?hp (fun _ hk => hk) trivial (Below.refl _ _) (Nat.le_refl _) (by simp) ?_; (case hd => rfl); (case hg => rfl); (case hr => first | (go_simp; done) | (go_simp; rfl)); (case hp => exact (Reps.one (show Kd.M (Kd.int .i64) _ _ _ 0 [.int .i64 0] from rfl) (Reps.one (show Kd.M (Kd.int .i64) _ _ _ 1 [.int .i64 1] from rfl) (Reps.one (show Kd.M (Kd.int .i64) _ _ _ 2 [.int .i64 2] from rfl) (Reps.one (show Kd.M (Kd.int .i64) _ _ _ 2 [.int .i64 2] from rfl) (Reps.none _ _)))))); intro v154 w43 ho44 hb hg_ hnew_; clear hg_ hnew_; (first | rw [← Ny153.out] at ho44 | (simp only [Int.reduceToNat] at ho44; rw [← Ny153.out] at ho44)); have n0_ := Aside0.mk (Kd.R_below (by (with_reducible repeat (first | apply Kd.R_alloc | apply Kd.R_drewN | apply Kd.R_drew)); exact HO_3.out) hb); have n1_ := Aside0.mk (Kd.S_below (by (with_reducible repeat (first | apply Kd.S_alloc | apply Kd.S_drewN | apply Kd.S_drew)); exact HO_4.out) hb); have n2_ := Aside0.mk (Kd.R_lower ho44 (below_size (by repeat (first | (with_reducible first | exact HB.out | apply below_alloc | apply pw_below_drewN | apply below_drew1) | exact HB.out)))); have n3_ := Aside0.mk (below_step (by repeat (first | (with_reducible first | exact HB.out | apply below_alloc | apply pw_below_drewN | apply below_drew1) | exact HB.out)) hb); clear HO_3; clear HO_4; clear HB; have HO_3 := n0_; have HO_4 := n1_; have HO155 := n2_; have HB := n3_; clear n0_ n1_ n2_ n3_; clear hb ho44; have p156 : 0 ≤ (x8_1 : Int) := of_decide_eq_true (by first | (with_reducible assumption) | assumption); have q156 : x8_1 < (t146.length : Int) := of_decide_eq_true (by first | (with_reducible assumption) | assumption); obtain ⟨ad156, e156, hx156_0, hx156_1, hx156_2, hx156_3, hx156_4, hx156_5, hx156_6⟩ := at_T37 (Kd.R_reads' HO_3.out).2.2 x8_1 p156 q156; cases e156; replace p156 := eq_true p156; replace q156 := eq_true q156; obtain ⟨Ao45, co45, eo45⟩ := Kd.R_slice HO155.out; subst eo45; have p157 : 0 ≤ (((rd_T37 t146 x8_1).f2) : Int) := of_decide_eq_true (by first | (with_reducible assumption) | assumption); have q157 : ((rd_T37 t146 x8_1).f2) < (y153.length : Int) := of_decide_eq_true (by first | (with_reducible assumption) | assumption); obtain ⟨ad157, e157, hx157_0⟩ := Kd.at_int (Kd.R_reads' HO155.out).2.2 ((rd_T37 t146 x8_1).f2) p157 q157; cases e157; replace p157 := eq_true p157; replace q157 := eq_true q157; have p163 : 0 ≤ (x8_1 : Int) := of_decide_eq_true (by first | (with_reducible assumption) | assumption); have q163 : x8_1 < (t146.length : Int) := of_decide_eq_true (by first | (with_reducible assumption) | assumption); obtain ⟨ad163, e163, hx163_0, hx163_1, hx163_2, hx163_3, hx163_4, hx163_5, hx163_6⟩ := at_T37 (Kd.R_reads' HO_3.out).2.2 x8_1 p163 q163; obtain rfl : ad156 = ad163 := (by injection e163); replace p163 := eq_true p163; replace q163 := eq_true q163; have p164 : 0 ≤ (x8_1 : Int) := of_decide_eq_true (by first | (with_reducible assumption) | assumption); have q164 : x8_1 < (t146.length : Int) := of_decide_eq_true (by first | (with_reducible assumption) | assumption); obtain ⟨ad164, e164, hx164_0, hx164_1, hx164_2, hx164_3, hx164_4, hx164_5, hx164_6⟩ := at_T37 (Kd.R_reads' HO_3.out).2.2 x8_1 p164 q164; obtain rfl : ad156 = ad164 := (by injection e164); replace p164 := eq_true p164; replace q164 := eq_true q164; have p165 : 0 ≤ (x8_1 : Int) := of_decide_eq_true (by first | (with_reducible assumption) | assumption); have q165 : x8_1 < (t146.length : Int) := of_decide_eq_true (by first | (with_reducible assumption) | assumption); obtain ⟨ad165, e165, hx165_0, hx165_1, hx165_2, hx165_3, hx165_4, hx165_5, hx165_6⟩ := at_T37 (Kd.R_reads' HO_3.out).2.2 x8_1 p165 q165; obtain rfl : ad156 = ad165 := (by injection e165); replace p165 := eq_true p165; replace q165 := eq_true q165; have p166 : 0 ≤ (x8_1 : Int) := of_decide_eq_true (by first | (with_reducible assumption) | assumption); have q166 : x8_1 < (t146.length : Int) := of_decide_eq_true (by first | (with_reducible assumption) | assumption); obtain ⟨ad166, e166, hx166_0, hx166_1, hx166_2, hx166_3, hx166_4, hx166_5, hx166_6⟩ := at_T37 (Kd.R_reads' HO_3.out).2.2 x8_1 p166 q166; obtain rfl : ad156 = ad166 := (by injection e166); replace p166 := eq_true p166; replace q166 := eq_true q166; have p167 : 0 ≤ (x8_1 : Int) := of_decide_eq_true (by first | (with_reducible assumption) | assumption); have q167 : x8_1 < (t146.length : Int) := of_decide_eq_true (by first | (with_reducible assumption) | assumption); obtain ⟨ad167, e167, hx167_0, hx167_1, hx167_2, hx167_3, hx167_4, hx167_5, hx167_6⟩ := at_T37 (Kd.R_reads' HO_3.out).2.2 x8_1 p167 q167; obtain rfl : ad156 = ad167 := (by injection e167); replace p167 := eq_true p167; replace q167 := eq_true q167)))
                          go_roundg k1
                          case measure => have := HK1.out; omega
                          case rel => exact ⟨(IntKind.u64.wrap (((rd_T37 t146 x8_1).f6) + ((rd_T37 t146 x8_1).f5))), (rd y153 ((rd_T37 t146 x8_1).f2)), (wrap64 (x8_1 + 1)), (by first | rfl | (simp; done) | (simp [*]; done)), (by first | rfl | (simp; done) | (simp [*]; done)), (by first | rfl | (simp; done) | (simp [*]; done)), H', ⟨by have := HK1.out; omega⟩, ⟨by (with_reducible repeat (first | apply Kd.R_alloc | apply Kd.R_drewN | apply Kd.R_drew)); exact HO_3.out⟩, ⟨by (with_reducible repeat (first | apply Kd.S_alloc | apply Kd.S_drewN | apply Kd.S_drew)); exact HO_4.out⟩, ⟨by repeat (first | (with_reducible first | exact HB.out | apply below_alloc | apply pw_below_drewN | apply below_drew1) | exact HB.out)⟩⟩
                  · rw [if_neg c16] at H
                    exact absurd H (by simp)
                · rw [if_neg c15] at H
                  exact absurd H (by simp)
              · rw [if_neg c14] at H
                exact absurd H (by simp)
            · rw [if_neg c13] at H
              have c13b0 : decide (x8_1 < (t146.length : Int)) = false := decide_eq_false c13
              clear c13
              have H' := Aside0.mk H
              clear H
              obtain ⟨Ao46, co46, eo46⟩ := Kd.R_slice HO_3.out
              subst eo46
              go_wp2
              repeat (go_quiet (fail); try go_wp2)
              go_loopg [10] k1 (fun kq v10 w' => ∃ (x10_2 : Int), v10 = .int .i64 x10_2 ∧ Aside0 (dovetaillaw23_AddrGaps.l1 kq t146 t147 x10_2 = some r) ∧ Aside0 (kq ≤ k1) ∧ Aside0 (Kd.R k37 37 w' w.heap.size (fun _ => True) (.slice Ao46 t146.length co46) t146) ∧ Aside0 (Kd.S k40 40 w' w.heap.size (fun _ => True) v151 t147) ∧ Aside0 (Below w.heap.size w w'))
              case atStart => exact ⟨(0), (by first | rfl | (simp; done) | (simp [*]; done)), H', ⟨Nat.le_refl _⟩, ⟨by (with_reducible repeat (first | apply Kd.R_alloc | apply Kd.R_drewN | apply Kd.R_drew)); exact HO_3.out⟩, ⟨by (with_reducible repeat (first | apply Kd.S_alloc | apply Kd.S_drewN | apply Kd.S_drew)); exact HO_4.out⟩, ⟨by repeat (first | (with_reducible first | exact HB.out | apply below_alloc | apply pw_below_drewN | apply below_drew1) | exact HB.out)⟩⟩
              case round =>
                clear H'
                try clear c1
                try clear p1
                try clear q1
                try clear hx1
                try clear c2
                try clear p2
                try clear c3
                try clear c4
                try clear c4b0
                try clear c4b1
                try clear c5
                try clear p6
                try clear c8
                try clear c8b0
                try clear c8b1
                try clear c13
                try clear c13b0
                try clear c14
                try clear c14b0
                try clear c15
                try clear c15b0
                try clear p15
                try clear q15
                try clear hx15
                try clear c16
                try clear c16b0
                try clear p16
                try clear q16
                try clear hx16
                try clear c17
                try clear c17b0
                try clear c17b1
                try clear c18
                try clear c18b0
                try clear c23
                try clear c23b0
                try clear c32
                try clear c32b0
                try clear c37
                try clear c37b0
                try clear hx156_0
                try clear hx156_1
                try clear hx156_2
                try clear hx156_3
                try clear hx156_4
                try clear hx156_5
                try clear hx156_6
                try clear hx157_0
                try clear hx158_0
                try clear hx158_1
                try clear hx158_2
                try clear hx158_3
                try clear hx158_4
                try clear hx158_5
                try clear hx158_6
                try clear hx159_0
                try clear hx159_1
                try clear hx159_2
                try clear hx159_3
                try clear hx159_4
                try clear hx159_5
                try clear hx159_6
                try clear hx160_0
                try clear hx160_1
                try clear hx160_2
                try clear hx160_3
                try clear hx160_4
                try clear hx160_5
                try clear hx160_6
                try clear hx161_0
                try clear hx161_1
                try clear hx161_2
                try clear hx161_3
                try clear hx161_4
                try clear hx161_5
                try clear hx161_6
                try clear hx162_0
                try clear hx162_1
                try clear hx162_2
                try clear hx162_3
                try clear hx162_4
                try clear hx162_5
                try clear hx162_6
                try clear hx163_0
                try clear hx163_1
                try clear hx163_2
                try clear hx163_3
                try clear hx163_4
                try clear hx163_5
                try clear hx163_6
                try clear hx164_0
                try clear hx164_1
                try clear hx164_2
                try clear hx164_3
                try clear hx164_4
                try clear hx164_5
                try clear hx164_6
                try clear hx165_0
                try clear hx165_1
                try clear hx165_2
                try clear hx165_3
                try clear hx165_4
                try clear hx165_5
                try clear hx165_6
                try clear hx166_0
                try clear hx166_1
                try clear hx166_2
                try clear hx166_3
                try clear hx166_4
                try clear hx166_5
                try clear hx166_6
                try clear hx167_0
                try clear hx167_1
                try clear hx167_2
                try clear hx167_3
                try clear hx167_4
                try clear hx167_5
                try clear hx167_6
                try clear p156
                try clear p157
                try clear p158
                try clear p159
                try clear p160
                try clear p161
                try clear p162
                try clear p163
                try clear p164
                try clear p165
                try clear p166
                try clear p167
                try clear p2
                try clear q156
                try clear q157
                try clear q158
                try clear q159
                try clear q160
                try clear q161
                try clear q162
                try clear q163
                try clear q164
                try clear q165
                try clear q166
                try clear q167
                obtain ⟨x10_2, rfl, HA, HK2, HO_3, HO_4, HB⟩ := hrel
                cases gk with
                | zero => exact absurd HA.out (by simp [dovetaillaw23_AddrGaps.l1])
                | succ k2 =>
                  have H := HA.out
                  clear HA
                  simp only [dovetaillaw23_AddrGaps.l1] at H
                  by_cases c47 : x10_2 < (t147.length : Int)
                  · rw [if_pos c47] at H
                    have c47b0 : decide (x10_2 < (t147.length : Int)) = true := decide_eq_true c47
                    clear c47
                    have H' := Aside0.mk H
                    clear H
                    obtain ⟨Ao48, co48, eo48⟩ := Kd.S_slice HO_4.out
                    subst eo48
                    go_wp2
                    repeat (go_quiet (fail); try go_wp2)
                    go_loopg [11, 12] k2 (fun kq v11 v12 w' => ∃ (x11_3 : Bool) (x12_3 : Int), v11 = .bool x11_3 ∧ v12 = .int .i64 x12_3 ∧ Aside0 (dovetaillaw23_AddrGaps.l2 kq t146 t147 x10_2 x11_3 x12_3 = some r) ∧ Aside0 (kq ≤ k2) ∧ Aside0 (Kd.R k37 37 w' w.heap.size (fun _ => True) (.slice Ao46 t146.length co46) t146) ∧ Aside0 (Kd.S k40 40 w' w.heap.size (fun _ => True) (.slice Ao48 t147.length co48) t147) ∧ Aside0 (Below w.heap.size w w'))
                    case atStart => exact ⟨(false), (0), (by first | rfl | (simp; done) | (simp [*]; done)), (by first | rfl | (simp; done) | (simp [*]; done)), H', ⟨Nat.le_refl _⟩, ⟨by (with_reducible repeat (first | apply Kd.R_alloc | apply Kd.R_drewN | apply Kd.R_drew)); exact HO_3.out⟩, ⟨by (with_reducible repeat (first | apply Kd.S_alloc | apply Kd.S_drewN | apply Kd.S_drew)); exact HO_4.out⟩, ⟨by repeat (first | (with_reducible first | exact HB.out | apply below_alloc | apply pw_below_drewN | apply below_drew1) | exact HB.out)⟩⟩
                    case round =>
                      clear H'
                      try clear c1
                      try clear p1
                      try clear q1
                      try clear hx1
                      try clear c2
                      try clear p2
                      try clear c3
                      try clear c4
                      try clear c4b0
                      try clear c4b1
                      try clear c5
                      try clear p6
                      try clear c8
                      try clear c8b0
                      try clear c8b1
                      try clear c13
                      try clear c13b0
                      try clear c14
                      try clear c14b0
                      try clear c15
                      try clear c15b0
                      try clear p15
                      try clear q15
                      try clear hx15
                      try clear c16
                      try clear c16b0
                      try clear p16
                      try clear q16
                      try clear hx16
                      try clear c17
                      try clear c17b0
                      try clear c17b1
                      try clear c18
                      try clear c18b0
                      try clear c23
                      try clear c23b0
                      try clear c32
                      try clear c32b0
                      try clear c37
                      try clear c37b0
                      try clear c47
                      try clear c47b0
                      try clear hx156_0
                      try clear hx156_1
                      try clear hx156_2
                      try clear hx156_3
                      try clear hx156_4
                      try clear hx156_5
                      try clear hx156_6
                      try clear hx157_0
                      try clear hx158_0
                      try clear hx158_1
                      try clear hx158_2
                      try clear hx158_3
                      try clear hx158_4
                      try clear hx158_5
                      try clear hx158_6
                      try clear hx159_0
                      try clear hx159_1
                      try clear hx159_2
                      try clear hx159_3
                      try clear hx159_4
                      try clear hx159_5
                      try clear hx159_6
                      try clear hx160_0
                      try clear hx160_1
                      try clear hx160_2
                      try clear hx160_3
                      try clear hx160_4
                      try clear hx160_5
                      try clear hx160_6
                      try clear hx161_0
                      try clear hx161_1
                      try clear hx161_2
                      try clear hx161_3
                      try clear hx161_4
                      try clear hx161_5
                      try clear hx161_6
                      try clear hx162_0
                      try clear hx162_1
                      try clear hx162_2
                      try clear hx162_3
                      try clear hx162_4
                      try clear hx162_5
                      try clear hx162_6
                      try clear hx163_0
                      try clear hx163_1
                      try clear hx163_2
                      try clear hx163_3
                      try clear hx163_4
                      try clear hx163_5
                      try clear hx163_6
                      try clear hx164_0
                      try clear hx164_1
                      try clear hx164_2
                      try clear hx164_3
                      try clear hx164_4
                      try clear hx164_5
                      try clear hx164_6
                      try clear hx165_0
                      try clear hx165_1
                      try clear hx165_2
                      try clear hx165_3
                      try clear hx165_4
                      try clear hx165_5
                      try clear hx165_6
                      try clear hx166_0
                      try clear hx166_1
                      try clear hx166_2
                      try clear hx166_3
                      try clear hx166_4
                      try clear hx166_5
                      try clear hx166_6
                      try clear hx167_0
                      try clear hx167_1
                      try clear hx167_2
                      try clear hx167_3
                      try clear hx167_4
                      try clear hx167_5
                      try clear hx167_6
                      try clear p1
                      try clear p15
                      try clear p156
                      try clear p157
                      try clear p158
                      try clear p159
                      try clear p16
                      try clear p160
                      try clear p161
                      try clear p162
                      try clear p163
                      try clear p164
                      try clear p165
                      try clear p166
                      try clear p167
                      try clear p2
                      try clear p6
                      try clear q1
                      try clear q15
                      try clear q156
                      try clear q157
                      try clear q158
                      try clear q159
                      try clear q16
                      try clear q160
                      try clear q161
                      try clear q162
                      try clear q163
                      try clear q164
                      try clear q165
                      try clear q166
                      try clear q167
                      obtain ⟨x11_3, x12_3, rfl, rfl, HA, HK3, HO_3, HO_4, HB⟩ := hrel
                      cases gk with
                      | zero => exact absurd HA.out (by simp [dovetaillaw23_AddrGaps.l2])
                      | succ k3 =>
                        have H := HA.out
                        clear HA
                        simp only [dovetaillaw23_AddrGaps.l2] at H
                        by_cases c49 : x12_3 < (t146.length : Int)
                        · rw [if_pos c49] at H
                          have c49b0 : decide (x12_3 < (t146.length : Int)) = true := decide_eq_true c49
                          clear c49
                          by_cases c50 : x11_3 = true
                          · subst c50
                            have H1 : (dovetaillaw23_AddrGaps.l2 k3 t146 t147 x10_2 true (wrap64 (x12_3 + 1))) = some r := by rw [if_pos rfl] at H; exact H
                            clear H
                            have H := H1
                            clear H1
                            have H' := Aside0.mk H
                            clear H
                            go_wp2
                            repeat (go_quiet (fail); try go_wp2)
                            go_roundg k3
                            case measure => have := HK1.out; have := HK2.out; have := HK3.out; omega
                            case rel => exact ⟨(true), (wrap64 (x12_3 + 1)), (by first | rfl | (simp; done) | (simp [*]; done)), (by first | rfl | (simp; done) | (simp [*]; done)), H', ⟨by have := HK1.out; have := HK2.out; have := HK3.out; omega⟩, ⟨by (with_reducible repeat (first | apply Kd.R_alloc | apply Kd.R_drewN | apply Kd.R_drew)); exact HO_3.out⟩, ⟨by (with_reducible repeat (first | apply Kd.S_alloc | apply Kd.S_drewN | apply Kd.S_drew)); exact HO_4.out⟩, ⟨by repeat (first | (with_reducible first | exact HB.out | apply below_alloc | apply pw_below_drewN | apply below_drew1) | exact HB.out)⟩⟩
                          · replace c50 := Bool.eq_false_iff.mpr c50
                            subst c50
                            have H1 : (if 0 ≤ x12_3 then (if 0 ≤ x10_2 then (if x10_2 < (t147.length : Int) then (dovetaillaw23_AddrGaps.l2 k3 t146 t147 x10_2 (((rd_T37 t146 x12_3).f6) == ((rd_T40 t147 x10_2).f0)) (wrap64 (x12_3 + 1))) else (none)) else (none)) else (none)) = some r := by rw [if_neg (show ¬ (false = true) by decide)] at H; exact H
                            clear H
                            have H := H1
                            clear H1
                            by_cases c51 : 0 ≤ x12_3
                            · rw [if_pos c51] at H
                              have c51b0 : decide (0 ≤ x12_3) = true := decide_eq_true c51
                              clear c51
                              by_cases c52 : 0 ≤ x10_2
                              · rw [if_pos c52] at H
                                have c52b0 : decide (0 ≤ x10_2) = true := decide_eq_true c52
                                clear c52
                                by_cases c53 : x10_2 < (t147.length : Int)
                                · rw [if_pos c53] at H
                                  have c53b0 : decide (x10_2 < (t147.length : Int)) = true := decide_eq_true c53
                                  clear c53
                                  have H' := Aside0.mk H
                                  clear H
                                  have p168 : 0 ≤ (x12_3 : Int) := of_decide_eq_true (by first | (with_reducible assumption) | assumption)
                                  have q168 : x12_3 < (t146.length : Int) := of_decide_eq_true (by first | (with_reducible assumption) | assumption)
                                  obtain ⟨ad168, e168, hx168_0, hx168_1, hx168_2, hx168_3, hx168_4, hx168_5, hx168_6⟩ := at_T37 (Kd.R_reads' HO_3.out).2.2 x12_3 p168 q168
                                  cases e168
                                  replace p168 := eq_true p168
                                  replace q168 := eq_true q168
                                  have p169 : 0 ≤ (x10_2 : Int) := of_decide_eq_true (by first | (with_reducible assumption) | assumption)
                                  have q169 : x10_2 < (t147.length : Int) := of_decide_eq_true (by first | (with_reducible assumption) | assumption)
                                  obtain ⟨ad169, A169_2, c169_2, e169, hx169_0, hx169_1, hx169_2, hx169_3, hl169_2, hi169_2⟩ := at_T40 (Kd.S_reads' HO_4.out).2.2 x10_2 p169 q169
                                  cases e169
                                  obtain ⟨ce169, hce169, hMe169, hcc169⟩ := Kd.S_get HO_4.out z40 x10_2 p169 (by first | exact q169 | exact of_decide_eq_true (by first | (with_reducible assumption) | assumption) | (have e_ := (Kd.S_reads' HO_4.out).1; omega))
                                  obtain ⟨ve169_2, rfl, ge169_2⟩ := k40_openM hMe169
                                  have hv169_2 := hcc169 2 _ rfl
                                  rw [add_field _ _ 2 (by omega)] at hv169_2
                                  replace hv169_2 := Option.some.inj (hv169_2.symm.trans hx169_2)
                                  rw [hv169_2] at ge169_2
                                  have HL169_2 := Aside0.mk (show Kd.R (Kd.int .u8) 5 _ _ _ _ ((rd_T40 t147 x10_2).f2) from ge169_2)
                                  clear hv169_2 ge169_2
                                  clear hcc169 hce169
                                  have HR169_2 := Aside0.mk hi169_2
                                  have HC169_2 := Aside0.mk hl169_2
                                  clear hi169_2 hl169_2
                                  replace p169 := eq_true p169
                                  replace q169 := eq_true q169
                                  go_wp2
                                  repeat (go_quiet (fail); try go_wp2)
                                  go_roundg k3
                                  case measure => have := HK1.out; have := HK2.out; have := HK3.out; omega
                                  case rel => exact ⟨((((rd_T37 t146 x12_3).f6) == ((rd_T40 t147 x10_2).f0))), (wrap64 (x12_3 + 1)), (by first | rfl | (simp; done) | (simp [*]; done)), (by first | rfl | (simp; done) | (simp [*]; done)), H', ⟨by have := HK1.out; have := HK2.out; have := HK3.out; omega⟩, ⟨by (with_reducible repeat (first | apply Kd.R_alloc | apply Kd.R_drewN | apply Kd.R_drew)); exact HO_3.out⟩, ⟨by (with_reducible repeat (first | apply Kd.S_alloc | apply Kd.S_drewN | apply Kd.S_drew)); exact HO_4.out⟩, ⟨by repeat (first | (with_reducible first | exact HB.out | apply below_alloc | apply pw_below_drewN | apply below_drew1) | exact HB.out)⟩⟩
                                · rw [if_neg c53] at H
                                  exact absurd H (by simp)
                              · rw [if_neg c52] at H
                                exact absurd H (by simp)
                            · rw [if_neg c51] at H
                              exact absurd H (by simp)
                        · rw [if_neg c49] at H
                          have c49b0 : decide (x12_3 < (t146.length : Int)) = false := decide_eq_false c49
                          clear c49
                          by_cases c54 : x11_3 = true
                          · subst c54
                            have H1 : (dovetaillaw23_AddrGaps.l1 k3 t146 t147 (wrap64 (x10_2 + 1))) = some r := by rw [if_pos rfl] at H; exact H
                            clear H
                            have H := H1
                            clear H1
                            have H' := Aside0.mk H
                            clear H
                            go_wp2
                            repeat (go_quiet (fail); try go_wp2)
                            go_roundg k3
                            case measure => have := HK1.out; have := HK2.out; have := HK3.out; omega
                            case rel => exact ⟨(wrap64 (x10_2 + 1)), (by first | rfl | (simp; done) | (simp [*]; done)), H', ⟨by have := HK1.out; have := HK2.out; have := HK3.out; omega⟩, ⟨by (with_reducible repeat (first | apply Kd.R_alloc | apply Kd.R_drewN | apply Kd.R_drew)); exact HO_3.out⟩, ⟨by (with_reducible repeat (first | apply Kd.S_alloc | apply Kd.S_drewN | apply Kd.S_drew)); exact HO_4.out⟩, ⟨by repeat (first | (with_reducible first | exact HB.out | apply below_alloc | apply pw_below_drewN | apply below_drew1) | exact HB.out)⟩⟩
                          · replace c54 := Bool.eq_false_iff.mpr c54
                            subst c54
                            have H1 : (some false) = some r := by rw [if_neg (show ¬ (false = true) by decide)] at H; exact H
                            clear H
                            have H := H1
                            clear H1
                            obtain rfl := Option.some.inj H
                            go_wp2
                            repeat (go_quiet (fail); try go_wp2)
                            go_ret
                            exact ⟨by first | rfl | (simp [errW_none, errW_some] <;> rfl) | (simp [*, errW_none, errW_some] <;> rfl), by repeat (first | (with_reducible first | exact HB.out | apply below_alloc | apply pw_below_drewN | apply below_drew1) | exact HB.out)⟩
                  · rw [if_neg c47] at H
                    have c47b0 : decide (x10_2 < (t147.length : Int)) = false := decide_eq_false c47
                    clear c47
                    obtain rfl := Option.some.inj H
                    obtain ⟨Ao55, co55, eo55⟩ := Kd.S_slice HO_4.out
                    subst eo55
                    go_wp2
                    repeat (go_quiet (fail); try go_wp2)
                    go_ret
                    exact ⟨by first | rfl | (simp [errW_none, errW_some] <;> rfl) | (simp [*, errW_none, errW_some] <;> rfl), by repeat (first | (with_reducible first | exact HB.out | apply below_alloc | apply pw_below_drewN | apply below_drew1) | exact HB.out)⟩
      · rw [if_neg c8] at H
        have c8b0 : (t148 == 0) = false := beq_eq_false_iff_ne.mpr c8
        have c8b1 : (t148 != 0) = true := bne_iff_ne.mpr c8
        obtain rfl := Option.some.inj H
        go_enter Try.func5, Try.ntmps5
        go_wp2_with (first | (go_at_call 7; (with_reducible refine (dovetaillaw23_known.calls  true _ A2.out).mono ?_); rintro e w56 ⟨rfl, hb⟩; have n0_ := Aside0.mk (below_step (by repeat (first | (with_reducible first | exact HB.out | apply below_alloc | apply pw_below_drewN | apply below_drew1) | exact HB.out)) hb); clear HB; have HB := n0_; clear n0_; (try clear hb); (try clear hb2); (try clear hk); (try clear hi)) | (go_at_call 9; (with_reducible refine (dovetaillaw23_pieces.calls k _ _ l0 t143 _ ?side1 ?side2 A6.out).mono ?_); (case side1 => repeat (first | exact (Kd.C_below HR0.out HB.out) | (with_reducible refine Kd.C_alloc ?_ _) | (with_reducible refine Kd.C_drewN ?_ _) | (with_reducible refine Kd.C_drew ?_))); (case side2 => exact HC0.out); rintro e w57 ⟨v144, rfl, ho0, hb⟩; have n0_ := Aside0.mk (Kd.R_lower ho0 (below_size (by repeat (first | (with_reducible first | exact HB.out | apply below_alloc | apply pw_below_drewN | apply below_drew1) | exact HB.out)))); have n1_ := Aside0.mk (below_step (by repeat (first | (with_reducible first | exact HB.out | apply below_alloc | apply pw_below_drewN | apply below_drew1) | exact HB.out)) hb); clear HB; have HO145 := n0_; have HB := n1_; clear n0_ n1_; (try clear hb); (try clear hb2); (try clear hk); (try clear hi); (try clear ho0); obtain ⟨Ao58, co58, eo58⟩ := Kd.R_slice HO145.out; subst eo58) | (go_at_call 8; (with_reducible refine (addr_Assign.calls _ _ t143 t146 t147 t148 _ ?side1 ?side2 A7.out).mono ?_); (case side1 => repeat (first | exact (Kd.R_reads' HO145.out).2.2 | (with_reducible refine Kd.C_alloc ?_ _) | (with_reducible refine Kd.C_drewN ?_ _) | (with_reducible refine Kd.C_drew ?_))); (case side2 => exact (Kd.R_reads' HO145.out).2.1); rintro e w59 ⟨v149, v151, rfl, ho0, ho1, hb⟩; have n0_ := Aside0.mk (Kd.R_elder' (by (with_reducible repeat (first | apply Kd.R_alloc | apply Kd.R_drewN | apply Kd.R_drew)); exact HO145.out) (Kd.R_base ho0) hb); have n1_ := Aside0.mk (Kd.R_lower (Kd.R_new' ho0 (Kd.R_lt (by (with_reducible repeat (first | apply Kd.R_alloc | apply Kd.R_drewN | apply Kd.R_drew)); exact HO145.out))) (below_size (by repeat (first | (with_reducible first | exact HB.out | apply below_alloc | apply pw_below_drewN | apply below_drew1) | exact HB.out)))); have n2_ := Aside0.mk (Kd.S_lower ho1 (below_size (by repeat (first | (with_reducible first | exact HB.out | apply below_alloc | apply pw_below_drewN | apply below_drew1) | exact HB.out)))); have n3_ := Aside0.mk (below_step (by repeat (first | (with_reducible first | exact HB.out | apply below_alloc | apply pw_below_drewN | apply below_drew1) | exact HB.out)) hb); clear HO145; clear HB; have HO145 := n0_; have HO150 := n1_; have HO152 := n2_; have HB := n3_; clear n0_ n1_ n2_ n3_; (try clear hb); (try clear hb2); (try clear hk); (try clear hi); (try clear ho0); (try clear ho1)))
        repeat (go_quiet (first | (go_at_call 7; (with_reducible refine (dovetaillaw23_known.calls  true _ A2.out).mono ?_); rintro e w56 ⟨rfl, hb⟩; have n0_ := Aside0.mk (below_step (by repeat (first | (with_reducible first | exact HB.out | apply below_alloc | apply pw_below_drewN | apply below_drew1) | exact HB.out)) hb); clear HB; have HB := n0_; clear n0_; (try clear hb); (try clear hb2); (try clear hk); (try clear hi)) | (go_at_call 9; (with_reducible refine (dovetaillaw23_pieces.calls k _ _ l0 t143 _ ?side1 ?side2 A6.out).mono ?_); (case side1 => repeat (first | exact (Kd.C_below HR0.out HB.out) | (with_reducible refine Kd.C_alloc ?_ _) | (with_reducible refine Kd.C_drewN ?_ _) | (with_reducible refine Kd.C_drew ?_))); (case side2 => exact HC0.out); rintro e w57 ⟨v144, rfl, ho0, hb⟩; have n0_ := Aside0.mk (Kd.R_lower ho0 (below_size (by repeat (first | (with_reducible first | exact HB.out | apply below_alloc | apply pw_below_drewN | apply below_drew1) | exact HB.out)))); have n1_ := Aside0.mk (below_step (by repeat (first | (with_reducible first | exact HB.out | apply below_alloc | apply pw_below_drewN | apply below_drew1) | exact HB.out)) hb); clear HB; have HO145 := n0_; have HB := n1_; clear n0_ n1_; (try clear hb); (try clear hb2); (try clear hk); (try clear hi); (try clear ho0); obtain ⟨Ao58, co58, eo58⟩ := Kd.R_slice HO145.out; subst eo58) | (go_at_call 8; (with_reducible refine (addr_Assign.calls _ _ t143 t146 t147 t148 _ ?side1 ?side2 A7.out).mono ?_); (case side1 => repeat (first | exact (Kd.R_reads' HO145.out).2.2 | (with_reducible refine Kd.C_alloc ?_ _) | (with_reducible refine Kd.C_drewN ?_ _) | (with_reducible refine Kd.C_drew ?_))); (case side2 => exact (Kd.R_reads' HO145.out).2.1); rintro e w59 ⟨v149, v151, rfl, ho0, ho1, hb⟩; have n0_ := Aside0.mk (Kd.R_elder' (by (with_reducible repeat (first | apply Kd.R_alloc | apply Kd.R_drewN | apply Kd.R_drew)); exact HO145.out) (Kd.R_base ho0) hb); have n1_ := Aside0.mk (Kd.R_lower (Kd.R_new' ho0 (Kd.R_lt (by (with_reducible repeat (first | apply Kd.R_alloc | apply Kd.R_drewN | apply Kd.R_drew)); exact HO145.out))) (below_size (by repeat (first | (with_reducible first | exact HB.out | apply below_alloc | apply pw_below_drewN | apply below_drew1) | exact HB.out)))); have n2_ := Aside0.mk (Kd.S_lower ho1 (below_size (by repeat (first | (with_reducible first | exact HB.out | apply below_alloc | apply pw_below_drewN | apply below_drew1) | exact HB.out)))); have n3_ := Aside0.mk (below_step (by repeat (first | (with_reducible first | exact HB.out | apply below_alloc | apply pw_below_drewN | apply below_drew1) | exact HB.out)) hb); clear HO145; clear HB; have HO145 := n0_; have HO150 := n1_; have HO152 := n2_; have HB := n3_; clear n0_ n1_ n2_ n3_; (try clear hb); (try clear hb2); (try clear hk); (try clear hi); (try clear ho0); (try clear ho1))); try go_wp2_with (first | (go_at_call 7; (with_reducible refine (dovetaillaw23_known.calls  true _ A2.out).mono ?_); rintro e w56 ⟨rfl, hb⟩; have n0_ := Aside0.mk (below_step (by repeat (first | (with_reducible first | exact HB.out | apply below_alloc | apply pw_below_drewN | apply below_drew1) | exact HB.out)) hb); clear HB; have HB := n0_; clear n0_; (try clear hb); (try clear hb2); (try clear hk); (try clear hi)) | (go_at_call 9; (with_reducible refine (dovetaillaw23_pieces.calls k _ _ l0 t143 _ ?side1 ?side2 A6.out).mono ?_); (case side1 => repeat (first | exact (Kd.C_below HR0.out HB.out) | (with_reducible refine Kd.C_alloc ?_ _) | (with_reducible refine Kd.C_drewN ?_ _) | (with_reducible refine Kd.C_drew ?_))); (case side2 => exact HC0.out); rintro e w57 ⟨v144, rfl, ho0, hb⟩; have n0_ := Aside0.mk (Kd.R_lower ho0 (below_size (by repeat (first | (with_reducible first | exact HB.out | apply below_alloc | apply pw_below_drewN | apply below_drew1) | exact HB.out)))); have n1_ := Aside0.mk (below_step (by repeat (first | (with_reducible first | exact HB.out | apply below_alloc | apply pw_below_drewN | apply below_drew1) | exact HB.out)) hb); clear HB; have HO145 := n0_; have HB := n1_; clear n0_ n1_; (try clear hb); (try clear hb2); (try clear hk); (try clear hi); (try clear ho0); obtain ⟨Ao58, co58, eo58⟩ := Kd.R_slice HO145.out; subst eo58) | (go_at_call 8; (with_reducible refine (addr_Assign.calls _ _ t143 t146 t147 t148 _ ?side1 ?side2 A7.out).mono ?_); (case side1 => repeat (first | exact (Kd.R_reads' HO145.out).2.2 | (with_reducible refine Kd.C_alloc ?_ _) | (with_reducible refine Kd.C_drewN ?_ _) | (with_reducible refine Kd.C_drew ?_))); (case side2 => exact (Kd.R_reads' HO145.out).2.1); rintro e w59 ⟨v149, v151, rfl, ho0, ho1, hb⟩; have n0_ := Aside0.mk (Kd.R_elder' (by (with_reducible repeat (first | apply Kd.R_alloc | apply Kd.R_drewN | apply Kd.R_drew)); exact HO145.out) (Kd.R_base ho0) hb); have n1_ := Aside0.mk (Kd.R_lower (Kd.R_new' ho0 (Kd.R_lt (by (with_reducible repeat (first | apply Kd.R_alloc | apply Kd.R_drewN | apply Kd.R_drew)); exact HO145.out))) (below_size (by repeat (first | (with_reducible first | exact HB.out | apply below_alloc | apply pw_below_drewN | apply below_drew1) | exact HB.out)))); have n2_ := Aside0.mk (Kd.S_lower ho1 (below_size (by repeat (first | (with_reducible first | exact HB.out | apply below_alloc | apply pw_below_drewN | apply below_drew1) | exact HB.out)))); have n3_ := Aside0.mk (below_step (by repeat (first | (with_reducible first | exact HB.out | apply below_alloc | apply pw_below_drewN | apply below_drew1) | exact HB.out)) hb); clear HO145; clear HB; have HO145 := n0_; have HO150 := n1_; have HO152 := n2_; have HB := n3_; clear n0_ n1_ n2_ n3_; (try clear hb); (try clear hb2); (try clear hk); (try clear hi); (try clear ho0); (try clear ho1))))
        go_ret
        exact ⟨by first | rfl | (simp [errW_none, errW_some] <;> rfl) | (simp [*, errW_none, errW_some] <;> rfl), by repeat (first | (with_reducible first | exact HB.out | apply below_alloc | apply pw_below_drewN | apply below_drew1) | exact HB.out)⟩
  · replace c3 := Bool.eq_false_iff.mpr c3
    subst c3
    have H1 : (some false) = some r := by rw [if_neg (show ¬ (false = true) by decide)] at H; exact H
    clear H
    have H := H1
    clear H1
    obtain rfl := Option.some.inj H
    go_enter Try.func5, Try.ntmps5
    go_wp2_with (first | (go_at_call 7; (with_reducible refine (dovetaillaw23_known.calls  false _ A2.out).mono ?_); rintro e w60 ⟨rfl, hb⟩; have n0_ := Aside0.mk (below_step (by repeat (first | (with_reducible first | exact HB.out | apply below_alloc | apply pw_below_drewN | apply below_drew1) | exact HB.out)) hb); clear HB; have HB := n0_; clear n0_; (try clear hb); (try clear hb2); (try clear hk); (try clear hi)))
    repeat (go_quiet (first | (go_at_call 7; (with_reducible refine (dovetaillaw23_known.calls  false _ A2.out).mono ?_); rintro e w60 ⟨rfl, hb⟩; have n0_ := Aside0.mk (below_step (by repeat (first | (with_reducible first | exact HB.out | apply below_alloc | apply pw_below_drewN | apply below_drew1) | exact HB.out)) hb); clear HB; have HB := n0_; clear n0_; (try clear hb); (try clear hb2); (try clear hk); (try clear hi))); try go_wp2_with (first | (go_at_call 7; (with_reducible refine (dovetaillaw23_known.calls  false _ A2.out).mono ?_); rintro e w60 ⟨rfl, hb⟩; have n0_ := Aside0.mk (below_step (by repeat (first | (with_reducible first | exact HB.out | apply below_alloc | apply pw_below_drewN | apply below_drew1) | exact HB.out)) hb); clear HB; have HB := n0_; clear n0_; (try clear hb); (try clear hb2); (try clear hk); (try clear hi))))
    go_ret
    exact ⟨by first | rfl | (simp [errW_none, errW_some] <;> rfl) | (simp [*, errW_none, errW_some] <;> rfl), by repeat (first | (with_reducible first | exact HB.out | apply below_alloc | apply pw_below_drewN | apply below_drew1) | exact HB.out)⟩

end Go.Proofs.Ytpblhcmcldachaa.QAddrGaps
