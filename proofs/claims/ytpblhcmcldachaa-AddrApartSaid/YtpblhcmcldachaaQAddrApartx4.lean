/- Contracts of what a law reaches, each function as a plain Lean function: written by a program of this claim's repo (myprint.py); conditions: those of each theorem. -/
import Derived.Test.YtpblhcmcldachaaQAddrApartx0
import Derived.Test.YtpblhcmcldachaaQAddrApartx1
import Derived.Test.YtpblhcmcldachaaQAddrApartx2
import Derived.Test.YtpblhcmcldachaaQAddrApartx3
namespace Go.Proofs.Ytpblhcmcldachaa.QAddrApart
open Go.Proofs.Ytpblhcmcldachaa.Man
open Go.RowKit Go.Proofs.YtpblhcmcldachaaW.PrintWords Go.Proofs.YtpblhcmcldachaaW.PrintLast Go.Proofs.YtpblhcmcldachaaW.PrintMore
attribute [local go_sem] max2_int min2_int max_two min_two max_three min_three max_four min_four   -- for this text's walks alone
set_option linter.unusedVariables false
set_option linter.unusedSimpArgs false

/-! ### dovetaillaw23_AddrApart: function 4 -/
mutual
def dovetaillaw23_AddrApart.l0 : Nat → List (S37) → List (S40) → Int → Option (Bool)
  | 0, _, _, _ => none
  | k + 1, x3, x4, x6 => if x6 < (x3.length : Int) then (if 0 ≤ x6 then (if ((rd_T37 x3 x6).f4) = 0 then (none) else (if (Int.tmod ((rd_T37 x3 x6).f6) ((rd_T37 x3 x6).f4)) = 0 then (dovetaillaw23_AddrApart.l1 k x3 x4 x6 0) else (some false))) else (none)) else (dovetaillaw23_AddrApart.l3 k x4 0)
def dovetaillaw23_AddrApart.l1 : Nat → List (S37) → List (S40) → Int → Int → Option (Bool)
  | 0, _, _, _, _ => none
  | k + 1, x3, x4, x6, x7 => if x7 < x6 then (if 0 ≤ x6 then (if x6 < (x3.length : Int) then (if ((rd_T37 x3 x6).f5) > 0 then (if 0 ≤ x7 then (if x7 < (x3.length : Int) then (if ((rd_T37 x3 x7).f5) > 0 then (if ((rd_T37 x3 x6).f6) < (IntKind.u64.wrap (((rd_T37 x3 x7).f6) + ((rd_T37 x3 x7).f5))) then (if ((rd_T37 x3 x7).f6) < (IntKind.u64.wrap (((rd_T37 x3 x6).f6) + ((rd_T37 x3 x6).f5))) then (some false) else (dovetaillaw23_AddrApart.l1 k x3 x4 x6 (wrap64 (x7 + 1)))) else (dovetaillaw23_AddrApart.l1 k x3 x4 x6 (wrap64 (x7 + 1)))) else (dovetaillaw23_AddrApart.l1 k x3 x4 x6 (wrap64 (x7 + 1)))) else (none)) else (none)) else (dovetaillaw23_AddrApart.l1 k x3 x4 x6 (wrap64 (x7 + 1)))) else (none)) else (none)) else (if 0 ≤ x6 then (if x6 < (x3.length : Int) then (dovetaillaw23_AddrApart.l2 k x3 x4 x6 (((rd_T37 x3 x6).f5) == 0) 0) else (none)) else (none))
def dovetaillaw23_AddrApart.l2 : Nat → List (S37) → List (S40) → Int → Bool → Int → Option (Bool)
  | 0, _, _, _, _, _ => none
  | k + 1, x3, x4, x6, x8, x9 => if x9 < (x4.length : Int) then (if x8 = true then (dovetaillaw23_AddrApart.l2 k x3 x4 x6 true (wrap64 (x9 + 1))) else (if 0 ≤ x6 then (if x6 < (x3.length : Int) then (if 0 ≤ x9 then (if ((rd_T37 x3 x6).f6) ≥ ((rd_T40 x4 x9).f0) then (if (IntKind.u64.wrap (((rd_T37 x3 x6).f6) + ((rd_T37 x3 x6).f5))) ≤ (IntKind.u64.wrap (((rd_T40 x4 x9).f0) + ((rd_T40 x4 x9).f3))) then (if (((Go.bits .and .i64 ((rd_T40 x4 x9).f1) 1) != 0) == (((rd_T37 x3 x6).f2) == 0)) = true then (dovetaillaw23_AddrApart.l2 k x3 x4 x6 (((Go.bits .and .i64 ((rd_T40 x4 x9).f1) 2) != 0) == (decide (((rd_T37 x3 x6).f2) ≥ 2))) (wrap64 (x9 + 1))) else (dovetaillaw23_AddrApart.l2 k x3 x4 x6 false (wrap64 (x9 + 1)))) else (dovetaillaw23_AddrApart.l2 k x3 x4 x6 false (wrap64 (x9 + 1)))) else (dovetaillaw23_AddrApart.l2 k x3 x4 x6 false (wrap64 (x9 + 1)))) else (none)) else (none)) else (none))) else (if x8 = true then (dovetaillaw23_AddrApart.l0 k x3 x4 (wrap64 (x6 + 1))) else (some false))
def dovetaillaw23_AddrApart.l3 : Nat → List (S40) → Int → Option (Bool)
  | 0, _, _ => none
  | k + 1, x4, x10 => if x10 < (x4.length : Int) then (if 0 ≤ x10 then (if (Int.tmod ((rd_T40 x4 x10).f0) 4096) = 0 then (if ((rd_T40 x4 x10).f3) = 0 then (some false) else (if (Go.bits .and .i64 ((rd_T40 x4 x10).f1) 2) = 0 then (if x10 > 0 then (if 0 ≤ (wrap64 (x10 - 1)) then (if (wrap64 (x10 - 1)) < (x4.length : Int) then (if (IntKind.u64.wrap (Int.tdiv ((rd_T40 x4 x10).f0) 4096)) ≤ (IntKind.u64.wrap (Int.tdiv (IntKind.u64.wrap ((IntKind.u64.wrap (((rd_T40 x4 (wrap64 (x10 - 1))).f0) + ((rd_T40 x4 (wrap64 (x10 - 1))).f3))) - 1)) 4096)) then (some false) else (dovetaillaw23_AddrApart.l3 k x4 (wrap64 (x10 + 1)))) else (none)) else (none)) else (dovetaillaw23_AddrApart.l3 k x4 (wrap64 (x10 + 1)))) else (if (Go.bits .and .i64 ((rd_T40 x4 x10).f1) 1) = 0 then (if x10 > 0 then (if 0 ≤ (wrap64 (x10 - 1)) then (if (wrap64 (x10 - 1)) < (x4.length : Int) then (if (IntKind.u64.wrap (Int.tdiv ((rd_T40 x4 x10).f0) 4096)) ≤ (IntKind.u64.wrap (Int.tdiv (IntKind.u64.wrap ((IntKind.u64.wrap (((rd_T40 x4 (wrap64 (x10 - 1))).f0) + ((rd_T40 x4 (wrap64 (x10 - 1))).f3))) - 1)) 4096)) then (some false) else (dovetaillaw23_AddrApart.l3 k x4 (wrap64 (x10 + 1)))) else (none)) else (none)) else (dovetaillaw23_AddrApart.l3 k x4 (wrap64 (x10 + 1)))) else (some false)))) else (some false)) else (none)) else (some true)
end
def dovetaillaw23_AddrApart.f (k : Nat) (l0 : List (S57)) : Option (Bool) := (dovetaillaw23_known.f).bind fun t142 => (if t142 = true then (if (l0.length : Int) > 20 then (some true) else ((dovetaillaw23_pieces.f k l0).bind fun t143 => ((addr_Assign.f t143).bind fun bt146 => (if bt146.2.2 = 0 then (dovetaillaw23_AddrApart.l0 k bt146.1 bt146.2.1 0) else (if bt146.2.2 = 55 then (if (bt146.1.length : Int) = 0 then (some ((bt146.2.1.length : Int) == 0)) else (some false)) else (some false)))))) else (some false))
theorem dovetaillaw23_AddrApart.mono_l : ∀ k, (∀ y0 y1 y2, LeO (dovetaillaw23_AddrApart.l0 k y0 y1 y2) (dovetaillaw23_AddrApart.l0 (k + 1) y0 y1 y2)) ∧ (∀ y0 y1 y2 y3, LeO (dovetaillaw23_AddrApart.l1 k y0 y1 y2 y3) (dovetaillaw23_AddrApart.l1 (k + 1) y0 y1 y2 y3)) ∧ (∀ y0 y1 y2 y3 y4, LeO (dovetaillaw23_AddrApart.l2 k y0 y1 y2 y3 y4) (dovetaillaw23_AddrApart.l2 (k + 1) y0 y1 y2 y3 y4)) ∧ (∀ y0 y1, LeO (dovetaillaw23_AddrApart.l3 k y0 y1) (dovetaillaw23_AddrApart.l3 (k + 1) y0 y1))
  | 0 => ⟨fun _ _ _ r h => by simp [dovetaillaw23_AddrApart.l0] at h, fun _ _ _ _ r h => by simp [dovetaillaw23_AddrApart.l1] at h, fun _ _ _ _ _ r h => by simp [dovetaillaw23_AddrApart.l2] at h, fun _ _ r h => by simp [dovetaillaw23_AddrApart.l3] at h⟩
  | k + 1 => by
    obtain ⟨ih0, ih1, ih2, ih3⟩ := dovetaillaw23_AddrApart.mono_l k
    refine ⟨?_, ?_, ?_, ?_⟩
    · intro y0 y1 y2
      unfold dovetaillaw23_AddrApart.l0
      repeat' first
      | (with_reducible exact ih0 _ _ _)
      | (with_reducible exact ih1 _ _ _ _)
      | (with_reducible exact ih2 _ _ _ _ _)
      | (with_reducible exact ih3 _ _)
      | (with_reducible exact dovetaillaw23_pieces.mono _ _)
      | (with_reducible exact LeO.refl _)
      | (with_reducible exact LeO.none _)
      | (with_reducible refine LeO.ite ?_ ?_)
      | (with_reducible refine LeO.bind ?_ (fun _ => ?_))
      | exact ih0 _ _ _
      | exact ih1 _ _ _ _
      | exact ih2 _ _ _ _ _
      | exact ih3 _ _
      | exact dovetaillaw23_pieces.mono _ _
      | exact LeO.none _
      | refine LeO.ite ?_ ?_
      | refine LeO.bind ?_ (fun _ => ?_)
    · intro y0 y1 y2 y3
      unfold dovetaillaw23_AddrApart.l1
      repeat' first
      | (with_reducible exact ih0 _ _ _)
      | (with_reducible exact ih1 _ _ _ _)
      | (with_reducible exact ih2 _ _ _ _ _)
      | (with_reducible exact ih3 _ _)
      | (with_reducible exact dovetaillaw23_pieces.mono _ _)
      | (with_reducible exact LeO.refl _)
      | (with_reducible exact LeO.none _)
      | (with_reducible refine LeO.ite ?_ ?_)
      | (with_reducible refine LeO.bind ?_ (fun _ => ?_))
      | exact ih0 _ _ _
      | exact ih1 _ _ _ _
      | exact ih2 _ _ _ _ _
      | exact ih3 _ _
      | exact dovetaillaw23_pieces.mono _ _
      | exact LeO.none _
      | refine LeO.ite ?_ ?_
      | refine LeO.bind ?_ (fun _ => ?_)
    · intro y0 y1 y2 y3 y4
      unfold dovetaillaw23_AddrApart.l2
      repeat' first
      | (with_reducible exact ih0 _ _ _)
      | (with_reducible exact ih1 _ _ _ _)
      | (with_reducible exact ih2 _ _ _ _ _)
      | (with_reducible exact ih3 _ _)
      | (with_reducible exact dovetaillaw23_pieces.mono _ _)
      | (with_reducible exact LeO.refl _)
      | (with_reducible exact LeO.none _)
      | (with_reducible refine LeO.ite ?_ ?_)
      | (with_reducible refine LeO.bind ?_ (fun _ => ?_))
      | exact ih0 _ _ _
      | exact ih1 _ _ _ _
      | exact ih2 _ _ _ _ _
      | exact ih3 _ _
      | exact dovetaillaw23_pieces.mono _ _
      | exact LeO.none _
      | refine LeO.ite ?_ ?_
      | refine LeO.bind ?_ (fun _ => ?_)
    · intro y0 y1
      unfold dovetaillaw23_AddrApart.l3
      repeat' first
      | (with_reducible exact ih0 _ _ _)
      | (with_reducible exact ih1 _ _ _ _)
      | (with_reducible exact ih2 _ _ _ _ _)
      | (with_reducible exact ih3 _ _)
      | (with_reducible exact dovetaillaw23_pieces.mono _ _)
      | (with_reducible exact LeO.refl _)
      | (with_reducible exact LeO.none _)
      | (with_reducible refine LeO.ite ?_ ?_)
      | (with_reducible refine LeO.bind ?_ (fun _ => ?_))
      | exact ih0 _ _ _
      | exact ih1 _ _ _ _
      | exact ih2 _ _ _ _ _
      | exact ih3 _ _
      | exact dovetaillaw23_pieces.mono _ _
      | exact LeO.none _
      | refine LeO.ite ?_ ?_
      | refine LeO.bind ?_ (fun _ => ?_)
theorem dovetaillaw23_AddrApart.mono : ∀ a0 k, LeO (dovetaillaw23_AddrApart.f k a0) (dovetaillaw23_AddrApart.f (k + 1) a0) := by
  intro a0 k
  obtain ⟨ih0, ih1, ih2, ih3⟩ := dovetaillaw23_AddrApart.mono_l k
  unfold dovetaillaw23_AddrApart.f
  repeat' first
      | (with_reducible exact ih0 _ _ _)
      | (with_reducible exact ih1 _ _ _ _)
      | (with_reducible exact ih2 _ _ _ _ _)
      | (with_reducible exact ih3 _ _)
      | (with_reducible exact dovetaillaw23_pieces.mono _ _)
      | (with_reducible exact LeO.refl _)
      | (with_reducible exact LeO.none _)
      | (with_reducible refine LeO.ite ?_ ?_)
      | (with_reducible refine LeO.bind ?_ (fun _ => ?_))
      | exact ih0 _ _ _
      | exact ih1 _ _ _ _
      | exact ih2 _ _ _ _ _
      | exact ih3 _ _
      | exact dovetaillaw23_pieces.mono _ _
      | exact LeO.none _
      | refine LeO.ite ?_ ?_
      | refine LeO.bind ?_ (fun _ => ?_)
set_option maxHeartbeats 8000000 in
set_option maxRecDepth 100000 in
theorem dovetaillaw23_AddrApart.calls (k : Nat) (A0 : Option Addr) (c0 : Nat) (l0 : List (S57)) (r : Bool) (w : World) (hr0 : Kd.C k57 w A0 l0.length l0) (hc0 : l0.length ≤ c0) (h : dovetaillaw23_AddrApart.f k l0 = some r) :
    Calls Try.prog 4 #[.slice A0 l0.length c0] w fun e w' => e = .returned (.bool r) ∧ Below w.heap.size w w' := by
  have HR0 := Aside0.mk hr0
  have HC0 := Aside0.mk hc0
  clear hr0 hc0
  have HB := Aside0.mk (Below.refl w.heap.size w)
  have H : ((dovetaillaw23_known.f).bind fun t142 => (if t142 = true then (if (l0.length : Int) > 20 then (some true) else ((dovetaillaw23_pieces.f k l0).bind fun t143 => ((addr_Assign.f t143).bind fun bt146 => (if bt146.2.2 = 0 then (dovetaillaw23_AddrApart.l0 k bt146.1 bt146.2.1 0) else (if bt146.2.2 = 55 then (if (bt146.1.length : Int) = 0 then (some ((bt146.2.1.length : Int) == 0)) else (some false)) else (some false)))))) else (some false))) = some r := h
  clear h
  replace H := Option.bind_eq_some_iff.mp H
  obtain ⟨t142, A20, H⟩ := H
  replace H : (if t142 = true then (if (l0.length : Int) > 20 then (some true) else ((dovetaillaw23_pieces.f k l0).bind fun t143 => ((addr_Assign.f t143).bind fun bt146 => (if bt146.2.2 = 0 then (dovetaillaw23_AddrApart.l0 k bt146.1 bt146.2.1 0) else (if bt146.2.2 = 55 then (if (bt146.1.length : Int) = 0 then (some ((bt146.2.1.length : Int) == 0)) else (some false)) else (some false)))))) else (some false)) = some r := H
  have A2 := Aside0.mk A20
  clear A20
  by_cases c3 : t142 = true
  · subst c3
    have H1 : (if (l0.length : Int) > 20 then (some true) else ((dovetaillaw23_pieces.f k l0).bind fun t143 => ((addr_Assign.f t143).bind fun bt146 => (if bt146.2.2 = 0 then (dovetaillaw23_AddrApart.l0 k bt146.1 bt146.2.1 0) else (if bt146.2.2 = 55 then (if (bt146.1.length : Int) = 0 then (some ((bt146.2.1.length : Int) == 0)) else (some false)) else (some false)))))) = some r := by rw [if_pos rfl] at H; exact H
    clear H
    have H := H1
    clear H1
    by_cases c4 : (l0.length : Int) > 20
    · rw [if_pos c4] at H
      have c4b0 : decide (20 < (l0.length : Int)) = true := decide_eq_true c4
      have c4b1 : decide (20 < l0.length) = true := decide_eq_true (by omega)
      clear c4
      obtain rfl := Option.some.inj H
      go_enter Try.func4, Try.ntmps4
      go_wp2_with (first | (go_at_call 7; (with_reducible refine (dovetaillaw23_known.calls  true _ A2.out).mono ?_); rintro e w5 ⟨rfl, hb⟩; have n0_ := Aside0.mk (below_step (by repeat (first | (with_reducible first | exact HB.out | apply below_alloc | apply pw_below_drewN | apply below_drew1) | exact HB.out)) hb); clear HB; have HB := n0_; clear n0_; (try clear hb); (try clear hb2); (try clear hk); (try clear hi)))
      repeat (go_quiet (first | (go_at_call 7; (with_reducible refine (dovetaillaw23_known.calls  true _ A2.out).mono ?_); rintro e w5 ⟨rfl, hb⟩; have n0_ := Aside0.mk (below_step (by repeat (first | (with_reducible first | exact HB.out | apply below_alloc | apply pw_below_drewN | apply below_drew1) | exact HB.out)) hb); clear HB; have HB := n0_; clear n0_; (try clear hb); (try clear hb2); (try clear hk); (try clear hi))); try go_wp2_with (first | (go_at_call 7; (with_reducible refine (dovetaillaw23_known.calls  true _ A2.out).mono ?_); rintro e w5 ⟨rfl, hb⟩; have n0_ := Aside0.mk (below_step (by repeat (first | (with_reducible first | exact HB.out | apply below_alloc | apply pw_below_drewN | apply below_drew1) | exact HB.out)) hb); clear HB; have HB := n0_; clear n0_; (try clear hb); (try clear hb2); (try clear hk); (try clear hi))))
      go_ret
      exact ⟨by first | rfl | (simp [errW_none, errW_some] <;> rfl) | (simp [*, errW_none, errW_some] <;> rfl), by repeat (first | (with_reducible first | exact HB.out | apply below_alloc | apply pw_below_drewN | apply below_drew1) | exact HB.out)⟩
    · rw [if_neg c4] at H
      have c4b0 : decide (20 < (l0.length : Int)) = false := decide_eq_false c4
      have c4b1 : decide (20 < l0.length) = false := decide_eq_false (by omega)
      clear c4
      replace H := Option.bind_eq_some_iff.mp H
      obtain ⟨t143, A60, H⟩ := H
      replace H : ((addr_Assign.f t143).bind fun bt146 => (if bt146.2.2 = 0 then (dovetaillaw23_AddrApart.l0 k bt146.1 bt146.2.1 0) else (if bt146.2.2 = 55 then (if (bt146.1.length : Int) = 0 then (some ((bt146.2.1.length : Int) == 0)) else (some false)) else (some false)))) = some r := H
      have A6 := Aside0.mk A60
      clear A60
      replace H := Option.bind_eq_some_iff.mp H
      obtain ⟨⟨t146, t147, t148⟩, A70, H⟩ := H
      replace H : (if t148 = 0 then (dovetaillaw23_AddrApart.l0 k t146 t147 0) else (if t148 = 55 then (if (t146.length : Int) = 0 then (some ((t147.length : Int) == 0)) else (some false)) else (some false))) = some r := H
      have A7 := Aside0.mk A70
      clear A70
      by_cases c8 : t148 = 0
      · rw [if_pos c8] at H
        have c8b0 : (t148 == 0) = true := beq_iff_eq.mpr c8
        have c8b1 : (t148 != 0) = false := bne_eq_false_iff_eq.mpr c8
        clear c8
        have H' := Aside0.mk H
        clear H
        go_enter Try.func4, Try.ntmps4
        go_wp2_with (first | (go_at_call 7; (with_reducible refine (dovetaillaw23_known.calls  true _ A2.out).mono ?_); rintro e w9 ⟨rfl, hb⟩; have n0_ := Aside0.mk (below_step (by repeat (first | (with_reducible first | exact HB.out | apply below_alloc | apply pw_below_drewN | apply below_drew1) | exact HB.out)) hb); clear HB; have HB := n0_; clear n0_; (try clear hb); (try clear hb2); (try clear hk); (try clear hi)) | (go_at_call 9; (with_reducible refine (dovetaillaw23_pieces.calls k _ _ l0 t143 _ ?side1 ?side2 A6.out).mono ?_); (case side1 => repeat (first | exact (Kd.C_below HR0.out HB.out) | (with_reducible refine Kd.C_alloc ?_ _) | (with_reducible refine Kd.C_drewN ?_ _) | (with_reducible refine Kd.C_drew ?_))); (case side2 => exact HC0.out); rintro e w10 ⟨v144, rfl, ho0, hb⟩; have n0_ := Aside0.mk (Kd.R_lower ho0 (below_size (by repeat (first | (with_reducible first | exact HB.out | apply below_alloc | apply pw_below_drewN | apply below_drew1) | exact HB.out)))); have n1_ := Aside0.mk (below_step (by repeat (first | (with_reducible first | exact HB.out | apply below_alloc | apply pw_below_drewN | apply below_drew1) | exact HB.out)) hb); clear HB; have HO145 := n0_; have HB := n1_; clear n0_ n1_; (try clear hb); (try clear hb2); (try clear hk); (try clear hi); (try clear ho0); obtain ⟨Ao11, co11, eo11⟩ := Kd.R_slice HO145.out; subst eo11) | (go_at_call 8; (with_reducible refine (addr_Assign.calls _ _ t143 t146 t147 t148 _ ?side1 ?side2 A7.out).mono ?_); (case side1 => repeat (first | exact (Kd.R_reads' HO145.out).2.2 | (with_reducible refine Kd.C_alloc ?_ _) | (with_reducible refine Kd.C_drewN ?_ _) | (with_reducible refine Kd.C_drew ?_))); (case side2 => exact (Kd.R_reads' HO145.out).2.1); rintro e w12 ⟨v149, v151, rfl, ho0, ho1, hb⟩; have n0_ := Aside0.mk (Kd.R_elder' (by (with_reducible repeat (first | apply Kd.R_alloc | apply Kd.R_drewN | apply Kd.R_drew)); exact HO145.out) (Kd.R_base ho0) hb); have n1_ := Aside0.mk (Kd.R_lower (Kd.R_new' ho0 (Kd.R_lt (by (with_reducible repeat (first | apply Kd.R_alloc | apply Kd.R_drewN | apply Kd.R_drew)); exact HO145.out))) (below_size (by repeat (first | (with_reducible first | exact HB.out | apply below_alloc | apply pw_below_drewN | apply below_drew1) | exact HB.out)))); have n2_ := Aside0.mk (Kd.S_lower ho1 (below_size (by repeat (first | (with_reducible first | exact HB.out | apply below_alloc | apply pw_below_drewN | apply below_drew1) | exact HB.out)))); have n3_ := Aside0.mk (below_step (by repeat (first | (with_reducible first | exact HB.out | apply below_alloc | apply pw_below_drewN | apply below_drew1) | exact HB.out)) hb); clear HO145; clear HB; have HO145 := n0_; have HO150 := n1_; have HO152 := n2_; have HB := n3_; clear n0_ n1_ n2_ n3_; (try clear hb); (try clear hb2); (try clear hk); (try clear hi); (try clear ho0); (try clear ho1)))
        repeat (go_quiet (first | (go_at_call 7; (with_reducible refine (dovetaillaw23_known.calls  true _ A2.out).mono ?_); rintro e w9 ⟨rfl, hb⟩; have n0_ := Aside0.mk (below_step (by repeat (first | (with_reducible first | exact HB.out | apply below_alloc | apply pw_below_drewN | apply below_drew1) | exact HB.out)) hb); clear HB; have HB := n0_; clear n0_; (try clear hb); (try clear hb2); (try clear hk); (try clear hi)) | (go_at_call 9; (with_reducible refine (dovetaillaw23_pieces.calls k _ _ l0 t143 _ ?side1 ?side2 A6.out).mono ?_); (case side1 => repeat (first | exact (Kd.C_below HR0.out HB.out) | (with_reducible refine Kd.C_alloc ?_ _) | (with_reducible refine Kd.C_drewN ?_ _) | (with_reducible refine Kd.C_drew ?_))); (case side2 => exact HC0.out); rintro e w10 ⟨v144, rfl, ho0, hb⟩; have n0_ := Aside0.mk (Kd.R_lower ho0 (below_size (by repeat (first | (with_reducible first | exact HB.out | apply below_alloc | apply pw_below_drewN | apply below_drew1) | exact HB.out)))); have n1_ := Aside0.mk (below_step (by repeat (first | (with_reducible first | exact HB.out | apply below_alloc | apply pw_below_drewN | apply below_drew1) | exact HB.out)) hb); clear HB; have HO145 := n0_; have HB := n1_; clear n0_ n1_; (try clear hb); (try clear hb2); (try clear hk); (try clear hi); (try clear ho0); obtain ⟨Ao11, co11, eo11⟩ := Kd.R_slice HO145.out; subst eo11) | (go_at_call 8; (with_reducible refine (addr_Assign.calls _ _ t143 t146 t147 t148 _ ?side1 ?side2 A7.out).mono ?_); (case side1 => repeat (first | exact (Kd.R_reads' HO145.out).2.2 | (with_reducible refine Kd.C_alloc ?_ _) | (with_reducible refine Kd.C_drewN ?_ _) | (with_reducible refine Kd.C_drew ?_))); (case side2 => exact (Kd.R_reads' HO145.out).2.1); rintro e w12 ⟨v149, v151, rfl, ho0, ho1, hb⟩; have n0_ := Aside0.mk (Kd.R_elder' (by (with_reducible repeat (first | apply Kd.R_alloc | apply Kd.R_drewN | apply Kd.R_drew)); exact HO145.out) (Kd.R_base ho0) hb); have n1_ := Aside0.mk (Kd.R_lower (Kd.R_new' ho0 (Kd.R_lt (by (with_reducible repeat (first | apply Kd.R_alloc | apply Kd.R_drewN | apply Kd.R_drew)); exact HO145.out))) (below_size (by repeat (first | (with_reducible first | exact HB.out | apply below_alloc | apply pw_below_drewN | apply below_drew1) | exact HB.out)))); have n2_ := Aside0.mk (Kd.S_lower ho1 (below_size (by repeat (first | (with_reducible first | exact HB.out | apply below_alloc | apply pw_below_drewN | apply below_drew1) | exact HB.out)))); have n3_ := Aside0.mk (below_step (by repeat (first | (with_reducible first | exact HB.out | apply below_alloc | apply pw_below_drewN | apply below_drew1) | exact HB.out)) hb); clear HO145; clear HB; have HO145 := n0_; have HO150 := n1_; have HO152 := n2_; have HB := n3_; clear n0_ n1_ n2_ n3_; (try clear hb); (try clear hb2); (try clear hk); (try clear hi); (try clear ho0); (try clear ho1))); try go_wp2_with (first | (go_at_call 7; (with_reducible refine (dovetaillaw23_known.calls  true _ A2.out).mono ?_); rintro e w9 ⟨rfl, hb⟩; have n0_ := Aside0.mk (below_step (by repeat (first | (with_reducible first | exact HB.out | apply below_alloc | apply pw_below_drewN | apply below_drew1) | exact HB.out)) hb); clear HB; have HB := n0_; clear n0_; (try clear hb); (try clear hb2); (try clear hk); (try clear hi)) | (go_at_call 9; (with_reducible refine (dovetaillaw23_pieces.calls k _ _ l0 t143 _ ?side1 ?side2 A6.out).mono ?_); (case side1 => repeat (first | exact (Kd.C_below HR0.out HB.out) | (with_reducible refine Kd.C_alloc ?_ _) | (with_reducible refine Kd.C_drewN ?_ _) | (with_reducible refine Kd.C_drew ?_))); (case side2 => exact HC0.out); rintro e w10 ⟨v144, rfl, ho0, hb⟩; have n0_ := Aside0.mk (Kd.R_lower ho0 (below_size (by repeat (first | (with_reducible first | exact HB.out | apply below_alloc | apply pw_below_drewN | apply below_drew1) | exact HB.out)))); have n1_ := Aside0.mk (below_step (by repeat (first | (with_reducible first | exact HB.out | apply below_alloc | apply pw_below_drewN | apply below_drew1) | exact HB.out)) hb); clear HB; have HO145 := n0_; have HB := n1_; clear n0_ n1_; (try clear hb); (try clear hb2); (try clear hk); (try clear hi); (try clear ho0); obtain ⟨Ao11, co11, eo11⟩ := Kd.R_slice HO145.out; subst eo11) | (go_at_call 8; (with_reducible refine (addr_Assign.calls _ _ t143 t146 t147 t148 _ ?side1 ?side2 A7.out).mono ?_); (case side1 => repeat (first | exact (Kd.R_reads' HO145.out).2.2 | (with_reducible refine Kd.C_alloc ?_ _) | (with_reducible refine Kd.C_drewN ?_ _) | (with_reducible refine Kd.C_drew ?_))); (case side2 => exact (Kd.R_reads' HO145.out).2.1); rintro e w12 ⟨v149, v151, rfl, ho0, ho1, hb⟩; have n0_ := Aside0.mk (Kd.R_elder' (by (with_reducible repeat (first | apply Kd.R_alloc | apply Kd.R_drewN | apply Kd.R_drew)); exact HO145.out) (Kd.R_base ho0) hb); have n1_ := Aside0.mk (Kd.R_lower (Kd.R_new' ho0 (Kd.R_lt (by (with_reducible repeat (first | apply Kd.R_alloc | apply Kd.R_drewN | apply Kd.R_drew)); exact HO145.out))) (below_size (by repeat (first | (with_reducible first | exact HB.out | apply below_alloc | apply pw_below_drewN | apply below_drew1) | exact HB.out)))); have n2_ := Aside0.mk (Kd.S_lower ho1 (below_size (by repeat (first | (with_reducible first | exact HB.out | apply below_alloc | apply pw_below_drewN | apply below_drew1) | exact HB.out)))); have n3_ := Aside0.mk (below_step (by repeat (first | (with_reducible first | exact HB.out | apply below_alloc | apply pw_below_drewN | apply below_drew1) | exact HB.out)) hb); clear HO145; clear HB; have HO145 := n0_; have HO150 := n1_; have HO152 := n2_; have HB := n3_; clear n0_ n1_ n2_ n3_; (try clear hb); (try clear hb2); (try clear hk); (try clear hi); (try clear ho0); (try clear ho1))))
        go_loopg [6] k (fun kq v6 w' => ∃ (x6_1 : Int), v6 = .int .i64 x6_1 ∧ Aside0 (dovetaillaw23_AddrApart.l0 kq t146 t147 x6_1 = some r) ∧ Aside0 (kq ≤ k) ∧ Aside0 (Kd.R k37 37 w' w.heap.size (fun _ => True) v149 t146) ∧ Aside0 (Kd.S k40 40 w' w.heap.size (fun _ => True) v151 t147) ∧ Aside0 (Below w.heap.size w w'))
        case atStart => exact ⟨(0), (by first | rfl | (simp; done) | (simp [*]; done)), H', ⟨Nat.le_refl _⟩, ⟨by (with_reducible repeat (first | apply Kd.R_alloc | apply Kd.R_drewN | apply Kd.R_drew)); exact Kd.R_mono HO150.out (fun _ hk => trivial)⟩, ⟨by (with_reducible repeat (first | apply Kd.S_alloc | apply Kd.S_drewN | apply Kd.S_drew)); exact HO152.out⟩, ⟨by repeat (first | (with_reducible first | exact HB.out | apply below_alloc | apply pw_below_drewN | apply below_drew1) | exact HB.out)⟩⟩
        case round => as_aux_lemma =>
          clear H'
          try clear p2
          try clear c3
          try clear c4
          try clear c4b0
          try clear c4b1
          try clear c8
          try clear c8b0
          try clear c8b1
          obtain ⟨x6_1, rfl, HA, HK1, HO_3, HO_4, HB⟩ := hrel
          cases gk with
          | zero => exact absurd HA.out (by simp [dovetaillaw23_AddrApart.l0])
          | succ k1 =>
            have H := HA.out
            clear HA
            simp only [dovetaillaw23_AddrApart.l0] at H
            by_cases c13 : x6_1 < (t146.length : Int)
            · rw [if_pos c13] at H
              have c13b0 : decide (x6_1 < (t146.length : Int)) = true := decide_eq_true c13
              clear c13
              by_cases c14 : 0 ≤ x6_1
              · rw [if_pos c14] at H
                have c14b0 : decide (0 ≤ x6_1) = true := decide_eq_true c14
                clear c14
                by_cases c15 : ((rd_T37 t146 x6_1).f4) = 0
                · rw [if_pos c15] at H
                  exact absurd H (by simp)
                · rw [if_neg c15] at H
                  have c15b0 : (((rd_T37 t146 x6_1).f4) == 0) = false := beq_eq_false_iff_ne.mpr c15
                  have c15b1 : (((rd_T37 t146 x6_1).f4) != 0) = true := bne_iff_ne.mpr c15
                  by_cases c16 : (Int.tmod ((rd_T37 t146 x6_1).f6) ((rd_T37 t146 x6_1).f4)) = 0
                  · rw [if_pos c16] at H
                    have c16b0 : ((Int.tmod ((rd_T37 t146 x6_1).f6) ((rd_T37 t146 x6_1).f4)) == 0) = true := beq_iff_eq.mpr c16
                    have c16b1 : ((Int.tmod ((rd_T37 t146 x6_1).f6) ((rd_T37 t146 x6_1).f4)) != 0) = false := bne_eq_false_iff_eq.mpr c16
                    clear c16
                    have H' := Aside0.mk H
                    clear H
                    obtain ⟨Ao17, co17, eo17⟩ := Kd.R_slice HO_3.out
                    subst eo17
                    have p153 : 0 ≤ (x6_1 : Int) := of_decide_eq_true (by first | (with_reducible assumption) | assumption)
                    have q153 : x6_1 < (t146.length : Int) := of_decide_eq_true (by first | (with_reducible assumption) | assumption)
                    obtain ⟨ad153, e153, hx153_0, hx153_1, hx153_2, hx153_3, hx153_4, hx153_5, hx153_6⟩ := at_T37 (Kd.R_reads' HO_3.out).2.2 x6_1 p153 q153
                    cases e153
                    replace p153 := eq_true p153
                    replace q153 := eq_true q153
                    have p154 : 0 ≤ (x6_1 : Int) := of_decide_eq_true (by first | (with_reducible assumption) | assumption)
                    have q154 : x6_1 < (t146.length : Int) := of_decide_eq_true (by first | (with_reducible assumption) | assumption)
                    obtain ⟨ad154, e154, hx154_0, hx154_1, hx154_2, hx154_3, hx154_4, hx154_5, hx154_6⟩ := at_T37 (Kd.R_reads' HO_3.out).2.2 x6_1 p154 q154
                    obtain rfl : ad153 = ad154 := (by injection e154)
                    replace p154 := eq_true p154
                    replace q154 := eq_true q154
                    go_wp2
                    repeat (go_quiet (fail); try go_wp2)
                    go_loopg [7] k1 (fun kq v7 w' => ∃ (x7_2 : Int), v7 = .int .i64 x7_2 ∧ Aside0 (dovetaillaw23_AddrApart.l1 kq t146 t147 x6_1 x7_2 = some r) ∧ Aside0 (kq ≤ k1) ∧ Aside0 (Kd.R k37 37 w' w.heap.size (fun _ => True) (.slice (some ad153) t146.length co17) t146) ∧ Aside0 (Kd.S k40 40 w' w.heap.size (fun _ => True) v151 t147) ∧ Aside0 (Below w.heap.size w w'))
                    case atStart => exact ⟨(0), (by first | rfl | (simp; done) | (simp [*]; done)), H', ⟨Nat.le_refl _⟩, ⟨by (with_reducible repeat (first | apply Kd.R_alloc | apply Kd.R_drewN | apply Kd.R_drew)); exact HO_3.out⟩, ⟨by (with_reducible repeat (first | apply Kd.S_alloc | apply Kd.S_drewN | apply Kd.S_drew)); exact HO_4.out⟩, ⟨by repeat (first | (with_reducible first | exact HB.out | apply below_alloc | apply pw_below_drewN | apply below_drew1) | exact HB.out)⟩⟩
                    case round => as_aux_lemma =>
                      clear H'
                      try clear c1
                      try clear p1
                      try clear q1
                      try clear hx1
                      try clear p2
                      try clear c3
                      try clear c4
                      try clear c4b0
                      try clear c4b1
                      try clear c8
                      try clear c8b0
                      try clear c8b1
                      try clear c13
                      try clear c13b0
                      try clear c14
                      try clear c14b0
                      try clear c15
                      try clear c15b0
                      try clear c15b1
                      try clear p15
                      try clear q15
                      try clear hx15
                      try clear c16
                      try clear c16b0
                      try clear c16b1
                      try clear hx153_0
                      try clear hx153_1
                      try clear hx153_2
                      try clear hx153_3
                      try clear hx153_4
                      try clear hx153_5
                      try clear hx153_6
                      try clear hx154_0
                      try clear hx154_1
                      try clear hx154_2
                      try clear hx154_3
                      try clear hx154_4
                      try clear hx154_5
                      try clear hx154_6
                      try clear p153
                      try clear p154
                      try clear p2
                      try clear q153
                      try clear q154
                      obtain ⟨x7_2, rfl, HA, HK2, HO_3, HO_4, HB⟩ := hrel
                      cases gk with
                      | zero => exact absurd HA.out (by simp [dovetaillaw23_AddrApart.l1])
                      | succ k2 =>
                        have H := HA.out
                        clear HA
                        simp only [dovetaillaw23_AddrApart.l1] at H
                        by_cases c18 : x7_2 < x6_1
                        · rw [if_pos c18] at H
                          have c18b0 : decide (x7_2 < x6_1) = true := decide_eq_true c18
                          clear c18
                          by_cases c19 : 0 ≤ x6_1
                          · rw [if_pos c19] at H
                            have c19b0 : decide (0 ≤ x6_1) = true := decide_eq_true c19
                            clear c19
                            by_cases c20 : x6_1 < (t146.length : Int)
                            · rw [if_pos c20] at H
                              have c20b0 : decide (x6_1 < (t146.length : Int)) = true := decide_eq_true c20
                              clear c20
                              by_cases c21 : ((rd_T37 t146 x6_1).f5) > 0
                              · rw [if_pos c21] at H
                                have c21b0 : decide (0 < ((rd_T37 t146 x6_1).f5)) = true := decide_eq_true c21
                                clear c21
                                by_cases c22 : 0 ≤ x7_2
                                · rw [if_pos c22] at H
                                  have c22b0 : decide (0 ≤ x7_2) = true := decide_eq_true c22
                                  clear c22
                                  by_cases c23 : x7_2 < (t146.length : Int)
                                  · rw [if_pos c23] at H
                                    have c23b0 : decide (x7_2 < (t146.length : Int)) = true := decide_eq_true c23
                                    clear c23
                                    by_cases c24 : ((rd_T37 t146 x7_2).f5) > 0
                                    · rw [if_pos c24] at H
                                      have c24b0 : decide (0 < ((rd_T37 t146 x7_2).f5)) = true := decide_eq_true c24
                                      clear c24
                                      by_cases c25 : ((rd_T37 t146 x6_1).f6) < (IntKind.u64.wrap (((rd_T37 t146 x7_2).f6) + ((rd_T37 t146 x7_2).f5)))
                                      · rw [if_pos c25] at H
                                        have c25b0 : decide (((rd_T37 t146 x6_1).f6) < (IntKind.u64.wrap (((rd_T37 t146 x7_2).f6) + ((rd_T37 t146 x7_2).f5)))) = true := decide_eq_true c25
                                        clear c25
                                        by_cases c26 : ((rd_T37 t146 x7_2).f6) < (IntKind.u64.wrap (((rd_T37 t146 x6_1).f6) + ((rd_T37 t146 x6_1).f5)))
                                        · rw [if_pos c26] at H
                                          have c26b0 : decide (((rd_T37 t146 x7_2).f6) < (IntKind.u64.wrap (((rd_T37 t146 x6_1).f6) + ((rd_T37 t146 x6_1).f5)))) = true := decide_eq_true c26
                                          clear c26
                                          obtain rfl := Option.some.inj H
                                          have p155 : 0 ≤ (x6_1 : Int) := of_decide_eq_true (by first | (with_reducible assumption) | assumption)
                                          have q155 : x6_1 < (t146.length : Int) := of_decide_eq_true (by first | (with_reducible assumption) | assumption)
                                          obtain ⟨ad155, e155, hx155_0, hx155_1, hx155_2, hx155_3, hx155_4, hx155_5, hx155_6⟩ := at_T37 (Kd.R_reads' HO_3.out).2.2 x6_1 p155 q155
                                          obtain rfl : ad153 = ad155 := (by injection e155)
                                          replace p155 := eq_true p155
                                          replace q155 := eq_true q155
                                          have p156 : 0 ≤ (x7_2 : Int) := of_decide_eq_true (by first | (with_reducible assumption) | assumption)
                                          have q156 : x7_2 < (t146.length : Int) := of_decide_eq_true (by first | (with_reducible assumption) | assumption)
                                          obtain ⟨ad156, e156, hx156_0, hx156_1, hx156_2, hx156_3, hx156_4, hx156_5, hx156_6⟩ := at_T37 (Kd.R_reads' HO_3.out).2.2 x7_2 p156 q156
                                          obtain rfl : ad153 = ad156 := (by injection e156)
                                          replace p156 := eq_true p156
                                          replace q156 := eq_true q156
                                          have p157 : 0 ≤ (x6_1 : Int) := of_decide_eq_true (by first | (with_reducible assumption) | assumption)
                                          have q157 : x6_1 < (t146.length : Int) := of_decide_eq_true (by first | (with_reducible assumption) | assumption)
                                          obtain ⟨ad157, e157, hx157_0, hx157_1, hx157_2, hx157_3, hx157_4, hx157_5, hx157_6⟩ := at_T37 (Kd.R_reads' HO_3.out).2.2 x6_1 p157 q157
                                          obtain rfl : ad153 = ad157 := (by injection e157)
                                          replace p157 := eq_true p157
                                          replace q157 := eq_true q157
                                          have p158 : 0 ≤ (x7_2 : Int) := of_decide_eq_true (by first | (with_reducible assumption) | assumption)
                                          have q158 : x7_2 < (t146.length : Int) := of_decide_eq_true (by first | (with_reducible assumption) | assumption)
                                          obtain ⟨ad158, e158, hx158_0, hx158_1, hx158_2, hx158_3, hx158_4, hx158_5, hx158_6⟩ := at_T37 (Kd.R_reads' HO_3.out).2.2 x7_2 p158 q158
                                          obtain rfl : ad153 = ad158 := (by injection e158)
                                          replace p158 := eq_true p158
                                          replace q158 := eq_true q158
                                          have p159 : 0 ≤ (x7_2 : Int) := of_decide_eq_true (by first | (with_reducible assumption) | assumption)
                                          have q159 : x7_2 < (t146.length : Int) := of_decide_eq_true (by first | (with_reducible assumption) | assumption)
                                          obtain ⟨ad159, e159, hx159_0, hx159_1, hx159_2, hx159_3, hx159_4, hx159_5, hx159_6⟩ := at_T37 (Kd.R_reads' HO_3.out).2.2 x7_2 p159 q159
                                          obtain rfl : ad153 = ad159 := (by injection e159)
                                          replace p159 := eq_true p159
                                          replace q159 := eq_true q159
                                          have p160 : 0 ≤ (x7_2 : Int) := of_decide_eq_true (by first | (with_reducible assumption) | assumption)
                                          have q160 : x7_2 < (t146.length : Int) := of_decide_eq_true (by first | (with_reducible assumption) | assumption)
                                          obtain ⟨ad160, e160, hx160_0, hx160_1, hx160_2, hx160_3, hx160_4, hx160_5, hx160_6⟩ := at_T37 (Kd.R_reads' HO_3.out).2.2 x7_2 p160 q160
                                          obtain rfl : ad153 = ad160 := (by injection e160)
                                          replace p160 := eq_true p160
                                          replace q160 := eq_true q160
                                          have p161 : 0 ≤ (x6_1 : Int) := of_decide_eq_true (by first | (with_reducible assumption) | assumption)
                                          have q161 : x6_1 < (t146.length : Int) := of_decide_eq_true (by first | (with_reducible assumption) | assumption)
                                          obtain ⟨ad161, e161, hx161_0, hx161_1, hx161_2, hx161_3, hx161_4, hx161_5, hx161_6⟩ := at_T37 (Kd.R_reads' HO_3.out).2.2 x6_1 p161 q161
                                          obtain rfl : ad153 = ad161 := (by injection e161)
                                          replace p161 := eq_true p161
                                          replace q161 := eq_true q161
                                          have p162 : 0 ≤ (x6_1 : Int) := of_decide_eq_true (by first | (with_reducible assumption) | assumption)
                                          have q162 : x6_1 < (t146.length : Int) := of_decide_eq_true (by first | (with_reducible assumption) | assumption)
                                          obtain ⟨ad162, e162, hx162_0, hx162_1, hx162_2, hx162_3, hx162_4, hx162_5, hx162_6⟩ := at_T37 (Kd.R_reads' HO_3.out).2.2 x6_1 p162 q162
                                          obtain rfl : ad153 = ad162 := (by injection e162)
                                          replace p162 := eq_true p162
                                          replace q162 := eq_true q162
                                          go_wp2
                                          repeat (go_quiet (fail); try go_wp2)
                                          go_ret
                                          exact ⟨by first | rfl | (simp [errW_none, errW_some] <;> rfl) | (simp [*, errW_none, errW_some] <;> rfl), by repeat (first | (with_reducible first | exact HB.out | apply below_alloc | apply pw_below_drewN | apply below_drew1) | exact HB.out)⟩
                                        · rw [if_neg c26] at H
                                          have c26b0 : decide (((rd_T37 t146 x7_2).f6) < (IntKind.u64.wrap (((rd_T37 t146 x6_1).f6) + ((rd_T37 t146 x6_1).f5)))) = false := decide_eq_false c26
                                          clear c26
                                          have H' := Aside0.mk H
                                          clear H
                                          have p155 : 0 ≤ (x6_1 : Int) := of_decide_eq_true (by first | (with_reducible assumption) | assumption)
                                          have q155 : x6_1 < (t146.length : Int) := of_decide_eq_true (by first | (with_reducible assumption) | assumption)
                                          obtain ⟨ad155, e155, hx155_0, hx155_1, hx155_2, hx155_3, hx155_4, hx155_5, hx155_6⟩ := at_T37 (Kd.R_reads' HO_3.out).2.2 x6_1 p155 q155
                                          obtain rfl : ad153 = ad155 := (by injection e155)
                                          replace p155 := eq_true p155
                                          replace q155 := eq_true q155
                                          have p156 : 0 ≤ (x7_2 : Int) := of_decide_eq_true (by first | (with_reducible assumption) | assumption)
                                          have q156 : x7_2 < (t146.length : Int) := of_decide_eq_true (by first | (with_reducible assumption) | assumption)
                                          obtain ⟨ad156, e156, hx156_0, hx156_1, hx156_2, hx156_3, hx156_4, hx156_5, hx156_6⟩ := at_T37 (Kd.R_reads' HO_3.out).2.2 x7_2 p156 q156
                                          obtain rfl : ad153 = ad156 := (by injection e156)
                                          replace p156 := eq_true p156
                                          replace q156 := eq_true q156
                                          have p157 : 0 ≤ (x6_1 : Int) := of_decide_eq_true (by first | (with_reducible assumption) | assumption)
                                          have q157 : x6_1 < (t146.length : Int) := of_decide_eq_true (by first | (with_reducible assumption) | assumption)
                                          obtain ⟨ad157, e157, hx157_0, hx157_1, hx157_2, hx157_3, hx157_4, hx157_5, hx157_6⟩ := at_T37 (Kd.R_reads' HO_3.out).2.2 x6_1 p157 q157
                                          obtain rfl : ad153 = ad157 := (by injection e157)
                                          replace p157 := eq_true p157
                                          replace q157 := eq_true q157
                                          have p158 : 0 ≤ (x7_2 : Int) := of_decide_eq_true (by first | (with_reducible assumption) | assumption)
                                          have q158 : x7_2 < (t146.length : Int) := of_decide_eq_true (by first | (with_reducible assumption) | assumption)
                                          obtain ⟨ad158, e158, hx158_0, hx158_1, hx158_2, hx158_3, hx158_4, hx158_5, hx158_6⟩ := at_T37 (Kd.R_reads' HO_3.out).2.2 x7_2 p158 q158
                                          obtain rfl : ad153 = ad158 := (by injection e158)
                                          replace p158 := eq_true p158
                                          replace q158 := eq_true q158
                                          have p159 : 0 ≤ (x7_2 : Int) := of_decide_eq_true (by first | (with_reducible assumption) | assumption)
                                          have q159 : x7_2 < (t146.length : Int) := of_decide_eq_true (by first | (with_reducible assumption) | assumption)
                                          obtain ⟨ad159, e159, hx159_0, hx159_1, hx159_2, hx159_3, hx159_4, hx159_5, hx159_6⟩ := at_T37 (Kd.R_reads' HO_3.out).2.2 x7_2 p159 q159
                                          obtain rfl : ad153 = ad159 := (by injection e159)
                                          replace p159 := eq_true p159
                                          replace q159 := eq_true q159
                                          have p160 : 0 ≤ (x7_2 : Int) := of_decide_eq_true (by first | (with_reducible assumption) | assumption)
                                          have q160 : x7_2 < (t146.length : Int) := of_decide_eq_true (by first | (with_reducible assumption) | assumption)
                                          obtain ⟨ad160, e160, hx160_0, hx160_1, hx160_2, hx160_3, hx160_4, hx160_5, hx160_6⟩ := at_T37 (Kd.R_reads' HO_3.out).2.2 x7_2 p160 q160
                                          obtain rfl : ad153 = ad160 := (by injection e160)
                                          replace p160 := eq_true p160
                                          replace q160 := eq_true q160
                                          have p161 : 0 ≤ (x6_1 : Int) := of_decide_eq_true (by first | (with_reducible assumption) | assumption)
                                          have q161 : x6_1 < (t146.length : Int) := of_decide_eq_true (by first | (with_reducible assumption) | assumption)
                                          obtain ⟨ad161, e161, hx161_0, hx161_1, hx161_2, hx161_3, hx161_4, hx161_5, hx161_6⟩ := at_T37 (Kd.R_reads' HO_3.out).2.2 x6_1 p161 q161
                                          obtain rfl : ad153 = ad161 := (by injection e161)
                                          replace p161 := eq_true p161
                                          replace q161 := eq_true q161
                                          have p162 : 0 ≤ (x6_1 : Int) := of_decide_eq_true (by first | (with_reducible assumption) | assumption)
                                          have q162 : x6_1 < (t146.length : Int) := of_decide_eq_true (by first | (with_reducible assumption) | assumption)
                                          obtain ⟨ad162, e162, hx162_0, hx162_1, hx162_2, hx162_3, hx162_4, hx162_5, hx162_6⟩ := at_T37 (Kd.R_reads' HO_3.out).2.2 x6_1 p162 q162
                                          obtain rfl : ad153 = ad162 := (by injection e162)
                                          replace p162 := eq_true p162
                                          replace q162 := eq_true q162
                                          go_wp2
                                          repeat (go_quiet (fail); try go_wp2)
                                          go_roundg k2
                                          case measure => have := HK1.out; have := HK2.out; omega
                                          case rel => exact ⟨(wrap64 (x7_2 + 1)), (by first | rfl | (simp; done) | (simp [*]; done)), H', ⟨by have := HK1.out; have := HK2.out; omega⟩, ⟨by (with_reducible repeat (first | apply Kd.R_alloc | apply Kd.R_drewN | apply Kd.R_drew)); exact HO_3.out⟩, ⟨by (with_reducible repeat (first | apply Kd.S_alloc | apply Kd.S_drewN | apply Kd.S_drew)); exact HO_4.out⟩, ⟨by repeat (first | (with_reducible first | exact HB.out | apply below_alloc | apply pw_below_drewN | apply below_drew1) | exact HB.out)⟩⟩
                                      · rw [if_neg c25] at H
                                        have c25b0 : decide (((rd_T37 t146 x6_1).f6) < (IntKind.u64.wrap (((rd_T37 t146 x7_2).f6) + ((rd_T37 t146 x7_2).f5)))) = false := decide_eq_false c25
                                        clear c25
                                        have H' := Aside0.mk H
                                        clear H
                                        have p155 : 0 ≤ (x6_1 : Int) := of_decide_eq_true (by first | (with_reducible assumption) | assumption)
                                        have q155 : x6_1 < (t146.length : Int) := of_decide_eq_true (by first | (with_reducible assumption) | assumption)
                                        obtain ⟨ad155, e155, hx155_0, hx155_1, hx155_2, hx155_3, hx155_4, hx155_5, hx155_6⟩ := at_T37 (Kd.R_reads' HO_3.out).2.2 x6_1 p155 q155
                                        obtain rfl : ad153 = ad155 := (by injection e155)
                                        replace p155 := eq_true p155
                                        replace q155 := eq_true q155
                                        have p156 : 0 ≤ (x7_2 : Int) := of_decide_eq_true (by first | (with_reducible assumption) | assumption)
                                        have q156 : x7_2 < (t146.length : Int) := of_decide_eq_true (by first | (with_reducible assumption) | assumption)
                                        obtain ⟨ad156, e156, hx156_0, hx156_1, hx156_2, hx156_3, hx156_4, hx156_5, hx156_6⟩ := at_T37 (Kd.R_reads' HO_3.out).2.2 x7_2 p156 q156
                                        obtain rfl : ad153 = ad156 := (by injection e156)
                                        replace p156 := eq_true p156
                                        replace q156 := eq_true q156
                                        have p157 : 0 ≤ (x6_1 : Int) := of_decide_eq_true (by first | (with_reducible assumption) | assumption)
                                        have q157 : x6_1 < (t146.length : Int) := of_decide_eq_true (by first | (with_reducible assumption) | assumption)
                                        obtain ⟨ad157, e157, hx157_0, hx157_1, hx157_2, hx157_3, hx157_4, hx157_5, hx157_6⟩ := at_T37 (Kd.R_reads' HO_3.out).2.2 x6_1 p157 q157
                                        obtain rfl : ad153 = ad157 := (by injection e157)
                                        replace p157 := eq_true p157
                                        replace q157 := eq_true q157
                                        have p158 : 0 ≤ (x7_2 : Int) := of_decide_eq_true (by first | (with_reducible assumption) | assumption)
                                        have q158 : x7_2 < (t146.length : Int) := of_decide_eq_true (by first | (with_reducible assumption) | assumption)
                                        obtain ⟨ad158, e158, hx158_0, hx158_1, hx158_2, hx158_3, hx158_4, hx158_5, hx158_6⟩ := at_T37 (Kd.R_reads' HO_3.out).2.2 x7_2 p158 q158
                                        obtain rfl : ad153 = ad158 := (by injection e158)
                                        replace p158 := eq_true p158
                                        replace q158 := eq_true q158
                                        have p159 : 0 ≤ (x7_2 : Int) := of_decide_eq_true (by first | (with_reducible assumption) | assumption)
                                        have q159 : x7_2 < (t146.length : Int) := of_decide_eq_true (by first | (with_reducible assumption) | assumption)
                                        obtain ⟨ad159, e159, hx159_0, hx159_1, hx159_2, hx159_3, hx159_4, hx159_5, hx159_6⟩ := at_T37 (Kd.R_reads' HO_3.out).2.2 x7_2 p159 q159
                                        obtain rfl : ad153 = ad159 := (by injection e159)
                                        replace p159 := eq_true p159
                                        replace q159 := eq_true q159
                                        go_wp2
                                        repeat (go_quiet (fail); try go_wp2)
                                        go_roundg k2
                                        case measure => have := HK1.out; have := HK2.out; omega
                                        case rel => exact ⟨(wrap64 (x7_2 + 1)), (by first | rfl | (simp; done) | (simp [*]; done)), H', ⟨by have := HK1.out; have := HK2.out; omega⟩, ⟨by (with_reducible repeat (first | apply Kd.R_alloc | apply Kd.R_drewN | apply Kd.R_drew)); exact HO_3.out⟩, ⟨by (with_reducible repeat (first | apply Kd.S_alloc | apply Kd.S_drewN | apply Kd.S_drew)); exact HO_4.out⟩, ⟨by repeat (first | (with_reducible first | exact HB.out | apply below_alloc | apply pw_below_drewN | apply below_drew1) | exact HB.out)⟩⟩
                                    · rw [if_neg c24] at H
                                      have c24b0 : decide (0 < ((rd_T37 t146 x7_2).f5)) = false := decide_eq_false c24
                                      clear c24
                                      have H' := Aside0.mk H
                                      clear H
                                      have p155 : 0 ≤ (x6_1 : Int) := of_decide_eq_true (by first | (with_reducible assumption) | assumption)
                                      have q155 : x6_1 < (t146.length : Int) := of_decide_eq_true (by first | (with_reducible assumption) | assumption)
                                      obtain ⟨ad155, e155, hx155_0, hx155_1, hx155_2, hx155_3, hx155_4, hx155_5, hx155_6⟩ := at_T37 (Kd.R_reads' HO_3.out).2.2 x6_1 p155 q155
                                      obtain rfl : ad153 = ad155 := (by injection e155)
                                      replace p155 := eq_true p155
                                      replace q155 := eq_true q155
                                      have p156 : 0 ≤ (x7_2 : Int) := of_decide_eq_true (by first | (with_reducible assumption) | assumption)
                                      have q156 : x7_2 < (t146.length : Int) := of_decide_eq_true (by first | (with_reducible assumption) | assumption)
                                      obtain ⟨ad156, e156, hx156_0, hx156_1, hx156_2, hx156_3, hx156_4, hx156_5, hx156_6⟩ := at_T37 (Kd.R_reads' HO_3.out).2.2 x7_2 p156 q156
                                      obtain rfl : ad153 = ad156 := (by injection e156)
                                      replace p156 := eq_true p156
                                      replace q156 := eq_true q156
                                      go_wp2
                                      repeat (go_quiet (fail); try go_wp2)
                                      go_roundg k2
                                      case measure => have := HK1.out; have := HK2.out; omega
                                      case rel => exact ⟨(wrap64 (x7_2 + 1)), (by first | rfl | (simp; done) | (simp [*]; done)), H', ⟨by have := HK1.out; have := HK2.out; omega⟩, ⟨by (with_reducible repeat (first | apply Kd.R_alloc | apply Kd.R_drewN | apply Kd.R_drew)); exact HO_3.out⟩, ⟨by (with_reducible repeat (first | apply Kd.S_alloc | apply Kd.S_drewN | apply Kd.S_drew)); exact HO_4.out⟩, ⟨by repeat (first | (with_reducible first | exact HB.out | apply below_alloc | apply pw_below_drewN | apply below_drew1) | exact HB.out)⟩⟩
                                  · rw [if_neg c23] at H
                                    exact absurd H (by simp)
                                · rw [if_neg c22] at H
                                  exact absurd H (by simp)
                              · rw [if_neg c21] at H
                                have c21b0 : decide (0 < ((rd_T37 t146 x6_1).f5)) = false := decide_eq_false c21
                                clear c21
                                have H' := Aside0.mk H
                                clear H
                                have p155 : 0 ≤ (x6_1 : Int) := of_decide_eq_true (by first | (with_reducible assumption) | assumption)
                                have q155 : x6_1 < (t146.length : Int) := of_decide_eq_true (by first | (with_reducible assumption) | assumption)
                                obtain ⟨ad155, e155, hx155_0, hx155_1, hx155_2, hx155_3, hx155_4, hx155_5, hx155_6⟩ := at_T37 (Kd.R_reads' HO_3.out).2.2 x6_1 p155 q155
                                obtain rfl : ad153 = ad155 := (by injection e155)
                                replace p155 := eq_true p155
                                replace q155 := eq_true q155
                                go_wp2
                                repeat (go_quiet (fail); try go_wp2)
                                go_roundg k2
                                case measure => have := HK1.out; have := HK2.out; omega
                                case rel => exact ⟨(wrap64 (x7_2 + 1)), (by first | rfl | (simp; done) | (simp [*]; done)), H', ⟨by have := HK1.out; have := HK2.out; omega⟩, ⟨by (with_reducible repeat (first | apply Kd.R_alloc | apply Kd.R_drewN | apply Kd.R_drew)); exact HO_3.out⟩, ⟨by (with_reducible repeat (first | apply Kd.S_alloc | apply Kd.S_drewN | apply Kd.S_drew)); exact HO_4.out⟩, ⟨by repeat (first | (with_reducible first | exact HB.out | apply below_alloc | apply pw_below_drewN | apply below_drew1) | exact HB.out)⟩⟩
                            · rw [if_neg c20] at H
                              exact absurd H (by simp)
                          · rw [if_neg c19] at H
                            exact absurd H (by simp)
                        · rw [if_neg c18] at H
                          have c18b0 : decide (x7_2 < x6_1) = false := decide_eq_false c18
                          clear c18
                          by_cases c27 : 0 ≤ x6_1
                          · rw [if_pos c27] at H
                            have c27b0 : decide (0 ≤ x6_1) = true := decide_eq_true c27
                            clear c27
                            by_cases c28 : x6_1 < (t146.length : Int)
                            · rw [if_pos c28] at H
                              have c28b0 : decide (x6_1 < (t146.length : Int)) = true := decide_eq_true c28
                              clear c28
                              have H' := Aside0.mk H
                              clear H
                              have p163 : 0 ≤ (x6_1 : Int) := of_decide_eq_true (by first | (with_reducible assumption) | assumption)
                              have q163 : x6_1 < (t146.length : Int) := of_decide_eq_true (by first | (with_reducible assumption) | assumption)
                              obtain ⟨ad163, e163, hx163_0, hx163_1, hx163_2, hx163_3, hx163_4, hx163_5, hx163_6⟩ := at_T37 (Kd.R_reads' HO_3.out).2.2 x6_1 p163 q163
                              obtain rfl : ad153 = ad163 := (by injection e163)
                              replace p163 := eq_true p163
                              replace q163 := eq_true q163
                              go_wp2
                              repeat (go_quiet (fail); try go_wp2)
                              go_loopg [8, 9] k2 (fun kq v8 v9 w' => ∃ (x8_3 : Bool) (x9_3 : Int), v8 = .bool x8_3 ∧ v9 = .int .i64 x9_3 ∧ Aside0 (dovetaillaw23_AddrApart.l2 kq t146 t147 x6_1 x8_3 x9_3 = some r) ∧ Aside0 (kq ≤ k2) ∧ Aside0 (Kd.R k37 37 w' w.heap.size (fun _ => True) (.slice (some ad153) t146.length co17) t146) ∧ Aside0 (Kd.S k40 40 w' w.heap.size (fun _ => True) v151 t147) ∧ Aside0 (Below w.heap.size w w'))
                              case atStart => exact ⟨((((rd_T37 t146 x6_1).f5) == 0)), (0), (by first | rfl | (simp; done) | (simp [*]; done)), (by first | rfl | (simp; done) | (simp [*]; done)), H', ⟨Nat.le_refl _⟩, ⟨by (with_reducible repeat (first | apply Kd.R_alloc | apply Kd.R_drewN | apply Kd.R_drew)); exact HO_3.out⟩, ⟨by (with_reducible repeat (first | apply Kd.S_alloc | apply Kd.S_drewN | apply Kd.S_drew)); exact HO_4.out⟩, ⟨by repeat (first | (with_reducible first | exact HB.out | apply below_alloc | apply pw_below_drewN | apply below_drew1) | exact HB.out)⟩⟩
                              case round => as_aux_lemma =>
                                clear H'
                                try clear c1
                                try clear p1
                                try clear q1
                                try clear hx1
                                try clear c2
                                try clear p2
                                try clear c3
                                try clear c4
                                try clear c4b0
                                try clear c4b1
                                try clear p6
                                try clear c8
                                try clear c8b0
                                try clear c8b1
                                try clear c13
                                try clear c13b0
                                try clear c14
                                try clear c14b0
                                try clear c15
                                try clear c15b0
                                try clear c15b1
                                try clear p15
                                try clear q15
                                try clear hx15
                                try clear c16
                                try clear c16b0
                                try clear c16b1
                                try clear p16
                                try clear q16
                                try clear hx16
                                try clear c18
                                try clear c18b0
                                try clear c19
                                try clear c19b0
                                try clear c20
                                try clear c20b0
                                try clear c21
                                try clear c21b0
                                try clear c22
                                try clear c22b0
                                try clear c23
                                try clear c23b0
                                try clear c24
                                try clear c24b0
                                try clear c25
                                try clear c25b0
                                try clear c26
                                try clear c26b0
                                try clear c27
                                try clear c27b0
                                try clear c28
                                try clear c28b0
                                try clear hx153_0
                                try clear hx153_1
                                try clear hx153_2
                                try clear hx153_3
                                try clear hx153_4
                                try clear hx153_5
                                try clear hx153_6
                                try clear hx154_0
                                try clear hx154_1
                                try clear hx154_2
                                try clear hx154_3
                                try clear hx154_4
                                try clear hx154_5
                                try clear hx154_6
                                try clear hx155_0
                                try clear hx155_1
                                try clear hx155_2
                                try clear hx155_3
                                try clear hx155_4
                                try clear hx155_5
                                try clear hx155_6
                                try clear hx156_0
                                try clear hx156_1
                                try clear hx156_2
                                try clear hx156_3
                                try clear hx156_4
                                try clear hx156_5
                                try clear hx156_6
                                try clear hx157_0
                                try clear hx157_1
                                try clear hx157_2
                                try clear hx157_3
                                try clear hx157_4
                                try clear hx157_5
                                try clear hx157_6
                                try clear hx158_0
                                try clear hx158_1
                                try clear hx158_2
                                try clear hx158_3
                                try clear hx158_4
                                try clear hx158_5
                                try clear hx158_6
                                try clear hx159_0
                                try clear hx159_1
                                try clear hx159_2
                                try clear hx159_3
                                try clear hx159_4
                                try clear hx159_5
                                try clear hx159_6
                                try clear hx160_0
                                try clear hx160_1
                                try clear hx160_2
                                try clear hx160_3
                                try clear hx160_4
                                try clear hx160_5
                                try clear hx160_6
                                try clear hx161_0
                                try clear hx161_1
                                try clear hx161_2
                                try clear hx161_3
                                try clear hx161_4
                                try clear hx161_5
                                try clear hx161_6
                                try clear hx162_0
                                try clear hx162_1
                                try clear hx162_2
                                try clear hx162_3
                                try clear hx162_4
                                try clear hx162_5
                                try clear hx162_6
                                try clear hx163_0
                                try clear hx163_1
                                try clear hx163_2
                                try clear hx163_3
                                try clear hx163_4
                                try clear hx163_5
                                try clear hx163_6
                                try clear p1
                                try clear p15
                                try clear p153
                                try clear p154
                                try clear p155
                                try clear p156
                                try clear p157
                                try clear p158
                                try clear p159
                                try clear p160
                                try clear p161
                                try clear p162
                                try clear p163
                                try clear p2
                                try clear q1
                                try clear q15
                                try clear q153
                                try clear q154
                                try clear q155
                                try clear q156
                                try clear q157
                                try clear q158
                                try clear q159
                                try clear q160
                                try clear q161
                                try clear q162
                                try clear q163
                                obtain ⟨x8_3, x9_3, rfl, rfl, HA, HK3, HO_3, HO_4, HB⟩ := hrel
                                cases gk with
                                | zero => exact absurd HA.out (by simp [dovetaillaw23_AddrApart.l2])
                                | succ k3 =>
                                  have H := HA.out
                                  clear HA
                                  simp only [dovetaillaw23_AddrApart.l2] at H
                                  by_cases c29 : x9_3 < (t147.length : Int)
                                  · rw [if_pos c29] at H
                                    have c29b0 : decide (x9_3 < (t147.length : Int)) = true := decide_eq_true c29
                                    clear c29
                                    by_cases c30 : x8_3 = true
                                    · subst c30
                                      have H1 : (dovetaillaw23_AddrApart.l2 k3 t146 t147 x6_1 true (wrap64 (x9_3 + 1))) = some r := by rw [if_pos rfl] at H; exact H
                                      clear H
                                      have H := H1
                                      clear H1
                                      have H' := Aside0.mk H
                                      clear H
                                      obtain ⟨Ao31, co31, eo31⟩ := Kd.S_slice HO_4.out
                                      subst eo31
                                      go_wp2
                                      repeat (go_quiet (fail); try go_wp2)
                                      go_roundg k3
                                      case measure => have := HK1.out; have := HK2.out; have := HK3.out; omega
                                      case rel => exact ⟨(true), (wrap64 (x9_3 + 1)), (by first | rfl | (simp; done) | (simp [*]; done)), (by first | rfl | (simp; done) | (simp [*]; done)), H', ⟨by have := HK1.out; have := HK2.out; have := HK3.out; omega⟩, ⟨by (with_reducible repeat (first | apply Kd.R_alloc | apply Kd.R_drewN | apply Kd.R_drew)); exact HO_3.out⟩, ⟨by (with_reducible repeat (first | apply Kd.S_alloc | apply Kd.S_drewN | apply Kd.S_drew)); exact HO_4.out⟩, ⟨by repeat (first | (with_reducible first | exact HB.out | apply below_alloc | apply pw_below_drewN | apply below_drew1) | exact HB.out)⟩⟩
                                    · replace c30 := Bool.eq_false_iff.mpr c30
                                      subst c30
                                      have H1 : (if 0 ≤ x6_1 then (if x6_1 < (t146.length : Int) then (if 0 ≤ x9_3 then (if ((rd_T37 t146 x6_1).f6) ≥ ((rd_T40 t147 x9_3).f0) then (if (IntKind.u64.wrap (((rd_T37 t146 x6_1).f6) + ((rd_T37 t146 x6_1).f5))) ≤ (IntKind.u64.wrap (((rd_T40 t147 x9_3).f0) + ((rd_T40 t147 x9_3).f3))) then (if (((Go.bits .and .i64 ((rd_T40 t147 x9_3).f1) 1) != 0) == (((rd_T37 t146 x6_1).f2) == 0)) = true then (dovetaillaw23_AddrApart.l2 k3 t146 t147 x6_1 (((Go.bits .and .i64 ((rd_T40 t147 x9_3).f1) 2) != 0) == (decide (((rd_T37 t146 x6_1).f2) ≥ 2))) (wrap64 (x9_3 + 1))) else (dovetaillaw23_AddrApart.l2 k3 t146 t147 x6_1 false (wrap64 (x9_3 + 1)))) else (dovetaillaw23_AddrApart.l2 k3 t146 t147 x6_1 false (wrap64 (x9_3 + 1)))) else (dovetaillaw23_AddrApart.l2 k3 t146 t147 x6_1 false (wrap64 (x9_3 + 1)))) else (none)) else (none)) else (none)) = some r := by rw [if_neg (show ¬ (false = true) by decide)] at H; exact H
                                      clear H
                                      have H := H1
                                      clear H1
                                      by_cases c32 : 0 ≤ x6_1
                                      · rw [if_pos c32] at H
                                        have c32b0 : decide (0 ≤ x6_1) = true := decide_eq_true c32
                                        clear c32
                                        by_cases c33 : x6_1 < (t146.length : Int)
                                        · rw [if_pos c33] at H
                                          have c33b0 : decide (x6_1 < (t146.length : Int)) = true := decide_eq_true c33
                                          clear c33
                                          by_cases c34 : 0 ≤ x9_3
                                          · rw [if_pos c34] at H
                                            have c34b0 : decide (0 ≤ x9_3) = true := decide_eq_true c34
                                            clear c34
                                            by_cases c35 : ((rd_T37 t146 x6_1).f6) ≥ ((rd_T40 t147 x9_3).f0)
                                            · rw [if_pos c35] at H
                                              have c35b0 : decide (((rd_T40 t147 x9_3).f0) ≤ ((rd_T37 t146 x6_1).f6)) = true := decide_eq_true c35
                                              clear c35
                                              by_cases c36 : (IntKind.u64.wrap (((rd_T37 t146 x6_1).f6) + ((rd_T37 t146 x6_1).f5))) ≤ (IntKind.u64.wrap (((rd_T40 t147 x9_3).f0) + ((rd_T40 t147 x9_3).f3)))
                                              · rw [if_pos c36] at H
                                                have c36b0 : decide ((IntKind.u64.wrap (((rd_T37 t146 x6_1).f6) + ((rd_T37 t146 x6_1).f5))) ≤ (IntKind.u64.wrap (((rd_T40 t147 x9_3).f0) + ((rd_T40 t147 x9_3).f3)))) = true := decide_eq_true c36
                                                clear c36
                                                by_cases c37 : (((Go.bits .and .i64 ((rd_T40 t147 x9_3).f1) 1) != 0) == (((rd_T37 t146 x6_1).f2) == 0)) = true
                                                · rw [if_pos c37] at H
                                                  have c37b0 : (((Go.bits .and .i64 ((rd_T40 t147 x9_3).f1) 1) != 0) == (((rd_T37 t146 x6_1).f2) == 0)) = true := c37
                                                  (try (have c37b1 : decide (((Go.bits .and .i64 ((rd_T40 t147 x9_3).f1) 1) != 0) = (((rd_T37 t146 x6_1).f2) == 0)) = true := by simpa using c37))
                                                  (try (have c37b2 : (((Go.bits .and .i64 ((rd_T40 t147 x9_3).f1) 1) != 0) == (((rd_T37 t146 x6_1).f2) == 0)) = true := by simpa using c37))
                                                  clear c37
                                                  have H' := Aside0.mk H
                                                  clear H
                                                  obtain ⟨Ao38, co38, eo38⟩ := Kd.S_slice HO_4.out
                                                  subst eo38
                                                  have p164 : 0 ≤ (x6_1 : Int) := of_decide_eq_true (by first | (with_reducible assumption) | assumption)
                                                  have q164 : x6_1 < (t146.length : Int) := of_decide_eq_true (by first | (with_reducible assumption) | assumption)
                                                  obtain ⟨ad164, e164, hx164_0, hx164_1, hx164_2, hx164_3, hx164_4, hx164_5, hx164_6⟩ := at_T37 (Kd.R_reads' HO_3.out).2.2 x6_1 p164 q164
                                                  obtain rfl : ad153 = ad164 := (by injection e164)
                                                  replace p164 := eq_true p164
                                                  replace q164 := eq_true q164
                                                  have p165 : 0 ≤ (x9_3 : Int) := of_decide_eq_true (by first | (with_reducible assumption) | assumption)
                                                  have q165 : x9_3 < (t147.length : Int) := of_decide_eq_true (by first | (with_reducible assumption) | assumption)
                                                  obtain ⟨ad165, A165_2, c165_2, e165, hx165_0, hx165_1, hx165_2, hx165_3, hl165_2, hi165_2⟩ := at_T40 (Kd.S_reads' HO_4.out).2.2 x9_3 p165 q165
                                                  cases e165
                                                  obtain ⟨ce165, hce165, hMe165, hcc165⟩ := Kd.S_get HO_4.out z40 x9_3 p165 (by first | exact q165 | exact of_decide_eq_true (by first | (with_reducible assumption) | assumption) | (have e_ := (Kd.S_reads' HO_4.out).1; omega))
                                                  obtain ⟨ve165_2, rfl, ge165_2⟩ := k40_openM hMe165
                                                  have hv165_2 := hcc165 2 _ rfl
                                                  rw [add_field _ _ 2 (by omega)] at hv165_2
                                                  replace hv165_2 := Option.some.inj (hv165_2.symm.trans hx165_2)
                                                  rw [hv165_2] at ge165_2
                                                  have HL165_2 := Aside0.mk (show Kd.R (Kd.int .u8) 5 _ _ _ _ ((rd_T40 t147 x9_3).f2) from ge165_2)
                                                  clear hv165_2 ge165_2
                                                  clear hcc165 hce165
                                                  have HR165_2 := Aside0.mk hi165_2
                                                  have HC165_2 := Aside0.mk hl165_2
                                                  clear hi165_2 hl165_2
                                                  replace p165 := eq_true p165
                                                  replace q165 := eq_true q165
                                                  have p166 : 0 ≤ (x6_1 : Int) := of_decide_eq_true (by first | (with_reducible assumption) | assumption)
                                                  have q166 : x6_1 < (t146.length : Int) := of_decide_eq_true (by first | (with_reducible assumption) | assumption)
                                                  obtain ⟨ad166, e166, hx166_0, hx166_1, hx166_2, hx166_3, hx166_4, hx166_5, hx166_6⟩ := at_T37 (Kd.R_reads' HO_3.out).2.2 x6_1 p166 q166
                                                  obtain rfl : ad153 = ad166 := (by injection e166)
                                                  replace p166 := eq_true p166
                                                  replace q166 := eq_true q166
                                                  have p167 : 0 ≤ (x6_1 : Int) := of_decide_eq_true (by first | (with_reducible assumption) | assumption)
                                                  have q167 : x6_1 < (t146.length : Int) := of_decide_eq_true (by first | (with_reducible assumption) | assumption)
                                                  obtain ⟨ad167, e167, hx167_0, hx167_1, hx167_2, hx167_3, hx167_4, hx167_5, hx167_6⟩ := at_T37 (Kd.R_reads' HO_3.out).2.2 x6_1 p167 q167
                                                  obtain rfl : ad153 = ad167 := (by injection e167)
                                                  replace p167 := eq_true p167
                                                  replace q167 := eq_true q167
                                                  have p168 : 0 ≤ (x9_3 : Int) := of_decide_eq_true (by first | (with_reducible assumption) | assumption)
                                                  have q168 : x9_3 < (t147.length : Int) := of_decide_eq_true (by first | (with_reducible assumption) | assumption)
                                                  obtain ⟨ad168, A168_2, c168_2, e168, hx168_0, hx168_1, hx168_2, hx168_3, hl168_2, hi168_2⟩ := at_T40 (Kd.S_reads' HO_4.out).2.2 x9_3 p168 q168
                                                  obtain rfl : ad165 = ad168 := (by injection e168)
                                                  obtain ⟨ce168, hce168, hMe168, hcc168⟩ := Kd.S_get HO_4.out z40 x9_3 p168 (by first | exact q168 | exact of_decide_eq_true (by first | (with_reducible assumption) | assumption) | (have e_ := (Kd.S_reads' HO_4.out).1; omega))
                                                  obtain ⟨ve168_2, rfl, ge168_2⟩ := k40_openM hMe168
                                                  have hv168_2 := hcc168 2 _ rfl
                                                  rw [add_field _ _ 2 (by omega)] at hv168_2
                                                  replace hv168_2 := Option.some.inj (hv168_2.symm.trans hx168_2)
                                                  rw [hv168_2] at ge168_2
                                                  have HL168_2 := Aside0.mk (show Kd.R (Kd.int .u8) 5 _ _ _ _ ((rd_T40 t147 x9_3).f2) from ge168_2)
                                                  clear hv168_2 ge168_2
                                                  clear hcc168 hce168
                                                  have HR168_2 := Aside0.mk hi168_2
                                                  have HC168_2 := Aside0.mk hl168_2
                                                  clear hi168_2 hl168_2
                                                  replace p168 := eq_true p168
                                                  replace q168 := eq_true q168
                                                  have ea_ := Option.some.inj (hx165_2.symm.trans hx168_2)
                                                  injection ea_ with ea_ en_ ec_
                                                  subst ea_
                                                  subst ec_
                                                  clear en_
                                                  have p169 : 0 ≤ (x9_3 : Int) := of_decide_eq_true (by first | (with_reducible assumption) | assumption)
                                                  have q169 : x9_3 < (t147.length : Int) := of_decide_eq_true (by first | (with_reducible assumption) | assumption)
                                                  obtain ⟨ad169, A169_2, c169_2, e169, hx169_0, hx169_1, hx169_2, hx169_3, hl169_2, hi169_2⟩ := at_T40 (Kd.S_reads' HO_4.out).2.2 x9_3 p169 q169
                                                  obtain rfl : ad165 = ad169 := (by injection e169)
                                                  obtain ⟨ce169, hce169, hMe169, hcc169⟩ := Kd.S_get HO_4.out z40 x9_3 p169 (by first | exact q169 | exact of_decide_eq_true (by first | (with_reducible assumption) | assumption) | (have e_ := (Kd.S_reads' HO_4.out).1; omega))
                                                  obtain ⟨ve169_2, rfl, ge169_2⟩ := k40_openM hMe169
                                                  have hv169_2 := hcc169 2 _ rfl
                                                  rw [add_field _ _ 2 (by omega)] at hv169_2
                                                  replace hv169_2 := Option.some.inj (hv169_2.symm.trans hx169_2)
                                                  rw [hv169_2] at ge169_2
                                                  have HL169_2 := Aside0.mk (show Kd.R (Kd.int .u8) 5 _ _ _ _ ((rd_T40 t147 x9_3).f2) from ge169_2)
                                                  clear hv169_2 ge169_2
                                                  clear hcc169 hce169
                                                  have HR169_2 := Aside0.mk hi169_2
                                                  have HC169_2 := Aside0.mk hl169_2
                                                  clear hi169_2 hl169_2
                                                  replace p169 := eq_true p169
                                                  replace q169 := eq_true q169
                                                  have ea_ := Option.some.inj (hx165_2.symm.trans hx169_2)
                                                  injection ea_ with ea_ en_ ec_
                                                  subst ea_
                                                  subst ec_
                                                  clear en_
                                                  have p170 : 0 ≤ (x9_3 : Int) := of_decide_eq_true (by first | (with_reducible assumption) | assumption)
                                                  have q170 : x9_3 < (t147.length : Int) := of_decide_eq_true (by first | (with_reducible assumption) | assumption)
                                                  obtain ⟨ad170, A170_2, c170_2, e170, hx170_0, hx170_1, hx170_2, hx170_3, hl170_2, hi170_2⟩ := at_T40 (Kd.S_reads' HO_4.out).2.2 x9_3 p170 q170
                                                  obtain rfl : ad165 = ad170 := (by injection e170)
                                                  obtain ⟨ce170, hce170, hMe170, hcc170⟩ := Kd.S_get HO_4.out z40 x9_3 p170 (by first | exact q170 | exact of_decide_eq_true (by first | (with_reducible assumption) | assumption) | (have e_ := (Kd.S_reads' HO_4.out).1; omega))
                                                  obtain ⟨ve170_2, rfl, ge170_2⟩ := k40_openM hMe170
                                                  have hv170_2 := hcc170 2 _ rfl
                                                  rw [add_field _ _ 2 (by omega)] at hv170_2
                                                  replace hv170_2 := Option.some.inj (hv170_2.symm.trans hx170_2)
                                                  rw [hv170_2] at ge170_2
                                                  have HL170_2 := Aside0.mk (show Kd.R (Kd.int .u8) 5 _ _ _ _ ((rd_T40 t147 x9_3).f2) from ge170_2)
                                                  clear hv170_2 ge170_2
                                                  clear hcc170 hce170
                                                  have HR170_2 := Aside0.mk hi170_2
                                                  have HC170_2 := Aside0.mk hl170_2
                                                  clear hi170_2 hl170_2
                                                  replace p170 := eq_true p170
                                                  replace q170 := eq_true q170
                                                  have ea_ := Option.some.inj (hx165_2.symm.trans hx170_2)
                                                  injection ea_ with ea_ en_ ec_
                                                  subst ea_
                                                  subst ec_
                                                  clear en_
                                                  have p171 : 0 ≤ (x6_1 : Int) := of_decide_eq_true (by first | (with_reducible assumption) | assumption)
                                                  have q171 : x6_1 < (t146.length : Int) := of_decide_eq_true (by first | (with_reducible assumption) | assumption)
                                                  obtain ⟨ad171, e171, hx171_0, hx171_1, hx171_2, hx171_3, hx171_4, hx171_5, hx171_6⟩ := at_T37 (Kd.R_reads' HO_3.out).2.2 x6_1 p171 q171
                                                  obtain rfl : ad153 = ad171 := (by injection e171)
                                                  replace p171 := eq_true p171
                                                  replace q171 := eq_true q171
                                                  have p172 : 0 ≤ (x9_3 : Int) := of_decide_eq_true (by first | (with_reducible assumption) | assumption)
                                                  have q172 : x9_3 < (t147.length : Int) := of_decide_eq_true (by first | (with_reducible assumption) | assumption)
                                                  obtain ⟨ad172, A172_2, c172_2, e172, hx172_0, hx172_1, hx172_2, hx172_3, hl172_2, hi172_2⟩ := at_T40 (Kd.S_reads' HO_4.out).2.2 x9_3 p172 q172
                                                  obtain rfl : ad165 = ad172 := (by injection e172)
                                                  obtain ⟨ce172, hce172, hMe172, hcc172⟩ := Kd.S_get HO_4.out z40 x9_3 p172 (by first | exact q172 | exact of_decide_eq_true (by first | (with_reducible assumption) | assumption) | (have e_ := (Kd.S_reads' HO_4.out).1; omega))
                                                  obtain ⟨ve172_2, rfl, ge172_2⟩ := k40_openM hMe172
                                                  have hv172_2 := hcc172 2 _ rfl
                                                  rw [add_field _ _ 2 (by omega)] at hv172_2
                                                  replace hv172_2 := Option.some.inj (hv172_2.symm.trans hx172_2)
                                                  rw [hv172_2] at ge172_2
                                                  have HL172_2 := Aside0.mk (show Kd.R (Kd.int .u8) 5 _ _ _ _ ((rd_T40 t147 x9_3).f2) from ge172_2)
                                                  clear hv172_2 ge172_2
                                                  clear hcc172 hce172
                                                  have HR172_2 := Aside0.mk hi172_2
                                                  have HC172_2 := Aside0.mk hl172_2
                                                  clear hi172_2 hl172_2
                                                  replace p172 := eq_true p172
                                                  replace q172 := eq_true q172
                                                  have ea_ := Option.some.inj (hx165_2.symm.trans hx172_2)
                                                  injection ea_ with ea_ en_ ec_
                                                  subst ea_
                                                  subst ec_
                                                  clear en_
                                                  have p173 : 0 ≤ (x6_1 : Int) := of_decide_eq_true (by first | (with_reducible assumption) | assumption)
                                                  have q173 : x6_1 < (t146.length : Int) := of_decide_eq_true (by first | (with_reducible assumption) | assumption)
                                                  obtain ⟨ad173, e173, hx173_0, hx173_1, hx173_2, hx173_3, hx173_4, hx173_5, hx173_6⟩ := at_T37 (Kd.R_reads' HO_3.out).2.2 x6_1 p173 q173
                                                  obtain rfl : ad153 = ad173 := (by injection e173)
                                                  replace p173 := eq_true p173
                                                  replace q173 := eq_true q173
                                                  go_wp2
                                                  repeat (go_quiet (fail); try go_wp2)
                                                  go_roundg k3
                                                  case measure => have := HK1.out; have := HK2.out; have := HK3.out; omega
                                                  case rel => exact ⟨((((Go.bits .and .i64 ((rd_T40 t147 x9_3).f1) 2) != 0) == (decide (((rd_T37 t146 x6_1).f2) ≥ 2)))), (wrap64 (x9_3 + 1)), (by first | rfl | (simp; done) | (simp [*]; done)), (by first | rfl | (simp; done) | (simp [*]; done)), H', ⟨by have := HK1.out; have := HK2.out; have := HK3.out; omega⟩, ⟨by (with_reducible repeat (first | apply Kd.R_alloc | apply Kd.R_drewN | apply Kd.R_drew)); exact HO_3.out⟩, ⟨by (with_reducible repeat (first | apply Kd.S_alloc | apply Kd.S_drewN | apply Kd.S_drew)); exact HO_4.out⟩, ⟨by repeat (first | (with_reducible first | exact HB.out | apply below_alloc | apply pw_below_drewN | apply below_drew1) | exact HB.out)⟩⟩
                                                · rw [if_neg c37] at H
                                                  have c37b0 : (((Go.bits .and .i64 ((rd_T40 t147 x9_3).f1) 1) != 0) == (((rd_T37 t146 x6_1).f2) == 0)) = false := by simpa using c37
                                                  (try (have c37b1 : decide (((Go.bits .and .i64 ((rd_T40 t147 x9_3).f1) 1) != 0) = (((rd_T37 t146 x6_1).f2) == 0)) = false := by simpa using c37))
                                                  (try (have c37b2 : (((Go.bits .and .i64 ((rd_T40 t147 x9_3).f1) 1) != 0) == (((rd_T37 t146 x6_1).f2) == 0)) = false := by simpa using c37))
                                                  (try (have c37b3 : ¬ (((Go.bits .and .i64 ((rd_T40 t147 x9_3).f1) 1) != 0) = (((rd_T37 t146 x6_1).f2) == 0)) := by simpa using c37))
                                                  clear c37
                                                  have H' := Aside0.mk H
                                                  clear H
                                                  obtain ⟨Ao39, co39, eo39⟩ := Kd.S_slice HO_4.out
                                                  subst eo39
                                                  have p164 : 0 ≤ (x6_1 : Int) := of_decide_eq_true (by first | (with_reducible assumption) | assumption)
                                                  have q164 : x6_1 < (t146.length : Int) := of_decide_eq_true (by first | (with_reducible assumption) | assumption)
                                                  obtain ⟨ad164, e164, hx164_0, hx164_1, hx164_2, hx164_3, hx164_4, hx164_5, hx164_6⟩ := at_T37 (Kd.R_reads' HO_3.out).2.2 x6_1 p164 q164
                                                  obtain rfl : ad153 = ad164 := (by injection e164)
                                                  replace p164 := eq_true p164
                                                  replace q164 := eq_true q164
                                                  have p165 : 0 ≤ (x9_3 : Int) := of_decide_eq_true (by first | (with_reducible assumption) | assumption)
                                                  have q165 : x9_3 < (t147.length : Int) := of_decide_eq_true (by first | (with_reducible assumption) | assumption)
                                                  obtain ⟨ad165, A165_2, c165_2, e165, hx165_0, hx165_1, hx165_2, hx165_3, hl165_2, hi165_2⟩ := at_T40 (Kd.S_reads' HO_4.out).2.2 x9_3 p165 q165
                                                  cases e165
                                                  obtain ⟨ce165, hce165, hMe165, hcc165⟩ := Kd.S_get HO_4.out z40 x9_3 p165 (by first | exact q165 | exact of_decide_eq_true (by first | (with_reducible assumption) | assumption) | (have e_ := (Kd.S_reads' HO_4.out).1; omega))
                                                  obtain ⟨ve165_2, rfl, ge165_2⟩ := k40_openM hMe165
                                                  have hv165_2 := hcc165 2 _ rfl
                                                  rw [add_field _ _ 2 (by omega)] at hv165_2
                                                  replace hv165_2 := Option.some.inj (hv165_2.symm.trans hx165_2)
                                                  rw [hv165_2] at ge165_2
                                                  have HL165_2 := Aside0.mk (show Kd.R (Kd.int .u8) 5 _ _ _ _ ((rd_T40 t147 x9_3).f2) from ge165_2)
                                                  clear hv165_2 ge165_2
                                                  clear hcc165 hce165
                                                  have HR165_2 := Aside0.mk hi165_2
                                                  have HC165_2 := Aside0.mk hl165_2
                                                  clear hi165_2 hl165_2
                                                  replace p165 := eq_true p165
                                                  replace q165 := eq_true q165
                                                  have p166 : 0 ≤ (x6_1 : Int) := of_decide_eq_true (by first | (with_reducible assumption) | assumption)
                                                  have q166 : x6_1 < (t146.length : Int) := of_decide_eq_true (by first | (with_reducible assumption) | assumption)
                                                  obtain ⟨ad166, e166, hx166_0, hx166_1, hx166_2, hx166_3, hx166_4, hx166_5, hx166_6⟩ := at_T37 (Kd.R_reads' HO_3.out).2.2 x6_1 p166 q166
                                                  obtain rfl : ad153 = ad166 := (by injection e166)
                                                  replace p166 := eq_true p166
                                                  replace q166 := eq_true q166
                                                  have p167 : 0 ≤ (x6_1 : Int) := of_decide_eq_true (by first | (with_reducible assumption) | assumption)
                                                  have q167 : x6_1 < (t146.length : Int) := of_decide_eq_true (by first | (with_reducible assumption) | assumption)
                                                  obtain ⟨ad167, e167, hx167_0, hx167_1, hx167_2, hx167_3, hx167_4, hx167_5, hx167_6⟩ := at_T37 (Kd.R_reads' HO_3.out).2.2 x6_1 p167 q167
                                                  obtain rfl : ad153 = ad167 := (by injection e167)
                                                  replace p167 := eq_true p167
                                                  replace q167 := eq_true q167
                                                  have p168 : 0 ≤ (x9_3 : Int) := of_decide_eq_true (by first | (with_reducible assumption) | assumption)
                                                  have q168 : x9_3 < (t147.length : Int) := of_decide_eq_true (by first | (with_reducible assumption) | assumption)
                                                  obtain ⟨ad168, A168_2, c168_2, e168, hx168_0, hx168_1, hx168_2, hx168_3, hl168_2, hi168_2⟩ := at_T40 (Kd.S_reads' HO_4.out).2.2 x9_3 p168 q168
                                                  obtain rfl : ad165 = ad168 := (by injection e168)
                                                  obtain ⟨ce168, hce168, hMe168, hcc168⟩ := Kd.S_get HO_4.out z40 x9_3 p168 (by first | exact q168 | exact of_decide_eq_true (by first | (with_reducible assumption) | assumption) | (have e_ := (Kd.S_reads' HO_4.out).1; omega))
                                                  obtain ⟨ve168_2, rfl, ge168_2⟩ := k40_openM hMe168
                                                  have hv168_2 := hcc168 2 _ rfl
                                                  rw [add_field _ _ 2 (by omega)] at hv168_2
                                                  replace hv168_2 := Option.some.inj (hv168_2.symm.trans hx168_2)
                                                  rw [hv168_2] at ge168_2
                                                  have HL168_2 := Aside0.mk (show Kd.R (Kd.int .u8) 5 _ _ _ _ ((rd_T40 t147 x9_3).f2) from ge168_2)
                                                  clear hv168_2 ge168_2
                                                  clear hcc168 hce168
                                                  have HR168_2 := Aside0.mk hi168_2
                                                  have HC168_2 := Aside0.mk hl168_2
                                                  clear hi168_2 hl168_2
                                                  replace p168 := eq_true p168
                                                  replace q168 := eq_true q168
                                                  have ea_ := Option.some.inj (hx165_2.symm.trans hx168_2)
                                                  injection ea_ with ea_ en_ ec_
                                                  subst ea_
                                                  subst ec_
                                                  clear en_
                                                  have p169 : 0 ≤ (x9_3 : Int) := of_decide_eq_true (by first | (with_reducible assumption) | assumption)
                                                  have q169 : x9_3 < (t147.length : Int) := of_decide_eq_true (by first | (with_reducible assumption) | assumption)
                                                  obtain ⟨ad169, A169_2, c169_2, e169, hx169_0, hx169_1, hx169_2, hx169_3, hl169_2, hi169_2⟩ := at_T40 (Kd.S_reads' HO_4.out).2.2 x9_3 p169 q169
                                                  obtain rfl : ad165 = ad169 := (by injection e169)
                                                  obtain ⟨ce169, hce169, hMe169, hcc169⟩ := Kd.S_get HO_4.out z40 x9_3 p169 (by first | exact q169 | exact of_decide_eq_true (by first | (with_reducible assumption) | assumption) | (have e_ := (Kd.S_reads' HO_4.out).1; omega))
                                                  obtain ⟨ve169_2, rfl, ge169_2⟩ := k40_openM hMe169
                                                  have hv169_2 := hcc169 2 _ rfl
                                                  rw [add_field _ _ 2 (by omega)] at hv169_2
                                                  replace hv169_2 := Option.some.inj (hv169_2.symm.trans hx169_2)
                                                  rw [hv169_2] at ge169_2
                                                  have HL169_2 := Aside0.mk (show Kd.R (Kd.int .u8) 5 _ _ _ _ ((rd_T40 t147 x9_3).f2) from ge169_2)
                                                  clear hv169_2 ge169_2
                                                  clear hcc169 hce169
                                                  have HR169_2 := Aside0.mk hi169_2
                                                  have HC169_2 := Aside0.mk hl169_2
                                                  clear hi169_2 hl169_2
                                                  replace p169 := eq_true p169
                                                  replace q169 := eq_true q169
                                                  have ea_ := Option.some.inj (hx165_2.symm.trans hx169_2)
                                                  injection ea_ with ea_ en_ ec_
                                                  subst ea_
                                                  subst ec_
                                                  clear en_
                                                  have p170 : 0 ≤ (x9_3 : Int) := of_decide_eq_true (by first | (with_reducible assumption) | assumption)
                                                  have q170 : x9_3 < (t147.length : Int) := of_decide_eq_true (by first | (with_reducible assumption) | assumption)
                                                  obtain ⟨ad170, A170_2, c170_2, e170, hx170_0, hx170_1, hx170_2, hx170_3, hl170_2, hi170_2⟩ := at_T40 (Kd.S_reads' HO_4.out).2.2 x9_3 p170 q170
                                                  obtain rfl : ad165 = ad170 := (by injection e170)
                                                  obtain ⟨ce170, hce170, hMe170, hcc170⟩ := Kd.S_get HO_4.out z40 x9_3 p170 (by first | exact q170 | exact of_decide_eq_true (by first | (with_reducible assumption) | assumption) | (have e_ := (Kd.S_reads' HO_4.out).1; omega))
                                                  obtain ⟨ve170_2, rfl, ge170_2⟩ := k40_openM hMe170
                                                  have hv170_2 := hcc170 2 _ rfl
                                                  rw [add_field _ _ 2 (by omega)] at hv170_2
                                                  replace hv170_2 := Option.some.inj (hv170_2.symm.trans hx170_2)
                                                  rw [hv170_2] at ge170_2
                                                  have HL170_2 := Aside0.mk (show Kd.R (Kd.int .u8) 5 _ _ _ _ ((rd_T40 t147 x9_3).f2) from ge170_2)
                                                  clear hv170_2 ge170_2
                                                  clear hcc170 hce170
                                                  have HR170_2 := Aside0.mk hi170_2
                                                  have HC170_2 := Aside0.mk hl170_2
                                                  clear hi170_2 hl170_2
                                                  replace p170 := eq_true p170
                                                  replace q170 := eq_true q170
                                                  have ea_ := Option.some.inj (hx165_2.symm.trans hx170_2)
                                                  injection ea_ with ea_ en_ ec_
                                                  subst ea_
                                                  subst ec_
                                                  clear en_
                                                  have p171 : 0 ≤ (x6_1 : Int) := of_decide_eq_true (by first | (with_reducible assumption) | assumption)
                                                  have q171 : x6_1 < (t146.length : Int) := of_decide_eq_true (by first | (with_reducible assumption) | assumption)
                                                  obtain ⟨ad171, e171, hx171_0, hx171_1, hx171_2, hx171_3, hx171_4, hx171_5, hx171_6⟩ := at_T37 (Kd.R_reads' HO_3.out).2.2 x6_1 p171 q171
                                                  obtain rfl : ad153 = ad171 := (by injection e171)
                                                  replace p171 := eq_true p171
                                                  replace q171 := eq_true q171
                                                  go_wp2
                                                  repeat (go_quiet (fail); try go_wp2)
                                                  go_roundg k3
                                                  case measure => have := HK1.out; have := HK2.out; have := HK3.out; omega
                                                  case rel => exact ⟨(false), (wrap64 (x9_3 + 1)), (by first | rfl | (simp; done) | (simp [*]; done)), (by first | rfl | (simp; done) | (simp [*]; done)), H', ⟨by have := HK1.out; have := HK2.out; have := HK3.out; omega⟩, ⟨by (with_reducible repeat (first | apply Kd.R_alloc | apply Kd.R_drewN | apply Kd.R_drew)); exact HO_3.out⟩, ⟨by (with_reducible repeat (first | apply Kd.S_alloc | apply Kd.S_drewN | apply Kd.S_drew)); exact HO_4.out⟩, ⟨by repeat (first | (with_reducible first | exact HB.out | apply below_alloc | apply pw_below_drewN | apply below_drew1) | exact HB.out)⟩⟩
                                              · rw [if_neg c36] at H
                                                have c36b0 : decide ((IntKind.u64.wrap (((rd_T37 t146 x6_1).f6) + ((rd_T37 t146 x6_1).f5))) ≤ (IntKind.u64.wrap (((rd_T40 t147 x9_3).f0) + ((rd_T40 t147 x9_3).f3)))) = false := decide_eq_false c36
                                                clear c36
                                                have H' := Aside0.mk H
                                                clear H
                                                obtain ⟨Ao40, co40, eo40⟩ := Kd.S_slice HO_4.out
                                                subst eo40
                                                have p164 : 0 ≤ (x6_1 : Int) := of_decide_eq_true (by first | (with_reducible assumption) | assumption)
                                                have q164 : x6_1 < (t146.length : Int) := of_decide_eq_true (by first | (with_reducible assumption) | assumption)
                                                obtain ⟨ad164, e164, hx164_0, hx164_1, hx164_2, hx164_3, hx164_4, hx164_5, hx164_6⟩ := at_T37 (Kd.R_reads' HO_3.out).2.2 x6_1 p164 q164
                                                obtain rfl : ad153 = ad164 := (by injection e164)
                                                replace p164 := eq_true p164
                                                replace q164 := eq_true q164
                                                have p165 : 0 ≤ (x9_3 : Int) := of_decide_eq_true (by first | (with_reducible assumption) | assumption)
                                                have q165 : x9_3 < (t147.length : Int) := of_decide_eq_true (by first | (with_reducible assumption) | assumption)
                                                obtain ⟨ad165, A165_2, c165_2, e165, hx165_0, hx165_1, hx165_2, hx165_3, hl165_2, hi165_2⟩ := at_T40 (Kd.S_reads' HO_4.out).2.2 x9_3 p165 q165
                                                cases e165
                                                obtain ⟨ce165, hce165, hMe165, hcc165⟩ := Kd.S_get HO_4.out z40 x9_3 p165 (by first | exact q165 | exact of_decide_eq_true (by first | (with_reducible assumption) | assumption) | (have e_ := (Kd.S_reads' HO_4.out).1; omega))
                                                obtain ⟨ve165_2, rfl, ge165_2⟩ := k40_openM hMe165
                                                have hv165_2 := hcc165 2 _ rfl
                                                rw [add_field _ _ 2 (by omega)] at hv165_2
                                                replace hv165_2 := Option.some.inj (hv165_2.symm.trans hx165_2)
                                                rw [hv165_2] at ge165_2
                                                have HL165_2 := Aside0.mk (show Kd.R (Kd.int .u8) 5 _ _ _ _ ((rd_T40 t147 x9_3).f2) from ge165_2)
                                                clear hv165_2 ge165_2
                                                clear hcc165 hce165
                                                have HR165_2 := Aside0.mk hi165_2
                                                have HC165_2 := Aside0.mk hl165_2
                                                clear hi165_2 hl165_2
                                                replace p165 := eq_true p165
                                                replace q165 := eq_true q165
                                                have p166 : 0 ≤ (x6_1 : Int) := of_decide_eq_true (by first | (with_reducible assumption) | assumption)
                                                have q166 : x6_1 < (t146.length : Int) := of_decide_eq_true (by first | (with_reducible assumption) | assumption)
                                                obtain ⟨ad166, e166, hx166_0, hx166_1, hx166_2, hx166_3, hx166_4, hx166_5, hx166_6⟩ := at_T37 (Kd.R_reads' HO_3.out).2.2 x6_1 p166 q166
                                                obtain rfl : ad153 = ad166 := (by injection e166)
                                                replace p166 := eq_true p166
                                                replace q166 := eq_true q166
                                                have p167 : 0 ≤ (x6_1 : Int) := of_decide_eq_true (by first | (with_reducible assumption) | assumption)
                                                have q167 : x6_1 < (t146.length : Int) := of_decide_eq_true (by first | (with_reducible assumption) | assumption)
                                                obtain ⟨ad167, e167, hx167_0, hx167_1, hx167_2, hx167_3, hx167_4, hx167_5, hx167_6⟩ := at_T37 (Kd.R_reads' HO_3.out).2.2 x6_1 p167 q167
                                                obtain rfl : ad153 = ad167 := (by injection e167)
                                                replace p167 := eq_true p167
                                                replace q167 := eq_true q167
                                                have p168 : 0 ≤ (x9_3 : Int) := of_decide_eq_true (by first | (with_reducible assumption) | assumption)
                                                have q168 : x9_3 < (t147.length : Int) := of_decide_eq_true (by first | (with_reducible assumption) | assumption)
                                                obtain ⟨ad168, A168_2, c168_2, e168, hx168_0, hx168_1, hx168_2, hx168_3, hl168_2, hi168_2⟩ := at_T40 (Kd.S_reads' HO_4.out).2.2 x9_3 p168 q168
                                                obtain rfl : ad165 = ad168 := (by injection e168)
                                                obtain ⟨ce168, hce168, hMe168, hcc168⟩ := Kd.S_get HO_4.out z40 x9_3 p168 (by first | exact q168 | exact of_decide_eq_true (by first | (with_reducible assumption) | assumption) | (have e_ := (Kd.S_reads' HO_4.out).1; omega))
                                                obtain ⟨ve168_2, rfl, ge168_2⟩ := k40_openM hMe168
                                                have hv168_2 := hcc168 2 _ rfl
                                                rw [add_field _ _ 2 (by omega)] at hv168_2
                                                replace hv168_2 := Option.some.inj (hv168_2.symm.trans hx168_2)
                                                rw [hv168_2] at ge168_2
                                                have HL168_2 := Aside0.mk (show Kd.R (Kd.int .u8) 5 _ _ _ _ ((rd_T40 t147 x9_3).f2) from ge168_2)
                                                clear hv168_2 ge168_2
                                                clear hcc168 hce168
                                                have HR168_2 := Aside0.mk hi168_2
                                                have HC168_2 := Aside0.mk hl168_2
                                                clear hi168_2 hl168_2
                                                replace p168 := eq_true p168
                                                replace q168 := eq_true q168
                                                have ea_ := Option.some.inj (hx165_2.symm.trans hx168_2)
                                                injection ea_ with ea_ en_ ec_
                                                subst ea_
                                                subst ec_
                                                clear en_
                                                have p169 : 0 ≤ (x9_3 : Int) := of_decide_eq_true (by first | (with_reducible assumption) | assumption)
                                                have q169 : x9_3 < (t147.length : Int) := of_decide_eq_true (by first | (with_reducible assumption) | assumption)
                                                obtain ⟨ad169, A169_2, c169_2, e169, hx169_0, hx169_1, hx169_2, hx169_3, hl169_2, hi169_2⟩ := at_T40 (Kd.S_reads' HO_4.out).2.2 x9_3 p169 q169
                                                obtain rfl : ad165 = ad169 := (by injection e169)
                                                obtain ⟨ce169, hce169, hMe169, hcc169⟩ := Kd.S_get HO_4.out z40 x9_3 p169 (by first | exact q169 | exact of_decide_eq_true (by first | (with_reducible assumption) | assumption) | (have e_ := (Kd.S_reads' HO_4.out).1; omega))
                                                obtain ⟨ve169_2, rfl, ge169_2⟩ := k40_openM hMe169
                                                have hv169_2 := hcc169 2 _ rfl
                                                rw [add_field _ _ 2 (by omega)] at hv169_2
                                                replace hv169_2 := Option.some.inj (hv169_2.symm.trans hx169_2)
                                                rw [hv169_2] at ge169_2
                                                have HL169_2 := Aside0.mk (show Kd.R (Kd.int .u8) 5 _ _ _ _ ((rd_T40 t147 x9_3).f2) from ge169_2)
                                                clear hv169_2 ge169_2
                                                clear hcc169 hce169
                                                have HR169_2 := Aside0.mk hi169_2
                                                have HC169_2 := Aside0.mk hl169_2
                                                clear hi169_2 hl169_2
                                                replace p169 := eq_true p169
                                                replace q169 := eq_true q169
                                                have ea_ := Option.some.inj (hx165_2.symm.trans hx169_2)
                                                injection ea_ with ea_ en_ ec_
                                                subst ea_
                                                subst ec_
                                                clear en_
                                                go_wp2
                                                repeat (go_quiet (fail); try go_wp2)
                                                go_roundg k3
                                                case measure => have := HK1.out; have := HK2.out; have := HK3.out; omega
                                                case rel => exact ⟨(false), (wrap64 (x9_3 + 1)), (by first | rfl | (simp; done) | (simp [*]; done)), (by first | rfl | (simp; done) | (simp [*]; done)), H', ⟨by have := HK1.out; have := HK2.out; have := HK3.out; omega⟩, ⟨by (with_reducible repeat (first | apply Kd.R_alloc | apply Kd.R_drewN | apply Kd.R_drew)); exact HO_3.out⟩, ⟨by (with_reducible repeat (first | apply Kd.S_alloc | apply Kd.S_drewN | apply Kd.S_drew)); exact HO_4.out⟩, ⟨by repeat (first | (with_reducible first | exact HB.out | apply below_alloc | apply pw_below_drewN | apply below_drew1) | exact HB.out)⟩⟩
                                            · rw [if_neg c35] at H
                                              have c35b0 : decide (((rd_T40 t147 x9_3).f0) ≤ ((rd_T37 t146 x6_1).f6)) = false := decide_eq_false c35
                                              clear c35
                                              have H' := Aside0.mk H
                                              clear H
                                              obtain ⟨Ao41, co41, eo41⟩ := Kd.S_slice HO_4.out
                                              subst eo41
                                              have p164 : 0 ≤ (x6_1 : Int) := of_decide_eq_true (by first | (with_reducible assumption) | assumption)
                                              have q164 : x6_1 < (t146.length : Int) := of_decide_eq_true (by first | (with_reducible assumption) | assumption)
                                              obtain ⟨ad164, e164, hx164_0, hx164_1, hx164_2, hx164_3, hx164_4, hx164_5, hx164_6⟩ := at_T37 (Kd.R_reads' HO_3.out).2.2 x6_1 p164 q164
                                              obtain rfl : ad153 = ad164 := (by injection e164)
                                              replace p164 := eq_true p164
                                              replace q164 := eq_true q164
                                              have p165 : 0 ≤ (x9_3 : Int) := of_decide_eq_true (by first | (with_reducible assumption) | assumption)
                                              have q165 : x9_3 < (t147.length : Int) := of_decide_eq_true (by first | (with_reducible assumption) | assumption)
                                              obtain ⟨ad165, A165_2, c165_2, e165, hx165_0, hx165_1, hx165_2, hx165_3, hl165_2, hi165_2⟩ := at_T40 (Kd.S_reads' HO_4.out).2.2 x9_3 p165 q165
                                              cases e165
                                              obtain ⟨ce165, hce165, hMe165, hcc165⟩ := Kd.S_get HO_4.out z40 x9_3 p165 (by first | exact q165 | exact of_decide_eq_true (by first | (with_reducible assumption) | assumption) | (have e_ := (Kd.S_reads' HO_4.out).1; omega))
                                              obtain ⟨ve165_2, rfl, ge165_2⟩ := k40_openM hMe165
                                              have hv165_2 := hcc165 2 _ rfl
                                              rw [add_field _ _ 2 (by omega)] at hv165_2
                                              replace hv165_2 := Option.some.inj (hv165_2.symm.trans hx165_2)
                                              rw [hv165_2] at ge165_2
                                              have HL165_2 := Aside0.mk (show Kd.R (Kd.int .u8) 5 _ _ _ _ ((rd_T40 t147 x9_3).f2) from ge165_2)
                                              clear hv165_2 ge165_2
                                              clear hcc165 hce165
                                              have HR165_2 := Aside0.mk hi165_2
                                              have HC165_2 := Aside0.mk hl165_2
                                              clear hi165_2 hl165_2
                                              replace p165 := eq_true p165
                                              replace q165 := eq_true q165
                                              go_wp2
                                              repeat (go_quiet (fail); try go_wp2)
                                              go_roundg k3
                                              case measure => have := HK1.out; have := HK2.out; have := HK3.out; omega
                                              case rel => exact ⟨(false), (wrap64 (x9_3 + 1)), (by first | rfl | (simp; done) | (simp [*]; done)), (by first | rfl | (simp; done) | (simp [*]; done)), H', ⟨by have := HK1.out; have := HK2.out; have := HK3.out; omega⟩, ⟨by (with_reducible repeat (first | apply Kd.R_alloc | apply Kd.R_drewN | apply Kd.R_drew)); exact HO_3.out⟩, ⟨by (with_reducible repeat (first | apply Kd.S_alloc | apply Kd.S_drewN | apply Kd.S_drew)); exact HO_4.out⟩, ⟨by repeat (first | (with_reducible first | exact HB.out | apply below_alloc | apply pw_below_drewN | apply below_drew1) | exact HB.out)⟩⟩
                                          · rw [if_neg c34] at H
                                            exact absurd H (by simp)
                                        · rw [if_neg c33] at H
                                          exact absurd H (by simp)
                                      · rw [if_neg c32] at H
                                        exact absurd H (by simp)
                                  · rw [if_neg c29] at H
                                    have c29b0 : decide (x9_3 < (t147.length : Int)) = false := decide_eq_false c29
                                    clear c29
                                    by_cases c42 : x8_3 = true
                                    · subst c42
                                      have H1 : (dovetaillaw23_AddrApart.l0 k3 t146 t147 (wrap64 (x6_1 + 1))) = some r := by rw [if_pos rfl] at H; exact H
                                      clear H
                                      have H := H1
                                      clear H1
                                      have H' := Aside0.mk H
                                      clear H
                                      obtain ⟨Ao43, co43, eo43⟩ := Kd.S_slice HO_4.out
                                      subst eo43
                                      go_wp2
                                      repeat (go_quiet (fail); try go_wp2)
                                      go_roundg k3
                                      case measure => have := HK1.out; have := HK2.out; have := HK3.out; omega
                                      case rel => exact ⟨(wrap64 (x6_1 + 1)), (by first | rfl | (simp; done) | (simp [*]; done)), H', ⟨by have := HK1.out; have := HK2.out; have := HK3.out; omega⟩, ⟨by (with_reducible repeat (first | apply Kd.R_alloc | apply Kd.R_drewN | apply Kd.R_drew)); exact HO_3.out⟩, ⟨by (with_reducible repeat (first | apply Kd.S_alloc | apply Kd.S_drewN | apply Kd.S_drew)); exact HO_4.out⟩, ⟨by repeat (first | (with_reducible first | exact HB.out | apply below_alloc | apply pw_below_drewN | apply below_drew1) | exact HB.out)⟩⟩
                                    · replace c42 := Bool.eq_false_iff.mpr c42
                                      subst c42
                                      have H1 : (some false) = some r := by rw [if_neg (show ¬ (false = true) by decide)] at H; exact H
                                      clear H
                                      have H := H1
                                      clear H1
                                      obtain rfl := Option.some.inj H
                                      obtain ⟨Ao44, co44, eo44⟩ := Kd.S_slice HO_4.out
                                      subst eo44
                                      go_wp2
                                      repeat (go_quiet (fail); try go_wp2)
                                      go_ret
                                      exact ⟨by first | rfl | (simp [errW_none, errW_some] <;> rfl) | (simp [*, errW_none, errW_some] <;> rfl), by repeat (first | (with_reducible first | exact HB.out | apply below_alloc | apply pw_below_drewN | apply below_drew1) | exact HB.out)⟩
                            · rw [if_neg c28] at H
                              exact absurd H (by simp)
                          · rw [if_neg c27] at H
                            exact absurd H (by simp)
                  · rw [if_neg c16] at H
                    have c16b0 : ((Int.tmod ((rd_T37 t146 x6_1).f6) ((rd_T37 t146 x6_1).f4)) == 0) = false := beq_eq_false_iff_ne.mpr c16
                    have c16b1 : ((Int.tmod ((rd_T37 t146 x6_1).f6) ((rd_T37 t146 x6_1).f4)) != 0) = true := bne_iff_ne.mpr c16
                    obtain rfl := Option.some.inj H
                    obtain ⟨Ao45, co45, eo45⟩ := Kd.R_slice HO_3.out
                    subst eo45
                    have p153 : 0 ≤ (x6_1 : Int) := of_decide_eq_true (by first | (with_reducible assumption) | assumption)
                    have q153 : x6_1 < (t146.length : Int) := of_decide_eq_true (by first | (with_reducible assumption) | assumption)
                    obtain ⟨ad153, e153, hx153_0, hx153_1, hx153_2, hx153_3, hx153_4, hx153_5, hx153_6⟩ := at_T37 (Kd.R_reads' HO_3.out).2.2 x6_1 p153 q153
                    cases e153
                    replace p153 := eq_true p153
                    replace q153 := eq_true q153
                    have p154 : 0 ≤ (x6_1 : Int) := of_decide_eq_true (by first | (with_reducible assumption) | assumption)
                    have q154 : x6_1 < (t146.length : Int) := of_decide_eq_true (by first | (with_reducible assumption) | assumption)
                    obtain ⟨ad154, e154, hx154_0, hx154_1, hx154_2, hx154_3, hx154_4, hx154_5, hx154_6⟩ := at_T37 (Kd.R_reads' HO_3.out).2.2 x6_1 p154 q154
                    obtain rfl : ad153 = ad154 := (by injection e154)
                    replace p154 := eq_true p154
                    replace q154 := eq_true q154
                    go_wp2
                    repeat (go_quiet (fail); try go_wp2)
                    go_ret
                    exact ⟨by first | rfl | (simp [errW_none, errW_some] <;> rfl) | (simp [*, errW_none, errW_some] <;> rfl), by repeat (first | (with_reducible first | exact HB.out | apply below_alloc | apply pw_below_drewN | apply below_drew1) | exact HB.out)⟩
              · rw [if_neg c14] at H
                exact absurd H (by simp)
            · rw [if_neg c13] at H
              have c13b0 : decide (x6_1 < (t146.length : Int)) = false := decide_eq_false c13
              clear c13
              have H' := Aside0.mk H
              clear H
              obtain ⟨Ao46, co46, eo46⟩ := Kd.R_slice HO_3.out
              subst eo46
              go_wp2
              repeat (go_quiet (fail); try go_wp2)
              go_loopg [10] k1 (fun kq v10 w' => ∃ (x10_2 : Int), v10 = .int .i64 x10_2 ∧ Aside0 (dovetaillaw23_AddrApart.l3 kq t147 x10_2 = some r) ∧ Aside0 (kq ≤ k1) ∧ Aside0 (Kd.S k40 40 w' w.heap.size (fun _ => True) v151 t147) ∧ Aside0 (Below w.heap.size w w'))
              case atStart => exact ⟨(0), (by first | rfl | (simp; done) | (simp [*]; done)), H', ⟨Nat.le_refl _⟩, ⟨by (with_reducible repeat (first | apply Kd.S_alloc | apply Kd.S_drewN | apply Kd.S_drew)); exact HO_4.out⟩, ⟨by repeat (first | (with_reducible first | exact HB.out | apply below_alloc | apply pw_below_drewN | apply below_drew1) | exact HB.out)⟩⟩
              case round => as_aux_lemma =>
                clear H'
                try clear c1
                try clear p1
                try clear q1
                try clear hx1
                try clear c2
                try clear p2
                try clear c3
                try clear c4
                try clear p6
                try clear c13
                try clear c13b0
                try clear c14
                try clear p15
                try clear q15
                try clear hx15
                try clear c16
                try clear c16b0
                try clear c16b1
                try clear p16
                try clear q16
                try clear hx16
                try clear c17
                try clear p17
                try clear q17
                try clear hx17
                try clear c27
                try clear c28
                try clear c29
                try clear c29b0
                try clear c30
                try clear c32
                try clear c32b0
                try clear c33
                try clear c33b0
                try clear c34
                try clear c34b0
                try clear c35
                try clear c35b0
                try clear c36
                try clear c36b0
                try clear c37
                try clear c37b0
                try clear c37b1
                try clear c37b2
                try clear c42
                try clear hx153_0
                try clear hx153_1
                try clear hx153_2
                try clear hx153_3
                try clear hx153_4
                try clear hx153_5
                try clear hx153_6
                try clear hx154_0
                try clear hx154_1
                try clear hx154_2
                try clear hx154_3
                try clear hx154_4
                try clear hx154_5
                try clear hx154_6
                try clear hx159_3
                try clear hx159_4
                try clear hx159_5
                try clear hx159_6
                try clear hx160_0
                try clear hx160_1
                try clear hx160_2
                try clear hx160_3
                try clear hx160_4
                try clear hx160_5
                try clear hx160_6
                try clear hx161_0
                try clear hx161_1
                try clear hx161_2
                try clear hx161_3
                try clear hx161_4
                try clear hx161_5
                try clear hx161_6
                try clear hx162_0
                try clear hx162_1
                try clear hx162_2
                try clear hx162_3
                try clear hx162_4
                try clear hx162_5
                try clear hx162_6
                try clear hx163_0
                try clear hx163_1
                try clear hx163_2
                try clear hx163_3
                try clear hx163_4
                try clear hx163_5
                try clear hx163_6
                try clear hx164_0
                try clear hx164_1
                try clear hx164_2
                try clear hx164_3
                try clear hx164_4
                try clear hx164_5
                try clear hx164_6
                try clear hx165_0
                try clear hx165_1
                try clear hx165_2
                try clear hx165_3
                try clear hx166_0
                try clear hx166_1
                try clear hx166_2
                try clear hx166_3
                try clear hx166_4
                try clear hx166_5
                try clear hx166_6
                try clear hx167_0
                try clear hx167_1
                try clear hx167_2
                try clear hx167_3
                try clear hx167_4
                try clear hx167_5
                try clear hx167_6
                try clear hx168_0
                try clear hx168_1
                try clear hx168_2
                try clear hx168_3
                try clear hx169_0
                try clear hx169_1
                try clear hx169_2
                try clear hx169_3
                try clear hx170_0
                try clear hx170_1
                try clear hx170_2
                try clear hx170_3
                try clear hx171_0
                try clear hx171_1
                try clear hx171_2
                try clear hx171_3
                try clear hx171_4
                try clear hx171_5
                try clear hx171_6
                try clear hx172_0
                try clear hx172_1
                try clear hx172_2
                try clear hx172_3
                try clear hx173_0
                try clear hx173_1
                try clear hx173_2
                try clear hx173_3
                try clear hx173_4
                try clear hx173_5
                try clear hx173_6
                try clear p1
                try clear p15
                try clear p153
                try clear p154
                try clear p155
                try clear p156
                try clear p157
                try clear p158
                try clear p159
                try clear p160
                try clear p161
                try clear p162
                try clear p163
                try clear p164
                try clear p165
                try clear p166
                try clear p167
                try clear p168
                try clear p169
                try clear p170
                try clear p171
                try clear p172
                try clear p173
                try clear p2
                try clear q1
                try clear q15
                try clear q153
                try clear q154
                try clear q155
                try clear q156
                try clear q157
                try clear q158
                try clear q159
                try clear q160
                try clear q161
                try clear q162
                try clear q163
                try clear q164
                try clear q165
                try clear q166
                try clear q167
                try clear q168
                try clear q169
                try clear q170
                try clear q171
                try clear q172
                try clear q173
                obtain ⟨x10_2, rfl, HA, HK2, HO_4, HB⟩ := hrel
                cases gk with
                | zero => exact absurd HA.out (by simp [dovetaillaw23_AddrApart.l3])
                | succ k2 =>
                  have H := HA.out
                  clear HA
                  simp only [dovetaillaw23_AddrApart.l3] at H
                  by_cases c47 : x10_2 < (t147.length : Int)
                  · rw [if_pos c47] at H
                    have c47b0 : decide (x10_2 < (t147.length : Int)) = true := decide_eq_true c47
                    clear c47
                    by_cases c48 : 0 ≤ x10_2
                    · rw [if_pos c48] at H
                      have c48b0 : decide (0 ≤ x10_2) = true := decide_eq_true c48
                      clear c48
                      by_cases c49 : (Int.tmod ((rd_T40 t147 x10_2).f0) 4096) = 0
                      · rw [if_pos c49] at H
                        have c49b0 : ((Int.tmod ((rd_T40 t147 x10_2).f0) 4096) == 0) = true := beq_iff_eq.mpr c49
                        have c49b1 : ((Int.tmod ((rd_T40 t147 x10_2).f0) 4096) != 0) = false := bne_eq_false_iff_eq.mpr c49
                        clear c49
                        by_cases c50 : ((rd_T40 t147 x10_2).f3) = 0
                        · rw [if_pos c50] at H
                          have c50b0 : (((rd_T40 t147 x10_2).f3) == 0) = true := beq_iff_eq.mpr c50
                          have c50b1 : (((rd_T40 t147 x10_2).f3) != 0) = false := bne_eq_false_iff_eq.mpr c50
                          clear c50
                          obtain rfl := Option.some.inj H
                          obtain ⟨Ao51, co51, eo51⟩ := Kd.S_slice HO_4.out
                          subst eo51
                          have p174 : 0 ≤ (x10_2 : Int) := of_decide_eq_true (by first | (with_reducible assumption) | assumption)
                          have q174 : x10_2 < (t147.length : Int) := of_decide_eq_true (by first | (with_reducible assumption) | assumption)
                          obtain ⟨ad174, A174_2, c174_2, e174, hx174_0, hx174_1, hx174_2, hx174_3, hl174_2, hi174_2⟩ := at_T40 (Kd.S_reads' HO_4.out).2.2 x10_2 p174 q174
                          cases e174
                          obtain ⟨ce174, hce174, hMe174, hcc174⟩ := Kd.S_get HO_4.out z40 x10_2 p174 (by first | exact q174 | exact of_decide_eq_true (by first | (with_reducible assumption) | assumption) | (have e_ := (Kd.S_reads' HO_4.out).1; omega))
                          obtain ⟨ve174_2, rfl, ge174_2⟩ := k40_openM hMe174
                          have hv174_2 := hcc174 2 _ rfl
                          rw [add_field _ _ 2 (by omega)] at hv174_2
                          replace hv174_2 := Option.some.inj (hv174_2.symm.trans hx174_2)
                          rw [hv174_2] at ge174_2
                          have HL174_2 := Aside0.mk (show Kd.R (Kd.int .u8) 5 _ _ _ _ ((rd_T40 t147 x10_2).f2) from ge174_2)
                          clear hv174_2 ge174_2
                          clear hcc174 hce174
                          have HR174_2 := Aside0.mk hi174_2
                          have HC174_2 := Aside0.mk hl174_2
                          clear hi174_2 hl174_2
                          replace p174 := eq_true p174
                          replace q174 := eq_true q174
                          have p175 : 0 ≤ (x10_2 : Int) := of_decide_eq_true (by first | (with_reducible assumption) | assumption)
                          have q175 : x10_2 < (t147.length : Int) := of_decide_eq_true (by first | (with_reducible assumption) | assumption)
                          obtain ⟨ad175, A175_2, c175_2, e175, hx175_0, hx175_1, hx175_2, hx175_3, hl175_2, hi175_2⟩ := at_T40 (Kd.S_reads' HO_4.out).2.2 x10_2 p175 q175
                          obtain rfl : ad174 = ad175 := (by injection e175)
                          obtain ⟨ce175, hce175, hMe175, hcc175⟩ := Kd.S_get HO_4.out z40 x10_2 p175 (by first | exact q175 | exact of_decide_eq_true (by first | (with_reducible assumption) | assumption) | (have e_ := (Kd.S_reads' HO_4.out).1; omega))
                          obtain ⟨ve175_2, rfl, ge175_2⟩ := k40_openM hMe175
                          have hv175_2 := hcc175 2 _ rfl
                          rw [add_field _ _ 2 (by omega)] at hv175_2
                          replace hv175_2 := Option.some.inj (hv175_2.symm.trans hx175_2)
                          rw [hv175_2] at ge175_2
                          have HL175_2 := Aside0.mk (show Kd.R (Kd.int .u8) 5 _ _ _ _ ((rd_T40 t147 x10_2).f2) from ge175_2)
                          clear hv175_2 ge175_2
                          clear hcc175 hce175
                          have HR175_2 := Aside0.mk hi175_2
                          have HC175_2 := Aside0.mk hl175_2
                          clear hi175_2 hl175_2
                          replace p175 := eq_true p175
                          replace q175 := eq_true q175
                          have ea_ := Option.some.inj (hx174_2.symm.trans hx175_2)
                          injection ea_ with ea_ en_ ec_
                          subst ea_
                          subst ec_
                          clear en_
                          go_wp2
                          repeat (go_quiet (fail); try go_wp2)
                          go_ret
                          exact ⟨by first | rfl | (simp [errW_none, errW_some] <;> rfl) | (simp [*, errW_none, errW_some] <;> rfl), by repeat (first | (with_reducible first | exact HB.out | apply below_alloc | apply pw_below_drewN | apply below_drew1) | exact HB.out)⟩
                        · rw [if_neg c50] at H
                          have c50b0 : (((rd_T40 t147 x10_2).f3) == 0) = false := beq_eq_false_iff_ne.mpr c50
                          have c50b1 : (((rd_T40 t147 x10_2).f3) != 0) = true := bne_iff_ne.mpr c50
                          by_cases c52 : (Go.bits .and .i64 ((rd_T40 t147 x10_2).f1) 2) = 0
                          · rw [if_pos c52] at H
                            have c52b0 : ((Go.bits .and .i64 ((rd_T40 t147 x10_2).f1) 2) == 0) = true := beq_iff_eq.mpr c52
                            have c52b1 : ((Go.bits .and .i64 ((rd_T40 t147 x10_2).f1) 2) != 0) = false := bne_eq_false_iff_eq.mpr c52
                            clear c52
                            by_cases c53 : x10_2 > 0
                            · rw [if_pos c53] at H
                              have c53b0 : decide (0 < x10_2) = true := decide_eq_true c53
                              clear c53
                              obtain ⟨ji54, hji54⟩ : ∃ j_ : Int, (wrap64 (x10_2 - 1)) = j_ := ⟨_, rfl⟩
                              replace H : (if 0 ≤ (ji54) then (if (ji54) < (t147.length : Int) then (if (IntKind.u64.wrap (Int.tdiv ((rd_T40 t147 x10_2).f0) 4096)) ≤ (IntKind.u64.wrap (Int.tdiv (IntKind.u64.wrap ((IntKind.u64.wrap (((rd_T40 t147 (ji54)).f0) + ((rd_T40 t147 (ji54)).f3))) - 1)) 4096)) then (some false) else (dovetaillaw23_AddrApart.l3 k2 t147 (wrap64 (x10_2 + 1)))) else (none)) else (none)) = some r := by first | (rw [hji54] at H; exact H) | (simp only [hji54] at H ⊢; exact H)
                              have hji54w : (IntKind.i64.wrap (x10_2 - 1)) = ji54 := (i64_w _).trans hji54
                              by_cases c55 : 0 ≤ (ji54)
                              · rw [if_pos c55] at H
                                have c55b0 : decide (0 ≤ (ji54)) = true := decide_eq_true c55
                                clear c55
                                by_cases c56 : (ji54) < (t147.length : Int)
                                · rw [if_pos c56] at H
                                  have c56b0 : decide ((ji54) < (t147.length : Int)) = true := decide_eq_true c56
                                  clear c56
                                  by_cases c57 : (IntKind.u64.wrap (Int.tdiv ((rd_T40 t147 x10_2).f0) 4096)) ≤ (IntKind.u64.wrap (Int.tdiv (IntKind.u64.wrap ((IntKind.u64.wrap (((rd_T40 t147 (ji54)).f0) + ((rd_T40 t147 (ji54)).f3))) - 1)) 4096))
                                  · rw [if_pos c57] at H
                                    have c57b0 : decide ((IntKind.u64.wrap (Int.tdiv ((rd_T40 t147 x10_2).f0) 4096)) ≤ (IntKind.u64.wrap (Int.tdiv (IntKind.u64.wrap ((IntKind.u64.wrap (((rd_T40 t147 (ji54)).f0) + ((rd_T40 t147 (ji54)).f3))) - 1)) 4096))) = true := decide_eq_true c57
                                    clear c57
                                    obtain rfl := Option.some.inj H
                                    obtain ⟨Ao58, co58, eo58⟩ := Kd.S_slice HO_4.out
                                    subst eo58
                                    have p174 : 0 ≤ (x10_2 : Int) := of_decide_eq_true (by first | (with_reducible assumption) | assumption)
                                    have q174 : x10_2 < (t147.length : Int) := of_decide_eq_true (by first | (with_reducible assumption) | assumption)
                                    obtain ⟨ad174, A174_2, c174_2, e174, hx174_0, hx174_1, hx174_2, hx174_3, hl174_2, hi174_2⟩ := at_T40 (Kd.S_reads' HO_4.out).2.2 x10_2 p174 q174
                                    cases e174
                                    obtain ⟨ce174, hce174, hMe174, hcc174⟩ := Kd.S_get HO_4.out z40 x10_2 p174 (by first | exact q174 | exact of_decide_eq_true (by first | (with_reducible assumption) | assumption) | (have e_ := (Kd.S_reads' HO_4.out).1; omega))
                                    obtain ⟨ve174_2, rfl, ge174_2⟩ := k40_openM hMe174
                                    have hv174_2 := hcc174 2 _ rfl
                                    rw [add_field _ _ 2 (by omega)] at hv174_2
                                    replace hv174_2 := Option.some.inj (hv174_2.symm.trans hx174_2)
                                    rw [hv174_2] at ge174_2
                                    have HL174_2 := Aside0.mk (show Kd.R (Kd.int .u8) 5 _ _ _ _ ((rd_T40 t147 x10_2).f2) from ge174_2)
                                    clear hv174_2 ge174_2
                                    clear hcc174 hce174
                                    have HR174_2 := Aside0.mk hi174_2
                                    have HC174_2 := Aside0.mk hl174_2
                                    clear hi174_2 hl174_2
                                    replace p174 := eq_true p174
                                    replace q174 := eq_true q174
                                    have p175 : 0 ≤ (x10_2 : Int) := of_decide_eq_true (by first | (with_reducible assumption) | assumption)
                                    have q175 : x10_2 < (t147.length : Int) := of_decide_eq_true (by first | (with_reducible assumption) | assumption)
                                    obtain ⟨ad175, A175_2, c175_2, e175, hx175_0, hx175_1, hx175_2, hx175_3, hl175_2, hi175_2⟩ := at_T40 (Kd.S_reads' HO_4.out).2.2 x10_2 p175 q175
                                    obtain rfl : ad174 = ad175 := (by injection e175)
                                    obtain ⟨ce175, hce175, hMe175, hcc175⟩ := Kd.S_get HO_4.out z40 x10_2 p175 (by first | exact q175 | exact of_decide_eq_true (by first | (with_reducible assumption) | assumption) | (have e_ := (Kd.S_reads' HO_4.out).1; omega))
                                    obtain ⟨ve175_2, rfl, ge175_2⟩ := k40_openM hMe175
                                    have hv175_2 := hcc175 2 _ rfl
                                    rw [add_field _ _ 2 (by omega)] at hv175_2
                                    replace hv175_2 := Option.some.inj (hv175_2.symm.trans hx175_2)
                                    rw [hv175_2] at ge175_2
                                    have HL175_2 := Aside0.mk (show Kd.R (Kd.int .u8) 5 _ _ _ _ ((rd_T40 t147 x10_2).f2) from ge175_2)
                                    clear hv175_2 ge175_2
                                    clear hcc175 hce175
                                    have HR175_2 := Aside0.mk hi175_2
                                    have HC175_2 := Aside0.mk hl175_2
                                    clear hi175_2 hl175_2
                                    replace p175 := eq_true p175
                                    replace q175 := eq_true q175
                                    have ea_ := Option.some.inj (hx174_2.symm.trans hx175_2)
                                    injection ea_ with ea_ en_ ec_
                                    subst ea_
                                    subst ec_
                                    clear en_
                                    have p176 : 0 ≤ (x10_2 : Int) := of_decide_eq_true (by first | (with_reducible assumption) | assumption)
                                    have q176 : x10_2 < (t147.length : Int) := of_decide_eq_true (by first | (with_reducible assumption) | assumption)
                                    obtain ⟨ad176, A176_2, c176_2, e176, hx176_0, hx176_1, hx176_2, hx176_3, hl176_2, hi176_2⟩ := at_T40 (Kd.S_reads' HO_4.out).2.2 x10_2 p176 q176
                                    obtain rfl : ad174 = ad176 := (by injection e176)
                                    obtain ⟨ce176, hce176, hMe176, hcc176⟩ := Kd.S_get HO_4.out z40 x10_2 p176 (by first | exact q176 | exact of_decide_eq_true (by first | (with_reducible assumption) | assumption) | (have e_ := (Kd.S_reads' HO_4.out).1; omega))
                                    obtain ⟨ve176_2, rfl, ge176_2⟩ := k40_openM hMe176
                                    have hv176_2 := hcc176 2 _ rfl
                                    rw [add_field _ _ 2 (by omega)] at hv176_2
                                    replace hv176_2 := Option.some.inj (hv176_2.symm.trans hx176_2)
                                    rw [hv176_2] at ge176_2
                                    have HL176_2 := Aside0.mk (show Kd.R (Kd.int .u8) 5 _ _ _ _ ((rd_T40 t147 x10_2).f2) from ge176_2)
                                    clear hv176_2 ge176_2
                                    clear hcc176 hce176
                                    have HR176_2 := Aside0.mk hi176_2
                                    have HC176_2 := Aside0.mk hl176_2
                                    clear hi176_2 hl176_2
                                    replace p176 := eq_true p176
                                    replace q176 := eq_true q176
                                    have ea_ := Option.some.inj (hx174_2.symm.trans hx176_2)
                                    injection ea_ with ea_ en_ ec_
                                    subst ea_
                                    subst ec_
                                    clear en_
                                    have p177 : 0 ≤ (x10_2 : Int) := of_decide_eq_true (by first | (with_reducible assumption) | assumption)
                                    have q177 : x10_2 < (t147.length : Int) := of_decide_eq_true (by first | (with_reducible assumption) | assumption)
                                    obtain ⟨ad177, A177_2, c177_2, e177, hx177_0, hx177_1, hx177_2, hx177_3, hl177_2, hi177_2⟩ := at_T40 (Kd.S_reads' HO_4.out).2.2 x10_2 p177 q177
                                    obtain rfl : ad174 = ad177 := (by injection e177)
                                    obtain ⟨ce177, hce177, hMe177, hcc177⟩ := Kd.S_get HO_4.out z40 x10_2 p177 (by first | exact q177 | exact of_decide_eq_true (by first | (with_reducible assumption) | assumption) | (have e_ := (Kd.S_reads' HO_4.out).1; omega))
                                    obtain ⟨ve177_2, rfl, ge177_2⟩ := k40_openM hMe177
                                    have hv177_2 := hcc177 2 _ rfl
                                    rw [add_field _ _ 2 (by omega)] at hv177_2
                                    replace hv177_2 := Option.some.inj (hv177_2.symm.trans hx177_2)
                                    rw [hv177_2] at ge177_2
                                    have HL177_2 := Aside0.mk (show Kd.R (Kd.int .u8) 5 _ _ _ _ ((rd_T40 t147 x10_2).f2) from ge177_2)
                                    clear hv177_2 ge177_2
                                    clear hcc177 hce177
                                    have HR177_2 := Aside0.mk hi177_2
                                    have HC177_2 := Aside0.mk hl177_2
                                    clear hi177_2 hl177_2
                                    replace p177 := eq_true p177
                                    replace q177 := eq_true q177
                                    have ea_ := Option.some.inj (hx174_2.symm.trans hx177_2)
                                    injection ea_ with ea_ en_ ec_
                                    subst ea_
                                    subst ec_
                                    clear en_
                                    have p178 : 0 ≤ ((ji54) : Int) := of_decide_eq_true (by first | (with_reducible assumption) | assumption)
                                    have q178 : (ji54) < (t147.length : Int) := of_decide_eq_true (by first | (with_reducible assumption) | assumption)
                                    obtain ⟨ad178, A178_2, c178_2, e178, hx178_0, hx178_1, hx178_2, hx178_3, hl178_2, hi178_2⟩ := at_T40 (Kd.S_reads' HO_4.out).2.2 (ji54) p178 q178
                                    obtain rfl : ad174 = ad178 := (by injection e178)
                                    obtain ⟨ce178, hce178, hMe178, hcc178⟩ := Kd.S_get HO_4.out z40 (ji54) p178 (by first | exact q178 | exact of_decide_eq_true (by first | (with_reducible assumption) | assumption) | (have e_ := (Kd.S_reads' HO_4.out).1; omega))
                                    obtain ⟨ve178_2, rfl, ge178_2⟩ := k40_openM hMe178
                                    have hv178_2 := hcc178 2 _ rfl
                                    rw [add_field _ _ 2 (by omega)] at hv178_2
                                    replace hv178_2 := Option.some.inj (hv178_2.symm.trans hx178_2)
                                    rw [hv178_2] at ge178_2
                                    have HL178_2 := Aside0.mk (show Kd.R (Kd.int .u8) 5 _ _ _ _ ((rd_T40 t147 (ji54)).f2) from ge178_2)
                                    clear hv178_2 ge178_2
                                    clear hcc178 hce178
                                    have HR178_2 := Aside0.mk hi178_2
                                    have HC178_2 := Aside0.mk hl178_2
                                    clear hi178_2 hl178_2
                                    replace p178 := eq_true p178
                                    replace q178 := eq_true q178
                                    have p179 : 0 ≤ ((ji54) : Int) := of_decide_eq_true (by first | (with_reducible assumption) | assumption)
                                    have q179 : (ji54) < (t147.length : Int) := of_decide_eq_true (by first | (with_reducible assumption) | assumption)
                                    obtain ⟨ad179, A179_2, c179_2, e179, hx179_0, hx179_1, hx179_2, hx179_3, hl179_2, hi179_2⟩ := at_T40 (Kd.S_reads' HO_4.out).2.2 (ji54) p179 q179
                                    obtain rfl : ad174 = ad179 := (by injection e179)
                                    obtain ⟨ce179, hce179, hMe179, hcc179⟩ := Kd.S_get HO_4.out z40 (ji54) p179 (by first | exact q179 | exact of_decide_eq_true (by first | (with_reducible assumption) | assumption) | (have e_ := (Kd.S_reads' HO_4.out).1; omega))
                                    obtain ⟨ve179_2, rfl, ge179_2⟩ := k40_openM hMe179
                                    have hv179_2 := hcc179 2 _ rfl
                                    rw [add_field _ _ 2 (by omega)] at hv179_2
                                    replace hv179_2 := Option.some.inj (hv179_2.symm.trans hx179_2)
                                    rw [hv179_2] at ge179_2
                                    have HL179_2 := Aside0.mk (show Kd.R (Kd.int .u8) 5 _ _ _ _ ((rd_T40 t147 (ji54)).f2) from ge179_2)
                                    clear hv179_2 ge179_2
                                    clear hcc179 hce179
                                    have HR179_2 := Aside0.mk hi179_2
                                    have HC179_2 := Aside0.mk hl179_2
                                    clear hi179_2 hl179_2
                                    replace p179 := eq_true p179
                                    replace q179 := eq_true q179
                                    have ea_ := Option.some.inj (hx178_2.symm.trans hx179_2)
                                    injection ea_ with ea_ en_ ec_
                                    subst ea_
                                    subst ec_
                                    clear en_
                                    go_wp2
                                    repeat (go_quiet (fail); try go_wp2)
                                    go_ret
                                    exact ⟨by first | rfl | (simp [errW_none, errW_some] <;> rfl) | (simp only [← hji54]; first | rfl | (simp [errW_none, errW_some] <;> rfl)) | (simp [*, errW_none, errW_some] <;> rfl), by repeat (first | (with_reducible first | exact HB.out | apply below_alloc | apply pw_below_drewN | apply below_drew1) | exact HB.out)⟩
                                  · rw [if_neg c57] at H
                                    have c57b0 : decide ((IntKind.u64.wrap (Int.tdiv ((rd_T40 t147 x10_2).f0) 4096)) ≤ (IntKind.u64.wrap (Int.tdiv (IntKind.u64.wrap ((IntKind.u64.wrap (((rd_T40 t147 (ji54)).f0) + ((rd_T40 t147 (ji54)).f3))) - 1)) 4096))) = false := decide_eq_false c57
                                    clear c57
                                    have H' := Aside0.mk H
                                    clear H
                                    obtain ⟨Ao59, co59, eo59⟩ := Kd.S_slice HO_4.out
                                    subst eo59
                                    have p174 : 0 ≤ (x10_2 : Int) := of_decide_eq_true (by first | (with_reducible assumption) | assumption)
                                    have q174 : x10_2 < (t147.length : Int) := of_decide_eq_true (by first | (with_reducible assumption) | assumption)
                                    obtain ⟨ad174, A174_2, c174_2, e174, hx174_0, hx174_1, hx174_2, hx174_3, hl174_2, hi174_2⟩ := at_T40 (Kd.S_reads' HO_4.out).2.2 x10_2 p174 q174
                                    cases e174
                                    obtain ⟨ce174, hce174, hMe174, hcc174⟩ := Kd.S_get HO_4.out z40 x10_2 p174 (by first | exact q174 | exact of_decide_eq_true (by first | (with_reducible assumption) | assumption) | (have e_ := (Kd.S_reads' HO_4.out).1; omega))
                                    obtain ⟨ve174_2, rfl, ge174_2⟩ := k40_openM hMe174
                                    have hv174_2 := hcc174 2 _ rfl
                                    rw [add_field _ _ 2 (by omega)] at hv174_2
                                    replace hv174_2 := Option.some.inj (hv174_2.symm.trans hx174_2)
                                    rw [hv174_2] at ge174_2
                                    have HL174_2 := Aside0.mk (show Kd.R (Kd.int .u8) 5 _ _ _ _ ((rd_T40 t147 x10_2).f2) from ge174_2)
                                    clear hv174_2 ge174_2
                                    clear hcc174 hce174
                                    have HR174_2 := Aside0.mk hi174_2
                                    have HC174_2 := Aside0.mk hl174_2
                                    clear hi174_2 hl174_2
                                    replace p174 := eq_true p174
                                    replace q174 := eq_true q174
                                    have p175 : 0 ≤ (x10_2 : Int) := of_decide_eq_true (by first | (with_reducible assumption) | assumption)
                                    have q175 : x10_2 < (t147.length : Int) := of_decide_eq_true (by first | (with_reducible assumption) | assumption)
                                    obtain ⟨ad175, A175_2, c175_2, e175, hx175_0, hx175_1, hx175_2, hx175_3, hl175_2, hi175_2⟩ := at_T40 (Kd.S_reads' HO_4.out).2.2 x10_2 p175 q175
                                    obtain rfl : ad174 = ad175 := (by injection e175)
                                    obtain ⟨ce175, hce175, hMe175, hcc175⟩ := Kd.S_get HO_4.out z40 x10_2 p175 (by first | exact q175 | exact of_decide_eq_true (by first | (with_reducible assumption) | assumption) | (have e_ := (Kd.S_reads' HO_4.out).1; omega))
                                    obtain ⟨ve175_2, rfl, ge175_2⟩ := k40_openM hMe175
                                    have hv175_2 := hcc175 2 _ rfl
                                    rw [add_field _ _ 2 (by omega)] at hv175_2
                                    replace hv175_2 := Option.some.inj (hv175_2.symm.trans hx175_2)
                                    rw [hv175_2] at ge175_2
                                    have HL175_2 := Aside0.mk (show Kd.R (Kd.int .u8) 5 _ _ _ _ ((rd_T40 t147 x10_2).f2) from ge175_2)
                                    clear hv175_2 ge175_2
                                    clear hcc175 hce175
                                    have HR175_2 := Aside0.mk hi175_2
                                    have HC175_2 := Aside0.mk hl175_2
                                    clear hi175_2 hl175_2
                                    replace p175 := eq_true p175
                                    replace q175 := eq_true q175
                                    have ea_ := Option.some.inj (hx174_2.symm.trans hx175_2)
                                    injection ea_ with ea_ en_ ec_
                                    subst ea_
                                    subst ec_
                                    clear en_
                                    have p176 : 0 ≤ (x10_2 : Int) := of_decide_eq_true (by first | (with_reducible assumption) | assumption)
                                    have q176 : x10_2 < (t147.length : Int) := of_decide_eq_true (by first | (with_reducible assumption) | assumption)
                                    obtain ⟨ad176, A176_2, c176_2, e176, hx176_0, hx176_1, hx176_2, hx176_3, hl176_2, hi176_2⟩ := at_T40 (Kd.S_reads' HO_4.out).2.2 x10_2 p176 q176
                                    obtain rfl : ad174 = ad176 := (by injection e176)
                                    obtain ⟨ce176, hce176, hMe176, hcc176⟩ := Kd.S_get HO_4.out z40 x10_2 p176 (by first | exact q176 | exact of_decide_eq_true (by first | (with_reducible assumption) | assumption) | (have e_ := (Kd.S_reads' HO_4.out).1; omega))
                                    obtain ⟨ve176_2, rfl, ge176_2⟩ := k40_openM hMe176
                                    have hv176_2 := hcc176 2 _ rfl
                                    rw [add_field _ _ 2 (by omega)] at hv176_2
                                    replace hv176_2 := Option.some.inj (hv176_2.symm.trans hx176_2)
                                    rw [hv176_2] at ge176_2
                                    have HL176_2 := Aside0.mk (show Kd.R (Kd.int .u8) 5 _ _ _ _ ((rd_T40 t147 x10_2).f2) from ge176_2)
                                    clear hv176_2 ge176_2
                                    clear hcc176 hce176
                                    have HR176_2 := Aside0.mk hi176_2
                                    have HC176_2 := Aside0.mk hl176_2
                                    clear hi176_2 hl176_2
                                    replace p176 := eq_true p176
                                    replace q176 := eq_true q176
                                    have ea_ := Option.some.inj (hx174_2.symm.trans hx176_2)
                                    injection ea_ with ea_ en_ ec_
                                    subst ea_
                                    subst ec_
                                    clear en_
                                    have p177 : 0 ≤ (x10_2 : Int) := of_decide_eq_true (by first | (with_reducible assumption) | assumption)
                                    have q177 : x10_2 < (t147.length : Int) := of_decide_eq_true (by first | (with_reducible assumption) | assumption)
                                    obtain ⟨ad177, A177_2, c177_2, e177, hx177_0, hx177_1, hx177_2, hx177_3, hl177_2, hi177_2⟩ := at_T40 (Kd.S_reads' HO_4.out).2.2 x10_2 p177 q177
                                    obtain rfl : ad174 = ad177 := (by injection e177)
                                    obtain ⟨ce177, hce177, hMe177, hcc177⟩ := Kd.S_get HO_4.out z40 x10_2 p177 (by first | exact q177 | exact of_decide_eq_true (by first | (with_reducible assumption) | assumption) | (have e_ := (Kd.S_reads' HO_4.out).1; omega))
                                    obtain ⟨ve177_2, rfl, ge177_2⟩ := k40_openM hMe177
                                    have hv177_2 := hcc177 2 _ rfl
                                    rw [add_field _ _ 2 (by omega)] at hv177_2
                                    replace hv177_2 := Option.some.inj (hv177_2.symm.trans hx177_2)
                                    rw [hv177_2] at ge177_2
                                    have HL177_2 := Aside0.mk (show Kd.R (Kd.int .u8) 5 _ _ _ _ ((rd_T40 t147 x10_2).f2) from ge177_2)
                                    clear hv177_2 ge177_2
                                    clear hcc177 hce177
                                    have HR177_2 := Aside0.mk hi177_2
                                    have HC177_2 := Aside0.mk hl177_2
                                    clear hi177_2 hl177_2
                                    replace p177 := eq_true p177
                                    replace q177 := eq_true q177
                                    have ea_ := Option.some.inj (hx174_2.symm.trans hx177_2)
                                    injection ea_ with ea_ en_ ec_
                                    subst ea_
                                    subst ec_
                                    clear en_
                                    have p178 : 0 ≤ ((ji54) : Int) := of_decide_eq_true (by first | (with_reducible assumption) | assumption)
                                    have q178 : (ji54) < (t147.length : Int) := of_decide_eq_true (by first | (with_reducible assumption) | assumption)
                                    obtain ⟨ad178, A178_2, c178_2, e178, hx178_0, hx178_1, hx178_2, hx178_3, hl178_2, hi178_2⟩ := at_T40 (Kd.S_reads' HO_4.out).2.2 (ji54) p178 q178
                                    obtain rfl : ad174 = ad178 := (by injection e178)
                                    obtain ⟨ce178, hce178, hMe178, hcc178⟩ := Kd.S_get HO_4.out z40 (ji54) p178 (by first | exact q178 | exact of_decide_eq_true (by first | (with_reducible assumption) | assumption) | (have e_ := (Kd.S_reads' HO_4.out).1; omega))
                                    obtain ⟨ve178_2, rfl, ge178_2⟩ := k40_openM hMe178
                                    have hv178_2 := hcc178 2 _ rfl
                                    rw [add_field _ _ 2 (by omega)] at hv178_2
                                    replace hv178_2 := Option.some.inj (hv178_2.symm.trans hx178_2)
                                    rw [hv178_2] at ge178_2
                                    have HL178_2 := Aside0.mk (show Kd.R (Kd.int .u8) 5 _ _ _ _ ((rd_T40 t147 (ji54)).f2) from ge178_2)
                                    clear hv178_2 ge178_2
                                    clear hcc178 hce178
                                    have HR178_2 := Aside0.mk hi178_2
                                    have HC178_2 := Aside0.mk hl178_2
                                    clear hi178_2 hl178_2
                                    replace p178 := eq_true p178
                                    replace q178 := eq_true q178
                                    have p179 : 0 ≤ ((ji54) : Int) := of_decide_eq_true (by first | (with_reducible assumption) | assumption)
                                    have q179 : (ji54) < (t147.length : Int) := of_decide_eq_true (by first | (with_reducible assumption) | assumption)
                                    obtain ⟨ad179, A179_2, c179_2, e179, hx179_0, hx179_1, hx179_2, hx179_3, hl179_2, hi179_2⟩ := at_T40 (Kd.S_reads' HO_4.out).2.2 (ji54) p179 q179
                                    obtain rfl : ad174 = ad179 := (by injection e179)
                                    obtain ⟨ce179, hce179, hMe179, hcc179⟩ := Kd.S_get HO_4.out z40 (ji54) p179 (by first | exact q179 | exact of_decide_eq_true (by first | (with_reducible assumption) | assumption) | (have e_ := (Kd.S_reads' HO_4.out).1; omega))
                                    obtain ⟨ve179_2, rfl, ge179_2⟩ := k40_openM hMe179
                                    have hv179_2 := hcc179 2 _ rfl
                                    rw [add_field _ _ 2 (by omega)] at hv179_2
                                    replace hv179_2 := Option.some.inj (hv179_2.symm.trans hx179_2)
                                    rw [hv179_2] at ge179_2
                                    have HL179_2 := Aside0.mk (show Kd.R (Kd.int .u8) 5 _ _ _ _ ((rd_T40 t147 (ji54)).f2) from ge179_2)
                                    clear hv179_2 ge179_2
                                    clear hcc179 hce179
                                    have HR179_2 := Aside0.mk hi179_2
                                    have HC179_2 := Aside0.mk hl179_2
                                    clear hi179_2 hl179_2
                                    replace p179 := eq_true p179
                                    replace q179 := eq_true q179
                                    have ea_ := Option.some.inj (hx178_2.symm.trans hx179_2)
                                    injection ea_ with ea_ en_ ec_
                                    subst ea_
                                    subst ec_
                                    clear en_
                                    go_wp2
                                    repeat (go_quiet (fail); try go_wp2)
                                    go_roundg k2
                                    case measure => have := HK1.out; have := HK2.out; omega
                                    case rel => exact ⟨(wrap64 (x10_2 + 1)), (by first | rfl | (simp; done) | (simp [*]; done)), H', ⟨by have := HK1.out; have := HK2.out; omega⟩, ⟨by (with_reducible repeat (first | apply Kd.S_alloc | apply Kd.S_drewN | apply Kd.S_drew)); exact HO_4.out⟩, ⟨by repeat (first | (with_reducible first | exact HB.out | apply below_alloc | apply pw_below_drewN | apply below_drew1) | exact HB.out)⟩⟩
                                · rw [if_neg c56] at H
                                  exact absurd H (by simp)
                              · rw [if_neg c55] at H
                                exact absurd H (by simp)
                            · rw [if_neg c53] at H
                              have c53b0 : decide (0 < x10_2) = false := decide_eq_false c53
                              clear c53
                              have H' := Aside0.mk H
                              clear H
                              obtain ⟨Ao60, co60, eo60⟩ := Kd.S_slice HO_4.out
                              subst eo60
                              have p174 : 0 ≤ (x10_2 : Int) := of_decide_eq_true (by first | (with_reducible assumption) | assumption)
                              have q174 : x10_2 < (t147.length : Int) := of_decide_eq_true (by first | (with_reducible assumption) | assumption)
                              obtain ⟨ad174, A174_2, c174_2, e174, hx174_0, hx174_1, hx174_2, hx174_3, hl174_2, hi174_2⟩ := at_T40 (Kd.S_reads' HO_4.out).2.2 x10_2 p174 q174
                              cases e174
                              obtain ⟨ce174, hce174, hMe174, hcc174⟩ := Kd.S_get HO_4.out z40 x10_2 p174 (by first | exact q174 | exact of_decide_eq_true (by first | (with_reducible assumption) | assumption) | (have e_ := (Kd.S_reads' HO_4.out).1; omega))
                              obtain ⟨ve174_2, rfl, ge174_2⟩ := k40_openM hMe174
                              have hv174_2 := hcc174 2 _ rfl
                              rw [add_field _ _ 2 (by omega)] at hv174_2
                              replace hv174_2 := Option.some.inj (hv174_2.symm.trans hx174_2)
                              rw [hv174_2] at ge174_2
                              have HL174_2 := Aside0.mk (show Kd.R (Kd.int .u8) 5 _ _ _ _ ((rd_T40 t147 x10_2).f2) from ge174_2)
                              clear hv174_2 ge174_2
                              clear hcc174 hce174
                              have HR174_2 := Aside0.mk hi174_2
                              have HC174_2 := Aside0.mk hl174_2
                              clear hi174_2 hl174_2
                              replace p174 := eq_true p174
                              replace q174 := eq_true q174
                              have p175 : 0 ≤ (x10_2 : Int) := of_decide_eq_true (by first | (with_reducible assumption) | assumption)
                              have q175 : x10_2 < (t147.length : Int) := of_decide_eq_true (by first | (with_reducible assumption) | assumption)
                              obtain ⟨ad175, A175_2, c175_2, e175, hx175_0, hx175_1, hx175_2, hx175_3, hl175_2, hi175_2⟩ := at_T40 (Kd.S_reads' HO_4.out).2.2 x10_2 p175 q175
                              obtain rfl : ad174 = ad175 := (by injection e175)
                              obtain ⟨ce175, hce175, hMe175, hcc175⟩ := Kd.S_get HO_4.out z40 x10_2 p175 (by first | exact q175 | exact of_decide_eq_true (by first | (with_reducible assumption) | assumption) | (have e_ := (Kd.S_reads' HO_4.out).1; omega))
                              obtain ⟨ve175_2, rfl, ge175_2⟩ := k40_openM hMe175
                              have hv175_2 := hcc175 2 _ rfl
                              rw [add_field _ _ 2 (by omega)] at hv175_2
                              replace hv175_2 := Option.some.inj (hv175_2.symm.trans hx175_2)
                              rw [hv175_2] at ge175_2
                              have HL175_2 := Aside0.mk (show Kd.R (Kd.int .u8) 5 _ _ _ _ ((rd_T40 t147 x10_2).f2) from ge175_2)
                              clear hv175_2 ge175_2
                              clear hcc175 hce175
                              have HR175_2 := Aside0.mk hi175_2
                              have HC175_2 := Aside0.mk hl175_2
                              clear hi175_2 hl175_2
                              replace p175 := eq_true p175
                              replace q175 := eq_true q175
                              have ea_ := Option.some.inj (hx174_2.symm.trans hx175_2)
                              injection ea_ with ea_ en_ ec_
                              subst ea_
                              subst ec_
                              clear en_
                              have p176 : 0 ≤ (x10_2 : Int) := of_decide_eq_true (by first | (with_reducible assumption) | assumption)
                              have q176 : x10_2 < (t147.length : Int) := of_decide_eq_true (by first | (with_reducible assumption) | assumption)
                              obtain ⟨ad176, A176_2, c176_2, e176, hx176_0, hx176_1, hx176_2, hx176_3, hl176_2, hi176_2⟩ := at_T40 (Kd.S_reads' HO_4.out).2.2 x10_2 p176 q176
                              obtain rfl : ad174 = ad176 := (by injection e176)
                              obtain ⟨ce176, hce176, hMe176, hcc176⟩ := Kd.S_get HO_4.out z40 x10_2 p176 (by first | exact q176 | exact of_decide_eq_true (by first | (with_reducible assumption) | assumption) | (have e_ := (Kd.S_reads' HO_4.out).1; omega))
                              obtain ⟨ve176_2, rfl, ge176_2⟩ := k40_openM hMe176
                              have hv176_2 := hcc176 2 _ rfl
                              rw [add_field _ _ 2 (by omega)] at hv176_2
                              replace hv176_2 := Option.some.inj (hv176_2.symm.trans hx176_2)
                              rw [hv176_2] at ge176_2
                              have HL176_2 := Aside0.mk (show Kd.R (Kd.int .u8) 5 _ _ _ _ ((rd_T40 t147 x10_2).f2) from ge176_2)
                              clear hv176_2 ge176_2
                              clear hcc176 hce176
                              have HR176_2 := Aside0.mk hi176_2
                              have HC176_2 := Aside0.mk hl176_2
                              clear hi176_2 hl176_2
                              replace p176 := eq_true p176
                              replace q176 := eq_true q176
                              have ea_ := Option.some.inj (hx174_2.symm.trans hx176_2)
                              injection ea_ with ea_ en_ ec_
                              subst ea_
                              subst ec_
                              clear en_
                              go_wp2
                              repeat (go_quiet (fail); try go_wp2)
                              go_roundg k2
                              case measure => have := HK1.out; have := HK2.out; omega
                              case rel => exact ⟨(wrap64 (x10_2 + 1)), (by first | rfl | (simp; done) | (simp [*]; done)), H', ⟨by have := HK1.out; have := HK2.out; omega⟩, ⟨by (with_reducible repeat (first | apply Kd.S_alloc | apply Kd.S_drewN | apply Kd.S_drew)); exact HO_4.out⟩, ⟨by repeat (first | (with_reducible first | exact HB.out | apply below_alloc | apply pw_below_drewN | apply below_drew1) | exact HB.out)⟩⟩
                          · rw [if_neg c52] at H
                            have c52b0 : ((Go.bits .and .i64 ((rd_T40 t147 x10_2).f1) 2) == 0) = false := beq_eq_false_iff_ne.mpr c52
                            have c52b1 : ((Go.bits .and .i64 ((rd_T40 t147 x10_2).f1) 2) != 0) = true := bne_iff_ne.mpr c52
                            by_cases c61 : (Go.bits .and .i64 ((rd_T40 t147 x10_2).f1) 1) = 0
                            · rw [if_pos c61] at H
                              have c61b0 : ((Go.bits .and .i64 ((rd_T40 t147 x10_2).f1) 1) == 0) = true := beq_iff_eq.mpr c61
                              have c61b1 : ((Go.bits .and .i64 ((rd_T40 t147 x10_2).f1) 1) != 0) = false := bne_eq_false_iff_eq.mpr c61
                              clear c61
                              by_cases c62 : x10_2 > 0
                              · rw [if_pos c62] at H
                                have c62b0 : decide (0 < x10_2) = true := decide_eq_true c62
                                clear c62
                                obtain ⟨ji63, hji63⟩ : ∃ j_ : Int, (wrap64 (x10_2 - 1)) = j_ := ⟨_, rfl⟩
                                replace H : (if 0 ≤ (ji63) then (if (ji63) < (t147.length : Int) then (if (IntKind.u64.wrap (Int.tdiv ((rd_T40 t147 x10_2).f0) 4096)) ≤ (IntKind.u64.wrap (Int.tdiv (IntKind.u64.wrap ((IntKind.u64.wrap (((rd_T40 t147 (ji63)).f0) + ((rd_T40 t147 (ji63)).f3))) - 1)) 4096)) then (some false) else (dovetaillaw23_AddrApart.l3 k2 t147 (wrap64 (x10_2 + 1)))) else (none)) else (none)) = some r := by first | (rw [hji63] at H; exact H) | (simp only [hji63] at H ⊢; exact H)
                                have hji63w : (IntKind.i64.wrap (x10_2 - 1)) = ji63 := (i64_w _).trans hji63
                                by_cases c64 : 0 ≤ (ji63)
                                · rw [if_pos c64] at H
                                  have c64b0 : decide (0 ≤ (ji63)) = true := decide_eq_true c64
                                  clear c64
                                  by_cases c65 : (ji63) < (t147.length : Int)
                                  · rw [if_pos c65] at H
                                    have c65b0 : decide ((ji63) < (t147.length : Int)) = true := decide_eq_true c65
                                    clear c65
                                    by_cases c66 : (IntKind.u64.wrap (Int.tdiv ((rd_T40 t147 x10_2).f0) 4096)) ≤ (IntKind.u64.wrap (Int.tdiv (IntKind.u64.wrap ((IntKind.u64.wrap (((rd_T40 t147 (ji63)).f0) + ((rd_T40 t147 (ji63)).f3))) - 1)) 4096))
                                    · rw [if_pos c66] at H
                                      have c66b0 : decide ((IntKind.u64.wrap (Int.tdiv ((rd_T40 t147 x10_2).f0) 4096)) ≤ (IntKind.u64.wrap (Int.tdiv (IntKind.u64.wrap ((IntKind.u64.wrap (((rd_T40 t147 (ji63)).f0) + ((rd_T40 t147 (ji63)).f3))) - 1)) 4096))) = true := decide_eq_true c66
                                      clear c66
                                      obtain rfl := Option.some.inj H
                                      obtain ⟨Ao67, co67, eo67⟩ := Kd.S_slice HO_4.out
                                      subst eo67
                                      have p174 : 0 ≤ (x10_2 : Int) := of_decide_eq_true (by first | (with_reducible assumption) | assumption)
                                      have q174 : x10_2 < (t147.length : Int) := of_decide_eq_true (by first | (with_reducible assumption) | assumption)
                                      obtain ⟨ad174, A174_2, c174_2, e174, hx174_0, hx174_1, hx174_2, hx174_3, hl174_2, hi174_2⟩ := at_T40 (Kd.S_reads' HO_4.out).2.2 x10_2 p174 q174
                                      cases e174
                                      obtain ⟨ce174, hce174, hMe174, hcc174⟩ := Kd.S_get HO_4.out z40 x10_2 p174 (by first | exact q174 | exact of_decide_eq_true (by first | (with_reducible assumption) | assumption) | (have e_ := (Kd.S_reads' HO_4.out).1; omega))
                                      obtain ⟨ve174_2, rfl, ge174_2⟩ := k40_openM hMe174
                                      have hv174_2 := hcc174 2 _ rfl
                                      rw [add_field _ _ 2 (by omega)] at hv174_2
                                      replace hv174_2 := Option.some.inj (hv174_2.symm.trans hx174_2)
                                      rw [hv174_2] at ge174_2
                                      have HL174_2 := Aside0.mk (show Kd.R (Kd.int .u8) 5 _ _ _ _ ((rd_T40 t147 x10_2).f2) from ge174_2)
                                      clear hv174_2 ge174_2
                                      clear hcc174 hce174
                                      have HR174_2 := Aside0.mk hi174_2
                                      have HC174_2 := Aside0.mk hl174_2
                                      clear hi174_2 hl174_2
                                      replace p174 := eq_true p174
                                      replace q174 := eq_true q174
                                      have p175 : 0 ≤ (x10_2 : Int) := of_decide_eq_true (by first | (with_reducible assumption) | assumption)
                                      have q175 : x10_2 < (t147.length : Int) := of_decide_eq_true (by first | (with_reducible assumption) | assumption)
                                      obtain ⟨ad175, A175_2, c175_2, e175, hx175_0, hx175_1, hx175_2, hx175_3, hl175_2, hi175_2⟩ := at_T40 (Kd.S_reads' HO_4.out).2.2 x10_2 p175 q175
                                      obtain rfl : ad174 = ad175 := (by injection e175)
                                      obtain ⟨ce175, hce175, hMe175, hcc175⟩ := Kd.S_get HO_4.out z40 x10_2 p175 (by first | exact q175 | exact of_decide_eq_true (by first | (with_reducible assumption) | assumption) | (have e_ := (Kd.S_reads' HO_4.out).1; omega))
                                      obtain ⟨ve175_2, rfl, ge175_2⟩ := k40_openM hMe175
                                      have hv175_2 := hcc175 2 _ rfl
                                      rw [add_field _ _ 2 (by omega)] at hv175_2
                                      replace hv175_2 := Option.some.inj (hv175_2.symm.trans hx175_2)
                                      rw [hv175_2] at ge175_2
                                      have HL175_2 := Aside0.mk (show Kd.R (Kd.int .u8) 5 _ _ _ _ ((rd_T40 t147 x10_2).f2) from ge175_2)
                                      clear hv175_2 ge175_2
                                      clear hcc175 hce175
                                      have HR175_2 := Aside0.mk hi175_2
                                      have HC175_2 := Aside0.mk hl175_2
                                      clear hi175_2 hl175_2
                                      replace p175 := eq_true p175
                                      replace q175 := eq_true q175
                                      have ea_ := Option.some.inj (hx174_2.symm.trans hx175_2)
                                      injection ea_ with ea_ en_ ec_
                                      subst ea_
                                      subst ec_
                                      clear en_
                                      have p176 : 0 ≤ (x10_2 : Int) := of_decide_eq_true (by first | (with_reducible assumption) | assumption)
                                      have q176 : x10_2 < (t147.length : Int) := of_decide_eq_true (by first | (with_reducible assumption) | assumption)
                                      obtain ⟨ad176, A176_2, c176_2, e176, hx176_0, hx176_1, hx176_2, hx176_3, hl176_2, hi176_2⟩ := at_T40 (Kd.S_reads' HO_4.out).2.2 x10_2 p176 q176
                                      obtain rfl : ad174 = ad176 := (by injection e176)
                                      obtain ⟨ce176, hce176, hMe176, hcc176⟩ := Kd.S_get HO_4.out z40 x10_2 p176 (by first | exact q176 | exact of_decide_eq_true (by first | (with_reducible assumption) | assumption) | (have e_ := (Kd.S_reads' HO_4.out).1; omega))
                                      obtain ⟨ve176_2, rfl, ge176_2⟩ := k40_openM hMe176
                                      have hv176_2 := hcc176 2 _ rfl
                                      rw [add_field _ _ 2 (by omega)] at hv176_2
                                      replace hv176_2 := Option.some.inj (hv176_2.symm.trans hx176_2)
                                      rw [hv176_2] at ge176_2
                                      have HL176_2 := Aside0.mk (show Kd.R (Kd.int .u8) 5 _ _ _ _ ((rd_T40 t147 x10_2).f2) from ge176_2)
                                      clear hv176_2 ge176_2
                                      clear hcc176 hce176
                                      have HR176_2 := Aside0.mk hi176_2
                                      have HC176_2 := Aside0.mk hl176_2
                                      clear hi176_2 hl176_2
                                      replace p176 := eq_true p176
                                      replace q176 := eq_true q176
                                      have ea_ := Option.some.inj (hx174_2.symm.trans hx176_2)
                                      injection ea_ with ea_ en_ ec_
                                      subst ea_
                                      subst ec_
                                      clear en_
                                      have p180 : 0 ≤ (x10_2 : Int) := of_decide_eq_true (by first | (with_reducible assumption) | assumption)
                                      have q180 : x10_2 < (t147.length : Int) := of_decide_eq_true (by first | (with_reducible assumption) | assumption)
                                      obtain ⟨ad180, A180_2, c180_2, e180, hx180_0, hx180_1, hx180_2, hx180_3, hl180_2, hi180_2⟩ := at_T40 (Kd.S_reads' HO_4.out).2.2 x10_2 p180 q180
                                      obtain rfl : ad174 = ad180 := (by injection e180)
                                      obtain ⟨ce180, hce180, hMe180, hcc180⟩ := Kd.S_get HO_4.out z40 x10_2 p180 (by first | exact q180 | exact of_decide_eq_true (by first | (with_reducible assumption) | assumption) | (have e_ := (Kd.S_reads' HO_4.out).1; omega))
                                      obtain ⟨ve180_2, rfl, ge180_2⟩ := k40_openM hMe180
                                      have hv180_2 := hcc180 2 _ rfl
                                      rw [add_field _ _ 2 (by omega)] at hv180_2
                                      replace hv180_2 := Option.some.inj (hv180_2.symm.trans hx180_2)
                                      rw [hv180_2] at ge180_2
                                      have HL180_2 := Aside0.mk (show Kd.R (Kd.int .u8) 5 _ _ _ _ ((rd_T40 t147 x10_2).f2) from ge180_2)
                                      clear hv180_2 ge180_2
                                      clear hcc180 hce180
                                      have HR180_2 := Aside0.mk hi180_2
                                      have HC180_2 := Aside0.mk hl180_2
                                      clear hi180_2 hl180_2
                                      replace p180 := eq_true p180
                                      replace q180 := eq_true q180
                                      have ea_ := Option.some.inj (hx174_2.symm.trans hx180_2)
                                      injection ea_ with ea_ en_ ec_
                                      subst ea_
                                      subst ec_
                                      clear en_
                                      have p181 : 0 ≤ (x10_2 : Int) := of_decide_eq_true (by first | (with_reducible assumption) | assumption)
                                      have q181 : x10_2 < (t147.length : Int) := of_decide_eq_true (by first | (with_reducible assumption) | assumption)
                                      obtain ⟨ad181, A181_2, c181_2, e181, hx181_0, hx181_1, hx181_2, hx181_3, hl181_2, hi181_2⟩ := at_T40 (Kd.S_reads' HO_4.out).2.2 x10_2 p181 q181
                                      obtain rfl : ad174 = ad181 := (by injection e181)
                                      obtain ⟨ce181, hce181, hMe181, hcc181⟩ := Kd.S_get HO_4.out z40 x10_2 p181 (by first | exact q181 | exact of_decide_eq_true (by first | (with_reducible assumption) | assumption) | (have e_ := (Kd.S_reads' HO_4.out).1; omega))
                                      obtain ⟨ve181_2, rfl, ge181_2⟩ := k40_openM hMe181
                                      have hv181_2 := hcc181 2 _ rfl
                                      rw [add_field _ _ 2 (by omega)] at hv181_2
                                      replace hv181_2 := Option.some.inj (hv181_2.symm.trans hx181_2)
                                      rw [hv181_2] at ge181_2
                                      have HL181_2 := Aside0.mk (show Kd.R (Kd.int .u8) 5 _ _ _ _ ((rd_T40 t147 x10_2).f2) from ge181_2)
                                      clear hv181_2 ge181_2
                                      clear hcc181 hce181
                                      have HR181_2 := Aside0.mk hi181_2
                                      have HC181_2 := Aside0.mk hl181_2
                                      clear hi181_2 hl181_2
                                      replace p181 := eq_true p181
                                      replace q181 := eq_true q181
                                      have ea_ := Option.some.inj (hx174_2.symm.trans hx181_2)
                                      injection ea_ with ea_ en_ ec_
                                      subst ea_
                                      subst ec_
                                      clear en_
                                      have p182 : 0 ≤ ((ji63) : Int) := of_decide_eq_true (by first | (with_reducible assumption) | assumption)
                                      have q182 : (ji63) < (t147.length : Int) := of_decide_eq_true (by first | (with_reducible assumption) | assumption)
                                      obtain ⟨ad182, A182_2, c182_2, e182, hx182_0, hx182_1, hx182_2, hx182_3, hl182_2, hi182_2⟩ := at_T40 (Kd.S_reads' HO_4.out).2.2 (ji63) p182 q182
                                      obtain rfl : ad174 = ad182 := (by injection e182)
                                      obtain ⟨ce182, hce182, hMe182, hcc182⟩ := Kd.S_get HO_4.out z40 (ji63) p182 (by first | exact q182 | exact of_decide_eq_true (by first | (with_reducible assumption) | assumption) | (have e_ := (Kd.S_reads' HO_4.out).1; omega))
                                      obtain ⟨ve182_2, rfl, ge182_2⟩ := k40_openM hMe182
                                      have hv182_2 := hcc182 2 _ rfl
                                      rw [add_field _ _ 2 (by omega)] at hv182_2
                                      replace hv182_2 := Option.some.inj (hv182_2.symm.trans hx182_2)
                                      rw [hv182_2] at ge182_2
                                      have HL182_2 := Aside0.mk (show Kd.R (Kd.int .u8) 5 _ _ _ _ ((rd_T40 t147 (ji63)).f2) from ge182_2)
                                      clear hv182_2 ge182_2
                                      clear hcc182 hce182
                                      have HR182_2 := Aside0.mk hi182_2
                                      have HC182_2 := Aside0.mk hl182_2
                                      clear hi182_2 hl182_2
                                      replace p182 := eq_true p182
                                      replace q182 := eq_true q182
                                      have p183 : 0 ≤ ((ji63) : Int) := of_decide_eq_true (by first | (with_reducible assumption) | assumption)
                                      have q183 : (ji63) < (t147.length : Int) := of_decide_eq_true (by first | (with_reducible assumption) | assumption)
                                      obtain ⟨ad183, A183_2, c183_2, e183, hx183_0, hx183_1, hx183_2, hx183_3, hl183_2, hi183_2⟩ := at_T40 (Kd.S_reads' HO_4.out).2.2 (ji63) p183 q183
                                      obtain rfl : ad174 = ad183 := (by injection e183)
                                      obtain ⟨ce183, hce183, hMe183, hcc183⟩ := Kd.S_get HO_4.out z40 (ji63) p183 (by first | exact q183 | exact of_decide_eq_true (by first | (with_reducible assumption) | assumption) | (have e_ := (Kd.S_reads' HO_4.out).1; omega))
                                      obtain ⟨ve183_2, rfl, ge183_2⟩ := k40_openM hMe183
                                      have hv183_2 := hcc183 2 _ rfl
                                      rw [add_field _ _ 2 (by omega)] at hv183_2
                                      replace hv183_2 := Option.some.inj (hv183_2.symm.trans hx183_2)
                                      rw [hv183_2] at ge183_2
                                      have HL183_2 := Aside0.mk (show Kd.R (Kd.int .u8) 5 _ _ _ _ ((rd_T40 t147 (ji63)).f2) from ge183_2)
                                      clear hv183_2 ge183_2
                                      clear hcc183 hce183
                                      have HR183_2 := Aside0.mk hi183_2
                                      have HC183_2 := Aside0.mk hl183_2
                                      clear hi183_2 hl183_2
                                      replace p183 := eq_true p183
                                      replace q183 := eq_true q183
                                      have ea_ := Option.some.inj (hx182_2.symm.trans hx183_2)
                                      injection ea_ with ea_ en_ ec_
                                      subst ea_
                                      subst ec_
                                      clear en_
                                      go_wp2
                                      repeat (go_quiet (fail); try go_wp2)
                                      go_ret
                                      exact ⟨by first | rfl | (simp [errW_none, errW_some] <;> rfl) | (simp only [← hji63]; first | rfl | (simp [errW_none, errW_some] <;> rfl)) | (simp [*, errW_none, errW_some] <;> rfl), by repeat (first | (with_reducible first | exact HB.out | apply below_alloc | apply pw_below_drewN | apply below_drew1) | exact HB.out)⟩
                                    · rw [if_neg c66] at H
                                      have c66b0 : decide ((IntKind.u64.wrap (Int.tdiv ((rd_T40 t147 x10_2).f0) 4096)) ≤ (IntKind.u64.wrap (Int.tdiv (IntKind.u64.wrap ((IntKind.u64.wrap (((rd_T40 t147 (ji63)).f0) + ((rd_T40 t147 (ji63)).f3))) - 1)) 4096))) = false := decide_eq_false c66
                                      clear c66
                                      have H' := Aside0.mk H
                                      clear H
                                      obtain ⟨Ao68, co68, eo68⟩ := Kd.S_slice HO_4.out
                                      subst eo68
                                      have p174 : 0 ≤ (x10_2 : Int) := of_decide_eq_true (by first | (with_reducible assumption) | assumption)
                                      have q174 : x10_2 < (t147.length : Int) := of_decide_eq_true (by first | (with_reducible assumption) | assumption)
                                      obtain ⟨ad174, A174_2, c174_2, e174, hx174_0, hx174_1, hx174_2, hx174_3, hl174_2, hi174_2⟩ := at_T40 (Kd.S_reads' HO_4.out).2.2 x10_2 p174 q174
                                      cases e174
                                      obtain ⟨ce174, hce174, hMe174, hcc174⟩ := Kd.S_get HO_4.out z40 x10_2 p174 (by first | exact q174 | exact of_decide_eq_true (by first | (with_reducible assumption) | assumption) | (have e_ := (Kd.S_reads' HO_4.out).1; omega))
                                      obtain ⟨ve174_2, rfl, ge174_2⟩ := k40_openM hMe174
                                      have hv174_2 := hcc174 2 _ rfl
                                      rw [add_field _ _ 2 (by omega)] at hv174_2
                                      replace hv174_2 := Option.some.inj (hv174_2.symm.trans hx174_2)
                                      rw [hv174_2] at ge174_2
                                      have HL174_2 := Aside0.mk (show Kd.R (Kd.int .u8) 5 _ _ _ _ ((rd_T40 t147 x10_2).f2) from ge174_2)
                                      clear hv174_2 ge174_2
                                      clear hcc174 hce174
                                      have HR174_2 := Aside0.mk hi174_2
                                      have HC174_2 := Aside0.mk hl174_2
                                      clear hi174_2 hl174_2
                                      replace p174 := eq_true p174
                                      replace q174 := eq_true q174
                                      have p175 : 0 ≤ (x10_2 : Int) := of_decide_eq_true (by first | (with_reducible assumption) | assumption)
                                      have q175 : x10_2 < (t147.length : Int) := of_decide_eq_true (by first | (with_reducible assumption) | assumption)
                                      obtain ⟨ad175, A175_2, c175_2, e175, hx175_0, hx175_1, hx175_2, hx175_3, hl175_2, hi175_2⟩ := at_T40 (Kd.S_reads' HO_4.out).2.2 x10_2 p175 q175
                                      obtain rfl : ad174 = ad175 := (by injection e175)
                                      obtain ⟨ce175, hce175, hMe175, hcc175⟩ := Kd.S_get HO_4.out z40 x10_2 p175 (by first | exact q175 | exact of_decide_eq_true (by first | (with_reducible assumption) | assumption) | (have e_ := (Kd.S_reads' HO_4.out).1; omega))
                                      obtain ⟨ve175_2, rfl, ge175_2⟩ := k40_openM hMe175
                                      have hv175_2 := hcc175 2 _ rfl
                                      rw [add_field _ _ 2 (by omega)] at hv175_2
                                      replace hv175_2 := Option.some.inj (hv175_2.symm.trans hx175_2)
                                      rw [hv175_2] at ge175_2
                                      have HL175_2 := Aside0.mk (show Kd.R (Kd.int .u8) 5 _ _ _ _ ((rd_T40 t147 x10_2).f2) from ge175_2)
                                      clear hv175_2 ge175_2
                                      clear hcc175 hce175
                                      have HR175_2 := Aside0.mk hi175_2
                                      have HC175_2 := Aside0.mk hl175_2
                                      clear hi175_2 hl175_2
                                      replace p175 := eq_true p175
                                      replace q175 := eq_true q175
                                      have ea_ := Option.some.inj (hx174_2.symm.trans hx175_2)
                                      injection ea_ with ea_ en_ ec_
                                      subst ea_
                                      subst ec_
                                      clear en_
                                      have p176 : 0 ≤ (x10_2 : Int) := of_decide_eq_true (by first | (with_reducible assumption) | assumption)
                                      have q176 : x10_2 < (t147.length : Int) := of_decide_eq_true (by first | (with_reducible assumption) | assumption)
                                      obtain ⟨ad176, A176_2, c176_2, e176, hx176_0, hx176_1, hx176_2, hx176_3, hl176_2, hi176_2⟩ := at_T40 (Kd.S_reads' HO_4.out).2.2 x10_2 p176 q176
                                      obtain rfl : ad174 = ad176 := (by injection e176)
                                      obtain ⟨ce176, hce176, hMe176, hcc176⟩ := Kd.S_get HO_4.out z40 x10_2 p176 (by first | exact q176 | exact of_decide_eq_true (by first | (with_reducible assumption) | assumption) | (have e_ := (Kd.S_reads' HO_4.out).1; omega))
                                      obtain ⟨ve176_2, rfl, ge176_2⟩ := k40_openM hMe176
                                      have hv176_2 := hcc176 2 _ rfl
                                      rw [add_field _ _ 2 (by omega)] at hv176_2
                                      replace hv176_2 := Option.some.inj (hv176_2.symm.trans hx176_2)
                                      rw [hv176_2] at ge176_2
                                      have HL176_2 := Aside0.mk (show Kd.R (Kd.int .u8) 5 _ _ _ _ ((rd_T40 t147 x10_2).f2) from ge176_2)
                                      clear hv176_2 ge176_2
                                      clear hcc176 hce176
                                      have HR176_2 := Aside0.mk hi176_2
                                      have HC176_2 := Aside0.mk hl176_2
                                      clear hi176_2 hl176_2
                                      replace p176 := eq_true p176
                                      replace q176 := eq_true q176
                                      have ea_ := Option.some.inj (hx174_2.symm.trans hx176_2)
                                      injection ea_ with ea_ en_ ec_
                                      subst ea_
                                      subst ec_
                                      clear en_
                                      have p180 : 0 ≤ (x10_2 : Int) := of_decide_eq_true (by first | (with_reducible assumption) | assumption)
                                      have q180 : x10_2 < (t147.length : Int) := of_decide_eq_true (by first | (with_reducible assumption) | assumption)
                                      obtain ⟨ad180, A180_2, c180_2, e180, hx180_0, hx180_1, hx180_2, hx180_3, hl180_2, hi180_2⟩ := at_T40 (Kd.S_reads' HO_4.out).2.2 x10_2 p180 q180
                                      obtain rfl : ad174 = ad180 := (by injection e180)
                                      obtain ⟨ce180, hce180, hMe180, hcc180⟩ := Kd.S_get HO_4.out z40 x10_2 p180 (by first | exact q180 | exact of_decide_eq_true (by first | (with_reducible assumption) | assumption) | (have e_ := (Kd.S_reads' HO_4.out).1; omega))
                                      obtain ⟨ve180_2, rfl, ge180_2⟩ := k40_openM hMe180
                                      have hv180_2 := hcc180 2 _ rfl
                                      rw [add_field _ _ 2 (by omega)] at hv180_2
                                      replace hv180_2 := Option.some.inj (hv180_2.symm.trans hx180_2)
                                      rw [hv180_2] at ge180_2
                                      have HL180_2 := Aside0.mk (show Kd.R (Kd.int .u8) 5 _ _ _ _ ((rd_T40 t147 x10_2).f2) from ge180_2)
                                      clear hv180_2 ge180_2
                                      clear hcc180 hce180
                                      have HR180_2 := Aside0.mk hi180_2
                                      have HC180_2 := Aside0.mk hl180_2
                                      clear hi180_2 hl180_2
                                      replace p180 := eq_true p180
                                      replace q180 := eq_true q180
                                      have ea_ := Option.some.inj (hx174_2.symm.trans hx180_2)
                                      injection ea_ with ea_ en_ ec_
                                      subst ea_
                                      subst ec_
                                      clear en_
                                      have p181 : 0 ≤ (x10_2 : Int) := of_decide_eq_true (by first | (with_reducible assumption) | assumption)
                                      have q181 : x10_2 < (t147.length : Int) := of_decide_eq_true (by first | (with_reducible assumption) | assumption)
                                      obtain ⟨ad181, A181_2, c181_2, e181, hx181_0, hx181_1, hx181_2, hx181_3, hl181_2, hi181_2⟩ := at_T40 (Kd.S_reads' HO_4.out).2.2 x10_2 p181 q181
                                      obtain rfl : ad174 = ad181 := (by injection e181)
                                      obtain ⟨ce181, hce181, hMe181, hcc181⟩ := Kd.S_get HO_4.out z40 x10_2 p181 (by first | exact q181 | exact of_decide_eq_true (by first | (with_reducible assumption) | assumption) | (have e_ := (Kd.S_reads' HO_4.out).1; omega))
                                      obtain ⟨ve181_2, rfl, ge181_2⟩ := k40_openM hMe181
                                      have hv181_2 := hcc181 2 _ rfl
                                      rw [add_field _ _ 2 (by omega)] at hv181_2
                                      replace hv181_2 := Option.some.inj (hv181_2.symm.trans hx181_2)
                                      rw [hv181_2] at ge181_2
                                      have HL181_2 := Aside0.mk (show Kd.R (Kd.int .u8) 5 _ _ _ _ ((rd_T40 t147 x10_2).f2) from ge181_2)
                                      clear hv181_2 ge181_2
                                      clear hcc181 hce181
                                      have HR181_2 := Aside0.mk hi181_2
                                      have HC181_2 := Aside0.mk hl181_2
                                      clear hi181_2 hl181_2
                                      replace p181 := eq_true p181
                                      replace q181 := eq_true q181
                                      have ea_ := Option.some.inj (hx174_2.symm.trans hx181_2)
                                      injection ea_ with ea_ en_ ec_
                                      subst ea_
                                      subst ec_
                                      clear en_
                                      have p182 : 0 ≤ ((ji63) : Int) := of_decide_eq_true (by first | (with_reducible assumption) | assumption)
                                      have q182 : (ji63) < (t147.length : Int) := of_decide_eq_true (by first | (with_reducible assumption) | assumption)
                                      obtain ⟨ad182, A182_2, c182_2, e182, hx182_0, hx182_1, hx182_2, hx182_3, hl182_2, hi182_2⟩ := at_T40 (Kd.S_reads' HO_4.out).2.2 (ji63) p182 q182
                                      obtain rfl : ad174 = ad182 := (by injection e182)
                                      obtain ⟨ce182, hce182, hMe182, hcc182⟩ := Kd.S_get HO_4.out z40 (ji63) p182 (by first | exact q182 | exact of_decide_eq_true (by first | (with_reducible assumption) | assumption) | (have e_ := (Kd.S_reads' HO_4.out).1; omega))
                                      obtain ⟨ve182_2, rfl, ge182_2⟩ := k40_openM hMe182
                                      have hv182_2 := hcc182 2 _ rfl
                                      rw [add_field _ _ 2 (by omega)] at hv182_2
                                      replace hv182_2 := Option.some.inj (hv182_2.symm.trans hx182_2)
                                      rw [hv182_2] at ge182_2
                                      have HL182_2 := Aside0.mk (show Kd.R (Kd.int .u8) 5 _ _ _ _ ((rd_T40 t147 (ji63)).f2) from ge182_2)
                                      clear hv182_2 ge182_2
                                      clear hcc182 hce182
                                      have HR182_2 := Aside0.mk hi182_2
                                      have HC182_2 := Aside0.mk hl182_2
                                      clear hi182_2 hl182_2
                                      replace p182 := eq_true p182
                                      replace q182 := eq_true q182
                                      have p183 : 0 ≤ ((ji63) : Int) := of_decide_eq_true (by first | (with_reducible assumption) | assumption)
                                      have q183 : (ji63) < (t147.length : Int) := of_decide_eq_true (by first | (with_reducible assumption) | assumption)
                                      obtain ⟨ad183, A183_2, c183_2, e183, hx183_0, hx183_1, hx183_2, hx183_3, hl183_2, hi183_2⟩ := at_T40 (Kd.S_reads' HO_4.out).2.2 (ji63) p183 q183
                                      obtain rfl : ad174 = ad183 := (by injection e183)
                                      obtain ⟨ce183, hce183, hMe183, hcc183⟩ := Kd.S_get HO_4.out z40 (ji63) p183 (by first | exact q183 | exact of_decide_eq_true (by first | (with_reducible assumption) | assumption) | (have e_ := (Kd.S_reads' HO_4.out).1; omega))
                                      obtain ⟨ve183_2, rfl, ge183_2⟩ := k40_openM hMe183
                                      have hv183_2 := hcc183 2 _ rfl
                                      rw [add_field _ _ 2 (by omega)] at hv183_2
                                      replace hv183_2 := Option.some.inj (hv183_2.symm.trans hx183_2)
                                      rw [hv183_2] at ge183_2
                                      have HL183_2 := Aside0.mk (show Kd.R (Kd.int .u8) 5 _ _ _ _ ((rd_T40 t147 (ji63)).f2) from ge183_2)
                                      clear hv183_2 ge183_2
                                      clear hcc183 hce183
                                      have HR183_2 := Aside0.mk hi183_2
                                      have HC183_2 := Aside0.mk hl183_2
                                      clear hi183_2 hl183_2
                                      replace p183 := eq_true p183
                                      replace q183 := eq_true q183
                                      have ea_ := Option.some.inj (hx182_2.symm.trans hx183_2)
                                      injection ea_ with ea_ en_ ec_
                                      subst ea_
                                      subst ec_
                                      clear en_
                                      go_wp2
                                      repeat (go_quiet (fail); try go_wp2)
                                      go_roundg k2
                                      case measure => have := HK1.out; have := HK2.out; omega
                                      case rel => exact ⟨(wrap64 (x10_2 + 1)), (by first | rfl | (simp; done) | (simp [*]; done)), H', ⟨by have := HK1.out; have := HK2.out; omega⟩, ⟨by (with_reducible repeat (first | apply Kd.S_alloc | apply Kd.S_drewN | apply Kd.S_drew)); exact HO_4.out⟩, ⟨by repeat (first | (with_reducible first | exact HB.out | apply below_alloc | apply pw_below_drewN | apply below_drew1) | exact HB.out)⟩⟩
                                  · rw [if_neg c65] at H
                                    exact absurd H (by simp)
                                · rw [if_neg c64] at H
                                  exact absurd H (by simp)
                              · rw [if_neg c62] at H
                                have c62b0 : decide (0 < x10_2) = false := decide_eq_false c62
                                clear c62
                                have H' := Aside0.mk H
                                clear H
                                obtain ⟨Ao69, co69, eo69⟩ := Kd.S_slice HO_4.out
                                subst eo69
                                have p174 : 0 ≤ (x10_2 : Int) := of_decide_eq_true (by first | (with_reducible assumption) | assumption)
                                have q174 : x10_2 < (t147.length : Int) := of_decide_eq_true (by first | (with_reducible assumption) | assumption)
                                obtain ⟨ad174, A174_2, c174_2, e174, hx174_0, hx174_1, hx174_2, hx174_3, hl174_2, hi174_2⟩ := at_T40 (Kd.S_reads' HO_4.out).2.2 x10_2 p174 q174
                                cases e174
                                obtain ⟨ce174, hce174, hMe174, hcc174⟩ := Kd.S_get HO_4.out z40 x10_2 p174 (by first | exact q174 | exact of_decide_eq_true (by first | (with_reducible assumption) | assumption) | (have e_ := (Kd.S_reads' HO_4.out).1; omega))
                                obtain ⟨ve174_2, rfl, ge174_2⟩ := k40_openM hMe174
                                have hv174_2 := hcc174 2 _ rfl
                                rw [add_field _ _ 2 (by omega)] at hv174_2
                                replace hv174_2 := Option.some.inj (hv174_2.symm.trans hx174_2)
                                rw [hv174_2] at ge174_2
                                have HL174_2 := Aside0.mk (show Kd.R (Kd.int .u8) 5 _ _ _ _ ((rd_T40 t147 x10_2).f2) from ge174_2)
                                clear hv174_2 ge174_2
                                clear hcc174 hce174
                                have HR174_2 := Aside0.mk hi174_2
                                have HC174_2 := Aside0.mk hl174_2
                                clear hi174_2 hl174_2
                                replace p174 := eq_true p174
                                replace q174 := eq_true q174
                                have p175 : 0 ≤ (x10_2 : Int) := of_decide_eq_true (by first | (with_reducible assumption) | assumption)
                                have q175 : x10_2 < (t147.length : Int) := of_decide_eq_true (by first | (with_reducible assumption) | assumption)
                                obtain ⟨ad175, A175_2, c175_2, e175, hx175_0, hx175_1, hx175_2, hx175_3, hl175_2, hi175_2⟩ := at_T40 (Kd.S_reads' HO_4.out).2.2 x10_2 p175 q175
                                obtain rfl : ad174 = ad175 := (by injection e175)
                                obtain ⟨ce175, hce175, hMe175, hcc175⟩ := Kd.S_get HO_4.out z40 x10_2 p175 (by first | exact q175 | exact of_decide_eq_true (by first | (with_reducible assumption) | assumption) | (have e_ := (Kd.S_reads' HO_4.out).1; omega))
                                obtain ⟨ve175_2, rfl, ge175_2⟩ := k40_openM hMe175
                                have hv175_2 := hcc175 2 _ rfl
                                rw [add_field _ _ 2 (by omega)] at hv175_2
                                replace hv175_2 := Option.some.inj (hv175_2.symm.trans hx175_2)
                                rw [hv175_2] at ge175_2
                                have HL175_2 := Aside0.mk (show Kd.R (Kd.int .u8) 5 _ _ _ _ ((rd_T40 t147 x10_2).f2) from ge175_2)
                                clear hv175_2 ge175_2
                                clear hcc175 hce175
                                have HR175_2 := Aside0.mk hi175_2
                                have HC175_2 := Aside0.mk hl175_2
                                clear hi175_2 hl175_2
                                replace p175 := eq_true p175
                                replace q175 := eq_true q175
                                have ea_ := Option.some.inj (hx174_2.symm.trans hx175_2)
                                injection ea_ with ea_ en_ ec_
                                subst ea_
                                subst ec_
                                clear en_
                                have p176 : 0 ≤ (x10_2 : Int) := of_decide_eq_true (by first | (with_reducible assumption) | assumption)
                                have q176 : x10_2 < (t147.length : Int) := of_decide_eq_true (by first | (with_reducible assumption) | assumption)
                                obtain ⟨ad176, A176_2, c176_2, e176, hx176_0, hx176_1, hx176_2, hx176_3, hl176_2, hi176_2⟩ := at_T40 (Kd.S_reads' HO_4.out).2.2 x10_2 p176 q176
                                obtain rfl : ad174 = ad176 := (by injection e176)
                                obtain ⟨ce176, hce176, hMe176, hcc176⟩ := Kd.S_get HO_4.out z40 x10_2 p176 (by first | exact q176 | exact of_decide_eq_true (by first | (with_reducible assumption) | assumption) | (have e_ := (Kd.S_reads' HO_4.out).1; omega))
                                obtain ⟨ve176_2, rfl, ge176_2⟩ := k40_openM hMe176
                                have hv176_2 := hcc176 2 _ rfl
                                rw [add_field _ _ 2 (by omega)] at hv176_2
                                replace hv176_2 := Option.some.inj (hv176_2.symm.trans hx176_2)
                                rw [hv176_2] at ge176_2
                                have HL176_2 := Aside0.mk (show Kd.R (Kd.int .u8) 5 _ _ _ _ ((rd_T40 t147 x10_2).f2) from ge176_2)
                                clear hv176_2 ge176_2
                                clear hcc176 hce176
                                have HR176_2 := Aside0.mk hi176_2
                                have HC176_2 := Aside0.mk hl176_2
                                clear hi176_2 hl176_2
                                replace p176 := eq_true p176
                                replace q176 := eq_true q176
                                have ea_ := Option.some.inj (hx174_2.symm.trans hx176_2)
                                injection ea_ with ea_ en_ ec_
                                subst ea_
                                subst ec_
                                clear en_
                                have p180 : 0 ≤ (x10_2 : Int) := of_decide_eq_true (by first | (with_reducible assumption) | assumption)
                                have q180 : x10_2 < (t147.length : Int) := of_decide_eq_true (by first | (with_reducible assumption) | assumption)
                                obtain ⟨ad180, A180_2, c180_2, e180, hx180_0, hx180_1, hx180_2, hx180_3, hl180_2, hi180_2⟩ := at_T40 (Kd.S_reads' HO_4.out).2.2 x10_2 p180 q180
                                obtain rfl : ad174 = ad180 := (by injection e180)
                                obtain ⟨ce180, hce180, hMe180, hcc180⟩ := Kd.S_get HO_4.out z40 x10_2 p180 (by first | exact q180 | exact of_decide_eq_true (by first | (with_reducible assumption) | assumption) | (have e_ := (Kd.S_reads' HO_4.out).1; omega))
                                obtain ⟨ve180_2, rfl, ge180_2⟩ := k40_openM hMe180
                                have hv180_2 := hcc180 2 _ rfl
                                rw [add_field _ _ 2 (by omega)] at hv180_2
                                replace hv180_2 := Option.some.inj (hv180_2.symm.trans hx180_2)
                                rw [hv180_2] at ge180_2
                                have HL180_2 := Aside0.mk (show Kd.R (Kd.int .u8) 5 _ _ _ _ ((rd_T40 t147 x10_2).f2) from ge180_2)
                                clear hv180_2 ge180_2
                                clear hcc180 hce180
                                have HR180_2 := Aside0.mk hi180_2
                                have HC180_2 := Aside0.mk hl180_2
                                clear hi180_2 hl180_2
                                replace p180 := eq_true p180
                                replace q180 := eq_true q180
                                have ea_ := Option.some.inj (hx174_2.symm.trans hx180_2)
                                injection ea_ with ea_ en_ ec_
                                subst ea_
                                subst ec_
                                clear en_
                                go_wp2
                                repeat (go_quiet (fail); try go_wp2)
                                go_roundg k2
                                case measure => have := HK1.out; have := HK2.out; omega
                                case rel => exact ⟨(wrap64 (x10_2 + 1)), (by first | rfl | (simp; done) | (simp [*]; done)), H', ⟨by have := HK1.out; have := HK2.out; omega⟩, ⟨by (with_reducible repeat (first | apply Kd.S_alloc | apply Kd.S_drewN | apply Kd.S_drew)); exact HO_4.out⟩, ⟨by repeat (first | (with_reducible first | exact HB.out | apply below_alloc | apply pw_below_drewN | apply below_drew1) | exact HB.out)⟩⟩
                            · rw [if_neg c61] at H
                              have c61b0 : ((Go.bits .and .i64 ((rd_T40 t147 x10_2).f1) 1) == 0) = false := beq_eq_false_iff_ne.mpr c61
                              have c61b1 : ((Go.bits .and .i64 ((rd_T40 t147 x10_2).f1) 1) != 0) = true := bne_iff_ne.mpr c61
                              obtain rfl := Option.some.inj H
                              obtain ⟨Ao70, co70, eo70⟩ := Kd.S_slice HO_4.out
                              subst eo70
                              have p174 : 0 ≤ (x10_2 : Int) := of_decide_eq_true (by first | (with_reducible assumption) | assumption)
                              have q174 : x10_2 < (t147.length : Int) := of_decide_eq_true (by first | (with_reducible assumption) | assumption)
                              obtain ⟨ad174, A174_2, c174_2, e174, hx174_0, hx174_1, hx174_2, hx174_3, hl174_2, hi174_2⟩ := at_T40 (Kd.S_reads' HO_4.out).2.2 x10_2 p174 q174
                              cases e174
                              obtain ⟨ce174, hce174, hMe174, hcc174⟩ := Kd.S_get HO_4.out z40 x10_2 p174 (by first | exact q174 | exact of_decide_eq_true (by first | (with_reducible assumption) | assumption) | (have e_ := (Kd.S_reads' HO_4.out).1; omega))
                              obtain ⟨ve174_2, rfl, ge174_2⟩ := k40_openM hMe174
                              have hv174_2 := hcc174 2 _ rfl
                              rw [add_field _ _ 2 (by omega)] at hv174_2
                              replace hv174_2 := Option.some.inj (hv174_2.symm.trans hx174_2)
                              rw [hv174_2] at ge174_2
                              have HL174_2 := Aside0.mk (show Kd.R (Kd.int .u8) 5 _ _ _ _ ((rd_T40 t147 x10_2).f2) from ge174_2)
                              clear hv174_2 ge174_2
                              clear hcc174 hce174
                              have HR174_2 := Aside0.mk hi174_2
                              have HC174_2 := Aside0.mk hl174_2
                              clear hi174_2 hl174_2
                              replace p174 := eq_true p174
                              replace q174 := eq_true q174
                              have p175 : 0 ≤ (x10_2 : Int) := of_decide_eq_true (by first | (with_reducible assumption) | assumption)
                              have q175 : x10_2 < (t147.length : Int) := of_decide_eq_true (by first | (with_reducible assumption) | assumption)
                              obtain ⟨ad175, A175_2, c175_2, e175, hx175_0, hx175_1, hx175_2, hx175_3, hl175_2, hi175_2⟩ := at_T40 (Kd.S_reads' HO_4.out).2.2 x10_2 p175 q175
                              obtain rfl : ad174 = ad175 := (by injection e175)
                              obtain ⟨ce175, hce175, hMe175, hcc175⟩ := Kd.S_get HO_4.out z40 x10_2 p175 (by first | exact q175 | exact of_decide_eq_true (by first | (with_reducible assumption) | assumption) | (have e_ := (Kd.S_reads' HO_4.out).1; omega))
                              obtain ⟨ve175_2, rfl, ge175_2⟩ := k40_openM hMe175
                              have hv175_2 := hcc175 2 _ rfl
                              rw [add_field _ _ 2 (by omega)] at hv175_2
                              replace hv175_2 := Option.some.inj (hv175_2.symm.trans hx175_2)
                              rw [hv175_2] at ge175_2
                              have HL175_2 := Aside0.mk (show Kd.R (Kd.int .u8) 5 _ _ _ _ ((rd_T40 t147 x10_2).f2) from ge175_2)
                              clear hv175_2 ge175_2
                              clear hcc175 hce175
                              have HR175_2 := Aside0.mk hi175_2
                              have HC175_2 := Aside0.mk hl175_2
                              clear hi175_2 hl175_2
                              replace p175 := eq_true p175
                              replace q175 := eq_true q175
                              have ea_ := Option.some.inj (hx174_2.symm.trans hx175_2)
                              injection ea_ with ea_ en_ ec_
                              subst ea_
                              subst ec_
                              clear en_
                              have p176 : 0 ≤ (x10_2 : Int) := of_decide_eq_true (by first | (with_reducible assumption) | assumption)
                              have q176 : x10_2 < (t147.length : Int) := of_decide_eq_true (by first | (with_reducible assumption) | assumption)
                              obtain ⟨ad176, A176_2, c176_2, e176, hx176_0, hx176_1, hx176_2, hx176_3, hl176_2, hi176_2⟩ := at_T40 (Kd.S_reads' HO_4.out).2.2 x10_2 p176 q176
                              obtain rfl : ad174 = ad176 := (by injection e176)
                              obtain ⟨ce176, hce176, hMe176, hcc176⟩ := Kd.S_get HO_4.out z40 x10_2 p176 (by first | exact q176 | exact of_decide_eq_true (by first | (with_reducible assumption) | assumption) | (have e_ := (Kd.S_reads' HO_4.out).1; omega))
                              obtain ⟨ve176_2, rfl, ge176_2⟩ := k40_openM hMe176
                              have hv176_2 := hcc176 2 _ rfl
                              rw [add_field _ _ 2 (by omega)] at hv176_2
                              replace hv176_2 := Option.some.inj (hv176_2.symm.trans hx176_2)
                              rw [hv176_2] at ge176_2
                              have HL176_2 := Aside0.mk (show Kd.R (Kd.int .u8) 5 _ _ _ _ ((rd_T40 t147 x10_2).f2) from ge176_2)
                              clear hv176_2 ge176_2
                              clear hcc176 hce176
                              have HR176_2 := Aside0.mk hi176_2
                              have HC176_2 := Aside0.mk hl176_2
                              clear hi176_2 hl176_2
                              replace p176 := eq_true p176
                              replace q176 := eq_true q176
                              have ea_ := Option.some.inj (hx174_2.symm.trans hx176_2)
                              injection ea_ with ea_ en_ ec_
                              subst ea_
                              subst ec_
                              clear en_
                              have p180 : 0 ≤ (x10_2 : Int) := of_decide_eq_true (by first | (with_reducible assumption) | assumption)
                              have q180 : x10_2 < (t147.length : Int) := of_decide_eq_true (by first | (with_reducible assumption) | assumption)
                              obtain ⟨ad180, A180_2, c180_2, e180, hx180_0, hx180_1, hx180_2, hx180_3, hl180_2, hi180_2⟩ := at_T40 (Kd.S_reads' HO_4.out).2.2 x10_2 p180 q180
                              obtain rfl : ad174 = ad180 := (by injection e180)
                              obtain ⟨ce180, hce180, hMe180, hcc180⟩ := Kd.S_get HO_4.out z40 x10_2 p180 (by first | exact q180 | exact of_decide_eq_true (by first | (with_reducible assumption) | assumption) | (have e_ := (Kd.S_reads' HO_4.out).1; omega))
                              obtain ⟨ve180_2, rfl, ge180_2⟩ := k40_openM hMe180
                              have hv180_2 := hcc180 2 _ rfl
                              rw [add_field _ _ 2 (by omega)] at hv180_2
                              replace hv180_2 := Option.some.inj (hv180_2.symm.trans hx180_2)
                              rw [hv180_2] at ge180_2
                              have HL180_2 := Aside0.mk (show Kd.R (Kd.int .u8) 5 _ _ _ _ ((rd_T40 t147 x10_2).f2) from ge180_2)
                              clear hv180_2 ge180_2
                              clear hcc180 hce180
                              have HR180_2 := Aside0.mk hi180_2
                              have HC180_2 := Aside0.mk hl180_2
                              clear hi180_2 hl180_2
                              replace p180 := eq_true p180
                              replace q180 := eq_true q180
                              have ea_ := Option.some.inj (hx174_2.symm.trans hx180_2)
                              injection ea_ with ea_ en_ ec_
                              subst ea_
                              subst ec_
                              clear en_
                              go_wp2
                              repeat (go_quiet (fail); try go_wp2)
                              go_ret
                              exact ⟨by first | rfl | (simp [errW_none, errW_some] <;> rfl) | (simp [*, errW_none, errW_some] <;> rfl), by repeat (first | (with_reducible first | exact HB.out | apply below_alloc | apply pw_below_drewN | apply below_drew1) | exact HB.out)⟩
                      · rw [if_neg c49] at H
                        have c49b0 : ((Int.tmod ((rd_T40 t147 x10_2).f0) 4096) == 0) = false := beq_eq_false_iff_ne.mpr c49
                        have c49b1 : ((Int.tmod ((rd_T40 t147 x10_2).f0) 4096) != 0) = true := bne_iff_ne.mpr c49
                        obtain rfl := Option.some.inj H
                        obtain ⟨Ao71, co71, eo71⟩ := Kd.S_slice HO_4.out
                        subst eo71
                        have p174 : 0 ≤ (x10_2 : Int) := of_decide_eq_true (by first | (with_reducible assumption) | assumption)
                        have q174 : x10_2 < (t147.length : Int) := of_decide_eq_true (by first | (with_reducible assumption) | assumption)
                        obtain ⟨ad174, A174_2, c174_2, e174, hx174_0, hx174_1, hx174_2, hx174_3, hl174_2, hi174_2⟩ := at_T40 (Kd.S_reads' HO_4.out).2.2 x10_2 p174 q174
                        cases e174
                        obtain ⟨ce174, hce174, hMe174, hcc174⟩ := Kd.S_get HO_4.out z40 x10_2 p174 (by first | exact q174 | exact of_decide_eq_true (by first | (with_reducible assumption) | assumption) | (have e_ := (Kd.S_reads' HO_4.out).1; omega))
                        obtain ⟨ve174_2, rfl, ge174_2⟩ := k40_openM hMe174
                        have hv174_2 := hcc174 2 _ rfl
                        rw [add_field _ _ 2 (by omega)] at hv174_2
                        replace hv174_2 := Option.some.inj (hv174_2.symm.trans hx174_2)
                        rw [hv174_2] at ge174_2
                        have HL174_2 := Aside0.mk (show Kd.R (Kd.int .u8) 5 _ _ _ _ ((rd_T40 t147 x10_2).f2) from ge174_2)
                        clear hv174_2 ge174_2
                        clear hcc174 hce174
                        have HR174_2 := Aside0.mk hi174_2
                        have HC174_2 := Aside0.mk hl174_2
                        clear hi174_2 hl174_2
                        replace p174 := eq_true p174
                        replace q174 := eq_true q174
                        go_wp2
                        repeat (go_quiet (fail); try go_wp2)
                        go_ret
                        exact ⟨by first | rfl | (simp [errW_none, errW_some] <;> rfl) | (simp [*, errW_none, errW_some] <;> rfl), by repeat (first | (with_reducible first | exact HB.out | apply below_alloc | apply pw_below_drewN | apply below_drew1) | exact HB.out)⟩
                    · rw [if_neg c48] at H
                      exact absurd H (by simp)
                  · rw [if_neg c47] at H
                    have c47b0 : decide (x10_2 < (t147.length : Int)) = false := decide_eq_false c47
                    clear c47
                    obtain rfl := Option.some.inj H
                    obtain ⟨Ao72, co72, eo72⟩ := Kd.S_slice HO_4.out
                    subst eo72
                    go_wp2
                    repeat (go_quiet (fail); try go_wp2)
                    go_ret
                    exact ⟨by first | rfl | (simp [errW_none, errW_some] <;> rfl) | (simp [*, errW_none, errW_some] <;> rfl), by repeat (first | (with_reducible first | exact HB.out | apply below_alloc | apply pw_below_drewN | apply below_drew1) | exact HB.out)⟩
      · rw [if_neg c8] at H
        have c8b0 : (t148 == 0) = false := beq_eq_false_iff_ne.mpr c8
        have c8b1 : (t148 != 0) = true := bne_iff_ne.mpr c8
        by_cases c73 : t148 = 55
        · rw [if_pos c73] at H
          have c73b0 : (t148 == 55) = true := beq_iff_eq.mpr c73
          have c73b1 : (t148 != 55) = false := bne_eq_false_iff_eq.mpr c73
          clear c73
          by_cases c74 : (t146.length : Int) = 0
          · rw [if_pos c74] at H
            have c74b0 : ((t146.length : Int) == 0) = true := beq_iff_eq.mpr c74
            have c74b1 : ((t146.length : Int) != 0) = false := bne_eq_false_iff_eq.mpr c74
            clear c74
            obtain rfl := Option.some.inj H
            go_enter Try.func4, Try.ntmps4
            go_wp2_with (first | (go_at_call 7; (with_reducible refine (dovetaillaw23_known.calls  true _ A2.out).mono ?_); rintro e w75 ⟨rfl, hb⟩; have n0_ := Aside0.mk (below_step (by repeat (first | (with_reducible first | exact HB.out | apply below_alloc | apply pw_below_drewN | apply below_drew1) | exact HB.out)) hb); clear HB; have HB := n0_; clear n0_; (try clear hb); (try clear hb2); (try clear hk); (try clear hi)) | (go_at_call 9; (with_reducible refine (dovetaillaw23_pieces.calls k _ _ l0 t143 _ ?side1 ?side2 A6.out).mono ?_); (case side1 => repeat (first | exact (Kd.C_below HR0.out HB.out) | (with_reducible refine Kd.C_alloc ?_ _) | (with_reducible refine Kd.C_drewN ?_ _) | (with_reducible refine Kd.C_drew ?_))); (case side2 => exact HC0.out); rintro e w76 ⟨v144, rfl, ho0, hb⟩; have n0_ := Aside0.mk (Kd.R_lower ho0 (below_size (by repeat (first | (with_reducible first | exact HB.out | apply below_alloc | apply pw_below_drewN | apply below_drew1) | exact HB.out)))); have n1_ := Aside0.mk (below_step (by repeat (first | (with_reducible first | exact HB.out | apply below_alloc | apply pw_below_drewN | apply below_drew1) | exact HB.out)) hb); clear HB; have HO145 := n0_; have HB := n1_; clear n0_ n1_; (try clear hb); (try clear hb2); (try clear hk); (try clear hi); (try clear ho0); obtain ⟨Ao77, co77, eo77⟩ := Kd.R_slice HO145.out; subst eo77) | (go_at_call 8; (with_reducible refine (addr_Assign.calls _ _ t143 t146 t147 t148 _ ?side1 ?side2 A7.out).mono ?_); (case side1 => repeat (first | exact (Kd.R_reads' HO145.out).2.2 | (with_reducible refine Kd.C_alloc ?_ _) | (with_reducible refine Kd.C_drewN ?_ _) | (with_reducible refine Kd.C_drew ?_))); (case side2 => exact (Kd.R_reads' HO145.out).2.1); rintro e w78 ⟨v149, v151, rfl, ho0, ho1, hb⟩; have n0_ := Aside0.mk (Kd.R_elder' (by (with_reducible repeat (first | apply Kd.R_alloc | apply Kd.R_drewN | apply Kd.R_drew)); exact HO145.out) (Kd.R_base ho0) hb); have n1_ := Aside0.mk (Kd.R_lower (Kd.R_new' ho0 (Kd.R_lt (by (with_reducible repeat (first | apply Kd.R_alloc | apply Kd.R_drewN | apply Kd.R_drew)); exact HO145.out))) (below_size (by repeat (first | (with_reducible first | exact HB.out | apply below_alloc | apply pw_below_drewN | apply below_drew1) | exact HB.out)))); have n2_ := Aside0.mk (Kd.S_lower ho1 (below_size (by repeat (first | (with_reducible first | exact HB.out | apply below_alloc | apply pw_below_drewN | apply below_drew1) | exact HB.out)))); have n3_ := Aside0.mk (below_step (by repeat (first | (with_reducible first | exact HB.out | apply below_alloc | apply pw_below_drewN | apply below_drew1) | exact HB.out)) hb); clear HO145; clear HB; have HO145 := n0_; have HO150 := n1_; have HO152 := n2_; have HB := n3_; clear n0_ n1_ n2_ n3_; (try clear hb); (try clear hb2); (try clear hk); (try clear hi); (try clear ho0); (try clear ho1); obtain ⟨Ao79, co79, eo79⟩ := Kd.R_slice HO150.out; subst eo79; obtain ⟨Ao80, co80, eo80⟩ := Kd.S_slice HO152.out; subst eo80))
            repeat (go_quiet (first | (go_at_call 7; (with_reducible refine (dovetaillaw23_known.calls  true _ A2.out).mono ?_); rintro e w75 ⟨rfl, hb⟩; have n0_ := Aside0.mk (below_step (by repeat (first | (with_reducible first | exact HB.out | apply below_alloc | apply pw_below_drewN | apply below_drew1) | exact HB.out)) hb); clear HB; have HB := n0_; clear n0_; (try clear hb); (try clear hb2); (try clear hk); (try clear hi)) | (go_at_call 9; (with_reducible refine (dovetaillaw23_pieces.calls k _ _ l0 t143 _ ?side1 ?side2 A6.out).mono ?_); (case side1 => repeat (first | exact (Kd.C_below HR0.out HB.out) | (with_reducible refine Kd.C_alloc ?_ _) | (with_reducible refine Kd.C_drewN ?_ _) | (with_reducible refine Kd.C_drew ?_))); (case side2 => exact HC0.out); rintro e w76 ⟨v144, rfl, ho0, hb⟩; have n0_ := Aside0.mk (Kd.R_lower ho0 (below_size (by repeat (first | (with_reducible first | exact HB.out | apply below_alloc | apply pw_below_drewN | apply below_drew1) | exact HB.out)))); have n1_ := Aside0.mk (below_step (by repeat (first | (with_reducible first | exact HB.out | apply below_alloc | apply pw_below_drewN | apply below_drew1) | exact HB.out)) hb); clear HB; have HO145 := n0_; have HB := n1_; clear n0_ n1_; (try clear hb); (try clear hb2); (try clear hk); (try clear hi); (try clear ho0); obtain ⟨Ao77, co77, eo77⟩ := Kd.R_slice HO145.out; subst eo77) | (go_at_call 8; (with_reducible refine (addr_Assign.calls _ _ t143 t146 t147 t148 _ ?side1 ?side2 A7.out).mono ?_); (case side1 => repeat (first | exact (Kd.R_reads' HO145.out).2.2 | (with_reducible refine Kd.C_alloc ?_ _) | (with_reducible refine Kd.C_drewN ?_ _) | (with_reducible refine Kd.C_drew ?_))); (case side2 => exact (Kd.R_reads' HO145.out).2.1); rintro e w78 ⟨v149, v151, rfl, ho0, ho1, hb⟩; have n0_ := Aside0.mk (Kd.R_elder' (by (with_reducible repeat (first | apply Kd.R_alloc | apply Kd.R_drewN | apply Kd.R_drew)); exact HO145.out) (Kd.R_base ho0) hb); have n1_ := Aside0.mk (Kd.R_lower (Kd.R_new' ho0 (Kd.R_lt (by (with_reducible repeat (first | apply Kd.R_alloc | apply Kd.R_drewN | apply Kd.R_drew)); exact HO145.out))) (below_size (by repeat (first | (with_reducible first | exact HB.out | apply below_alloc | apply pw_below_drewN | apply below_drew1) | exact HB.out)))); have n2_ := Aside0.mk (Kd.S_lower ho1 (below_size (by repeat (first | (with_reducible first | exact HB.out | apply below_alloc | apply pw_below_drewN | apply below_drew1) | exact HB.out)))); have n3_ := Aside0.mk (below_step (by repeat (first | (with_reducible first | exact HB.out | apply below_alloc | apply pw_below_drewN | apply below_drew1) | exact HB.out)) hb); clear HO145; clear HB; have HO145 := n0_; have HO150 := n1_; have HO152 := n2_; have HB := n3_; clear n0_ n1_ n2_ n3_; (try clear hb); (try clear hb2); (try clear hk); (try clear hi); (try clear ho0); (try clear ho1); obtain ⟨Ao79, co79, eo79⟩ := Kd.R_slice HO150.out; subst eo79; obtain ⟨Ao80, co80, eo80⟩ := Kd.S_slice HO152.out; subst eo80)); try go_wp2_with (first | (go_at_call 7; (with_reducible refine (dovetaillaw23_known.calls  true _ A2.out).mono ?_); rintro e w75 ⟨rfl, hb⟩; have n0_ := Aside0.mk (below_step (by repeat (first | (with_reducible first | exact HB.out | apply below_alloc | apply pw_below_drewN | apply below_drew1) | exact HB.out)) hb); clear HB; have HB := n0_; clear n0_; (try clear hb); (try clear hb2); (try clear hk); (try clear hi)) | (go_at_call 9; (with_reducible refine (dovetaillaw23_pieces.calls k _ _ l0 t143 _ ?side1 ?side2 A6.out).mono ?_); (case side1 => repeat (first | exact (Kd.C_below HR0.out HB.out) | (with_reducible refine Kd.C_alloc ?_ _) | (with_reducible refine Kd.C_drewN ?_ _) | (with_reducible refine Kd.C_drew ?_))); (case side2 => exact HC0.out); rintro e w76 ⟨v144, rfl, ho0, hb⟩; have n0_ := Aside0.mk (Kd.R_lower ho0 (below_size (by repeat (first | (with_reducible first | exact HB.out | apply below_alloc | apply pw_below_drewN | apply below_drew1) | exact HB.out)))); have n1_ := Aside0.mk (below_step (by repeat (first | (with_reducible first | exact HB.out | apply below_alloc | apply pw_below_drewN | apply below_drew1) | exact HB.out)) hb); clear HB; have HO145 := n0_; have HB := n1_; clear n0_ n1_; (try clear hb); (try clear hb2); (try clear hk); (try clear hi); (try clear ho0); obtain ⟨Ao77, co77, eo77⟩ := Kd.R_slice HO145.out; subst eo77) | (go_at_call 8; (with_reducible refine (addr_Assign.calls _ _ t143 t146 t147 t148 _ ?side1 ?side2 A7.out).mono ?_); (case side1 => repeat (first | exact (Kd.R_reads' HO145.out).2.2 | (with_reducible refine Kd.C_alloc ?_ _) | (with_reducible refine Kd.C_drewN ?_ _) | (with_reducible refine Kd.C_drew ?_))); (case side2 => exact (Kd.R_reads' HO145.out).2.1); rintro e w78 ⟨v149, v151, rfl, ho0, ho1, hb⟩; have n0_ := Aside0.mk (Kd.R_elder' (by (with_reducible repeat (first | apply Kd.R_alloc | apply Kd.R_drewN | apply Kd.R_drew)); exact HO145.out) (Kd.R_base ho0) hb); have n1_ := Aside0.mk (Kd.R_lower (Kd.R_new' ho0 (Kd.R_lt (by (with_reducible repeat (first | apply Kd.R_alloc | apply Kd.R_drewN | apply Kd.R_drew)); exact HO145.out))) (below_size (by repeat (first | (with_reducible first | exact HB.out | apply below_alloc | apply pw_below_drewN | apply below_drew1) | exact HB.out)))); have n2_ := Aside0.mk (Kd.S_lower ho1 (below_size (by repeat (first | (with_reducible first | exact HB.out | apply below_alloc | apply pw_below_drewN | apply below_drew1) | exact HB.out)))); have n3_ := Aside0.mk (below_step (by repeat (first | (with_reducible first | exact HB.out | apply below_alloc | apply pw_below_drewN | apply below_drew1) | exact HB.out)) hb); clear HO145; clear HB; have HO145 := n0_; have HO150 := n1_; have HO152 := n2_; have HB := n3_; clear n0_ n1_ n2_ n3_; (try clear hb); (try clear hb2); (try clear hk); (try clear hi); (try clear ho0); (try clear ho1); obtain ⟨Ao79, co79, eo79⟩ := Kd.R_slice HO150.out; subst eo79; obtain ⟨Ao80, co80, eo80⟩ := Kd.S_slice HO152.out; subst eo80)))
            go_ret
            exact ⟨by first | rfl | (simp [errW_none, errW_some] <;> rfl) | (simp [*, errW_none, errW_some] <;> rfl), by repeat (first | (with_reducible first | exact HB.out | apply below_alloc | apply pw_below_drewN | apply below_drew1) | exact HB.out)⟩
          · rw [if_neg c74] at H
            have c74b0 : ((t146.length : Int) == 0) = false := beq_eq_false_iff_ne.mpr c74
            have c74b1 : ((t146.length : Int) != 0) = true := bne_iff_ne.mpr c74
            have c74b2 : ¬ (t146 = []) := fun h_ => c74 (by rw [h_]; rfl)
            obtain rfl := Option.some.inj H
            go_enter Try.func4, Try.ntmps4
            go_wp2_with (first | (go_at_call 7; (with_reducible refine (dovetaillaw23_known.calls  true _ A2.out).mono ?_); rintro e w81 ⟨rfl, hb⟩; have n0_ := Aside0.mk (below_step (by repeat (first | (with_reducible first | exact HB.out | apply below_alloc | apply pw_below_drewN | apply below_drew1) | exact HB.out)) hb); clear HB; have HB := n0_; clear n0_; (try clear hb); (try clear hb2); (try clear hk); (try clear hi)) | (go_at_call 9; (with_reducible refine (dovetaillaw23_pieces.calls k _ _ l0 t143 _ ?side1 ?side2 A6.out).mono ?_); (case side1 => repeat (first | exact (Kd.C_below HR0.out HB.out) | (with_reducible refine Kd.C_alloc ?_ _) | (with_reducible refine Kd.C_drewN ?_ _) | (with_reducible refine Kd.C_drew ?_))); (case side2 => exact HC0.out); rintro e w82 ⟨v144, rfl, ho0, hb⟩; have n0_ := Aside0.mk (Kd.R_lower ho0 (below_size (by repeat (first | (with_reducible first | exact HB.out | apply below_alloc | apply pw_below_drewN | apply below_drew1) | exact HB.out)))); have n1_ := Aside0.mk (below_step (by repeat (first | (with_reducible first | exact HB.out | apply below_alloc | apply pw_below_drewN | apply below_drew1) | exact HB.out)) hb); clear HB; have HO145 := n0_; have HB := n1_; clear n0_ n1_; (try clear hb); (try clear hb2); (try clear hk); (try clear hi); (try clear ho0); obtain ⟨Ao83, co83, eo83⟩ := Kd.R_slice HO145.out; subst eo83) | (go_at_call 8; (with_reducible refine (addr_Assign.calls _ _ t143 t146 t147 t148 _ ?side1 ?side2 A7.out).mono ?_); (case side1 => repeat (first | exact (Kd.R_reads' HO145.out).2.2 | (with_reducible refine Kd.C_alloc ?_ _) | (with_reducible refine Kd.C_drewN ?_ _) | (with_reducible refine Kd.C_drew ?_))); (case side2 => exact (Kd.R_reads' HO145.out).2.1); rintro e w84 ⟨v149, v151, rfl, ho0, ho1, hb⟩; have n0_ := Aside0.mk (Kd.R_elder' (by (with_reducible repeat (first | apply Kd.R_alloc | apply Kd.R_drewN | apply Kd.R_drew)); exact HO145.out) (Kd.R_base ho0) hb); have n1_ := Aside0.mk (Kd.R_lower (Kd.R_new' ho0 (Kd.R_lt (by (with_reducible repeat (first | apply Kd.R_alloc | apply Kd.R_drewN | apply Kd.R_drew)); exact HO145.out))) (below_size (by repeat (first | (with_reducible first | exact HB.out | apply below_alloc | apply pw_below_drewN | apply below_drew1) | exact HB.out)))); have n2_ := Aside0.mk (Kd.S_lower ho1 (below_size (by repeat (first | (with_reducible first | exact HB.out | apply below_alloc | apply pw_below_drewN | apply below_drew1) | exact HB.out)))); have n3_ := Aside0.mk (below_step (by repeat (first | (with_reducible first | exact HB.out | apply below_alloc | apply pw_below_drewN | apply below_drew1) | exact HB.out)) hb); clear HO145; clear HB; have HO145 := n0_; have HO150 := n1_; have HO152 := n2_; have HB := n3_; clear n0_ n1_ n2_ n3_; (try clear hb); (try clear hb2); (try clear hk); (try clear hi); (try clear ho0); (try clear ho1); obtain ⟨Ao85, co85, eo85⟩ := Kd.R_slice HO150.out; subst eo85))
            repeat (go_quiet (first | (go_at_call 7; (with_reducible refine (dovetaillaw23_known.calls  true _ A2.out).mono ?_); rintro e w81 ⟨rfl, hb⟩; have n0_ := Aside0.mk (below_step (by repeat (first | (with_reducible first | exact HB.out | apply below_alloc | apply pw_below_drewN | apply below_drew1) | exact HB.out)) hb); clear HB; have HB := n0_; clear n0_; (try clear hb); (try clear hb2); (try clear hk); (try clear hi)) | (go_at_call 9; (with_reducible refine (dovetaillaw23_pieces.calls k _ _ l0 t143 _ ?side1 ?side2 A6.out).mono ?_); (case side1 => repeat (first | exact (Kd.C_below HR0.out HB.out) | (with_reducible refine Kd.C_alloc ?_ _) | (with_reducible refine Kd.C_drewN ?_ _) | (with_reducible refine Kd.C_drew ?_))); (case side2 => exact HC0.out); rintro e w82 ⟨v144, rfl, ho0, hb⟩; have n0_ := Aside0.mk (Kd.R_lower ho0 (below_size (by repeat (first | (with_reducible first | exact HB.out | apply below_alloc | apply pw_below_drewN | apply below_drew1) | exact HB.out)))); have n1_ := Aside0.mk (below_step (by repeat (first | (with_reducible first | exact HB.out | apply below_alloc | apply pw_below_drewN | apply below_drew1) | exact HB.out)) hb); clear HB; have HO145 := n0_; have HB := n1_; clear n0_ n1_; (try clear hb); (try clear hb2); (try clear hk); (try clear hi); (try clear ho0); obtain ⟨Ao83, co83, eo83⟩ := Kd.R_slice HO145.out; subst eo83) | (go_at_call 8; (with_reducible refine (addr_Assign.calls _ _ t143 t146 t147 t148 _ ?side1 ?side2 A7.out).mono ?_); (case side1 => repeat (first | exact (Kd.R_reads' HO145.out).2.2 | (with_reducible refine Kd.C_alloc ?_ _) | (with_reducible refine Kd.C_drewN ?_ _) | (with_reducible refine Kd.C_drew ?_))); (case side2 => exact (Kd.R_reads' HO145.out).2.1); rintro e w84 ⟨v149, v151, rfl, ho0, ho1, hb⟩; have n0_ := Aside0.mk (Kd.R_elder' (by (with_reducible repeat (first | apply Kd.R_alloc | apply Kd.R_drewN | apply Kd.R_drew)); exact HO145.out) (Kd.R_base ho0) hb); have n1_ := Aside0.mk (Kd.R_lower (Kd.R_new' ho0 (Kd.R_lt (by (with_reducible repeat (first | apply Kd.R_alloc | apply Kd.R_drewN | apply Kd.R_drew)); exact HO145.out))) (below_size (by repeat (first | (with_reducible first | exact HB.out | apply below_alloc | apply pw_below_drewN | apply below_drew1) | exact HB.out)))); have n2_ := Aside0.mk (Kd.S_lower ho1 (below_size (by repeat (first | (with_reducible first | exact HB.out | apply below_alloc | apply pw_below_drewN | apply below_drew1) | exact HB.out)))); have n3_ := Aside0.mk (below_step (by repeat (first | (with_reducible first | exact HB.out | apply below_alloc | apply pw_below_drewN | apply below_drew1) | exact HB.out)) hb); clear HO145; clear HB; have HO145 := n0_; have HO150 := n1_; have HO152 := n2_; have HB := n3_; clear n0_ n1_ n2_ n3_; (try clear hb); (try clear hb2); (try clear hk); (try clear hi); (try clear ho0); (try clear ho1); obtain ⟨Ao85, co85, eo85⟩ := Kd.R_slice HO150.out; subst eo85)); try go_wp2_with (first | (go_at_call 7; (with_reducible refine (dovetaillaw23_known.calls  true _ A2.out).mono ?_); rintro e w81 ⟨rfl, hb⟩; have n0_ := Aside0.mk (below_step (by repeat (first | (with_reducible first | exact HB.out | apply below_alloc | apply pw_below_drewN | apply below_drew1) | exact HB.out)) hb); clear HB; have HB := n0_; clear n0_; (try clear hb); (try clear hb2); (try clear hk); (try clear hi)) | (go_at_call 9; (with_reducible refine (dovetaillaw23_pieces.calls k _ _ l0 t143 _ ?side1 ?side2 A6.out).mono ?_); (case side1 => repeat (first | exact (Kd.C_below HR0.out HB.out) | (with_reducible refine Kd.C_alloc ?_ _) | (with_reducible refine Kd.C_drewN ?_ _) | (with_reducible refine Kd.C_drew ?_))); (case side2 => exact HC0.out); rintro e w82 ⟨v144, rfl, ho0, hb⟩; have n0_ := Aside0.mk (Kd.R_lower ho0 (below_size (by repeat (first | (with_reducible first | exact HB.out | apply below_alloc | apply pw_below_drewN | apply below_drew1) | exact HB.out)))); have n1_ := Aside0.mk (below_step (by repeat (first | (with_reducible first | exact HB.out | apply below_alloc | apply pw_below_drewN | apply below_drew1) | exact HB.out)) hb); clear HB; have HO145 := n0_; have HB := n1_; clear n0_ n1_; (try clear hb); (try clear hb2); (try clear hk); (try clear hi); (try clear ho0); obtain ⟨Ao83, co83, eo83⟩ := Kd.R_slice HO145.out; subst eo83) | (go_at_call 8; (with_reducible refine (addr_Assign.calls _ _ t143 t146 t147 t148 _ ?side1 ?side2 A7.out).mono ?_); (case side1 => repeat (first | exact (Kd.R_reads' HO145.out).2.2 | (with_reducible refine Kd.C_alloc ?_ _) | (with_reducible refine Kd.C_drewN ?_ _) | (with_reducible refine Kd.C_drew ?_))); (case side2 => exact (Kd.R_reads' HO145.out).2.1); rintro e w84 ⟨v149, v151, rfl, ho0, ho1, hb⟩; have n0_ := Aside0.mk (Kd.R_elder' (by (with_reducible repeat (first | apply Kd.R_alloc | apply Kd.R_drewN | apply Kd.R_drew)); exact HO145.out) (Kd.R_base ho0) hb); have n1_ := Aside0.mk (Kd.R_lower (Kd.R_new' ho0 (Kd.R_lt (by (with_reducible repeat (first | apply Kd.R_alloc | apply Kd.R_drewN | apply Kd.R_drew)); exact HO145.out))) (below_size (by repeat (first | (with_reducible first | exact HB.out | apply below_alloc | apply pw_below_drewN | apply below_drew1) | exact HB.out)))); have n2_ := Aside0.mk (Kd.S_lower ho1 (below_size (by repeat (first | (with_reducible first | exact HB.out | apply below_alloc | apply pw_below_drewN | apply below_drew1) | exact HB.out)))); have n3_ := Aside0.mk (below_step (by repeat (first | (with_reducible first | exact HB.out | apply below_alloc | apply pw_below_drewN | apply below_drew1) | exact HB.out)) hb); clear HO145; clear HB; have HO145 := n0_; have HO150 := n1_; have HO152 := n2_; have HB := n3_; clear n0_ n1_ n2_ n3_; (try clear hb); (try clear hb2); (try clear hk); (try clear hi); (try clear ho0); (try clear ho1); obtain ⟨Ao85, co85, eo85⟩ := Kd.R_slice HO150.out; subst eo85)))
            go_ret
            exact ⟨by first | rfl | (simp [errW_none, errW_some] <;> rfl) | (simp [*, errW_none, errW_some] <;> rfl), by repeat (first | (with_reducible first | exact HB.out | apply below_alloc | apply pw_below_drewN | apply below_drew1) | exact HB.out)⟩
        · rw [if_neg c73] at H
          have c73b0 : (t148 == 55) = false := beq_eq_false_iff_ne.mpr c73
          have c73b1 : (t148 != 55) = true := bne_iff_ne.mpr c73
          obtain rfl := Option.some.inj H
          go_enter Try.func4, Try.ntmps4
          go_wp2_with (first | (go_at_call 7; (with_reducible refine (dovetaillaw23_known.calls  true _ A2.out).mono ?_); rintro e w86 ⟨rfl, hb⟩; have n0_ := Aside0.mk (below_step (by repeat (first | (with_reducible first | exact HB.out | apply below_alloc | apply pw_below_drewN | apply below_drew1) | exact HB.out)) hb); clear HB; have HB := n0_; clear n0_; (try clear hb); (try clear hb2); (try clear hk); (try clear hi)) | (go_at_call 9; (with_reducible refine (dovetaillaw23_pieces.calls k _ _ l0 t143 _ ?side1 ?side2 A6.out).mono ?_); (case side1 => repeat (first | exact (Kd.C_below HR0.out HB.out) | (with_reducible refine Kd.C_alloc ?_ _) | (with_reducible refine Kd.C_drewN ?_ _) | (with_reducible refine Kd.C_drew ?_))); (case side2 => exact HC0.out); rintro e w87 ⟨v144, rfl, ho0, hb⟩; have n0_ := Aside0.mk (Kd.R_lower ho0 (below_size (by repeat (first | (with_reducible first | exact HB.out | apply below_alloc | apply pw_below_drewN | apply below_drew1) | exact HB.out)))); have n1_ := Aside0.mk (below_step (by repeat (first | (with_reducible first | exact HB.out | apply below_alloc | apply pw_below_drewN | apply below_drew1) | exact HB.out)) hb); clear HB; have HO145 := n0_; have HB := n1_; clear n0_ n1_; (try clear hb); (try clear hb2); (try clear hk); (try clear hi); (try clear ho0); obtain ⟨Ao88, co88, eo88⟩ := Kd.R_slice HO145.out; subst eo88) | (go_at_call 8; (with_reducible refine (addr_Assign.calls _ _ t143 t146 t147 t148 _ ?side1 ?side2 A7.out).mono ?_); (case side1 => repeat (first | exact (Kd.R_reads' HO145.out).2.2 | (with_reducible refine Kd.C_alloc ?_ _) | (with_reducible refine Kd.C_drewN ?_ _) | (with_reducible refine Kd.C_drew ?_))); (case side2 => exact (Kd.R_reads' HO145.out).2.1); rintro e w89 ⟨v149, v151, rfl, ho0, ho1, hb⟩; have n0_ := Aside0.mk (Kd.R_elder' (by (with_reducible repeat (first | apply Kd.R_alloc | apply Kd.R_drewN | apply Kd.R_drew)); exact HO145.out) (Kd.R_base ho0) hb); have n1_ := Aside0.mk (Kd.R_lower (Kd.R_new' ho0 (Kd.R_lt (by (with_reducible repeat (first | apply Kd.R_alloc | apply Kd.R_drewN | apply Kd.R_drew)); exact HO145.out))) (below_size (by repeat (first | (with_reducible first | exact HB.out | apply below_alloc | apply pw_below_drewN | apply below_drew1) | exact HB.out)))); have n2_ := Aside0.mk (Kd.S_lower ho1 (below_size (by repeat (first | (with_reducible first | exact HB.out | apply below_alloc | apply pw_below_drewN | apply below_drew1) | exact HB.out)))); have n3_ := Aside0.mk (below_step (by repeat (first | (with_reducible first | exact HB.out | apply below_alloc | apply pw_below_drewN | apply below_drew1) | exact HB.out)) hb); clear HO145; clear HB; have HO145 := n0_; have HO150 := n1_; have HO152 := n2_; have HB := n3_; clear n0_ n1_ n2_ n3_; (try clear hb); (try clear hb2); (try clear hk); (try clear hi); (try clear ho0); (try clear ho1)))
          repeat (go_quiet (first | (go_at_call 7; (with_reducible refine (dovetaillaw23_known.calls  true _ A2.out).mono ?_); rintro e w86 ⟨rfl, hb⟩; have n0_ := Aside0.mk (below_step (by repeat (first | (with_reducible first | exact HB.out | apply below_alloc | apply pw_below_drewN | apply below_drew1) | exact HB.out)) hb); clear HB; have HB := n0_; clear n0_; (try clear hb); (try clear hb2); (try clear hk); (try clear hi)) | (go_at_call 9; (with_reducible refine (dovetaillaw23_pieces.calls k _ _ l0 t143 _ ?side1 ?side2 A6.out).mono ?_); (case side1 => repeat (first | exact (Kd.C_below HR0.out HB.out) | (with_reducible refine Kd.C_alloc ?_ _) | (with_reducible refine Kd.C_drewN ?_ _) | (with_reducible refine Kd.C_drew ?_))); (case side2 => exact HC0.out); rintro e w87 ⟨v144, rfl, ho0, hb⟩; have n0_ := Aside0.mk (Kd.R_lower ho0 (below_size (by repeat (first | (with_reducible first | exact HB.out | apply below_alloc | apply pw_below_drewN | apply below_drew1) | exact HB.out)))); have n1_ := Aside0.mk (below_step (by repeat (first | (with_reducible first | exact HB.out | apply below_alloc | apply pw_below_drewN | apply below_drew1) | exact HB.out)) hb); clear HB; have HO145 := n0_; have HB := n1_; clear n0_ n1_; (try clear hb); (try clear hb2); (try clear hk); (try clear hi); (try clear ho0); obtain ⟨Ao88, co88, eo88⟩ := Kd.R_slice HO145.out; subst eo88) | (go_at_call 8; (with_reducible refine (addr_Assign.calls _ _ t143 t146 t147 t148 _ ?side1 ?side2 A7.out).mono ?_); (case side1 => repeat (first | exact (Kd.R_reads' HO145.out).2.2 | (with_reducible refine Kd.C_alloc ?_ _) | (with_reducible refine Kd.C_drewN ?_ _) | (with_reducible refine Kd.C_drew ?_))); (case side2 => exact (Kd.R_reads' HO145.out).2.1); rintro e w89 ⟨v149, v151, rfl, ho0, ho1, hb⟩; have n0_ := Aside0.mk (Kd.R_elder' (by (with_reducible repeat (first | apply Kd.R_alloc | apply Kd.R_drewN | apply Kd.R_drew)); exact HO145.out) (Kd.R_base ho0) hb); have n1_ := Aside0.mk (Kd.R_lower (Kd.R_new' ho0 (Kd.R_lt (by (with_reducible repeat (first | apply Kd.R_alloc | apply Kd.R_drewN | apply Kd.R_drew)); exact HO145.out))) (below_size (by repeat (first | (with_reducible first | exact HB.out | apply below_alloc | apply pw_below_drewN | apply below_drew1) | exact HB.out)))); have n2_ := Aside0.mk (Kd.S_lower ho1 (below_size (by repeat (first | (with_reducible first | exact HB.out | apply below_alloc | apply pw_below_drewN | apply below_drew1) | exact HB.out)))); have n3_ := Aside0.mk (below_step (by repeat (first | (with_reducible first | exact HB.out | apply below_alloc | apply pw_below_drewN | apply below_drew1) | exact HB.out)) hb); clear HO145; clear HB; have HO145 := n0_; have HO150 := n1_; have HO152 := n2_; have HB := n3_; clear n0_ n1_ n2_ n3_; (try clear hb); (try clear hb2); (try clear hk); (try clear hi); (try clear ho0); (try clear ho1))); try go_wp2_with (first | (go_at_call 7; (with_reducible refine (dovetaillaw23_known.calls  true _ A2.out).mono ?_); rintro e w86 ⟨rfl, hb⟩; have n0_ := Aside0.mk (below_step (by repeat (first | (with_reducible first | exact HB.out | apply below_alloc | apply pw_below_drewN | apply below_drew1) | exact HB.out)) hb); clear HB; have HB := n0_; clear n0_; (try clear hb); (try clear hb2); (try clear hk); (try clear hi)) | (go_at_call 9; (with_reducible refine (dovetaillaw23_pieces.calls k _ _ l0 t143 _ ?side1 ?side2 A6.out).mono ?_); (case side1 => repeat (first | exact (Kd.C_below HR0.out HB.out) | (with_reducible refine Kd.C_alloc ?_ _) | (with_reducible refine Kd.C_drewN ?_ _) | (with_reducible refine Kd.C_drew ?_))); (case side2 => exact HC0.out); rintro e w87 ⟨v144, rfl, ho0, hb⟩; have n0_ := Aside0.mk (Kd.R_lower ho0 (below_size (by repeat (first | (with_reducible first | exact HB.out | apply below_alloc | apply pw_below_drewN | apply below_drew1) | exact HB.out)))); have n1_ := Aside0.mk (below_step (by repeat (first | (with_reducible first | exact HB.out | apply below_alloc | apply pw_below_drewN | apply below_drew1) | exact HB.out)) hb); clear HB; have HO145 := n0_; have HB := n1_; clear n0_ n1_; (try clear hb); (try clear hb2); (try clear hk); (try clear hi); (try clear ho0); obtain ⟨Ao88, co88, eo88⟩ := Kd.R_slice HO145.out; subst eo88) | (go_at_call 8; (with_reducible refine (addr_Assign.calls _ _ t143 t146 t147 t148 _ ?side1 ?side2 A7.out).mono ?_); (case side1 => repeat (first | exact (Kd.R_reads' HO145.out).2.2 | (with_reducible refine Kd.C_alloc ?_ _) | (with_reducible refine Kd.C_drewN ?_ _) | (with_reducible refine Kd.C_drew ?_))); (case side2 => exact (Kd.R_reads' HO145.out).2.1); rintro e w89 ⟨v149, v151, rfl, ho0, ho1, hb⟩; have n0_ := Aside0.mk (Kd.R_elder' (by (with_reducible repeat (first | apply Kd.R_alloc | apply Kd.R_drewN | apply Kd.R_drew)); exact HO145.out) (Kd.R_base ho0) hb); have n1_ := Aside0.mk (Kd.R_lower (Kd.R_new' ho0 (Kd.R_lt (by (with_reducible repeat (first | apply Kd.R_alloc | apply Kd.R_drewN | apply Kd.R_drew)); exact HO145.out))) (below_size (by repeat (first | (with_reducible first | exact HB.out | apply below_alloc | apply pw_below_drewN | apply below_drew1) | exact HB.out)))); have n2_ := Aside0.mk (Kd.S_lower ho1 (below_size (by repeat (first | (with_reducible first | exact HB.out | apply below_alloc | apply pw_below_drewN | apply below_drew1) | exact HB.out)))); have n3_ := Aside0.mk (below_step (by repeat (first | (with_reducible first | exact HB.out | apply below_alloc | apply pw_below_drewN | apply below_drew1) | exact HB.out)) hb); clear HO145; clear HB; have HO145 := n0_; have HO150 := n1_; have HO152 := n2_; have HB := n3_; clear n0_ n1_ n2_ n3_; (try clear hb); (try clear hb2); (try clear hk); (try clear hi); (try clear ho0); (try clear ho1))))
          go_ret
          exact ⟨by first | rfl | (simp [errW_none, errW_some] <;> rfl) | (simp [*, errW_none, errW_some] <;> rfl), by repeat (first | (with_reducible first | exact HB.out | apply below_alloc | apply pw_below_drewN | apply below_drew1) | exact HB.out)⟩
  · replace c3 := Bool.eq_false_iff.mpr c3
    subst c3
    have H1 : (some false) = some r := by rw [if_neg (show ¬ (false = true) by decide)] at H; exact H
    clear H
    have H := H1
    clear H1
    obtain rfl := Option.some.inj H
    go_enter Try.func4, Try.ntmps4
    go_wp2_with (first | (go_at_call 7; (with_reducible refine (dovetaillaw23_known.calls  false _ A2.out).mono ?_); rintro e w90 ⟨rfl, hb⟩; have n0_ := Aside0.mk (below_step (by repeat (first | (with_reducible first | exact HB.out | apply below_alloc | apply pw_below_drewN | apply below_drew1) | exact HB.out)) hb); clear HB; have HB := n0_; clear n0_; (try clear hb); (try clear hb2); (try clear hk); (try clear hi)))
    repeat (go_quiet (first | (go_at_call 7; (with_reducible refine (dovetaillaw23_known.calls  false _ A2.out).mono ?_); rintro e w90 ⟨rfl, hb⟩; have n0_ := Aside0.mk (below_step (by repeat (first | (with_reducible first | exact HB.out | apply below_alloc | apply pw_below_drewN | apply below_drew1) | exact HB.out)) hb); clear HB; have HB := n0_; clear n0_; (try clear hb); (try clear hb2); (try clear hk); (try clear hi))); try go_wp2_with (first | (go_at_call 7; (with_reducible refine (dovetaillaw23_known.calls  false _ A2.out).mono ?_); rintro e w90 ⟨rfl, hb⟩; have n0_ := Aside0.mk (below_step (by repeat (first | (with_reducible first | exact HB.out | apply below_alloc | apply pw_below_drewN | apply below_drew1) | exact HB.out)) hb); clear HB; have HB := n0_; clear n0_; (try clear hb); (try clear hb2); (try clear hk); (try clear hi))))
    go_ret
    exact ⟨by first | rfl | (simp [errW_none, errW_some] <;> rfl) | (simp [*, errW_none, errW_some] <;> rfl), by repeat (first | (with_reducible first | exact HB.out | apply below_alloc | apply pw_below_drewN | apply below_drew1) | exact HB.out)⟩

end Go.Proofs.Ytpblhcmcldachaa.QAddrApart
