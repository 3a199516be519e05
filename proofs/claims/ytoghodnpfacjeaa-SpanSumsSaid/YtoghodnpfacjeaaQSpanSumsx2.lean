/- Contracts of what a law reaches, each function as a plain Lean function: written by a program of this claim's repo (myprint.py); conditions: those of each theorem. -/
import Derived.Test.YtoghodnpfacjeaaQSpanSumsx0
import Derived.Test.YtoghodnpfacjeaaQSpanSumsx1
namespace Go.Proofs.Ytoghodnpfacjeaa.QSpanSums
open Go.Proofs.Ytoghodnpfacjeaa.Man
open Go.RowKit Go.Proofs.YtoghodnpfacjeaaW.PrintWords Go.Proofs.YtoghodnpfacjeaaW.PrintLast Go.Proofs.YtoghodnpfacjeaaW.PrintMore
attribute [local go_sem] max2_int min2_int max_two min_two max_three min_three max_four min_four   -- for this text's walks alone
set_option linter.unusedVariables false
set_option linter.unusedSimpArgs false

/-! ### dovetaillaw2_SpanSums: function 7 -/
mutual
def dovetaillaw2_SpanSums.l0 : Nat → List Int → Int → Int → Bool → List Int → Int → Option (Bool)
  | 0, _, _, _, _, _, _ => none
  | k + 1, x0, x1, x5, x6, x7, x8 => if x8 ≥ 0 then (if 0 ≤ x8 then (if x8 < (x0.length : Int) then (if x7.length < 17592186044416 then (dovetaillaw2_SpanSums.l0 k x0 x1 x5 x6 (x7 ++ [rd x0 x8]) (wrap64 (x8 - 1))) else (none)) else (none)) else (none)) else ((span_Add.f x7).bind fun bt124 => (if x5 = bt124.1 then (dovetaillaw2_SpanSums.j1 k x0 x1 x5 x6 (x6 != bt124.2)) else (dovetaillaw2_SpanSums.j1 k x0 x1 x5 x6 true)))
def dovetaillaw2_SpanSums.j1 : Nat → List Int → Int → Int → Bool → Bool → Option (Bool)
  | 0, _, _, _, _, _ => none
  | k + 1, x0, x1, x5, x6, x54 => if x54 = true then (some false) else (if (wrap64 ((x0.length : Int) + 1)) = 0 then (none) else (if 0 ≤ (Int.tmod (wrap64 (x1)) (wrap64 ((x0.length : Int) + 1))) then (if (Int.tmod (wrap64 (x1)) (wrap64 ((x0.length : Int) + 1))) ≤ (x0.length : Int) then ((span_Add.f (x0.take ((Int.tmod (wrap64 (x1)) (wrap64 ((x0.length : Int) + 1))) : Int).toNat)).bind fun bt127 => ((span_Add.f (x0.drop ((Int.tmod (wrap64 (x1)) (wrap64 ((x0.length : Int) + 1))) : Int).toNat)).bind fun bt130 => ((span_Add.f (([bt127.1, bt130.1] : List Int))).bind fun bt135 => (if bt127.2 = true then (if bt130.2 = true then (if (x6 == bt135.2) = true then (if x6 = true then (some (bt135.1 == x5)) else (some true)) else (some false)) else (if (x6 == false) = true then (if x6 = true then (some (bt135.1 == x5)) else (some true)) else (some false))) else (if (x6 == false) = true then (if x6 = true then (some (bt135.1 == x5)) else (some true)) else (some false)))))) else (none)) else (none)))
end
def dovetaillaw2_SpanSums.f (k : Nat) (l0 : List Int) (a1 : Int) : Option (Bool) := (dovetaillaw2_known.f k).bind fun t117 => (if t117 = true then (if (l0.length : Int) > 12 then (some true) else ((span_Add.f l0).bind fun bt118 => (dovetaillaw2_SpanSums.l0 k l0 a1 bt118.1 bt118.2 ([] : List Int) (wrap64 ((l0.length : Int) - 1))))) else (some false))
theorem dovetaillaw2_SpanSums.mono_l : ∀ k, (∀ y0 y1 y2 y3 y4 y5, LeO (dovetaillaw2_SpanSums.l0 k y0 y1 y2 y3 y4 y5) (dovetaillaw2_SpanSums.l0 (k + 1) y0 y1 y2 y3 y4 y5)) ∧ (∀ y0 y1 y2 y3 y4, LeO (dovetaillaw2_SpanSums.j1 k y0 y1 y2 y3 y4) (dovetaillaw2_SpanSums.j1 (k + 1) y0 y1 y2 y3 y4))
  | 0 => ⟨fun _ _ _ _ _ _ r h => by simp [dovetaillaw2_SpanSums.l0] at h, fun _ _ _ _ _ r h => by simp [dovetaillaw2_SpanSums.j1] at h⟩
  | k + 1 => by
    obtain ⟨ih0, ih1⟩ := dovetaillaw2_SpanSums.mono_l k
    refine ⟨?_, ?_⟩
    · intro y0 y1 y2 y3 y4 y5
      unfold dovetaillaw2_SpanSums.l0
      repeat' first
      | (with_reducible exact ih0 _ _ _ _ _ _)
      | (with_reducible exact ih1 _ _ _ _ _)
      | (with_reducible exact dovetaillaw2_known.mono _)
      | (with_reducible exact LeO.refl _)
      | (with_reducible exact LeO.none _)
      | (with_reducible refine LeO.ite ?_ ?_)
      | (with_reducible refine LeO.bind ?_ (fun _ => ?_))
      | exact ih0 _ _ _ _ _ _
      | exact ih1 _ _ _ _ _
      | exact dovetaillaw2_known.mono _
      | exact LeO.none _
      | refine LeO.ite ?_ ?_
      | refine LeO.bind ?_ (fun _ => ?_)
    · intro y0 y1 y2 y3 y4
      unfold dovetaillaw2_SpanSums.j1
      repeat' first
      | (with_reducible exact ih0 _ _ _ _ _ _)
      | (with_reducible exact ih1 _ _ _ _ _)
      | (with_reducible exact dovetaillaw2_known.mono _)
      | (with_reducible exact LeO.refl _)
      | (with_reducible exact LeO.none _)
      | (with_reducible refine LeO.ite ?_ ?_)
      | (with_reducible refine LeO.bind ?_ (fun _ => ?_))
      | exact ih0 _ _ _ _ _ _
      | exact ih1 _ _ _ _ _
      | exact dovetaillaw2_known.mono _
      | exact LeO.none _
      | refine LeO.ite ?_ ?_
      | refine LeO.bind ?_ (fun _ => ?_)
theorem dovetaillaw2_SpanSums.mono : ∀ a0 a1 k, LeO (dovetaillaw2_SpanSums.f k a0 a1) (dovetaillaw2_SpanSums.f (k + 1) a0 a1) := by
  intro a0 a1 k
  obtain ⟨ih0, ih1⟩ := dovetaillaw2_SpanSums.mono_l k
  unfold dovetaillaw2_SpanSums.f
  repeat' first
      | (with_reducible exact ih0 _ _ _ _ _ _)
      | (with_reducible exact ih1 _ _ _ _ _)
      | (with_reducible exact dovetaillaw2_known.mono _)
      | (with_reducible exact LeO.refl _)
      | (with_reducible exact LeO.none _)
      | (with_reducible refine LeO.ite ?_ ?_)
      | (with_reducible refine LeO.bind ?_ (fun _ => ?_))
      | exact ih0 _ _ _ _ _ _
      | exact ih1 _ _ _ _ _
      | exact dovetaillaw2_known.mono _
      | exact LeO.none _
      | refine LeO.ite ?_ ?_
      | refine LeO.bind ?_ (fun _ => ?_)
set_option maxHeartbeats 8000000 in
set_option maxRecDepth 100000 in
theorem dovetaillaw2_SpanSums.calls (k : Nat) (A0 : Option Addr) (c0 : Nat) (l0 : List Int) (a1 : Int) (r : Bool) (w : World) (hr0 : Kd.C (Kd.int .u64) w A0 l0.length l0) (hc0 : l0.length ≤ c0) (h : dovetaillaw2_SpanSums.f k l0 a1 = some r) :
    Calls Try.prog 7 #[.slice A0 l0.length c0, .int .u8 a1] w fun e w' => e = .returned (.bool r) ∧ Below w.heap.size w w' := by
  have HR0 := Aside0.mk hr0
  have HC0 := Aside0.mk hc0
  clear hr0 hc0
  have HB := Aside0.mk (Below.refl w.heap.size w)
  have H : ((dovetaillaw2_known.f k).bind fun t117 => (if t117 = true then (if (l0.length : Int) > 12 then (some true) else ((span_Add.f l0).bind fun bt118 => (dovetaillaw2_SpanSums.l0 k l0 a1 bt118.1 bt118.2 ([] : List Int) (wrap64 ((l0.length : Int) - 1))))) else (some false))) = some r := h
  clear h
  replace H := Option.bind_eq_some_iff.mp H
  obtain ⟨t117, A30, H⟩ := H
  replace H : (if t117 = true then (if (l0.length : Int) > 12 then (some true) else ((span_Add.f l0).bind fun bt118 => (dovetaillaw2_SpanSums.l0 k l0 a1 bt118.1 bt118.2 ([] : List Int) (wrap64 ((l0.length : Int) - 1))))) else (some false)) = some r := H
  have A3 := Aside0.mk A30
  clear A30
  by_cases c4 : t117 = true
  · subst c4
    have H1 : (if (l0.length : Int) > 12 then (some true) else ((span_Add.f l0).bind fun bt118 => (dovetaillaw2_SpanSums.l0 k l0 a1 bt118.1 bt118.2 ([] : List Int) (wrap64 ((l0.length : Int) - 1))))) = some r := by rw [if_pos rfl] at H; exact H
    clear H
    have H := H1
    clear H1
    by_cases c5 : (l0.length : Int) > 12
    · rw [if_pos c5] at H
      have c5b0 : decide (12 < (l0.length : Int)) = true := decide_eq_true c5
      have c5b1 : decide (12 < l0.length) = true := decide_eq_true (by omega)
      clear c5
      obtain rfl := Option.some.inj H
      go_enter Try.func7, Try.ntmps7
      go_wp2_with (first | ((with_reducible refine gate_callee (f := 8) rfl ?_); refine goesL_ (some 18) rfl rfl Try.func8 (by kernel_rfl) rfl #[] rfl (by (try simp only [List.map_toArray, List.map_cons, List.map_nil]); first | done | rfl | (simp only [List.length_drop, List.length_take]; rfl)) ?_; (with_reducible refine (dovetaillaw2_known.calls k  true _ A3.out).mono ?_); rintro e w6 ⟨rfl, hb⟩; refine ⟨_, rfl, ?_⟩; have n0_ := Aside0.mk (below_step (by repeat (first | (with_reducible first | exact HB.out | apply below_alloc | apply pw_below_drewN | apply below_drew1) | exact HB.out)) hb); clear HB; have HB := n0_; clear n0_; (try clear hb); (try clear hb2); (try clear hk); (try clear hi)))
      go_ret
      exact ⟨by first | rfl | (simp [errW_none, errW_some] <;> rfl) | (simp [*, errW_none, errW_some] <;> rfl), by repeat (first | (with_reducible first | exact HB.out | apply below_alloc | apply pw_below_drewN | apply below_drew1) | exact HB.out)⟩
    · rw [if_neg c5] at H
      have c5b0 : decide (12 < (l0.length : Int)) = false := decide_eq_false c5
      have c5b1 : decide (12 < l0.length) = false := decide_eq_false (by omega)
      clear c5
      replace H := Option.bind_eq_some_iff.mp H
      obtain ⟨⟨t118, t119⟩, A70, H⟩ := H
      replace H : (dovetaillaw2_SpanSums.l0 k l0 a1 t118 t119 ([] : List Int) (wrap64 ((l0.length : Int) - 1))) = some r := H
      have A7 := Aside0.mk A70
      clear A70
      have H' := Aside0.mk H
      clear H
      go_enter Try.func7, Try.ntmps7
      go_wp2_with (first | ((with_reducible refine gate_callee (f := 8) rfl ?_); refine goesL_ (some 18) rfl rfl Try.func8 (by kernel_rfl) rfl #[] rfl (by (try simp only [List.map_toArray, List.map_cons, List.map_nil]); first | done | rfl | (simp only [List.length_drop, List.length_take]; rfl)) ?_; (with_reducible refine (dovetaillaw2_known.calls k  true _ A3.out).mono ?_); rintro e w8 ⟨rfl, hb⟩; refine ⟨_, rfl, ?_⟩; have n0_ := Aside0.mk (below_step (by repeat (first | (with_reducible first | exact HB.out | apply below_alloc | apply pw_below_drewN | apply below_drew1) | exact HB.out)) hb); clear HB; have HB := n0_; clear n0_; (try clear hb); (try clear hb2); (try clear hk); (try clear hi)) | ((with_reducible refine gate_callee (f := 11) rfl ?_); refine goesL_ (some 25) rfl rfl Try.func11 (by kernel_rfl) rfl #[.slice A0 l0.length c0] rfl (by (try simp only [List.map_toArray, List.map_cons, List.map_nil]); first | done | rfl | (simp only [List.length_drop, List.length_take]; rfl)) ?_; (with_reducible refine (span_Add.calls _ _ l0 t118 t119 _ ?side1 ?side2 A7.out).mono ?_); (case side1 => repeat (first | exact (Kd.C_below HR0.out HB.out) | (with_reducible refine Kd.C_alloc ?_ _) | (with_reducible refine Kd.C_drewN ?_ _) | (with_reducible refine Kd.C_drew ?_))); (case side2 => exact HC0.out); rintro e w' ⟨rfl, ⟨nd, rfl⟩⟩; refine ⟨_, rfl, ?_⟩))
      go_loopg [7, 8] k (fun kq v7 v8 w' => ∃ (x7_1 : List Int) (x8_1 : Int), v8 = .int .i64 x8_1 ∧ Aside0 (dovetaillaw2_SpanSums.l0 kq l0 a1 t118 t119 x7_1 x8_1 = some r) ∧ Aside0 (kq ≤ k) ∧ Aside0 (Kd.R (Kd.int .u64) 22 w' w.heap.size (fun _ => True) v7 x7_1) ∧ Aside0 (Below w.heap.size w w'))
      case atStart => exact ⟨(([] : List Int)), (wrap64 ((l0.length : Int) - 1)), (by first | rfl | (simp; done) | (simp [*]; done)), H', ⟨Nat.le_refl _⟩, ⟨by first | exact Kd.R_nil _ _ _ _ _ | exact Kd.N_nil _ _ _ _ _ | exact Kd.V_nil _ _ _ _ _ | exact Kd.Q_nil _ _ _ _ _ | exact Kd.S_nil _ _ _ _ _⟩, ⟨by repeat (first | (with_reducible first | exact HB.out | apply below_alloc | apply pw_below_drewN | apply below_drew1) | exact HB.out)⟩⟩
      case round =>
        clear H'
        try clear c1
        try clear p2
        try clear c4
        try clear c5
        try clear c5b0
        try clear c5b1
        try clear p6
        try clear c7
        try clear c8
        obtain ⟨x7_1, x8_1, rfl, HA, HK1, HO_7, HB⟩ := hrel
        cases gk with
        | zero => exact absurd HA.out (by simp [dovetaillaw2_SpanSums.l0])
        | succ k1 =>
          have H := HA.out
          clear HA
          simp only [dovetaillaw2_SpanSums.l0] at H
          by_cases c9 : x8_1 ≥ 0
          · rw [if_pos c9] at H
            have c9b0 : decide (0 ≤ x8_1) = true := decide_eq_true c9
            clear c9
            by_cases c10 : 0 ≤ x8_1
            · rw [if_pos c10] at H
              have c10b0 : decide (0 ≤ x8_1) = true := decide_eq_true c10
              clear c10
              by_cases c11 : x8_1 < (l0.length : Int)
              · rw [if_pos c11] at H
                have c11b0 : decide (x8_1 < (l0.length : Int)) = true := decide_eq_true c11
                clear c11
                by_cases c12 : x7_1.length < 17592186044416
                · rw [if_pos c12] at H
                  have LMc12 := Aside0.mk c12
                  clear c12
                  obtain ⟨y121, hy121⟩ : ∃ y_ : List Int, y_ = (x7_1 ++ [rd l0 x8_1]) := ⟨_, rfl⟩
                  replace H : (dovetaillaw2_SpanSums.l0 k1 l0 a1 t118 t119 y121 (wrap64 (x8_1 - 1))) = some r := by first | (rw [hy121]; with_reducible exact H) | (have H2_ := (Option.bind_some _ _).symm.trans H; rw [hy121]; with_reducible exact H2_) | (have H2_ := (Option.bind_some _ _).symm.trans H; with_reducible exact H2_) | with_reducible exact H | (rw [hy121]; exact H) | exact H
                  have Ny121 := Aside0.mk hy121
                  clear hy121
                  have H' := Aside0.mk H
                  clear H
                  have p120 : 0 ≤ (x8_1 : Int) := of_decide_eq_true (by first | (with_reducible assumption) | assumption)
                  have q120 : x8_1 < (l0.length : Int) := of_decide_eq_true (by first | (with_reducible assumption) | assumption)
                  obtain ⟨ad120, e120, hx120_0⟩ := Kd.at_int HR0.out x8_1 p120 q120
                  cases e120
                  replace hx120_0 := (HB.out.cell (World.block_lt_of_cell? w _ hx120_0)).trans hx120_0
                  replace p120 := eq_true p120
                  replace q120 := eq_true q120
                  go_wp2_with (first | ((with_reducible refine gate_builtin (b := .append) (xs := #[.tmp 35, .tmp 40]) rfl ?_); at_builtin; refine Kd.R_append (Kd.int .u64) (w0 := w) w.heap.size rfl (.tmp 35) (.tmp 40) 23 22 (.int .u64 0) 8 rfl Try.underlying23 info22 rfl (by decide) (by omega) u7 x7_1 (rd l0 x8_1) [.int .u64 (rd l0 x8_1)] (fun _ => True) (fun _ => False) rfl rfl ?aP (fun _ hk => hk.elim) ?aF ?aO ?aB ?aS ?aL ?_; (case aP => exact rfl); (case aB => exact (by repeat (first | (with_reducible first | exact HB.out | apply below_alloc | apply pw_below_drewN | apply below_drew1) | exact HB.out))); (case aF => exact (fun _ _ => trivial)); (case aO => exact (by (with_reducible repeat (first | apply Kd.R_alloc | apply Kd.R_drewN | apply Kd.R_drew)); exact HO_7.out)); (case aS => exact (below_size (by repeat (first | (with_reducible first | exact HB.out | apply below_alloc | apply pw_below_drewN | apply below_drew1) | exact HB.out)))); (case aL => have := LMc12.out; omega); intro v122 w13 ho hb hg hat; rw [← Ny121.out] at ho; have n0_ := Aside0.mk (hb); have n1_ := Aside0.mk (ho); clear HB; clear HO_7; have HB := n0_; have HO123 := n1_; clear n0_ n1_; clear ho hb hg hat))
                  go_roundg k1
                  case measure => have := HK1.out; omega
                  case rel => exact ⟨(y121), (wrap64 (x8_1 - 1)), (by first | rfl | (simp; done) | (simp [*]; done)), H', ⟨by have := HK1.out; omega⟩, ⟨by (with_reducible repeat (first | apply Kd.R_alloc | apply Kd.R_drewN | apply Kd.R_drew)); exact HO123.out⟩, ⟨by repeat (first | (with_reducible first | exact HB.out | apply below_alloc | apply pw_below_drewN | apply below_drew1) | exact HB.out)⟩⟩
                · rw [if_neg c12] at H
                  exact absurd H (by simp)
              · rw [if_neg c11] at H
                exact absurd H (by simp)
            · rw [if_neg c10] at H
              exact absurd H (by simp)
          · rw [if_neg c9] at H
            have c9b0 : decide (0 ≤ x8_1) = false := decide_eq_false c9
            clear c9
            replace H := Option.bind_eq_some_iff.mp H
            obtain ⟨⟨t124, t125⟩, A140, H⟩ := H
            replace H : (if t118 = t124 then (dovetaillaw2_SpanSums.j1 k1 l0 a1 t118 t119 (t119 != t125)) else (dovetaillaw2_SpanSums.j1 k1 l0 a1 t118 t119 true)) = some r := H
            have A14 := Aside0.mk A140
            clear A140
            have HC15 := Aside0.mk H
            clear H
            obtain ⟨Ao16, co16, eo16⟩ := Kd.R_slice HO_7.out
            subst eo16
            go_upto_region 12 with (first | ((with_reducible refine gate_callee (f := 11) rfl ?_); refine goesL_ (some 44) rfl rfl Try.func11 (by kernel_rfl) rfl #[.slice Ao16 x7_1.length co16] rfl (by (try simp only [List.map_toArray, List.map_cons, List.map_nil]); first | done | rfl | (simp only [List.length_drop, List.length_take]; rfl)) ?_; (with_reducible refine (span_Add.calls _ _ x7_1 t124 t125 _ ?side1 ?side2 A14.out).mono ?_); (case side1 => repeat (first | exact (Kd.R_reads' HO_7.out).2.2 | (with_reducible refine Kd.C_alloc ?_ _) | (with_reducible refine Kd.C_drewN ?_ _) | (with_reducible refine Kd.C_drew ?_))); (case side2 => exact (Kd.R_reads' HO_7.out).2.1); rintro e w' ⟨rfl, ⟨nd, rfl⟩⟩; refine ⟨_, rfl, ?_⟩))
            (try simp only [Act.put, List.setIfInBounds_toArray, List.set_cons_zero, List.set_cons_succ])
            go_cut [54] (fun v54 wc => ∃ (kq : Nat) (x54_14 : Bool), v54 = .bool x54_14 ∧ Aside0 (dovetaillaw2_SpanSums.j1 kq l0 a1 t118 t119 x54_14 = some r) ∧ Aside0 (kq ≤ k1) ∧ Aside0 (Below w.heap.size w wc))
            case first =>
              have H := HC15.out
              clear HC15
              by_cases c17 : t118 = t124
              · rw [if_pos c17] at H
                have c17b0 : (t118 == t124) = true := beq_iff_eq.mpr c17
                have c17b1 : (t118 != t124) = false := bne_eq_false_iff_eq.mpr c17
                clear c17
                (first | rw [c17b0] | (simp only [i64_w, i32_w]; rw [c17b0]) | skip)
                have H' := Aside0.mk H
                clear H
                go_wp2
                go_meet
                case rel => exact ⟨_, ((t119 != t125)), (by first | rfl | (simp; done) | (simp [*]; done)), H', ⟨by have := HK1.out; first | omega | exact Nat.le_refl _⟩, ⟨by repeat (first | (with_reducible first | exact HB.out | apply below_alloc | apply pw_below_drewN | apply below_drew1) | exact HB.out)⟩⟩
              · rw [if_neg c17] at H
                have c17b0 : (t118 == t124) = false := beq_eq_false_iff_ne.mpr c17
                have c17b1 : (t118 != t124) = true := bne_iff_ne.mpr c17
                (first | rw [c17b0] | (simp only [i64_w, i32_w]; rw [c17b0]) | skip)
                have H' := Aside0.mk H
                clear H
                go_wp2
                go_meet
                case rel => exact ⟨_, (true), (by first | rfl | (simp; done) | (simp [*]; done)), H', ⟨by have := HK1.out; first | omega | exact Nat.le_refl _⟩, ⟨by repeat (first | (with_reducible first | exact HB.out | apply below_alloc | apply pw_below_drewN | apply below_drew1) | exact HB.out)⟩⟩
            case rest =>
              clear HC15
              try clear c1
              try clear p1
              try clear q1
              try clear hx1
              try clear p2
              try clear c4
              try clear c5
              try clear c5b0
              try clear c5b1
              try clear p6
              try clear c7
              try clear c8
              try clear c9
              try clear c9b0
              try clear c10
              try clear c10b0
              try clear c11
              try clear c11b0
              try clear c12
              try clear p12
              try clear q12
              try clear hx12
              try clear c17
              try clear c17b0
              try clear c17b1
              try clear hx120_0
              try clear p120
              try clear p2
              try clear p6
              try clear q120
              obtain ⟨kq, x54_14, rfl, HA, HJ14, HB⟩ := hcut
              cases kq with
              | zero => exact absurd HA.out (by simp [dovetaillaw2_SpanSums.j1])
              | succ kj14 =>
                have H := HA.out
                clear HA
                simp only [dovetaillaw2_SpanSums.j1] at H
                by_cases c18 : x54_14 = true
                · subst c18
                  have H1 : (some false) = some r := by rw [if_pos rfl] at H; exact H
                  clear H
                  have H := H1
                  clear H1
                  obtain rfl := Option.some.inj H
                  go_wp2
                  go_ret
                  exact ⟨by first | rfl | (simp [errW_none, errW_some] <;> rfl) | (simp [*, errW_none, errW_some] <;> rfl), by repeat (first | (with_reducible first | exact HB.out | apply below_alloc | apply pw_below_drewN | apply below_drew1) | exact HB.out)⟩
                · replace c18 := Bool.eq_false_iff.mpr c18
                  subst c18
                  have H1 : (if (wrap64 ((l0.length : Int) + 1)) = 0 then (none) else (if 0 ≤ (Int.tmod (wrap64 (a1)) (wrap64 ((l0.length : Int) + 1))) then (if (Int.tmod (wrap64 (a1)) (wrap64 ((l0.length : Int) + 1))) ≤ (l0.length : Int) then ((span_Add.f (l0.take ((Int.tmod (wrap64 (a1)) (wrap64 ((l0.length : Int) + 1))) : Int).toNat)).bind fun bt127 => ((span_Add.f (l0.drop ((Int.tmod (wrap64 (a1)) (wrap64 ((l0.length : Int) + 1))) : Int).toNat)).bind fun bt130 => ((span_Add.f (([bt127.1, bt130.1] : List Int))).bind fun bt135 => (if bt127.2 = true then (if bt130.2 = true then (if (t119 == bt135.2) = true then (if t119 = true then (some (bt135.1 == t118)) else (some true)) else (some false)) else (if (t119 == false) = true then (if t119 = true then (some (bt135.1 == t118)) else (some true)) else (some false))) else (if (t119 == false) = true then (if t119 = true then (some (bt135.1 == t118)) else (some true)) else (some false)))))) else (none)) else (none))) = some r := by rw [if_neg (show ¬ (false = true) by decide)] at H; exact H
                  clear H
                  have H := H1
                  clear H1
                  by_cases c19 : (wrap64 ((l0.length : Int) + 1)) = 0
                  · rw [if_pos c19] at H
                    exact absurd H (by simp)
                  · rw [if_neg c19] at H
                    have c19b0 : ((wrap64 ((l0.length : Int) + 1)) == 0) = false := beq_eq_false_iff_ne.mpr c19
                    have c19b1 : ((wrap64 ((l0.length : Int) + 1)) != 0) = true := bne_iff_ne.mpr c19
                    obtain ⟨ji20, hji20⟩ : ∃ j_ : Int, (Int.tmod (wrap64 (a1)) (wrap64 ((l0.length : Int) + 1))) = j_ := ⟨_, rfl⟩
                    replace H : (if 0 ≤ (ji20) then (if (ji20) ≤ (l0.length : Int) then ((span_Add.f (l0.take ((ji20) : Int).toNat)).bind fun bt127 => ((span_Add.f (l0.drop ((ji20) : Int).toNat)).bind fun bt130 => ((span_Add.f (([bt127.1, bt130.1] : List Int))).bind fun bt135 => (if bt127.2 = true then (if bt130.2 = true then (if (t119 == bt135.2) = true then (if t119 = true then (some (bt135.1 == t118)) else (some true)) else (some false)) else (if (t119 == false) = true then (if t119 = true then (some (bt135.1 == t118)) else (some true)) else (some false))) else (if (t119 == false) = true then (if t119 = true then (some (bt135.1 == t118)) else (some true)) else (some false)))))) else (none)) else (none)) = some r := by first | (rw [hji20] at H; exact H) | (simp only [hji20] at H ⊢; exact H)
                    by_cases c21 : 0 ≤ (ji20)
                    · rw [if_pos c21] at H
                      have c21b0 := eq_true c21
                      have c21b1 : decide (0 ≤ (ji20)) = true := decide_eq_true c21
                      clear c21
                      by_cases c22 : (ji20) ≤ (l0.length : Int)
                      · rw [if_pos c22] at H
                        have c22b0 := eq_true c22
                        have c22b1 : decide ((ji20) ≤ (l0.length : Int)) = true := decide_eq_true c22
                        clear c22
                        replace H := Option.bind_eq_some_iff.mp H
                        obtain ⟨⟨t127, t128⟩, A230, H⟩ := H
                        replace H : ((span_Add.f (l0.drop ((ji20) : Int).toNat)).bind fun bt130 => ((span_Add.f (([t127, bt130.1] : List Int))).bind fun bt135 => (if t128 = true then (if bt130.2 = true then (if (t119 == bt135.2) = true then (if t119 = true then (some (bt135.1 == t118)) else (some true)) else (some false)) else (if (t119 == false) = true then (if t119 = true then (some (bt135.1 == t118)) else (some true)) else (some false))) else (if (t119 == false) = true then (if t119 = true then (some (bt135.1 == t118)) else (some true)) else (some false))))) = some r := H
                        have A23 := Aside0.mk A230
                        clear A230
                        have c24b0 := eq_true (of_decide_eq_true (by first | (with_reducible assumption) | assumption) : 0 ≤ (ji20))
                        have c25b0 := eq_true (of_decide_eq_true (by first | (with_reducible assumption) | assumption) : (ji20) ≤ (l0.length : Int))
                        replace H := Option.bind_eq_some_iff.mp H
                        obtain ⟨⟨t130, t131⟩, A260, H⟩ := H
                        replace H : ((span_Add.f (([t127, t130] : List Int))).bind fun bt135 => (if t128 = true then (if t131 = true then (if (t119 == bt135.2) = true then (if t119 = true then (some (bt135.1 == t118)) else (some true)) else (some false)) else (if (t119 == false) = true then (if t119 = true then (some (bt135.1 == t118)) else (some true)) else (some false))) else (if (t119 == false) = true then (if t119 = true then (some (bt135.1 == t118)) else (some true)) else (some false)))) = some r := H
                        have A26 := Aside0.mk A260
                        clear A260
                        obtain ⟨y132, hy132⟩ : ∃ y_ : List Int, y_ = (([t127, t130] : List Int)) := ⟨_, rfl⟩
                        replace H : ((span_Add.f y132).bind fun bt135 => (if t128 = true then (if t131 = true then (if (t119 == bt135.2) = true then (if t119 = true then (some (bt135.1 == t118)) else (some true)) else (some false)) else (if (t119 == false) = true then (if t119 = true then (some (bt135.1 == t118)) else (some true)) else (some false))) else (if (t119 == false) = true then (if t119 = true then (some (bt135.1 == t118)) else (some true)) else (some false)))) = some r := by first | (rw [hy132]; with_reducible exact H) | (have H2_ := (Option.bind_some _ _).symm.trans H; rw [hy132]; with_reducible exact H2_) | (have H2_ := (Option.bind_some _ _).symm.trans H; with_reducible exact H2_) | with_reducible exact H | (rw [hy132]; exact H) | exact H
                        have Ny132 := Aside0.mk hy132
                        clear hy132
                        replace H := Option.bind_eq_some_iff.mp H
                        obtain ⟨⟨t135, t136⟩, A270, H⟩ := H
                        replace H : (if t128 = true then (if t131 = true then (if (t119 == t136) = true then (if t119 = true then (some (t135 == t118)) else (some true)) else (some false)) else (if (t119 == false) = true then (if t119 = true then (some (t135 == t118)) else (some true)) else (some false))) else (if (t119 == false) = true then (if t119 = true then (some (t135 == t118)) else (some true)) else (some false))) = some r := H
                        have A27 := Aside0.mk A270
                        clear A270
                        by_cases c28 : t128 = true
                        · subst c28
                          have H1 : (if t131 = true then (if (t119 == t136) = true then (if t119 = true then (some (t135 == t118)) else (some true)) else (some false)) else (if (t119 == false) = true then (if t119 = true then (some (t135 == t118)) else (some true)) else (some false))) = some r := by rw [if_pos rfl] at H; exact H
                          clear H
                          have H := H1
                          clear H1
                          by_cases c29 : t131 = true
                          · subst c29
                            have H1 : (if (t119 == t136) = true then (if t119 = true then (some (t135 == t118)) else (some true)) else (some false)) = some r := by rw [if_pos rfl] at H; exact H
                            clear H
                            have H := H1
                            clear H1
                            by_cases c30 : (t119 == t136) = true
                            · rw [if_pos c30] at H
                              have c30b0 : (t119 == t136) = true := c30
                              (try (have c30b1 : decide (t119 = t136) = true := by simpa using c30))
                              (try (have c30b2 : (t119 == t136) = true := by simpa using c30))
                              clear c30
                              by_cases c31 : t119 = true
                              · subst c31
                                have H1 : (some (t135 == t118)) = some r := by rw [if_pos rfl] at H; exact H
                                clear H
                                have H := H1
                                clear H1
                                obtain rfl := Option.some.inj H
                                obtain ⟨i032, hi032, _, hsz32, _⟩ := info_parts info22
                                obtain ⟨hcut32, hA32, hC32⟩ := print_take_of (P := Try.prog) (Value.int .u64) 0 23 22 .i64 Try.underlying23 hi032 hsz32 A0 c0 l0 (ji20) (of_decide_eq_true (by first | (with_reducible assumption) | assumption)) (of_decide_eq_true (by first | (with_reducible assumption) | assumption)) HC0.out
                                have HR126 := Aside0.mk (Kd.C_of_reads (h1 := fun _ => rfl) (hA32 _ (Kd.reads_of_C HR0.out)))
                                have HC126 := Aside0.mk hC32
                                clear hA32 hC32 hi032 hsz32
                                go_wp2_with (first | ((with_reducible refine gate_callee (f := 11) rfl ?_); refine goesL_ (some 65) rfl rfl Try.func11 (by kernel_rfl) rfl #[.slice A0 (l0.take ((ji20) : Int).toNat).length c0] rfl (by (try simp only [List.map_toArray, List.map_cons, List.map_nil]); first | done | (rw [show (l0.take ((ji20) : Int).toNat).length = (ji20).toNat from (by rw [List.length_take]; have h_ : ((ji20) : Int) ≤ (l0.length : Int) := of_decide_eq_true (by first | (with_reducible assumption) | assumption); omega)] <;> rfl) | (simp only [hji20]; rfl) | rfl | (simp only [List.length_drop, List.length_take]; rfl)) ?_; (with_reducible refine (span_Add.calls _ _ (l0.take ((ji20) : Int).toNat) t127 true _ ?side1 ?side2 A23.out).mono ?_); (case side1 => repeat (first | exact (Kd.C_below HR126.out HB.out) | (with_reducible refine Kd.C_alloc ?_ _) | (with_reducible refine Kd.C_drewN ?_ _) | (with_reducible refine Kd.C_drew ?_))); (case side2 => exact HC126.out); rintro e w' ⟨rfl, ⟨nd, rfl⟩⟩; refine ⟨_, rfl, ?_⟩; obtain ⟨i033, hi033, _, hsz33, _⟩ := info_parts info22; obtain ⟨A33, hcut33, hA33, hC33⟩ := print_drop_of (P := Try.prog) (Value.int .u64) 0 23 22 .i64 Try.underlying23 hi033 hsz33 A0 c0 l0 (ji20) (of_decide_eq_true (by first | (with_reducible assumption) | assumption)) (of_decide_eq_true (by first | (with_reducible assumption) | assumption)) HC0.out; have HR129 := Aside0.mk (Kd.C_of_reads (h1 := fun _ => rfl) (hA33 _ (Kd.reads_of_C HR0.out))); have HC129 := Aside0.mk hC33; clear hA33 hC33 hi033 hsz33) | ((with_reducible refine gate_callee (f := 11) rfl ?_); refine goesL_ (some 72) rfl rfl Try.func11 (by kernel_rfl) rfl #[.slice A33 (l0.drop ((ji20) : Int).toNat).length (c0 - (ji20).toNat)] rfl (by (try simp only [List.map_toArray, List.map_cons, List.map_nil]); first | done | (rw [show (l0.drop ((ji20) : Int).toNat).length = (l0.length - (ji20).toNat) from List.length_drop] <;> rfl) | (simp only [hji20]; rfl) | rfl | (simp only [List.length_drop, List.length_take]; rfl)) ?_; (with_reducible refine (span_Add.calls _ _ (l0.drop ((ji20) : Int).toNat) t130 true _ ?side1 ?side2 A26.out).mono ?_); (case side1 => repeat (first | exact (Kd.C_below HR129.out (by repeat (first | (with_reducible first | exact HB.out | apply below_alloc | apply pw_below_drewN | apply below_drew1) | exact HB.out))) | (with_reducible refine Kd.C_alloc ?_ _) | (with_reducible refine Kd.C_drewN ?_ _) | (with_reducible refine Kd.C_drew ?_))); (case side2 => exact HC129.out); rintro e w' ⟨rfl, ⟨nd, rfl⟩⟩; refine ⟨_, rfl, ?_⟩) | ((with_reducible refine gate_dst (N := 78) rfl ?_); refine Kd.R_lit (Kd.int .u64) _ 22 ?hg (N := 78) ?hd (xs := ([t127, t130] : List Int)) (inner := [.int .u64 t127, .int .u64 t130]) (ok := fun _ => True) (okp := fun _ => True) ?hr ?hp (fun _ hk => hk) trivial (Below.refl _ _) (Nat.le_refl _) (by simp) ?_; (case hd => rfl); (case hg => rfl); (case hr => first | (go_simp; done) | (go_simp; rfl)); (case hp => exact (Reps.one (show Kd.M (Kd.int .u64) _ _ _ t127 [.int .u64 t127] from rfl) (Reps.one (show Kd.M (Kd.int .u64) _ _ _ t130 [.int .u64 t130] from rfl) (Reps.none _ _)))); intro v133 w34 ho35 hb hg_ hnew_; clear hg_ hnew_; (first | rw [← Ny132.out] at ho35 | (simp only [Int.reduceToNat] at ho35; rw [← Ny132.out] at ho35)); have n0_ := Aside0.mk (Kd.R_lower ho35 (below_size (by repeat (first | (with_reducible first | exact HB.out | apply below_alloc | apply pw_below_drewN | apply below_drew1) | exact HB.out)))); have n1_ := Aside0.mk (below_step (by repeat (first | (with_reducible first | exact HB.out | apply below_alloc | apply pw_below_drewN | apply below_drew1) | exact HB.out)) hb); clear HB; have HO134 := n0_; have HB := n1_; clear n0_ n1_; clear hb ho35; obtain ⟨Ao36, co36, eo36⟩ := Kd.R_slice HO134.out; subst eo36) | ((with_reducible refine gate_callee (f := 11) rfl ?_); refine goesL_ (some 79) rfl rfl Try.func11 (by kernel_rfl) rfl #[.slice Ao36 y132.length co36] rfl (by (try simp only [List.map_toArray, List.map_cons, List.map_nil]); first | done | rfl | (simp only [List.length_drop, List.length_take]; rfl)) ?_; (with_reducible refine (span_Add.calls _ _ y132 t135 t136 _ ?side1 ?side2 A27.out).mono ?_); (case side1 => repeat (first | exact (Kd.R_reads' HO134.out).2.2 | (with_reducible refine Kd.C_alloc ?_ _) | (with_reducible refine Kd.C_drewN ?_ _) | (with_reducible refine Kd.C_drew ?_))); (case side2 => exact (Kd.R_reads' HO134.out).2.1); rintro e w' ⟨rfl, ⟨nd, rfl⟩⟩; refine ⟨_, rfl, ?_⟩))
                                go_ret
                                exact ⟨by first | rfl | (simp [errW_none, errW_some] <;> rfl) | (simp only [← hji20]; first | rfl | (simp [errW_none, errW_some] <;> rfl)) | (simp [*, errW_none, errW_some] <;> rfl), by repeat (first | (with_reducible first | exact HB.out | apply below_alloc | apply pw_below_drewN | apply below_drew1) | exact HB.out)⟩
                              · replace c31 := Bool.eq_false_iff.mpr c31
                                subst c31
                                have H1 : (some true) = some r := by rw [if_neg (show ¬ (false = true) by decide)] at H; exact H
                                clear H
                                have H := H1
                                clear H1
                                obtain rfl := Option.some.inj H
                                obtain ⟨i037, hi037, _, hsz37, _⟩ := info_parts info22
                                obtain ⟨hcut37, hA37, hC37⟩ := print_take_of (P := Try.prog) (Value.int .u64) 0 23 22 .i64 Try.underlying23 hi037 hsz37 A0 c0 l0 (ji20) (of_decide_eq_true (by first | (with_reducible assumption) | assumption)) (of_decide_eq_true (by first | (with_reducible assumption) | assumption)) HC0.out
                                have HR126 := Aside0.mk (Kd.C_of_reads (h1 := fun _ => rfl) (hA37 _ (Kd.reads_of_C HR0.out)))
                                have HC126 := Aside0.mk hC37
                                clear hA37 hC37 hi037 hsz37
                                go_wp2_with (first | ((with_reducible refine gate_callee (f := 11) rfl ?_); refine goesL_ (some 65) rfl rfl Try.func11 (by kernel_rfl) rfl #[.slice A0 (l0.take ((ji20) : Int).toNat).length c0] rfl (by (try simp only [List.map_toArray, List.map_cons, List.map_nil]); first | done | (rw [show (l0.take ((ji20) : Int).toNat).length = (ji20).toNat from (by rw [List.length_take]; have h_ : ((ji20) : Int) ≤ (l0.length : Int) := of_decide_eq_true (by first | (with_reducible assumption) | assumption); omega)] <;> rfl) | (simp only [hji20]; rfl) | rfl | (simp only [List.length_drop, List.length_take]; rfl)) ?_; (with_reducible refine (span_Add.calls _ _ (l0.take ((ji20) : Int).toNat) t127 true _ ?side1 ?side2 A23.out).mono ?_); (case side1 => repeat (first | exact (Kd.C_below HR126.out HB.out) | (with_reducible refine Kd.C_alloc ?_ _) | (with_reducible refine Kd.C_drewN ?_ _) | (with_reducible refine Kd.C_drew ?_))); (case side2 => exact HC126.out); rintro e w' ⟨rfl, ⟨nd, rfl⟩⟩; refine ⟨_, rfl, ?_⟩; obtain ⟨i038, hi038, _, hsz38, _⟩ := info_parts info22; obtain ⟨A38, hcut38, hA38, hC38⟩ := print_drop_of (P := Try.prog) (Value.int .u64) 0 23 22 .i64 Try.underlying23 hi038 hsz38 A0 c0 l0 (ji20) (of_decide_eq_true (by first | (with_reducible assumption) | assumption)) (of_decide_eq_true (by first | (with_reducible assumption) | assumption)) HC0.out; have HR129 := Aside0.mk (Kd.C_of_reads (h1 := fun _ => rfl) (hA38 _ (Kd.reads_of_C HR0.out))); have HC129 := Aside0.mk hC38; clear hA38 hC38 hi038 hsz38) | ((with_reducible refine gate_callee (f := 11) rfl ?_); refine goesL_ (some 72) rfl rfl Try.func11 (by kernel_rfl) rfl #[.slice A38 (l0.drop ((ji20) : Int).toNat).length (c0 - (ji20).toNat)] rfl (by (try simp only [List.map_toArray, List.map_cons, List.map_nil]); first | done | (rw [show (l0.drop ((ji20) : Int).toNat).length = (l0.length - (ji20).toNat) from List.length_drop] <;> rfl) | (simp only [hji20]; rfl) | rfl | (simp only [List.length_drop, List.length_take]; rfl)) ?_; (with_reducible refine (span_Add.calls _ _ (l0.drop ((ji20) : Int).toNat) t130 true _ ?side1 ?side2 A26.out).mono ?_); (case side1 => repeat (first | exact (Kd.C_below HR129.out (by repeat (first | (with_reducible first | exact HB.out | apply below_alloc | apply pw_below_drewN | apply below_drew1) | exact HB.out))) | (with_reducible refine Kd.C_alloc ?_ _) | (with_reducible refine Kd.C_drewN ?_ _) | (with_reducible refine Kd.C_drew ?_))); (case side2 => exact HC129.out); rintro e w' ⟨rfl, ⟨nd, rfl⟩⟩; refine ⟨_, rfl, ?_⟩) | ((with_reducible refine gate_dst (N := 78) rfl ?_); refine Kd.R_lit (Kd.int .u64) _ 22 ?hg (N := 78) ?hd (xs := ([t127, t130] : List Int)) (inner := [.int .u64 t127, .int .u64 t130]) (ok := fun _ => True) (okp := fun _ => True) ?hr ?hp (fun _ hk => hk) trivial (Below.refl _ _) (Nat.le_refl _) (by simp) ?_; (case hd => rfl); (case hg => rfl); (case hr => first | (go_simp; done) | (go_simp; rfl)); (case hp => exact (Reps.one (show Kd.M (Kd.int .u64) _ _ _ t127 [.int .u64 t127] from rfl) (Reps.one (show Kd.M (Kd.int .u64) _ _ _ t130 [.int .u64 t130] from rfl) (Reps.none _ _)))); intro v133 w39 ho40 hb hg_ hnew_; clear hg_ hnew_; (first | rw [← Ny132.out] at ho40 | (simp only [Int.reduceToNat] at ho40; rw [← Ny132.out] at ho40)); have n0_ := Aside0.mk (Kd.R_lower ho40 (below_size (by repeat (first | (with_reducible first | exact HB.out | apply below_alloc | apply pw_below_drewN | apply below_drew1) | exact HB.out)))); have n1_ := Aside0.mk (below_step (by repeat (first | (with_reducible first | exact HB.out | apply below_alloc | apply pw_below_drewN | apply below_drew1) | exact HB.out)) hb); clear HB; have HO134 := n0_; have HB := n1_; clear n0_ n1_; clear hb ho40; obtain ⟨Ao41, co41, eo41⟩ := Kd.R_slice HO134.out; subst eo41) | ((with_reducible refine gate_callee (f := 11) rfl ?_); refine goesL_ (some 79) rfl rfl Try.func11 (by kernel_rfl) rfl #[.slice Ao41 y132.length co41] rfl (by (try simp only [List.map_toArray, List.map_cons, List.map_nil]); first | done | rfl | (simp only [List.length_drop, List.length_take]; rfl)) ?_; (with_reducible refine (span_Add.calls _ _ y132 t135 t136 _ ?side1 ?side2 A27.out).mono ?_); (case side1 => repeat (first | exact (Kd.R_reads' HO134.out).2.2 | (with_reducible refine Kd.C_alloc ?_ _) | (with_reducible refine Kd.C_drewN ?_ _) | (with_reducible refine Kd.C_drew ?_))); (case side2 => exact (Kd.R_reads' HO134.out).2.1); rintro e w' ⟨rfl, ⟨nd, rfl⟩⟩; refine ⟨_, rfl, ?_⟩))
                                go_ret
                                exact ⟨by first | rfl | (simp [errW_none, errW_some] <;> rfl) | (simp only [← hji20]; first | rfl | (simp [errW_none, errW_some] <;> rfl)) | (simp [*, errW_none, errW_some] <;> rfl), by repeat (first | (with_reducible first | exact HB.out | apply below_alloc | apply pw_below_drewN | apply below_drew1) | exact HB.out)⟩
                            · rw [if_neg c30] at H
                              have c30b0 : (t119 == t136) = false := by simpa using c30
                              (try (have c30b1 : decide (t119 = t136) = false := by simpa using c30))
                              (try (have c30b2 : (t119 == t136) = false := by simpa using c30))
                              (try (have c30b3 : ¬ (t119 = t136) := by simpa using c30))
                              clear c30
                              obtain rfl := Option.some.inj H
                              obtain ⟨i042, hi042, _, hsz42, _⟩ := info_parts info22
                              obtain ⟨hcut42, hA42, hC42⟩ := print_take_of (P := Try.prog) (Value.int .u64) 0 23 22 .i64 Try.underlying23 hi042 hsz42 A0 c0 l0 (ji20) (of_decide_eq_true (by first | (with_reducible assumption) | assumption)) (of_decide_eq_true (by first | (with_reducible assumption) | assumption)) HC0.out
                              have HR126 := Aside0.mk (Kd.C_of_reads (h1 := fun _ => rfl) (hA42 _ (Kd.reads_of_C HR0.out)))
                              have HC126 := Aside0.mk hC42
                              clear hA42 hC42 hi042 hsz42
                              go_wp2_with (first | ((with_reducible refine gate_callee (f := 11) rfl ?_); refine goesL_ (some 65) rfl rfl Try.func11 (by kernel_rfl) rfl #[.slice A0 (l0.take ((ji20) : Int).toNat).length c0] rfl (by (try simp only [List.map_toArray, List.map_cons, List.map_nil]); first | done | (rw [show (l0.take ((ji20) : Int).toNat).length = (ji20).toNat from (by rw [List.length_take]; have h_ : ((ji20) : Int) ≤ (l0.length : Int) := of_decide_eq_true (by first | (with_reducible assumption) | assumption); omega)] <;> rfl) | (simp only [hji20]; rfl) | rfl | (simp only [List.length_drop, List.length_take]; rfl)) ?_; (with_reducible refine (span_Add.calls _ _ (l0.take ((ji20) : Int).toNat) t127 true _ ?side1 ?side2 A23.out).mono ?_); (case side1 => repeat (first | exact (Kd.C_below HR126.out HB.out) | (with_reducible refine Kd.C_alloc ?_ _) | (with_reducible refine Kd.C_drewN ?_ _) | (with_reducible refine Kd.C_drew ?_))); (case side2 => exact HC126.out); rintro e w' ⟨rfl, ⟨nd, rfl⟩⟩; refine ⟨_, rfl, ?_⟩; obtain ⟨i043, hi043, _, hsz43, _⟩ := info_parts info22; obtain ⟨A43, hcut43, hA43, hC43⟩ := print_drop_of (P := Try.prog) (Value.int .u64) 0 23 22 .i64 Try.underlying23 hi043 hsz43 A0 c0 l0 (ji20) (of_decide_eq_true (by first | (with_reducible assumption) | assumption)) (of_decide_eq_true (by first | (with_reducible assumption) | assumption)) HC0.out; have HR129 := Aside0.mk (Kd.C_of_reads (h1 := fun _ => rfl) (hA43 _ (Kd.reads_of_C HR0.out))); have HC129 := Aside0.mk hC43; clear hA43 hC43 hi043 hsz43) | ((with_reducible refine gate_callee (f := 11) rfl ?_); refine goesL_ (some 72) rfl rfl Try.func11 (by kernel_rfl) rfl #[.slice A43 (l0.drop ((ji20) : Int).toNat).length (c0 - (ji20).toNat)] rfl (by (try simp only [List.map_toArray, List.map_cons, List.map_nil]); first | done | (rw [show (l0.drop ((ji20) : Int).toNat).length = (l0.length - (ji20).toNat) from List.length_drop] <;> rfl) | (simp only [hji20]; rfl) | rfl | (simp only [List.length_drop, List.length_take]; rfl)) ?_; (with_reducible refine (span_Add.calls _ _ (l0.drop ((ji20) : Int).toNat) t130 true _ ?side1 ?side2 A26.out).mono ?_); (case side1 => repeat (first | exact (Kd.C_below HR129.out (by repeat (first | (with_reducible first | exact HB.out | apply below_alloc | apply pw_below_drewN | apply below_drew1) | exact HB.out))) | (with_reducible refine Kd.C_alloc ?_ _) | (with_reducible refine Kd.C_drewN ?_ _) | (with_reducible refine Kd.C_drew ?_))); (case side2 => exact HC129.out); rintro e w' ⟨rfl, ⟨nd, rfl⟩⟩; refine ⟨_, rfl, ?_⟩) | ((with_reducible refine gate_dst (N := 78) rfl ?_); refine Kd.R_lit (Kd.int .u64) _ 22 ?hg (N := 78) ?hd (xs := ([t127, t130] : List Int)) (inner := [.int .u64 t127, .int .u64 t130]) (ok := fun _ => True) (okp := fun _ => True) ?hr ?hp (fun _ hk => hk) trivial (Below.refl _ _) (Nat.le_refl _) (by simp) ?_; (case hd => rfl); (case hg => rfl); (case hr => first | (go_simp; done) | (go_simp; rfl)); (case hp => exact (Reps.one (show Kd.M (Kd.int .u64) _ _ _ t127 [.int .u64 t127] from rfl) (Reps.one (show Kd.M (Kd.int .u64) _ _ _ t130 [.int .u64 t130] from rfl) (Reps.none _ _)))); intro v133 w44 ho45 hb hg_ hnew_; clear hg_ hnew_; (first | rw [← Ny132.out] at ho45 | (simp only [Int.reduceToNat] at ho45; rw [← Ny132.out] at ho45)); have n0_ := Aside0.mk (Kd.R_lower ho45 (below_size (by repeat (first | (with_reducible first | exact HB.out | apply below_alloc | apply pw_below_drewN | apply below_drew1) | exact HB.out)))); have n1_ := Aside0.mk (below_step (by repeat (first | (with_reducible first | exact HB.out | apply below_alloc | apply pw_below_drewN | apply below_drew1) | exact HB.out)) hb); clear HB; have HO134 := n0_; have HB := n1_; clear n0_ n1_; clear hb ho45; obtain ⟨Ao46, co46, eo46⟩ := Kd.R_slice HO134.out; subst eo46) | ((with_reducible refine gate_callee (f := 11) rfl ?_); refine goesL_ (some 79) rfl rfl Try.func11 (by kernel_rfl) rfl #[.slice Ao46 y132.length co46] rfl (by (try simp only [List.map_toArray, List.map_cons, List.map_nil]); first | done | rfl | (simp only [List.length_drop, List.length_take]; rfl)) ?_; (with_reducible refine (span_Add.calls _ _ y132 t135 t136 _ ?side1 ?side2 A27.out).mono ?_); (case side1 => repeat (first | exact (Kd.R_reads' HO134.out).2.2 | (with_reducible refine Kd.C_alloc ?_ _) | (with_reducible refine Kd.C_drewN ?_ _) | (with_reducible refine Kd.C_drew ?_))); (case side2 => exact (Kd.R_reads' HO134.out).2.1); rintro e w' ⟨rfl, ⟨nd, rfl⟩⟩; refine ⟨_, rfl, ?_⟩))
                              go_ret
                              exact ⟨by first | rfl | (simp [errW_none, errW_some] <;> rfl) | (simp only [← hji20]; first | rfl | (simp [errW_none, errW_some] <;> rfl)) | (simp [*, errW_none, errW_some] <;> rfl), by repeat (first | (with_reducible first | exact HB.out | apply below_alloc | apply pw_below_drewN | apply below_drew1) | exact HB.out)⟩
                          · replace c29 := Bool.eq_false_iff.mpr c29
                            subst c29
                            have H1 : (if (t119 == false) = true then (if t119 = true then (some (t135 == t118)) else (some true)) else (some false)) = some r := by rw [if_neg (show ¬ (false = true) by decide)] at H; exact H
                            clear H
                            have H := H1
                            clear H1
                            by_cases c47 : (t119 == false) = true
                            · rw [if_pos c47] at H
                              have c47b0 : (t119 == false) = true := c47
                              (try (have c47b1 : decide (t119 = false) = true := by simpa using c47))
                              (try (have c47b2 : (t119 == false) = true := by simpa using c47))
                              clear c47
                              by_cases c48 : t119 = true
                              · subst c48
                                have H1 : (some (t135 == t118)) = some r := by rw [if_pos rfl] at H; exact H
                                clear H
                                have H := H1
                                clear H1
                                obtain rfl := Option.some.inj H
                                obtain ⟨i049, hi049, _, hsz49, _⟩ := info_parts info22
                                obtain ⟨hcut49, hA49, hC49⟩ := print_take_of (P := Try.prog) (Value.int .u64) 0 23 22 .i64 Try.underlying23 hi049 hsz49 A0 c0 l0 (ji20) (of_decide_eq_true (by first | (with_reducible assumption) | assumption)) (of_decide_eq_true (by first | (with_reducible assumption) | assumption)) HC0.out
                                have HR126 := Aside0.mk (Kd.C_of_reads (h1 := fun _ => rfl) (hA49 _ (Kd.reads_of_C HR0.out)))
                                have HC126 := Aside0.mk hC49
                                clear hA49 hC49 hi049 hsz49
                                go_wp2_with (first | ((with_reducible refine gate_callee (f := 11) rfl ?_); refine goesL_ (some 65) rfl rfl Try.func11 (by kernel_rfl) rfl #[.slice A0 (l0.take ((ji20) : Int).toNat).length c0] rfl (by (try simp only [List.map_toArray, List.map_cons, List.map_nil]); first | done | (rw [show (l0.take ((ji20) : Int).toNat).length = (ji20).toNat from (by rw [List.length_take]; have h_ : ((ji20) : Int) ≤ (l0.length : Int) := of_decide_eq_true (by first | (with_reducible assumption) | assumption); omega)] <;> rfl) | (simp only [hji20]; rfl) | rfl | (simp only [List.length_drop, List.length_take]; rfl)) ?_; (with_reducible refine (span_Add.calls _ _ (l0.take ((ji20) : Int).toNat) t127 true _ ?side1 ?side2 A23.out).mono ?_); (case side1 => repeat (first | exact (Kd.C_below HR126.out HB.out) | (with_reducible refine Kd.C_alloc ?_ _) | (with_reducible refine Kd.C_drewN ?_ _) | (with_reducible refine Kd.C_drew ?_))); (case side2 => exact HC126.out); rintro e w' ⟨rfl, ⟨nd, rfl⟩⟩; refine ⟨_, rfl, ?_⟩; obtain ⟨i050, hi050, _, hsz50, _⟩ := info_parts info22; obtain ⟨A50, hcut50, hA50, hC50⟩ := print_drop_of (P := Try.prog) (Value.int .u64) 0 23 22 .i64 Try.underlying23 hi050 hsz50 A0 c0 l0 (ji20) (of_decide_eq_true (by first | (with_reducible assumption) | assumption)) (of_decide_eq_true (by first | (with_reducible assumption) | assumption)) HC0.out; have HR129 := Aside0.mk (Kd.C_of_reads (h1 := fun _ => rfl) (hA50 _ (Kd.reads_of_C HR0.out))); have HC129 := Aside0.mk hC50; clear hA50 hC50 hi050 hsz50) | ((with_reducible refine gate_callee (f := 11) rfl ?_); refine goesL_ (some 72) rfl rfl Try.func11 (by kernel_rfl) rfl #[.slice A50 (l0.drop ((ji20) : Int).toNat).length (c0 - (ji20).toNat)] rfl (by (try simp only [List.map_toArray, List.map_cons, List.map_nil]); first | done | (rw [show (l0.drop ((ji20) : Int).toNat).length = (l0.length - (ji20).toNat) from List.length_drop] <;> rfl) | (simp only [hji20]; rfl) | rfl | (simp only [List.length_drop, List.length_take]; rfl)) ?_; (with_reducible refine (span_Add.calls _ _ (l0.drop ((ji20) : Int).toNat) t130 false _ ?side1 ?side2 A26.out).mono ?_); (case side1 => repeat (first | exact (Kd.C_below HR129.out (by repeat (first | (with_reducible first | exact HB.out | apply below_alloc | apply pw_below_drewN | apply below_drew1) | exact HB.out))) | (with_reducible refine Kd.C_alloc ?_ _) | (with_reducible refine Kd.C_drewN ?_ _) | (with_reducible refine Kd.C_drew ?_))); (case side2 => exact HC129.out); rintro e w' ⟨rfl, ⟨nd, rfl⟩⟩; refine ⟨_, rfl, ?_⟩) | ((with_reducible refine gate_dst (N := 78) rfl ?_); refine Kd.R_lit (Kd.int .u64) _ 22 ?hg (N := 78) ?hd (xs := ([t127, t130] : List Int)) (inner := [.int .u64 t127, .int .u64 t130]) (ok := fun _ => True) (okp := fun _ => True) ?hr ?hp (fun _ hk => hk) trivial (Below.refl _ _) (Nat.le_refl _) (by simp) ?_; (case hd => rfl); (case hg => rfl); (case hr => first | (go_simp; done) | (go_simp; rfl)); (case hp => exact (Reps.one (show Kd.M (Kd.int .u64) _ _ _ t127 [.int .u64 t127] from rfl) (Reps.one (show Kd.M (Kd.int .u64) _ _ _ t130 [.int .u64 t130] from rfl) (Reps.none _ _)))); intro v133 w51 ho52 hb hg_ hnew_; clear hg_ hnew_; (first | rw [← Ny132.out] at ho52 | (simp only [Int.reduceToNat] at ho52; rw [← Ny132.out] at ho52)); have n0_ := Aside0.mk (Kd.R_lower ho52 (below_size (by repeat (first | (with_reducible first | exact HB.out | apply below_alloc | apply pw_below_drewN | apply below_drew1) | exact HB.out)))); have n1_ := Aside0.mk (below_step (by repeat (first | (with_reducible first | exact HB.out | apply below_alloc | apply pw_below_drewN | apply below_drew1) | exact HB.out)) hb); clear HB; have HO134 := n0_; have HB := n1_; clear n0_ n1_; clear hb ho52; obtain ⟨Ao53, co53, eo53⟩ := Kd.R_slice HO134.out; subst eo53) | ((with_reducible refine gate_callee (f := 11) rfl ?_); refine goesL_ (some 79) rfl rfl Try.func11 (by kernel_rfl) rfl #[.slice Ao53 y132.length co53] rfl (by (try simp only [List.map_toArray, List.map_cons, List.map_nil]); first | done | rfl | (simp only [List.length_drop, List.length_take]; rfl)) ?_; (with_reducible refine (span_Add.calls _ _ y132 t135 t136 _ ?side1 ?side2 A27.out).mono ?_); (case side1 => repeat (first | exact (Kd.R_reads' HO134.out).2.2 | (with_reducible refine Kd.C_alloc ?_ _) | (with_reducible refine Kd.C_drewN ?_ _) | (with_reducible refine Kd.C_drew ?_))); (case side2 => exact (Kd.R_reads' HO134.out).2.1); rintro e w' ⟨rfl, ⟨nd, rfl⟩⟩; refine ⟨_, rfl, ?_⟩))
                                go_ret
                                exact ⟨by first | rfl | (simp [errW_none, errW_some] <;> rfl) | (simp only [← hji20]; first | rfl | (simp [errW_none, errW_some] <;> rfl)) | (simp [*, errW_none, errW_some] <;> rfl), by repeat (first | (with_reducible first | exact HB.out | apply below_alloc | apply pw_below_drewN | apply below_drew1) | exact HB.out)⟩
                              · replace c48 := Bool.eq_false_iff.mpr c48
                                subst c48
                                have H1 : (some true) = some r := by rw [if_neg (show ¬ (false = true) by decide)] at H; exact H
                                clear H
                                have H := H1
                                clear H1
                                obtain rfl := Option.some.inj H
                                obtain ⟨i054, hi054, _, hsz54, _⟩ := info_parts info22
                                obtain ⟨hcut54, hA54, hC54⟩ := print_take_of (P := Try.prog) (Value.int .u64) 0 23 22 .i64 Try.underlying23 hi054 hsz54 A0 c0 l0 (ji20) (of_decide_eq_true (by first | (with_reducible assumption) | assumption)) (of_decide_eq_true (by first | (with_reducible assumption) | assumption)) HC0.out
                                have HR126 := Aside0.mk (Kd.C_of_reads (h1 := fun _ => rfl) (hA54 _ (Kd.reads_of_C HR0.out)))
                                have HC126 := Aside0.mk hC54
                                clear hA54 hC54 hi054 hsz54
                                go_wp2_with (first | ((with_reducible refine gate_callee (f := 11) rfl ?_); refine goesL_ (some 65) rfl rfl Try.func11 (by kernel_rfl) rfl #[.slice A0 (l0.take ((ji20) : Int).toNat).length c0] rfl (by (try simp only [List.map_toArray, List.map_cons, List.map_nil]); first | done | (rw [show (l0.take ((ji20) : Int).toNat).length = (ji20).toNat from (by rw [List.length_take]; have h_ : ((ji20) : Int) ≤ (l0.length : Int) := of_decide_eq_true (by first | (with_reducible assumption) | assumption); omega)] <;> rfl) | (simp only [hji20]; rfl) | rfl | (simp only [List.length_drop, List.length_take]; rfl)) ?_; (with_reducible refine (span_Add.calls _ _ (l0.take ((ji20) : Int).toNat) t127 true _ ?side1 ?side2 A23.out).mono ?_); (case side1 => repeat (first | exact (Kd.C_below HR126.out HB.out) | (with_reducible refine Kd.C_alloc ?_ _) | (with_reducible refine Kd.C_drewN ?_ _) | (with_reducible refine Kd.C_drew ?_))); (case side2 => exact HC126.out); rintro e w' ⟨rfl, ⟨nd, rfl⟩⟩; refine ⟨_, rfl, ?_⟩; obtain ⟨i055, hi055, _, hsz55, _⟩ := info_parts info22; obtain ⟨A55, hcut55, hA55, hC55⟩ := print_drop_of (P := Try.prog) (Value.int .u64) 0 23 22 .i64 Try.underlying23 hi055 hsz55 A0 c0 l0 (ji20) (of_decide_eq_true (by first | (with_reducible assumption) | assumption)) (of_decide_eq_true (by first | (with_reducible assumption) | assumption)) HC0.out; have HR129 := Aside0.mk (Kd.C_of_reads (h1 := fun _ => rfl) (hA55 _ (Kd.reads_of_C HR0.out))); have HC129 := Aside0.mk hC55; clear hA55 hC55 hi055 hsz55) | ((with_reducible refine gate_callee (f := 11) rfl ?_); refine goesL_ (some 72) rfl rfl Try.func11 (by kernel_rfl) rfl #[.slice A55 (l0.drop ((ji20) : Int).toNat).length (c0 - (ji20).toNat)] rfl (by (try simp only [List.map_toArray, List.map_cons, List.map_nil]); first | done | (rw [show (l0.drop ((ji20) : Int).toNat).length = (l0.length - (ji20).toNat) from List.length_drop] <;> rfl) | (simp only [hji20]; rfl) | rfl | (simp only [List.length_drop, List.length_take]; rfl)) ?_; (with_reducible refine (span_Add.calls _ _ (l0.drop ((ji20) : Int).toNat) t130 false _ ?side1 ?side2 A26.out).mono ?_); (case side1 => repeat (first | exact (Kd.C_below HR129.out (by repeat (first | (with_reducible first | exact HB.out | apply below_alloc | apply pw_below_drewN | apply below_drew1) | exact HB.out))) | (with_reducible refine Kd.C_alloc ?_ _) | (with_reducible refine Kd.C_drewN ?_ _) | (with_reducible refine Kd.C_drew ?_))); (case side2 => exact HC129.out); rintro e w' ⟨rfl, ⟨nd, rfl⟩⟩; refine ⟨_, rfl, ?_⟩) | ((with_reducible refine gate_dst (N := 78) rfl ?_); refine Kd.R_lit (Kd.int .u64) _ 22 ?hg (N := 78) ?hd (xs := ([t127, t130] : List Int)) (inner := [.int .u64 t127, .int .u64 t130]) (ok := fun _ => True) (okp := fun _ => True) ?hr ?hp (fun _ hk => hk) trivial (Below.refl _ _) (Nat.le_refl _) (by simp) ?_; (case hd => rfl); (case hg => rfl); (case hr => first | (go_simp; done) | (go_simp; rfl)); (case hp => exact (Reps.one (show Kd.M (Kd.int .u64) _ _ _ t127 [.int .u64 t127] from rfl) (Reps.one (show Kd.M (Kd.int .u64) _ _ _ t130 [.int .u64 t130] from rfl) (Reps.none _ _)))); intro v133 w56 ho57 hb hg_ hnew_; clear hg_ hnew_; (first | rw [← Ny132.out] at ho57 | (simp only [Int.reduceToNat] at ho57; rw [← Ny132.out] at ho57)); have n0_ := Aside0.mk (Kd.R_lower ho57 (below_size (by repeat (first | (with_reducible first | exact HB.out | apply below_alloc | apply pw_below_drewN | apply below_drew1) | exact HB.out)))); have n1_ := Aside0.mk (below_step (by repeat (first | (with_reducible first | exact HB.out | apply below_alloc | apply pw_below_drewN | apply below_drew1) | exact HB.out)) hb); clear HB; have HO134 := n0_; have HB := n1_; clear n0_ n1_; clear hb ho57; obtain ⟨Ao58, co58, eo58⟩ := Kd.R_slice HO134.out; subst eo58) | ((with_reducible refine gate_callee (f := 11) rfl ?_); refine goesL_ (some 79) rfl rfl Try.func11 (by kernel_rfl) rfl #[.slice Ao58 y132.length co58] rfl (by (try simp only [List.map_toArray, List.map_cons, List.map_nil]); first | done | rfl | (simp only [List.length_drop, List.length_take]; rfl)) ?_; (with_reducible refine (span_Add.calls _ _ y132 t135 t136 _ ?side1 ?side2 A27.out).mono ?_); (case side1 => repeat (first | exact (Kd.R_reads' HO134.out).2.2 | (with_reducible refine Kd.C_alloc ?_ _) | (with_reducible refine Kd.C_drewN ?_ _) | (with_reducible refine Kd.C_drew ?_))); (case side2 => exact (Kd.R_reads' HO134.out).2.1); rintro e w' ⟨rfl, ⟨nd, rfl⟩⟩; refine ⟨_, rfl, ?_⟩))
                                go_ret
                                exact ⟨by first | rfl | (simp [errW_none, errW_some] <;> rfl) | (simp only [← hji20]; first | rfl | (simp [errW_none, errW_some] <;> rfl)) | (simp [*, errW_none, errW_some] <;> rfl), by repeat (first | (with_reducible first | exact HB.out | apply below_alloc | apply pw_below_drewN | apply below_drew1) | exact HB.out)⟩
                            · rw [if_neg c47] at H
                              have c47b0 : (t119 == false) = false := by simpa using c47
                              (try (have c47b1 : decide (t119 = false) = false := by simpa using c47))
                              (try (have c47b2 : (t119 == false) = false := by simpa using c47))
                              (try (have c47b3 : ¬ (t119 = false) := by simpa using c47))
                              clear c47
                              obtain rfl := Option.some.inj H
                              obtain ⟨i059, hi059, _, hsz59, _⟩ := info_parts info22
                              obtain ⟨hcut59, hA59, hC59⟩ := print_take_of (P := Try.prog) (Value.int .u64) 0 23 22 .i64 Try.underlying23 hi059 hsz59 A0 c0 l0 (ji20) (of_decide_eq_true (by first | (with_reducible assumption) | assumption)) (of_decide_eq_true (by first | (with_reducible assumption) | assumption)) HC0.out
                              have HR126 := Aside0.mk (Kd.C_of_reads (h1 := fun _ => rfl) (hA59 _ (Kd.reads_of_C HR0.out)))
                              have HC126 := Aside0.mk hC59
                              clear hA59 hC59 hi059 hsz59
                              go_wp2_with (first | ((with_reducible refine gate_callee (f := 11) rfl ?_); refine goesL_ (some 65) rfl rfl Try.func11 (by kernel_rfl) rfl #[.slice A0 (l0.take ((ji20) : Int).toNat).length c0] rfl (by (try simp only [List.map_toArray, List.map_cons, List.map_nil]); first | done | (rw [show (l0.take ((ji20) : Int).toNat).length = (ji20).toNat from (by rw [List.length_take]; have h_ : ((ji20) : Int) ≤ (l0.length : Int) := of_decide_eq_true (by first | (with_reducible assumption) | assumption); omega)] <;> rfl) | (simp only [hji20]; rfl) | rfl | (simp only [List.length_drop, List.length_take]; rfl)) ?_; (with_reducible refine (span_Add.calls _ _ (l0.take ((ji20) : Int).toNat) t127 true _ ?side1 ?side2 A23.out).mono ?_); (case side1 => repeat (first | exact (Kd.C_below HR126.out HB.out) | (with_reducible refine Kd.C_alloc ?_ _) | (with_reducible refine Kd.C_drewN ?_ _) | (with_reducible refine Kd.C_drew ?_))); (case side2 => exact HC126.out); rintro e w' ⟨rfl, ⟨nd, rfl⟩⟩; refine ⟨_, rfl, ?_⟩; obtain ⟨i060, hi060, _, hsz60, _⟩ := info_parts info22; obtain ⟨A60, hcut60, hA60, hC60⟩ := print_drop_of (P := Try.prog) (Value.int .u64) 0 23 22 .i64 Try.underlying23 hi060 hsz60 A0 c0 l0 (ji20) (of_decide_eq_true (by first | (with_reducible assumption) | assumption)) (of_decide_eq_true (by first | (with_reducible assumption) | assumption)) HC0.out; have HR129 := Aside0.mk (Kd.C_of_reads (h1 := fun _ => rfl) (hA60 _ (Kd.reads_of_C HR0.out))); have HC129 := Aside0.mk hC60; clear hA60 hC60 hi060 hsz60) | ((with_reducible refine gate_callee (f := 11) rfl ?_); refine goesL_ (some 72) rfl rfl Try.func11 (by kernel_rfl) rfl #[.slice A60 (l0.drop ((ji20) : Int).toNat).length (c0 - (ji20).toNat)] rfl (by (try simp only [List.map_toArray, List.map_cons, List.map_nil]); first | done | (rw [show (l0.drop ((ji20) : Int).toNat).length = (l0.length - (ji20).toNat) from List.length_drop] <;> rfl) | (simp only [hji20]; rfl) | rfl | (simp only [List.length_drop, List.length_take]; rfl)) ?_; (with_reducible refine (span_Add.calls _ _ (l0.drop ((ji20) : Int).toNat) t130 false _ ?side1 ?side2 A26.out).mono ?_); (case side1 => repeat (first | exact (Kd.C_below HR129.out (by repeat (first | (with_reducible first | exact HB.out | apply below_alloc | apply pw_below_drewN | apply below_drew1) | exact HB.out))) | (with_reducible refine Kd.C_alloc ?_ _) | (with_reducible refine Kd.C_drewN ?_ _) | (with_reducible refine Kd.C_drew ?_))); (case side2 => exact HC129.out); rintro e w' ⟨rfl, ⟨nd, rfl⟩⟩; refine ⟨_, rfl, ?_⟩) | ((with_reducible refine gate_dst (N := 78) rfl ?_); refine Kd.R_lit (Kd.int .u64) _ 22 ?hg (N := 78) ?hd (xs := ([t127, t130] : List Int)) (inner := [.int .u64 t127, .int .u64 t130]) (ok := fun _ => True) (okp := fun _ => True) ?hr ?hp (fun _ hk => hk) trivial (Below.refl _ _) (Nat.le_refl _) (by simp) ?_; (case hd => rfl); (case hg => rfl); (case hr => first | (go_simp; done) | (go_simp; rfl)); (case hp => exact (Reps.one (show Kd.M (Kd.int .u64) _ _ _ t127 [.int .u64 t127] from rfl) (Reps.one (show Kd.M (Kd.int .u64) _ _ _ t130 [.int .u64 t130] from rfl) (Reps.none _ _)))); intro v133 w61 ho62 hb hg_ hnew_; clear hg_ hnew_; (first | rw [← Ny132.out] at ho62 | (simp only [Int.reduceToNat] at ho62; rw [← Ny132.out] at ho62)); have n0_ := Aside0.mk (Kd.R_lower ho62 (below_size (by repeat (first | (with_reducible first | exact HB.out | apply below_alloc | apply pw_below_drewN | apply below_drew1) | exact HB.out)))); have n1_ := Aside0.mk (below_step (by repeat (first | (with_reducible first | exact HB.out | apply below_alloc | apply pw_below_drewN | apply below_drew1) | exact HB.out)) hb); clear HB; have HO134 := n0_; have HB := n1_; clear n0_ n1_; clear hb ho62; obtain ⟨Ao63, co63, eo63⟩ := Kd.R_slice HO134.out; subst eo63) | ((with_reducible refine gate_callee (f := 11) rfl ?_); refine goesL_ (some 79) rfl rfl Try.func11 (by kernel_rfl) rfl #[.slice Ao63 y132.length co63] rfl (by (try simp only [List.map_toArray, List.map_cons, List.map_nil]); first | done | rfl | (simp only [List.length_drop, List.length_take]; rfl)) ?_; (with_reducible refine (span_Add.calls _ _ y132 t135 t136 _ ?side1 ?side2 A27.out).mono ?_); (case side1 => repeat (first | exact (Kd.R_reads' HO134.out).2.2 | (with_reducible refine Kd.C_alloc ?_ _) | (with_reducible refine Kd.C_drewN ?_ _) | (with_reducible refine Kd.C_drew ?_))); (case side2 => exact (Kd.R_reads' HO134.out).2.1); rintro e w' ⟨rfl, ⟨nd, rfl⟩⟩; refine ⟨_, rfl, ?_⟩))
                              go_ret
                              exact ⟨by first | rfl | (simp [errW_none, errW_some] <;> rfl) | (simp only [← hji20]; first | rfl | (simp [errW_none, errW_some] <;> rfl)) | (simp [*, errW_none, errW_some] <;> rfl), by repeat (first | (with_reducible first | exact HB.out | apply below_alloc | apply pw_below_drewN | apply below_drew1) | exact HB.out)⟩
                        · replace c28 := Bool.eq_false_iff.mpr c28
                          subst c28
                          have H1 : (if (t119 == false) = true then (if t119 = true then (some (t135 == t118)) else (some true)) else (some false)) = some r := by rw [if_neg (show ¬ (false = true) by decide)] at H; exact H
                          clear H
                          have H := H1
                          clear H1
                          by_cases c64 : (t119 == false) = true
                          · rw [if_pos c64] at H
                            have c64b0 : (t119 == false) = true := c64
                            (try (have c64b1 : decide (t119 = false) = true := by simpa using c64))
                            (try (have c64b2 : (t119 == false) = true := by simpa using c64))
                            clear c64
                            by_cases c65 : t119 = true
                            · subst c65
                              have H1 : (some (t135 == t118)) = some r := by rw [if_pos rfl] at H; exact H
                              clear H
                              have H := H1
                              clear H1
                              obtain rfl := Option.some.inj H
                              obtain ⟨i066, hi066, _, hsz66, _⟩ := info_parts info22
                              obtain ⟨hcut66, hA66, hC66⟩ := print_take_of (P := Try.prog) (Value.int .u64) 0 23 22 .i64 Try.underlying23 hi066 hsz66 A0 c0 l0 (ji20) (of_decide_eq_true (by first | (with_reducible assumption) | assumption)) (of_decide_eq_true (by first | (with_reducible assumption) | assumption)) HC0.out
                              have HR126 := Aside0.mk (Kd.C_of_reads (h1 := fun _ => rfl) (hA66 _ (Kd.reads_of_C HR0.out)))
                              have HC126 := Aside0.mk hC66
                              clear hA66 hC66 hi066 hsz66
                              go_wp2_with (first | ((with_reducible refine gate_callee (f := 11) rfl ?_); refine goesL_ (some 65) rfl rfl Try.func11 (by kernel_rfl) rfl #[.slice A0 (l0.take ((ji20) : Int).toNat).length c0] rfl (by (try simp only [List.map_toArray, List.map_cons, List.map_nil]); first | done | (rw [show (l0.take ((ji20) : Int).toNat).length = (ji20).toNat from (by rw [List.length_take]; have h_ : ((ji20) : Int) ≤ (l0.length : Int) := of_decide_eq_true (by first | (with_reducible assumption) | assumption); omega)] <;> rfl) | (simp only [hji20]; rfl) | rfl | (simp only [List.length_drop, List.length_take]; rfl)) ?_; (with_reducible refine (span_Add.calls _ _ (l0.take ((ji20) : Int).toNat) t127 false _ ?side1 ?side2 A23.out).mono ?_); (case side1 => repeat (first | exact (Kd.C_below HR126.out HB.out) | (with_reducible refine Kd.C_alloc ?_ _) | (with_reducible refine Kd.C_drewN ?_ _) | (with_reducible refine Kd.C_drew ?_))); (case side2 => exact HC126.out); rintro e w' ⟨rfl, ⟨nd, rfl⟩⟩; refine ⟨_, rfl, ?_⟩; obtain ⟨i067, hi067, _, hsz67, _⟩ := info_parts info22; obtain ⟨A67, hcut67, hA67, hC67⟩ := print_drop_of (P := Try.prog) (Value.int .u64) 0 23 22 .i64 Try.underlying23 hi067 hsz67 A0 c0 l0 (ji20) (of_decide_eq_true (by first | (with_reducible assumption) | assumption)) (of_decide_eq_true (by first | (with_reducible assumption) | assumption)) HC0.out; have HR129 := Aside0.mk (Kd.C_of_reads (h1 := fun _ => rfl) (hA67 _ (Kd.reads_of_C HR0.out))); have HC129 := Aside0.mk hC67; clear hA67 hC67 hi067 hsz67) | ((with_reducible refine gate_callee (f := 11) rfl ?_); refine goesL_ (some 72) rfl rfl Try.func11 (by kernel_rfl) rfl #[.slice A67 (l0.drop ((ji20) : Int).toNat).length (c0 - (ji20).toNat)] rfl (by (try simp only [List.map_toArray, List.map_cons, List.map_nil]); first | done | (rw [show (l0.drop ((ji20) : Int).toNat).length = (l0.length - (ji20).toNat) from List.length_drop] <;> rfl) | (simp only [hji20]; rfl) | rfl | (simp only [List.length_drop, List.length_take]; rfl)) ?_; (with_reducible refine (span_Add.calls _ _ (l0.drop ((ji20) : Int).toNat) t130 t131 _ ?side1 ?side2 A26.out).mono ?_); (case side1 => repeat (first | exact (Kd.C_below HR129.out (by repeat (first | (with_reducible first | exact HB.out | apply below_alloc | apply pw_below_drewN | apply below_drew1) | exact HB.out))) | (with_reducible refine Kd.C_alloc ?_ _) | (with_reducible refine Kd.C_drewN ?_ _) | (with_reducible refine Kd.C_drew ?_))); (case side2 => exact HC129.out); rintro e w' ⟨rfl, ⟨nd, rfl⟩⟩; refine ⟨_, rfl, ?_⟩) | ((with_reducible refine gate_dst (N := 78) rfl ?_); refine Kd.R_lit (Kd.int .u64) _ 22 ?hg (N := 78) ?hd (xs := ([t127, t130] : List Int)) (inner := [.int .u64 t127, .int .u64 t130]) (ok := fun _ => True) (okp := fun _ => True) ?hr ?hp (fun _ hk => hk) trivial (Below.refl _ _) (Nat.le_refl _) (by simp) ?_; (case hd => rfl); (case hg => rfl); (case hr => first | (go_simp; done) | (go_simp; rfl)); (case hp => exact (Reps.one (show Kd.M (Kd.int .u64) _ _ _ t127 [.int .u64 t127] from rfl) (Reps.one (show Kd.M (Kd.int .u64) _ _ _ t130 [.int .u64 t130] from rfl) (Reps.none _ _)))); intro v133 w68 ho69 hb hg_ hnew_; clear hg_ hnew_; (first | rw [← Ny132.out] at ho69 | (simp only [Int.reduceToNat] at ho69; rw [← Ny132.out] at ho69)); have n0_ := Aside0.mk (Kd.R_lower ho69 (below_size (by repeat (first | (with_reducible first | exact HB.out | apply below_alloc | apply pw_below_drewN | apply below_drew1) | exact HB.out)))); have n1_ := Aside0.mk (below_step (by repeat (first | (with_reducible first | exact HB.out | apply below_alloc | apply pw_below_drewN | apply below_drew1) | exact HB.out)) hb); clear HB; have HO134 := n0_; have HB := n1_; clear n0_ n1_; clear hb ho69; obtain ⟨Ao70, co70, eo70⟩ := Kd.R_slice HO134.out; subst eo70) | ((with_reducible refine gate_callee (f := 11) rfl ?_); refine goesL_ (some 79) rfl rfl Try.func11 (by kernel_rfl) rfl #[.slice Ao70 y132.length co70] rfl (by (try simp only [List.map_toArray, List.map_cons, List.map_nil]); first | done | rfl | (simp only [List.length_drop, List.length_take]; rfl)) ?_; (with_reducible refine (span_Add.calls _ _ y132 t135 t136 _ ?side1 ?side2 A27.out).mono ?_); (case side1 => repeat (first | exact (Kd.R_reads' HO134.out).2.2 | (with_reducible refine Kd.C_alloc ?_ _) | (with_reducible refine Kd.C_drewN ?_ _) | (with_reducible refine Kd.C_drew ?_))); (case side2 => exact (Kd.R_reads' HO134.out).2.1); rintro e w' ⟨rfl, ⟨nd, rfl⟩⟩; refine ⟨_, rfl, ?_⟩))
                              go_ret
                              exact ⟨by first | rfl | (simp [errW_none, errW_some] <;> rfl) | (simp only [← hji20]; first | rfl | (simp [errW_none, errW_some] <;> rfl)) | (simp [*, errW_none, errW_some] <;> rfl), by repeat (first | (with_reducible first | exact HB.out | apply below_alloc | apply pw_below_drewN | apply below_drew1) | exact HB.out)⟩
                            · replace c65 := Bool.eq_false_iff.mpr c65
                              subst c65
                              have H1 : (some true) = some r := by rw [if_neg (show ¬ (false = true) by decide)] at H; exact H
                              clear H
                              have H := H1
                              clear H1
                              obtain rfl := Option.some.inj H
                              obtain ⟨i071, hi071, _, hsz71, _⟩ := info_parts info22
                              obtain ⟨hcut71, hA71, hC71⟩ := print_take_of (P := Try.prog) (Value.int .u64) 0 23 22 .i64 Try.underlying23 hi071 hsz71 A0 c0 l0 (ji20) (of_decide_eq_true (by first | (with_reducible assumption) | assumption)) (of_decide_eq_true (by first | (with_reducible assumption) | assumption)) HC0.out
                              have HR126 := Aside0.mk (Kd.C_of_reads (h1 := fun _ => rfl) (hA71 _ (Kd.reads_of_C HR0.out)))
                              have HC126 := Aside0.mk hC71
                              clear hA71 hC71 hi071 hsz71
                              go_wp2_with (first | ((with_reducible refine gate_callee (f := 11) rfl ?_); refine goesL_ (some 65) rfl rfl Try.func11 (by kernel_rfl) rfl #[.slice A0 (l0.take ((ji20) : Int).toNat).length c0] rfl (by (try simp only [List.map_toArray, List.map_cons, List.map_nil]); first | done | (rw [show (l0.take ((ji20) : Int).toNat).length = (ji20).toNat from (by rw [List.length_take]; have h_ : ((ji20) : Int) ≤ (l0.length : Int) := of_decide_eq_true (by first | (with_reducible assumption) | assumption); omega)] <;> rfl) | (simp only [hji20]; rfl) | rfl | (simp only [List.length_drop, List.length_take]; rfl)) ?_; (with_reducible refine (span_Add.calls _ _ (l0.take ((ji20) : Int).toNat) t127 false _ ?side1 ?side2 A23.out).mono ?_); (case side1 => repeat (first | exact (Kd.C_below HR126.out HB.out) | (with_reducible refine Kd.C_alloc ?_ _) | (with_reducible refine Kd.C_drewN ?_ _) | (with_reducible refine Kd.C_drew ?_))); (case side2 => exact HC126.out); rintro e w' ⟨rfl, ⟨nd, rfl⟩⟩; refine ⟨_, rfl, ?_⟩; obtain ⟨i072, hi072, _, hsz72, _⟩ := info_parts info22; obtain ⟨A72, hcut72, hA72, hC72⟩ := print_drop_of (P := Try.prog) (Value.int .u64) 0 23 22 .i64 Try.underlying23 hi072 hsz72 A0 c0 l0 (ji20) (of_decide_eq_true (by first | (with_reducible assumption) | assumption)) (of_decide_eq_true (by first | (with_reducible assumption) | assumption)) HC0.out; have HR129 := Aside0.mk (Kd.C_of_reads (h1 := fun _ => rfl) (hA72 _ (Kd.reads_of_C HR0.out))); have HC129 := Aside0.mk hC72; clear hA72 hC72 hi072 hsz72) | ((with_reducible refine gate_callee (f := 11) rfl ?_); refine goesL_ (some 72) rfl rfl Try.func11 (by kernel_rfl) rfl #[.slice A72 (l0.drop ((ji20) : Int).toNat).length (c0 - (ji20).toNat)] rfl (by (try simp only [List.map_toArray, List.map_cons, List.map_nil]); first | done | (rw [show (l0.drop ((ji20) : Int).toNat).length = (l0.length - (ji20).toNat) from List.length_drop] <;> rfl) | (simp only [hji20]; rfl) | rfl | (simp only [List.length_drop, List.length_take]; rfl)) ?_; (with_reducible refine (span_Add.calls _ _ (l0.drop ((ji20) : Int).toNat) t130 t131 _ ?side1 ?side2 A26.out).mono ?_); (case side1 => repeat (first | exact (Kd.C_below HR129.out (by repeat (first | (with_reducible first | exact HB.out | apply below_alloc | apply pw_below_drewN | apply below_drew1) | exact HB.out))) | (with_reducible refine Kd.C_alloc ?_ _) | (with_reducible refine Kd.C_drewN ?_ _) | (with_reducible refine Kd.C_drew ?_))); (case side2 => exact HC129.out); rintro e w' ⟨rfl, ⟨nd, rfl⟩⟩; refine ⟨_, rfl, ?_⟩) | ((with_reducible refine gate_dst (N := 78) rfl ?_); refine Kd.R_lit (Kd.int .u64) _ 22 ?hg (N := 78) ?hd (xs := ([t127, t130] : List Int)) (inner := [.int .u64 t127, .int .u64 t130]) (ok := fun _ => True) (okp := fun _ => True) ?hr ?hp (fun _ hk => hk) trivial (Below.refl _ _) (Nat.le_refl _) (by simp) ?_; (case hd => rfl); (case hg => rfl); (case hr => first | (go_simp; done) | (go_simp; rfl)); (case hp => exact (Reps.one (show Kd.M (Kd.int .u64) _ _ _ t127 [.int .u64 t127] from rfl) (Reps.one (show Kd.M (Kd.int .u64) _ _ _ t130 [.int .u64 t130] from rfl) (Reps.none _ _)))); intro v133 w73 ho74 hb hg_ hnew_; clear hg_ hnew_; (first | rw [← Ny132.out] at ho74 | (simp only [Int.reduceToNat] at ho74; rw [← Ny132.out] at ho74)); have n0_ := Aside0.mk (Kd.R_lower ho74 (below_size (by repeat (first | (with_reducible first | exact HB.out | apply below_alloc | apply pw_below_drewN | apply below_drew1) | exact HB.out)))); have n1_ := Aside0.mk (below_step (by repeat (first | (with_reducible first | exact HB.out | apply below_alloc | apply pw_below_drewN | apply below_drew1) | exact HB.out)) hb); clear HB; have HO134 := n0_; have HB := n1_; clear n0_ n1_; clear hb ho74; obtain ⟨Ao75, co75, eo75⟩ := Kd.R_slice HO134.out; subst eo75) | ((with_reducible refine gate_callee (f := 11) rfl ?_); refine goesL_ (some 79) rfl rfl Try.func11 (by kernel_rfl) rfl #[.slice Ao75 y132.length co75] rfl (by (try simp only [List.map_toArray, List.map_cons, List.map_nil]); first | done | rfl | (simp only [List.length_drop, List.length_take]; rfl)) ?_; (with_reducible refine (span_Add.calls _ _ y132 t135 t136 _ ?side1 ?side2 A27.out).mono ?_); (case side1 => repeat (first | exact (Kd.R_reads' HO134.out).2.2 | (with_reducible refine Kd.C_alloc ?_ _) | (with_reducible refine Kd.C_drewN ?_ _) | (with_reducible refine Kd.C_drew ?_))); (case side2 => exact (Kd.R_reads' HO134.out).2.1); rintro e w' ⟨rfl, ⟨nd, rfl⟩⟩; refine ⟨_, rfl, ?_⟩))
                              go_ret
                              exact ⟨by first | rfl | (simp [errW_none, errW_some] <;> rfl) | (simp only [← hji20]; first | rfl | (simp [errW_none, errW_some] <;> rfl)) | (simp [*, errW_none, errW_some] <;> rfl), by repeat (first | (with_reducible first | exact HB.out | apply below_alloc | apply pw_below_drewN | apply below_drew1) | exact HB.out)⟩
                          · rw [if_neg c64] at H
                            have c64b0 : (t119 == false) = false := by simpa using c64
                            (try (have c64b1 : decide (t119 = false) = false := by simpa using c64))
                            (try (have c64b2 : (t119 == false) = false := by simpa using c64))
                            (try (have c64b3 : ¬ (t119 = false) := by simpa using c64))
                            clear c64
                            obtain rfl := Option.some.inj H
                            obtain ⟨i076, hi076, _, hsz76, _⟩ := info_parts info22
                            obtain ⟨hcut76, hA76, hC76⟩ := print_take_of (P := Try.prog) (Value.int .u64) 0 23 22 .i64 Try.underlying23 hi076 hsz76 A0 c0 l0 (ji20) (of_decide_eq_true (by first | (with_reducible assumption) | assumption)) (of_decide_eq_true (by first | (with_reducible assumption) | assumption)) HC0.out
                            have HR126 := Aside0.mk (Kd.C_of_reads (h1 := fun _ => rfl) (hA76 _ (Kd.reads_of_C HR0.out)))
                            have HC126 := Aside0.mk hC76
                            clear hA76 hC76 hi076 hsz76
                            go_wp2_with (first | ((with_reducible refine gate_callee (f := 11) rfl ?_); refine goesL_ (some 65) rfl rfl Try.func11 (by kernel_rfl) rfl #[.slice A0 (l0.take ((ji20) : Int).toNat).length c0] rfl (by (try simp only [List.map_toArray, List.map_cons, List.map_nil]); first | done | (rw [show (l0.take ((ji20) : Int).toNat).length = (ji20).toNat from (by rw [List.length_take]; have h_ : ((ji20) : Int) ≤ (l0.length : Int) := of_decide_eq_true (by first | (with_reducible assumption) | assumption); omega)] <;> rfl) | (simp only [hji20]; rfl) | rfl | (simp only [List.length_drop, List.length_take]; rfl)) ?_; (with_reducible refine (span_Add.calls _ _ (l0.take ((ji20) : Int).toNat) t127 false _ ?side1 ?side2 A23.out).mono ?_); (case side1 => repeat (first | exact (Kd.C_below HR126.out HB.out) | (with_reducible refine Kd.C_alloc ?_ _) | (with_reducible refine Kd.C_drewN ?_ _) | (with_reducible refine Kd.C_drew ?_))); (case side2 => exact HC126.out); rintro e w' ⟨rfl, ⟨nd, rfl⟩⟩; refine ⟨_, rfl, ?_⟩; obtain ⟨i077, hi077, _, hsz77, _⟩ := info_parts info22; obtain ⟨A77, hcut77, hA77, hC77⟩ := print_drop_of (P := Try.prog) (Value.int .u64) 0 23 22 .i64 Try.underlying23 hi077 hsz77 A0 c0 l0 (ji20) (of_decide_eq_true (by first | (with_reducible assumption) | assumption)) (of_decide_eq_true (by first | (with_reducible assumption) | assumption)) HC0.out; have HR129 := Aside0.mk (Kd.C_of_reads (h1 := fun _ => rfl) (hA77 _ (Kd.reads_of_C HR0.out))); have HC129 := Aside0.mk hC77; clear hA77 hC77 hi077 hsz77) | ((with_reducible refine gate_callee (f := 11) rfl ?_); refine goesL_ (some 72) rfl rfl Try.func11 (by kernel_rfl) rfl #[.slice A77 (l0.drop ((ji20) : Int).toNat).length (c0 - (ji20).toNat)] rfl (by (try simp only [List.map_toArray, List.map_cons, List.map_nil]); first | done | (rw [show (l0.drop ((ji20) : Int).toNat).length = (l0.length - (ji20).toNat) from List.length_drop] <;> rfl) | (simp only [hji20]; rfl) | rfl | (simp only [List.length_drop, List.length_take]; rfl)) ?_; (with_reducible refine (span_Add.calls _ _ (l0.drop ((ji20) : Int).toNat) t130 t131 _ ?side1 ?side2 A26.out).mono ?_); (case side1 => repeat (first | exact (Kd.C_below HR129.out (by repeat (first | (with_reducible first | exact HB.out | apply below_alloc | apply pw_below_drewN | apply below_drew1) | exact HB.out))) | (with_reducible refine Kd.C_alloc ?_ _) | (with_reducible refine Kd.C_drewN ?_ _) | (with_reducible refine Kd.C_drew ?_))); (case side2 => exact HC129.out); rintro e w' ⟨rfl, ⟨nd, rfl⟩⟩; refine ⟨_, rfl, ?_⟩) | ((with_reducible refine gate_dst (N := 78) rfl ?_); refine Kd.R_lit (Kd.int .u64) _ 22 ?hg (N := 78) ?hd (xs := ([t127, t130] : List Int)) (inner := [.int .u64 t127, .int .u64 t130]) (ok := fun _ => True) (okp := fun _ => True) ?hr ?hp (fun _ hk => hk) trivial (Below.refl _ _) (Nat.le_refl _) (by simp) ?_; (case hd => rfl); (case hg => rfl); (case hr => first | (go_simp; done) | (go_simp; rfl)); (case hp => exact (Reps.one (show Kd.M (Kd.int .u64) _ _ _ t127 [.int .u64 t127] from rfl) (Reps.one (show Kd.M (Kd.int .u64) _ _ _ t130 [.int .u64 t130] from rfl) (Reps.none _ _)))); intro v133 w78 ho79 hb hg_ hnew_; clear hg_ hnew_; (first | rw [← Ny132.out] at ho79 | (simp only [Int.reduceToNat] at ho79; rw [← Ny132.out] at ho79)); have n0_ := Aside0.mk (Kd.R_lower ho79 (below_size (by repeat (first | (with_reducible first | exact HB.out | apply below_alloc | apply pw_below_drewN | apply below_drew1) | exact HB.out)))); have n1_ := Aside0.mk (below_step (by repeat (first | (with_reducible first | exact HB.out | apply below_alloc | apply pw_below_drewN | apply below_drew1) | exact HB.out)) hb); clear HB; have HO134 := n0_; have HB := n1_; clear n0_ n1_; clear hb ho79; obtain ⟨Ao80, co80, eo80⟩ := Kd.R_slice HO134.out; subst eo80) | ((with_reducible refine gate_callee (f := 11) rfl ?_); refine goesL_ (some 79) rfl rfl Try.func11 (by kernel_rfl) rfl #[.slice Ao80 y132.length co80] rfl (by (try simp only [List.map_toArray, List.map_cons, List.map_nil]); first | done | rfl | (simp only [List.length_drop, List.length_take]; rfl)) ?_; (with_reducible refine (span_Add.calls _ _ y132 t135 t136 _ ?side1 ?side2 A27.out).mono ?_); (case side1 => repeat (first | exact (Kd.R_reads' HO134.out).2.2 | (with_reducible refine Kd.C_alloc ?_ _) | (with_reducible refine Kd.C_drewN ?_ _) | (with_reducible refine Kd.C_drew ?_))); (case side2 => exact (Kd.R_reads' HO134.out).2.1); rintro e w' ⟨rfl, ⟨nd, rfl⟩⟩; refine ⟨_, rfl, ?_⟩))
                            go_ret
                            exact ⟨by first | rfl | (simp [errW_none, errW_some] <;> rfl) | (simp only [← hji20]; first | rfl | (simp [errW_none, errW_some] <;> rfl)) | (simp [*, errW_none, errW_some] <;> rfl), by repeat (first | (with_reducible first | exact HB.out | apply below_alloc | apply pw_below_drewN | apply below_drew1) | exact HB.out)⟩
                      · rw [if_neg c22] at H
                        exact absurd H (by simp)
                    · rw [if_neg c21] at H
                      exact absurd H (by simp)
  · replace c4 := Bool.eq_false_iff.mpr c4
    subst c4
    have H1 : (some false) = some r := by rw [if_neg (show ¬ (false = true) by decide)] at H; exact H
    clear H
    have H := H1
    clear H1
    obtain rfl := Option.some.inj H
    go_enter Try.func7, Try.ntmps7
    go_wp2_with (first | ((with_reducible refine gate_callee (f := 8) rfl ?_); refine goesL_ (some 18) rfl rfl Try.func8 (by kernel_rfl) rfl #[] rfl (by (try simp only [List.map_toArray, List.map_cons, List.map_nil]); first | done | rfl | (simp only [List.length_drop, List.length_take]; rfl)) ?_; (with_reducible refine (dovetaillaw2_known.calls k  false _ A3.out).mono ?_); rintro e w81 ⟨rfl, hb⟩; refine ⟨_, rfl, ?_⟩; have n0_ := Aside0.mk (below_step (by repeat (first | (with_reducible first | exact HB.out | apply below_alloc | apply pw_below_drewN | apply below_drew1) | exact HB.out)) hb); clear HB; have HB := n0_; clear n0_; (try clear hb); (try clear hb2); (try clear hk); (try clear hi)))
    go_ret
    exact ⟨by first | rfl | (simp [errW_none, errW_some] <;> rfl) | (simp [*, errW_none, errW_some] <;> rfl), by repeat (first | (with_reducible first | exact HB.out | apply below_alloc | apply pw_below_drewN | apply below_drew1) | exact HB.out)⟩

/-- THE ONE PURE STATEMENT of dovetaillaw2_SpanSums: yours. -/
def dovetaillaw2_SpanSums.Pure : Prop := ∀ (l0 : List Int) (a1 : Int), l0.length ≤ maxLen → l0.length * 8 ≤ 140737488351232 → (∀ x ∈ l0, (Lit.int .u64 x).wf = true) → (Lit.int .u8 a1).wf = true → ∃ k, dovetaillaw2_SpanSums.f k l0 a1 = some true
theorem dovetaillaw2_SpanSums.walk (P : dovetaillaw2_SpanSums.Pure) (a0 : Option Addr) (len0 cap0 : Nat) (z0 : List Int) (a1 : Int) (w : World) (w0 : (a0 = none ∧ len0 = 0 ∧ cap0 = 0 ∧ z0 = []) ∨ ∃ x, a0 = some x ∧ len0 ≤ cap0 ∧ cap0 ≤ maxLen ∧ z0.length = cap0 ∧ (∀ i, i < z0.length → w.cell? (x.add i) = some (.int .u64 (z0.getD i 0))) ∧ ∀ n ∈ z0, (Lit.int .u64 n).wf = true) (y0 : len0 * 8 ≤ 140737488351232) (w1 : (Lit.int .u8 a1).wf = true) :
    Calls Try.prog 7 #[.slice a0 len0 cap0, .int .u8 a1] w fun e w' => e = .returned (.bool true) ∧ Below w.heap.size w w' := by
  obtain ⟨l0, rfl, hr0, hm0, hw0, hc0⟩ := ReadsInt.ofRowC w0
  obtain ⟨k, h⟩ := P l0 a1 hm0 y0 hw0 w1
  refine (dovetaillaw2_SpanSums.calls k _ _ l0 a1 true w (Kd.C_of_reads (d := (0 : Int)) (h1 := fun _ => rfl) hr0) hc0 h).mono ?_
  rintro e w' ⟨rfl, hd⟩
  exact ⟨rfl, hd⟩

end Go.Proofs.Ytoghodnpfacjeaa.QSpanSums
