/- Contracts of what a law reaches, each function as a plain Lean function: written by a program of this claim's repo (myprint.py); conditions: those of each theorem. -/
import Derived.Test.YtooleipgpkjpjaaQRelocAppliesx0
import Derived.Test.YtooleipgpkjpjaaQRelocAppliesx5
namespace Go.Proofs.Ytooleipgpkjpjaa.QRelocApplies
open Go.Proofs.Ytooleipgpkjpjaa.Man
open Go.RowKit Go.Proofs.YtooleipgpkjpjaaW.PrintWords Go.Proofs.YtooleipgpkjpjaaW.PrintLast Go.Proofs.YtooleipgpkjpjaaW.PrintMore
attribute [local go_sem] max2_int min2_int max_two min_two max_three min_three max_four min_four   -- for this text's walks alone
set_option linter.unusedVariables false
set_option linter.unusedSimpArgs false

/-! ### dovetailref3_Set: function 36 -/
def dovetailref3_Set.f (a0 : Int) (a1 : Int) (a2 : Int) : Option (Int) := if a0 = 1 then ((dovetailref3_put.f a1 (IntKind.u64.wrap (a2)) 11 0 20).bind fun t221 => (some t221)) else (if a0 = 2 then ((dovetailref3_put.f a1 (IntKind.u64.wrap (a2)) 11 5 25).bind fun t222 => ((dovetailref3_put.f t222 (IntKind.u64.wrap (a2)) 4 0 7).bind fun t223 => (some t223))) else (if a0 = 3 then ((dovetailref3_put.f a1 (IntKind.u64.wrap (a2)) 12 12 31).bind fun t224 => ((dovetailref3_put.f t224 (IntKind.u64.wrap (a2)) 11 11 7).bind fun t225 => ((dovetailref3_put.f t225 (IntKind.u64.wrap (a2)) 10 5 25).bind fun t226 => ((dovetailref3_put.f t226 (IntKind.u64.wrap (a2)) 4 1 8).bind fun t227 => (some t227))))) else (if a0 = 4 then ((dovetailref3_put.f a1 (IntKind.u64.wrap (a2)) 19 0 12).bind fun t228 => (some t228)) else (if a0 = 5 then ((dovetailref3_put.f a1 (IntKind.u64.wrap (a2)) 20 20 31).bind fun t229 => ((dovetailref3_put.f t229 (IntKind.u64.wrap (a2)) 19 12 12).bind fun t230 => ((dovetailref3_put.f t230 (IntKind.u64.wrap (a2)) 11 11 20).bind fun t231 => ((dovetailref3_put.f t231 (IntKind.u64.wrap (a2)) 10 1 21).bind fun t232 => (some t232))))) else (some a1)))))
set_option maxHeartbeats 8000000 in
set_option maxRecDepth 100000 in
theorem dovetailref3_Set.calls (a0 : Int) (a1 : Int) (a2 : Int) (r : Int) (w : World) (h : dovetailref3_Set.f a0 a1 a2 = some r) :
    Calls Try.prog 36 #[.int .i64 a0, .int .u32 a1, .int .i64 a2] w fun e w' => e = .returned (.int .u32 r) ∧ Drawn0 w w' := by
  have H : (if a0 = 1 then ((dovetailref3_put.f a1 (IntKind.u64.wrap (a2)) 11 0 20).bind fun t221 => (some t221)) else (if a0 = 2 then ((dovetailref3_put.f a1 (IntKind.u64.wrap (a2)) 11 5 25).bind fun t222 => ((dovetailref3_put.f t222 (IntKind.u64.wrap (a2)) 4 0 7).bind fun t223 => (some t223))) else (if a0 = 3 then ((dovetailref3_put.f a1 (IntKind.u64.wrap (a2)) 12 12 31).bind fun t224 => ((dovetailref3_put.f t224 (IntKind.u64.wrap (a2)) 11 11 7).bind fun t225 => ((dovetailref3_put.f t225 (IntKind.u64.wrap (a2)) 10 5 25).bind fun t226 => ((dovetailref3_put.f t226 (IntKind.u64.wrap (a2)) 4 1 8).bind fun t227 => (some t227))))) else (if a0 = 4 then ((dovetailref3_put.f a1 (IntKind.u64.wrap (a2)) 19 0 12).bind fun t228 => (some t228)) else (if a0 = 5 then ((dovetailref3_put.f a1 (IntKind.u64.wrap (a2)) 20 20 31).bind fun t229 => ((dovetailref3_put.f t229 (IntKind.u64.wrap (a2)) 19 12 12).bind fun t230 => ((dovetailref3_put.f t230 (IntKind.u64.wrap (a2)) 11 11 20).bind fun t231 => ((dovetailref3_put.f t231 (IntKind.u64.wrap (a2)) 10 1 21).bind fun t232 => (some t232))))) else (some a1)))))) = some r := h
  clear h
  by_cases c4 : a0 = 1
  · rw [if_pos c4] at H
    have c4b0 : (a0 == 1) = true := beq_iff_eq.mpr c4
    have c4b1 : (a0 != 1) = false := bne_eq_false_iff_eq.mpr c4
    clear c4
    replace H := Option.bind_eq_some_iff.mp H
    obtain ⟨t221, A50, H⟩ := H
    replace H : (some t221) = some r := H
    have A5 := Aside0.mk A50
    clear A50
    obtain rfl := Option.some.inj H
    go_enter Try.func36, Try.ntmps36
    go_wp2_with (first | ((with_reducible refine gate_callee (f := 53) rfl ?_); refine goesL_ (some 15) rfl rfl Try.func53 (by kernel_rfl) rfl #[.int .u32 a1, .int .u64 (IntKind.u64.wrap (a2)), .int .i64 11, .int .i64 0, .int .i64 20] rfl (by (try simp only [List.map_toArray, List.map_cons, List.map_nil]); first | done | rfl | (simp only [List.length_drop, List.length_take]; rfl)) ?_; (with_reducible refine (dovetailref3_put.calls a1 (IntKind.u64.wrap (a2)) 11 0 20 t221 _ A5.out).mono ?_); rintro e w' ⟨rfl, ⟨nd, rfl⟩⟩; refine ⟨_, rfl, ?_⟩))
    go_ret
    exact ⟨by first | rfl | (simp; done) | (simp [*]; done), by repeat (first | exact Drawn0.refl _ | apply Drawn0.step)⟩
  · rw [if_neg c4] at H
    have c4b0 : (a0 == 1) = false := beq_eq_false_iff_ne.mpr c4
    have c4b1 : (a0 != 1) = true := bne_iff_ne.mpr c4
    by_cases c6 : a0 = 2
    · rw [if_pos c6] at H
      have c6b0 : (a0 == 2) = true := beq_iff_eq.mpr c6
      have c6b1 : (a0 != 2) = false := bne_eq_false_iff_eq.mpr c6
      clear c6
      replace H := Option.bind_eq_some_iff.mp H
      obtain ⟨t222, A70, H⟩ := H
      replace H : ((dovetailref3_put.f t222 (IntKind.u64.wrap (a2)) 4 0 7).bind fun t223 => (some t223)) = some r := H
      have A7 := Aside0.mk A70
      clear A70
      replace H := Option.bind_eq_some_iff.mp H
      obtain ⟨t223, A80, H⟩ := H
      replace H : (some t223) = some r := H
      have A8 := Aside0.mk A80
      clear A80
      obtain rfl := Option.some.inj H
      go_enter Try.func36, Try.ntmps36
      go_wp2_with (first | ((with_reducible refine gate_callee (f := 53) rfl ?_); refine goesL_ (some 20) rfl rfl Try.func53 (by kernel_rfl) rfl #[.int .u32 a1, .int .u64 (IntKind.u64.wrap (a2)), .int .i64 11, .int .i64 5, .int .i64 25] rfl (by (try simp only [List.map_toArray, List.map_cons, List.map_nil]); first | done | rfl | (simp only [List.length_drop, List.length_take]; rfl)) ?_; (with_reducible refine (dovetailref3_put.calls a1 (IntKind.u64.wrap (a2)) 11 5 25 t222 _ A7.out).mono ?_); rintro e w' ⟨rfl, ⟨nd, rfl⟩⟩; refine ⟨_, rfl, ?_⟩) | ((with_reducible refine gate_callee (f := 53) rfl ?_); refine goesL_ (some 22) rfl rfl Try.func53 (by kernel_rfl) rfl #[.int .u32 t222, .int .u64 (IntKind.u64.wrap (a2)), .int .i64 4, .int .i64 0, .int .i64 7] rfl (by (try simp only [List.map_toArray, List.map_cons, List.map_nil]); first | done | rfl | (simp only [List.length_drop, List.length_take]; rfl)) ?_; (with_reducible refine (dovetailref3_put.calls t222 (IntKind.u64.wrap (a2)) 4 0 7 t223 _ A8.out).mono ?_); rintro e w' ⟨rfl, ⟨nd, rfl⟩⟩; refine ⟨_, rfl, ?_⟩))
      go_ret
      exact ⟨by first | rfl | (simp; done) | (simp [*]; done), by repeat (first | exact Drawn0.refl _ | apply Drawn0.step)⟩
    · rw [if_neg c6] at H
      have c6b0 : (a0 == 2) = false := beq_eq_false_iff_ne.mpr c6
      have c6b1 : (a0 != 2) = true := bne_iff_ne.mpr c6
      by_cases c9 : a0 = 3
      · rw [if_pos c9] at H
        have c9b0 : (a0 == 3) = true := beq_iff_eq.mpr c9
        have c9b1 : (a0 != 3) = false := bne_eq_false_iff_eq.mpr c9
        clear c9
        replace H := Option.bind_eq_some_iff.mp H
        obtain ⟨t224, A100, H⟩ := H
        replace H : ((dovetailref3_put.f t224 (IntKind.u64.wrap (a2)) 11 11 7).bind fun t225 => ((dovetailref3_put.f t225 (IntKind.u64.wrap (a2)) 10 5 25).bind fun t226 => ((dovetailref3_put.f t226 (IntKind.u64.wrap (a2)) 4 1 8).bind fun t227 => (some t227)))) = some r := H
        have A10 := Aside0.mk A100
        clear A100
        replace H := Option.bind_eq_some_iff.mp H
        obtain ⟨t225, A110, H⟩ := H
        replace H : ((dovetailref3_put.f t225 (IntKind.u64.wrap (a2)) 10 5 25).bind fun t226 => ((dovetailref3_put.f t226 (IntKind.u64.wrap (a2)) 4 1 8).bind fun t227 => (some t227))) = some r := H
        have A11 := Aside0.mk A110
        clear A110
        replace H := Option.bind_eq_some_iff.mp H
        obtain ⟨t226, A120, H⟩ := H
        replace H : ((dovetailref3_put.f t226 (IntKind.u64.wrap (a2)) 4 1 8).bind fun t227 => (some t227)) = some r := H
        have A12 := Aside0.mk A120
        clear A120
        replace H := Option.bind_eq_some_iff.mp H
        obtain ⟨t227, A130, H⟩ := H
        replace H : (some t227) = some r := H
        have A13 := Aside0.mk A130
        clear A130
        obtain rfl := Option.some.inj H
        go_enter Try.func36, Try.ntmps36
        go_wp2_with (first | ((with_reducible refine gate_callee (f := 53) rfl ?_); refine goesL_ (some 27) rfl rfl Try.func53 (by kernel_rfl) rfl #[.int .u32 a1, .int .u64 (IntKind.u64.wrap (a2)), .int .i64 12, .int .i64 12, .int .i64 31] rfl (by (try simp only [List.map_toArray, List.map_cons, List.map_nil]); first | done | rfl | (simp only [List.length_drop, List.length_take]; rfl)) ?_; (with_reducible refine (dovetailref3_put.calls a1 (IntKind.u64.wrap (a2)) 12 12 31 t224 _ A10.out).mono ?_); rintro e w' ⟨rfl, ⟨nd, rfl⟩⟩; refine ⟨_, rfl, ?_⟩) | ((with_reducible refine gate_callee (f := 53) rfl ?_); refine goesL_ (some 29) rfl rfl Try.func53 (by kernel_rfl) rfl #[.int .u32 t224, .int .u64 (IntKind.u64.wrap (a2)), .int .i64 11, .int .i64 11, .int .i64 7] rfl (by (try simp only [List.map_toArray, List.map_cons, List.map_nil]); first | done | rfl | (simp only [List.length_drop, List.length_take]; rfl)) ?_; (with_reducible refine (dovetailref3_put.calls t224 (IntKind.u64.wrap (a2)) 11 11 7 t225 _ A11.out).mono ?_); rintro e w' ⟨rfl, ⟨nd, rfl⟩⟩; refine ⟨_, rfl, ?_⟩) | ((with_reducible refine gate_callee (f := 53) rfl ?_); refine goesL_ (some 31) rfl rfl Try.func53 (by kernel_rfl) rfl #[.int .u32 t225, .int .u64 (IntKind.u64.wrap (a2)), .int .i64 10, .int .i64 5, .int .i64 25] rfl (by (try simp only [List.map_toArray, List.map_cons, List.map_nil]); first | done | rfl | (simp only [List.length_drop, List.length_take]; rfl)) ?_; (with_reducible refine (dovetailref3_put.calls t225 (IntKind.u64.wrap (a2)) 10 5 25 t226 _ A12.out).mono ?_); rintro e w' ⟨rfl, ⟨nd, rfl⟩⟩; refine ⟨_, rfl, ?_⟩) | ((with_reducible refine gate_callee (f := 53) rfl ?_); refine goesL_ (some 33) rfl rfl Try.func53 (by kernel_rfl) rfl #[.int .u32 t226, .int .u64 (IntKind.u64.wrap (a2)), .int .i64 4, .int .i64 1, .int .i64 8] rfl (by (try simp only [List.map_toArray, List.map_cons, List.map_nil]); first | done | rfl | (simp only [List.length_drop, List.length_take]; rfl)) ?_; (with_reducible refine (dovetailref3_put.calls t226 (IntKind.u64.wrap (a2)) 4 1 8 t227 _ A13.out).mono ?_); rintro e w' ⟨rfl, ⟨nd, rfl⟩⟩; refine ⟨_, rfl, ?_⟩))
        go_ret
        exact ⟨by first | rfl | (simp; done) | (simp [*]; done), by repeat (first | exact Drawn0.refl _ | apply Drawn0.step)⟩
      · rw [if_neg c9] at H
        have c9b0 : (a0 == 3) = false := beq_eq_false_iff_ne.mpr c9
        have c9b1 : (a0 != 3) = true := bne_iff_ne.mpr c9
        by_cases c14 : a0 = 4
        · rw [if_pos c14] at H
          have c14b0 : (a0 == 4) = true := beq_iff_eq.mpr c14
          have c14b1 : (a0 != 4) = false := bne_eq_false_iff_eq.mpr c14
          clear c14
          replace H := Option.bind_eq_some_iff.mp H
          obtain ⟨t228, A150, H⟩ := H
          replace H : (some t228) = some r := H
          have A15 := Aside0.mk A150
          clear A150
          obtain rfl := Option.some.inj H
          go_enter Try.func36, Try.ntmps36
          go_wp2_with (first | ((with_reducible refine gate_callee (f := 53) rfl ?_); refine goesL_ (some 38) rfl rfl Try.func53 (by kernel_rfl) rfl #[.int .u32 a1, .int .u64 (IntKind.u64.wrap (a2)), .int .i64 19, .int .i64 0, .int .i64 12] rfl (by (try simp only [List.map_toArray, List.map_cons, List.map_nil]); first | done | rfl | (simp only [List.length_drop, List.length_take]; rfl)) ?_; (with_reducible refine (dovetailref3_put.calls a1 (IntKind.u64.wrap (a2)) 19 0 12 t228 _ A15.out).mono ?_); rintro e w' ⟨rfl, ⟨nd, rfl⟩⟩; refine ⟨_, rfl, ?_⟩))
          go_ret
          exact ⟨by first | rfl | (simp; done) | (simp [*]; done), by repeat (first | exact Drawn0.refl _ | apply Drawn0.step)⟩
        · rw [if_neg c14] at H
          have c14b0 : (a0 == 4) = false := beq_eq_false_iff_ne.mpr c14
          have c14b1 : (a0 != 4) = true := bne_iff_ne.mpr c14
          by_cases c16 : a0 = 5
          · rw [if_pos c16] at H
            have c16b0 : (a0 == 5) = true := beq_iff_eq.mpr c16
            have c16b1 : (a0 != 5) = false := bne_eq_false_iff_eq.mpr c16
            clear c16
            replace H := Option.bind_eq_some_iff.mp H
            obtain ⟨t229, A170, H⟩ := H
            replace H : ((dovetailref3_put.f t229 (IntKind.u64.wrap (a2)) 19 12 12).bind fun t230 => ((dovetailref3_put.f t230 (IntKind.u64.wrap (a2)) 11 11 20).bind fun t231 => ((dovetailref3_put.f t231 (IntKind.u64.wrap (a2)) 10 1 21).bind fun t232 => (some t232)))) = some r := H
            have A17 := Aside0.mk A170
            clear A170
            replace H := Option.bind_eq_some_iff.mp H
            obtain ⟨t230, A180, H⟩ := H
            replace H : ((dovetailref3_put.f t230 (IntKind.u64.wrap (a2)) 11 11 20).bind fun t231 => ((dovetailref3_put.f t231 (IntKind.u64.wrap (a2)) 10 1 21).bind fun t232 => (some t232))) = some r := H
            have A18 := Aside0.mk A180
            clear A180
            replace H := Option.bind_eq_some_iff.mp H
            obtain ⟨t231, A190, H⟩ := H
            replace H : ((dovetailref3_put.f t231 (IntKind.u64.wrap (a2)) 10 1 21).bind fun t232 => (some t232)) = some r := H
            have A19 := Aside0.mk A190
            clear A190
            replace H := Option.bind_eq_some_iff.mp H
            obtain ⟨t232, A200, H⟩ := H
            replace H : (some t232) = some r := H
            have A20 := Aside0.mk A200
            clear A200
            obtain rfl := Option.some.inj H
            go_enter Try.func36, Try.ntmps36
            go_wp2_with (first | ((with_reducible refine gate_callee (f := 53) rfl ?_); refine goesL_ (some 43) rfl rfl Try.func53 (by kernel_rfl) rfl #[.int .u32 a1, .int .u64 (IntKind.u64.wrap (a2)), .int .i64 20, .int .i64 20, .int .i64 31] rfl (by (try simp only [List.map_toArray, List.map_cons, List.map_nil]); first | done | rfl | (simp only [List.length_drop, List.length_take]; rfl)) ?_; (with_reducible refine (dovetailref3_put.calls a1 (IntKind.u64.wrap (a2)) 20 20 31 t229 _ A17.out).mono ?_); rintro e w' ⟨rfl, ⟨nd, rfl⟩⟩; refine ⟨_, rfl, ?_⟩) | ((with_reducible refine gate_callee (f := 53) rfl ?_); refine goesL_ (some 45) rfl rfl Try.func53 (by kernel_rfl) rfl #[.int .u32 t229, .int .u64 (IntKind.u64.wrap (a2)), .int .i64 19, .int .i64 12, .int .i64 12] rfl (by (try simp only [List.map_toArray, List.map_cons, List.map_nil]); first | done | rfl | (simp only [List.length_drop, List.length_take]; rfl)) ?_; (with_reducible refine (dovetailref3_put.calls t229 (IntKind.u64.wrap (a2)) 19 12 12 t230 _ A18.out).mono ?_); rintro e w' ⟨rfl, ⟨nd, rfl⟩⟩; refine ⟨_, rfl, ?_⟩) | ((with_reducible refine gate_callee (f := 53) rfl ?_); refine goesL_ (some 47) rfl rfl Try.func53 (by kernel_rfl) rfl #[.int .u32 t230, .int .u64 (IntKind.u64.wrap (a2)), .int .i64 11, .int .i64 11, .int .i64 20] rfl (by (try simp only [List.map_toArray, List.map_cons, List.map_nil]); first | done | rfl | (simp only [List.length_drop, List.length_take]; rfl)) ?_; (with_reducible refine (dovetailref3_put.calls t230 (IntKind.u64.wrap (a2)) 11 11 20 t231 _ A19.out).mono ?_); rintro e w' ⟨rfl, ⟨nd, rfl⟩⟩; refine ⟨_, rfl, ?_⟩) | ((with_reducible refine gate_callee (f := 53) rfl ?_); refine goesL_ (some 49) rfl rfl Try.func53 (by kernel_rfl) rfl #[.int .u32 t231, .int .u64 (IntKind.u64.wrap (a2)), .int .i64 10, .int .i64 1, .int .i64 21] rfl (by (try simp only [List.map_toArray, List.map_cons, List.map_nil]); first | done | rfl | (simp only [List.length_drop, List.length_take]; rfl)) ?_; (with_reducible refine (dovetailref3_put.calls t231 (IntKind.u64.wrap (a2)) 10 1 21 t232 _ A20.out).mono ?_); rintro e w' ⟨rfl, ⟨nd, rfl⟩⟩; refine ⟨_, rfl, ?_⟩))
            go_ret
            exact ⟨by first | rfl | (simp; done) | (simp [*]; done), by repeat (first | exact Drawn0.refl _ | apply Drawn0.step)⟩
          · rw [if_neg c16] at H
            have c16b0 : (a0 == 5) = false := beq_eq_false_iff_ne.mpr c16
            have c16b1 : (a0 != 5) = true := bne_iff_ne.mpr c16
            obtain rfl := Option.some.inj H
            go_enter Try.func36, Try.ntmps36
            go_wp2
            go_ret
            exact ⟨by first | rfl | (simp; done) | (simp [*]; done), by repeat (first | exact Drawn0.refl _ | apply Drawn0.step)⟩

end Go.Proofs.Ytooleipgpkjpjaa.QRelocApplies
