/- Contracts of what a law reaches, each function as a plain Lean function: written by a program of this claim's repo (myprint.py); conditions: those of each theorem. -/
import Derived.Test.YtooleipgpkjpjaaQRelocEdgesx0
import Derived.Test.YtooleipgpkjpjaaQRelocEdgesx1
namespace Go.Proofs.Ytooleipgpkjpjaa.QRelocEdges
open Go.Proofs.Ytooleipgpkjpjaa.Man
open Go.RowKit Go.Proofs.YtooleipgpkjpjaaW.PrintWords Go.Proofs.YtooleipgpkjpjaaW.PrintLast Go.Proofs.YtooleipgpkjpjaaW.PrintMore
attribute [local go_sem] max2_int min2_int max_two min_two max_three min_three max_four min_four   -- for this text's walks alone
set_option linter.unusedVariables false
set_option linter.unusedSimpArgs false

/-! ### reloc_fits: function 22 -/
def reloc_fits.f (k : Nat) (a0 : Int) (a1 : Int) : Option (Bool) := (reloc_Field.f k a0).bind fun t123 => (if t123.toList = ([119, 111, 114, 100, 51, 50] : List UInt8) then (if a1 ≥ (-2147483648) then (some (decide (a1 ≤ 4294967295))) else (some false)) else (if t123.toList = ([66] : List UInt8) then ((imm_Fits.f 3 a1).bind fun t124 => (some t124)) else (if t123.toList = ([74] : List UInt8) then ((imm_Fits.f 5 a1).bind fun t125 => (some t125)) else (if t123.toList = ([99, 97, 108, 108] : List UInt8) then (if a1 ≥ (-2147485696) then (some (decide (a1 ≤ 2147481599))) else (some false)) else (if t123.toList = ([85] : List UInt8) then (if a1 ≥ (-2147485696) then (some (decide (a1 ≤ 2147481599))) else (some false)) else (if t123.toList = ([73] : List UInt8) then (if a1 ≥ (-2147485696) then (some (decide (a1 ≤ 2147481599))) else (some false)) else (if t123.toList = ([83] : List UInt8) then (if a1 ≥ (-2147485696) then (some (decide (a1 ≤ 2147481599))) else (some false)) else (some true))))))))
theorem reloc_fits.mono : ∀ a0 a1 k, LeO (reloc_fits.f k a0 a1) (reloc_fits.f (k + 1) a0 a1) := by
  intro a0 a1 k
  unfold reloc_fits.f
  repeat' first
      | (with_reducible exact reloc_Field.mono _ _)
      | (with_reducible exact LeO.refl _)
      | (with_reducible exact LeO.none _)
      | (with_reducible refine LeO.ite ?_ ?_)
      | (with_reducible refine LeO.bind ?_ (fun _ => ?_))
      | exact reloc_Field.mono _ _
      | exact LeO.none _
      | refine LeO.ite ?_ ?_
      | refine LeO.bind ?_ (fun _ => ?_)
set_option maxHeartbeats 8000000 in
set_option maxRecDepth 100000 in
theorem reloc_fits.calls (k : Nat) (a0 : Int) (a1 : Int) (r : Bool) (w : World) (h : reloc_fits.f k a0 a1 = some r) :
    Calls Try.prog 22 #[.int .u32 a0, .int .i64 a1] w fun e w' => e = .returned (.bool r) ∧ Below w.heap.size w w' := by
  have HB := Aside0.mk (Below.refl w.heap.size w)
  have H : ((reloc_Field.f k a0).bind fun t123 => (if t123.toList = ([119, 111, 114, 100, 51, 50] : List UInt8) then (if a1 ≥ (-2147483648) then (some (decide (a1 ≤ 4294967295))) else (some false)) else (if t123.toList = ([66] : List UInt8) then ((imm_Fits.f 3 a1).bind fun t124 => (some t124)) else (if t123.toList = ([74] : List UInt8) then ((imm_Fits.f 5 a1).bind fun t125 => (some t125)) else (if t123.toList = ([99, 97, 108, 108] : List UInt8) then (if a1 ≥ (-2147485696) then (some (decide (a1 ≤ 2147481599))) else (some false)) else (if t123.toList = ([85] : List UInt8) then (if a1 ≥ (-2147485696) then (some (decide (a1 ≤ 2147481599))) else (some false)) else (if t123.toList = ([73] : List UInt8) then (if a1 ≥ (-2147485696) then (some (decide (a1 ≤ 2147481599))) else (some false)) else (if t123.toList = ([83] : List UInt8) then (if a1 ≥ (-2147485696) then (some (decide (a1 ≤ 2147481599))) else (some false)) else (some true))))))))) = some r := h
  clear h
  replace H := Option.bind_eq_some_iff.mp H
  obtain ⟨t123, A30, H⟩ := H
  replace H : (if t123.toList = ([119, 111, 114, 100, 51, 50] : List UInt8) then (if a1 ≥ (-2147483648) then (some (decide (a1 ≤ 4294967295))) else (some false)) else (if t123.toList = ([66] : List UInt8) then ((imm_Fits.f 3 a1).bind fun t124 => (some t124)) else (if t123.toList = ([74] : List UInt8) then ((imm_Fits.f 5 a1).bind fun t125 => (some t125)) else (if t123.toList = ([99, 97, 108, 108] : List UInt8) then (if a1 ≥ (-2147485696) then (some (decide (a1 ≤ 2147481599))) else (some false)) else (if t123.toList = ([85] : List UInt8) then (if a1 ≥ (-2147485696) then (some (decide (a1 ≤ 2147481599))) else (some false)) else (if t123.toList = ([73] : List UInt8) then (if a1 ≥ (-2147485696) then (some (decide (a1 ≤ 2147481599))) else (some false)) else (if t123.toList = ([83] : List UInt8) then (if a1 ≥ (-2147485696) then (some (decide (a1 ≤ 2147481599))) else (some false)) else (some true)))))))) = some r := H
  have A3 := Aside0.mk A30
  clear A30
  by_cases c4 : t123.toList = ([119, 111, 114, 100, 51, 50] : List UInt8)
  · rw [if_pos c4] at H
    have c4b0 : (t123.toList == ([119, 111, 114, 100, 51, 50] : List UInt8)) = true := beq_iff_eq.mpr c4
    have c4b1 : (t123.toList != ([119, 111, 114, 100, 51, 50] : List UInt8)) = false := bne_eq_false_iff_eq.mpr c4
    clear c4
    by_cases c5 : a1 ≥ (-2147483648)
    · rw [if_pos c5] at H
      have c5b0 : decide ((-2147483648) ≤ a1) = true := decide_eq_true c5
      clear c5
      obtain rfl := Option.some.inj H
      go_enter Try.func22, Try.ntmps22
      go_wp2_with (first | ((with_reducible refine gate_callee (f := 13) rfl ?_); refine goesL_ (some 6) rfl rfl Try.func13 (by kernel_rfl) rfl #[.int .u32 a0] rfl (by (try simp only [List.map_toArray, List.map_cons, List.map_nil]); first | done | rfl | (simp only [List.length_drop, List.length_take]; rfl)) ?_; (with_reducible refine (reloc_Field.calls k a0 t123 _ A3.out).mono ?_); rintro e w' ⟨rfl, ⟨nd, rfl⟩⟩; refine ⟨_, rfl, ?_⟩))
      go_ret
      exact ⟨by first | rfl | (simp [errW_none, errW_some] <;> rfl) | (simp [*, errW_none, errW_some] <;> rfl), by repeat (first | (with_reducible first | exact HB.out | apply below_alloc | apply pw_below_drewN | apply below_drew1) | exact HB.out)⟩
    · rw [if_neg c5] at H
      have c5b0 : decide ((-2147483648) ≤ a1) = false := decide_eq_false c5
      clear c5
      obtain rfl := Option.some.inj H
      go_enter Try.func22, Try.ntmps22
      go_wp2_with (first | ((with_reducible refine gate_callee (f := 13) rfl ?_); refine goesL_ (some 6) rfl rfl Try.func13 (by kernel_rfl) rfl #[.int .u32 a0] rfl (by (try simp only [List.map_toArray, List.map_cons, List.map_nil]); first | done | rfl | (simp only [List.length_drop, List.length_take]; rfl)) ?_; (with_reducible refine (reloc_Field.calls k a0 t123 _ A3.out).mono ?_); rintro e w' ⟨rfl, ⟨nd, rfl⟩⟩; refine ⟨_, rfl, ?_⟩))
      go_ret
      exact ⟨by first | rfl | (simp [errW_none, errW_some] <;> rfl) | (simp [*, errW_none, errW_some] <;> rfl), by repeat (first | (with_reducible first | exact HB.out | apply below_alloc | apply pw_below_drewN | apply below_drew1) | exact HB.out)⟩
  · rw [if_neg c4] at H
    have c4b0 : (t123.toList == ([119, 111, 114, 100, 51, 50] : List UInt8)) = false := beq_eq_false_iff_ne.mpr c4
    have c4b1 : (t123.toList != ([119, 111, 114, 100, 51, 50] : List UInt8)) = true := bne_iff_ne.mpr c4
    by_cases c6 : t123.toList = ([66] : List UInt8)
    · rw [if_pos c6] at H
      have c6b0 : (t123.toList == ([66] : List UInt8)) = true := beq_iff_eq.mpr c6
      have c6b1 : (t123.toList != ([66] : List UInt8)) = false := bne_eq_false_iff_eq.mpr c6
      clear c6
      replace H := Option.bind_eq_some_iff.mp H
      obtain ⟨t124, A70, H⟩ := H
      replace H : (some t124) = some r := H
      have A7 := Aside0.mk A70
      clear A70
      obtain rfl := Option.some.inj H
      go_enter Try.func22, Try.ntmps22
      go_wp2_with (first | ((with_reducible refine gate_callee (f := 13) rfl ?_); refine goesL_ (some 6) rfl rfl Try.func13 (by kernel_rfl) rfl #[.int .u32 a0] rfl (by (try simp only [List.map_toArray, List.map_cons, List.map_nil]); first | done | rfl | (simp only [List.length_drop, List.length_take]; rfl)) ?_; (with_reducible refine (reloc_Field.calls k a0 t123 _ A3.out).mono ?_); rintro e w' ⟨rfl, ⟨nd, rfl⟩⟩; refine ⟨_, rfl, ?_⟩) | ((with_reducible refine gate_callee (f := 45) rfl ?_); refine goesL_ (some 18) rfl rfl Try.func45 (by kernel_rfl) rfl #[.int .i64 3, .int .i64 a1] rfl (by (try simp only [List.map_toArray, List.map_cons, List.map_nil]); first | done | rfl | (simp only [List.length_drop, List.length_take]; rfl)) ?_; (with_reducible refine (imm_Fits.calls 3 a1 t124 _ A7.out).mono ?_); rintro e w8 ⟨rfl, hb⟩; refine ⟨_, rfl, ?_⟩; have n0_ := Aside0.mk (below_step (by repeat (first | (with_reducible first | exact HB.out | apply below_alloc | apply pw_below_drewN | apply below_drew1) | exact HB.out)) hb); clear HB; have HB := n0_; clear n0_; (try clear hb); (try clear hb2); (try clear hk); (try clear hi)))
      go_ret
      exact ⟨by first | rfl | (simp [errW_none, errW_some] <;> rfl) | (simp [*, errW_none, errW_some] <;> rfl), by repeat (first | (with_reducible first | exact HB.out | apply below_alloc | apply pw_below_drewN | apply below_drew1) | exact HB.out)⟩
    · rw [if_neg c6] at H
      have c6b0 : (t123.toList == ([66] : List UInt8)) = false := beq_eq_false_iff_ne.mpr c6
      have c6b1 : (t123.toList != ([66] : List UInt8)) = true := bne_iff_ne.mpr c6
      by_cases c9 : t123.toList = ([74] : List UInt8)
      · rw [if_pos c9] at H
        have c9b0 : (t123.toList == ([74] : List UInt8)) = true := beq_iff_eq.mpr c9
        have c9b1 : (t123.toList != ([74] : List UInt8)) = false := bne_eq_false_iff_eq.mpr c9
        clear c9
        replace H := Option.bind_eq_some_iff.mp H
        obtain ⟨t125, A100, H⟩ := H
        replace H : (some t125) = some r := H
        have A10 := Aside0.mk A100
        clear A100
        obtain rfl := Option.some.inj H
        go_enter Try.func22, Try.ntmps22
        go_wp2_with (first | ((with_reducible refine gate_callee (f := 13) rfl ?_); refine goesL_ (some 6) rfl rfl Try.func13 (by kernel_rfl) rfl #[.int .u32 a0] rfl (by (try simp only [List.map_toArray, List.map_cons, List.map_nil]); first | done | rfl | (simp only [List.length_drop, List.length_take]; rfl)) ?_; (with_reducible refine (reloc_Field.calls k a0 t123 _ A3.out).mono ?_); rintro e w' ⟨rfl, ⟨nd, rfl⟩⟩; refine ⟨_, rfl, ?_⟩) | ((with_reducible refine gate_callee (f := 45) rfl ?_); refine goesL_ (some 22) rfl rfl Try.func45 (by kernel_rfl) rfl #[.int .i64 5, .int .i64 a1] rfl (by (try simp only [List.map_toArray, List.map_cons, List.map_nil]); first | done | rfl | (simp only [List.length_drop, List.length_take]; rfl)) ?_; (with_reducible refine (imm_Fits.calls 5 a1 t125 _ A10.out).mono ?_); rintro e w11 ⟨rfl, hb⟩; refine ⟨_, rfl, ?_⟩; have n0_ := Aside0.mk (below_step (by repeat (first | (with_reducible first | exact HB.out | apply below_alloc | apply pw_below_drewN | apply below_drew1) | exact HB.out)) hb); clear HB; have HB := n0_; clear n0_; (try clear hb); (try clear hb2); (try clear hk); (try clear hi)))
        go_ret
        exact ⟨by first | rfl | (simp [errW_none, errW_some] <;> rfl) | (simp [*, errW_none, errW_some] <;> rfl), by repeat (first | (with_reducible first | exact HB.out | apply below_alloc | apply pw_below_drewN | apply below_drew1) | exact HB.out)⟩
      · rw [if_neg c9] at H
        have c9b0 : (t123.toList == ([74] : List UInt8)) = false := beq_eq_false_iff_ne.mpr c9
        have c9b1 : (t123.toList != ([74] : List UInt8)) = true := bne_iff_ne.mpr c9
        by_cases c12 : t123.toList = ([99, 97, 108, 108] : List UInt8)
        · rw [if_pos c12] at H
          have c12b0 : (t123.toList == ([99, 97, 108, 108] : List UInt8)) = true := beq_iff_eq.mpr c12
          have c12b1 : (t123.toList != ([99, 97, 108, 108] : List UInt8)) = false := bne_eq_false_iff_eq.mpr c12
          clear c12
          by_cases c13 : a1 ≥ (-2147485696)
          · rw [if_pos c13] at H
            have c13b0 : decide ((-2147485696) ≤ a1) = true := decide_eq_true c13
            clear c13
            obtain rfl := Option.some.inj H
            go_enter Try.func22, Try.ntmps22
            go_wp2_with (first | ((with_reducible refine gate_callee (f := 13) rfl ?_); refine goesL_ (some 6) rfl rfl Try.func13 (by kernel_rfl) rfl #[.int .u32 a0] rfl (by (try simp only [List.map_toArray, List.map_cons, List.map_nil]); first | done | rfl | (simp only [List.length_drop, List.length_take]; rfl)) ?_; (with_reducible refine (reloc_Field.calls k a0 t123 _ A3.out).mono ?_); rintro e w' ⟨rfl, ⟨nd, rfl⟩⟩; refine ⟨_, rfl, ?_⟩))
            go_ret
            exact ⟨by first | rfl | (simp [errW_none, errW_some] <;> rfl) | (simp [*, errW_none, errW_some] <;> rfl), by repeat (first | (with_reducible first | exact HB.out | apply below_alloc | apply pw_below_drewN | apply below_drew1) | exact HB.out)⟩
          · rw [if_neg c13] at H
            have c13b0 : decide ((-2147485696) ≤ a1) = false := decide_eq_false c13
            clear c13
            obtain rfl := Option.some.inj H
            go_enter Try.func22, Try.ntmps22
            go_wp2_with (first | ((with_reducible refine gate_callee (f := 13) rfl ?_); refine goesL_ (some 6) rfl rfl Try.func13 (by kernel_rfl) rfl #[.int .u32 a0] rfl (by (try simp only [List.map_toArray, List.map_cons, List.map_nil]); first | done | rfl | (simp only [List.length_drop, List.length_take]; rfl)) ?_; (with_reducible refine (reloc_Field.calls k a0 t123 _ A3.out).mono ?_); rintro e w' ⟨rfl, ⟨nd, rfl⟩⟩; refine ⟨_, rfl, ?_⟩))
            go_ret
            exact ⟨by first | rfl | (simp [errW_none, errW_some] <;> rfl) | (simp [*, errW_none, errW_some] <;> rfl), by repeat (first | (with_reducible first | exact HB.out | apply below_alloc | apply pw_below_drewN | apply below_drew1) | exact HB.out)⟩
        · rw [if_neg c12] at H
          have c12b0 : (t123.toList == ([99, 97, 108, 108] : List UInt8)) = false := beq_eq_false_iff_ne.mpr c12
          have c12b1 : (t123.toList != ([99, 97, 108, 108] : List UInt8)) = true := bne_iff_ne.mpr c12
          by_cases c14 : t123.toList = ([85] : List UInt8)
          · rw [if_pos c14] at H
            have c14b0 : (t123.toList == ([85] : List UInt8)) = true := beq_iff_eq.mpr c14
            have c14b1 : (t123.toList != ([85] : List UInt8)) = false := bne_eq_false_iff_eq.mpr c14
            clear c14
            by_cases c15 : a1 ≥ (-2147485696)
            · rw [if_pos c15] at H
              have c15b0 : decide ((-2147485696) ≤ a1) = true := decide_eq_true c15
              clear c15
              obtain rfl := Option.some.inj H
              go_enter Try.func22, Try.ntmps22
              go_wp2_with (first | ((with_reducible refine gate_callee (f := 13) rfl ?_); refine goesL_ (some 6) rfl rfl Try.func13 (by kernel_rfl) rfl #[.int .u32 a0] rfl (by (try simp only [List.map_toArray, List.map_cons, List.map_nil]); first | done | rfl | (simp only [List.length_drop, List.length_take]; rfl)) ?_; (with_reducible refine (reloc_Field.calls k a0 t123 _ A3.out).mono ?_); rintro e w' ⟨rfl, ⟨nd, rfl⟩⟩; refine ⟨_, rfl, ?_⟩))
              go_ret
              exact ⟨by first | rfl | (simp [errW_none, errW_some] <;> rfl) | (simp [*, errW_none, errW_some] <;> rfl), by repeat (first | (with_reducible first | exact HB.out | apply below_alloc | apply pw_below_drewN | apply below_drew1) | exact HB.out)⟩
            · rw [if_neg c15] at H
              have c15b0 : decide ((-2147485696) ≤ a1) = false := decide_eq_false c15
              clear c15
              obtain rfl := Option.some.inj H
              go_enter Try.func22, Try.ntmps22
              go_wp2_with (first | ((with_reducible refine gate_callee (f := 13) rfl ?_); refine goesL_ (some 6) rfl rfl Try.func13 (by kernel_rfl) rfl #[.int .u32 a0] rfl (by (try simp only [List.map_toArray, List.map_cons, List.map_nil]); first | done | rfl | (simp only [List.length_drop, List.length_take]; rfl)) ?_; (with_reducible refine (reloc_Field.calls k a0 t123 _ A3.out).mono ?_); rintro e w' ⟨rfl, ⟨nd, rfl⟩⟩; refine ⟨_, rfl, ?_⟩))
              go_ret
              exact ⟨by first | rfl | (simp [errW_none, errW_some] <;> rfl) | (simp [*, errW_none, errW_some] <;> rfl), by repeat (first | (with_reducible first | exact HB.out | apply below_alloc | apply pw_below_drewN | apply below_drew1) | exact HB.out)⟩
          · rw [if_neg c14] at H
            have c14b0 : (t123.toList == ([85] : List UInt8)) = false := beq_eq_false_iff_ne.mpr c14
            have c14b1 : (t123.toList != ([85] : List UInt8)) = true := bne_iff_ne.mpr c14
            by_cases c16 : t123.toList = ([73] : List UInt8)
            · rw [if_pos c16] at H
              have c16b0 : (t123.toList == ([73] : List UInt8)) = true := beq_iff_eq.mpr c16
              have c16b1 : (t123.toList != ([73] : List UInt8)) = false := bne_eq_false_iff_eq.mpr c16
              clear c16
              by_cases c17 : a1 ≥ (-2147485696)
              · rw [if_pos c17] at H
                have c17b0 : decide ((-2147485696) ≤ a1) = true := decide_eq_true c17
                clear c17
                obtain rfl := Option.some.inj H
                go_enter Try.func22, Try.ntmps22
                go_wp2_with (first | ((with_reducible refine gate_callee (f := 13) rfl ?_); refine goesL_ (some 6) rfl rfl Try.func13 (by kernel_rfl) rfl #[.int .u32 a0] rfl (by (try simp only [List.map_toArray, List.map_cons, List.map_nil]); first | done | rfl | (simp only [List.length_drop, List.length_take]; rfl)) ?_; (with_reducible refine (reloc_Field.calls k a0 t123 _ A3.out).mono ?_); rintro e w' ⟨rfl, ⟨nd, rfl⟩⟩; refine ⟨_, rfl, ?_⟩))
                go_ret
                exact ⟨by first | rfl | (simp [errW_none, errW_some] <;> rfl) | (simp [*, errW_none, errW_some] <;> rfl), by repeat (first | (with_reducible first | exact HB.out | apply below_alloc | apply pw_below_drewN | apply below_drew1) | exact HB.out)⟩
              · rw [if_neg c17] at H
                have c17b0 : decide ((-2147485696) ≤ a1) = false := decide_eq_false c17
                clear c17
                obtain rfl := Option.some.inj H
                go_enter Try.func22, Try.ntmps22
                go_wp2_with (first | ((with_reducible refine gate_callee (f := 13) rfl ?_); refine goesL_ (some 6) rfl rfl Try.func13 (by kernel_rfl) rfl #[.int .u32 a0] rfl (by (try simp only [List.map_toArray, List.map_cons, List.map_nil]); first | done | rfl | (simp only [List.length_drop, List.length_take]; rfl)) ?_; (with_reducible refine (reloc_Field.calls k a0 t123 _ A3.out).mono ?_); rintro e w' ⟨rfl, ⟨nd, rfl⟩⟩; refine ⟨_, rfl, ?_⟩))
                go_ret
                exact ⟨by first | rfl | (simp [errW_none, errW_some] <;> rfl) | (simp [*, errW_none, errW_some] <;> rfl), by repeat (first | (with_reducible first | exact HB.out | apply below_alloc | apply pw_below_drewN | apply below_drew1) | exact HB.out)⟩
            · rw [if_neg c16] at H
              have c16b0 : (t123.toList == ([73] : List UInt8)) = false := beq_eq_false_iff_ne.mpr c16
              have c16b1 : (t123.toList != ([73] : List UInt8)) = true := bne_iff_ne.mpr c16
              by_cases c18 : t123.toList = ([83] : List UInt8)
              · rw [if_pos c18] at H
                have c18b0 : (t123.toList == ([83] : List UInt8)) = true := beq_iff_eq.mpr c18
                have c18b1 : (t123.toList != ([83] : List UInt8)) = false := bne_eq_false_iff_eq.mpr c18
                clear c18
                by_cases c19 : a1 ≥ (-2147485696)
                · rw [if_pos c19] at H
                  have c19b0 : decide ((-2147485696) ≤ a1) = true := decide_eq_true c19
                  clear c19
                  obtain rfl := Option.some.inj H
                  go_enter Try.func22, Try.ntmps22
                  go_wp2_with (first | ((with_reducible refine gate_callee (f := 13) rfl ?_); refine goesL_ (some 6) rfl rfl Try.func13 (by kernel_rfl) rfl #[.int .u32 a0] rfl (by (try simp only [List.map_toArray, List.map_cons, List.map_nil]); first | done | rfl | (simp only [List.length_drop, List.length_take]; rfl)) ?_; (with_reducible refine (reloc_Field.calls k a0 t123 _ A3.out).mono ?_); rintro e w' ⟨rfl, ⟨nd, rfl⟩⟩; refine ⟨_, rfl, ?_⟩))
                  go_ret
                  exact ⟨by first | rfl | (simp [errW_none, errW_some] <;> rfl) | (simp [*, errW_none, errW_some] <;> rfl), by repeat (first | (with_reducible first | exact HB.out | apply below_alloc | apply pw_below_drewN | apply below_drew1) | exact HB.out)⟩
                · rw [if_neg c19] at H
                  have c19b0 : decide ((-2147485696) ≤ a1) = false := decide_eq_false c19
                  clear c19
                  obtain rfl := Option.some.inj H
                  go_enter Try.func22, Try.ntmps22
                  go_wp2_with (first | ((with_reducible refine gate_callee (f := 13) rfl ?_); refine goesL_ (some 6) rfl rfl Try.func13 (by kernel_rfl) rfl #[.int .u32 a0] rfl (by (try simp only [List.map_toArray, List.map_cons, List.map_nil]); first | done | rfl | (simp only [List.length_drop, List.length_take]; rfl)) ?_; (with_reducible refine (reloc_Field.calls k a0 t123 _ A3.out).mono ?_); rintro e w' ⟨rfl, ⟨nd, rfl⟩⟩; refine ⟨_, rfl, ?_⟩))
                  go_ret
                  exact ⟨by first | rfl | (simp [errW_none, errW_some] <;> rfl) | (simp [*, errW_none, errW_some] <;> rfl), by repeat (first | (with_reducible first | exact HB.out | apply below_alloc | apply pw_below_drewN | apply below_drew1) | exact HB.out)⟩
              · rw [if_neg c18] at H
                have c18b0 : (t123.toList == ([83] : List UInt8)) = false := beq_eq_false_iff_ne.mpr c18
                have c18b1 : (t123.toList != ([83] : List UInt8)) = true := bne_iff_ne.mpr c18
                obtain rfl := Option.some.inj H
                go_enter Try.func22, Try.ntmps22
                go_wp2_with (first | ((with_reducible refine gate_callee (f := 13) rfl ?_); refine goesL_ (some 6) rfl rfl Try.func13 (by kernel_rfl) rfl #[.int .u32 a0] rfl (by (try simp only [List.map_toArray, List.map_cons, List.map_nil]); first | done | rfl | (simp only [List.length_drop, List.length_take]; rfl)) ?_; (with_reducible refine (reloc_Field.calls k a0 t123 _ A3.out).mono ?_); rintro e w' ⟨rfl, ⟨nd, rfl⟩⟩; refine ⟨_, rfl, ?_⟩))
                go_ret
                exact ⟨by first | rfl | (simp [errW_none, errW_some] <;> rfl) | (simp [*, errW_none, errW_some] <;> rfl), by repeat (first | (with_reducible first | exact HB.out | apply below_alloc | apply pw_below_drewN | apply below_drew1) | exact HB.out)⟩

/-! ### reloc_Value: function 11 -/
def reloc_Value.j0 : Nat → Int → Int → Int → Bool → Option (Int × Int)
  | 0, _, _, _, _ => none
  | k + 1, x0, x3, x10, x24 => if x24 = true then ((reloc_fits.f k x0 (wrap64 (x10))).bind fun t127 => (if t127 = true then (some (wrap64 (x10), 0)) else (some (0, 61)))) else ((reloc_fits.f k x0 (wrap64 (IntKind.u64.wrap (x10 - x3)))).bind fun t128 => (if t128 = true then (some (wrap64 (IntKind.u64.wrap (x10 - x3)), 0)) else (some (0, 61))))
def reloc_Value.f (k : Nat) (a0 : Int) (a1 : Int) (a2 : Int) (a3 : Int) : Option (Int × Int) := (rela_Known.f k a0).bind fun t126 => (if t126 = true then (if a0 = 51 then (some (0, 0)) else (if a0 = 1 then (reloc_Value.j0 k a0 a3 (IntKind.u64.wrap (a1 + (IntKind.u64.wrap (a2)))) (a0 == 1)) else (if a0 = 2 then (reloc_Value.j0 k a0 a3 (IntKind.u64.wrap (a1 + (IntKind.u64.wrap (a2)))) (a0 == 2)) else (if a0 = 26 then (reloc_Value.j0 k a0 a3 (IntKind.u64.wrap (a1 + (IntKind.u64.wrap (a2)))) (a0 == 26)) else (if a0 = 27 then (reloc_Value.j0 k a0 a3 (IntKind.u64.wrap (a1 + (IntKind.u64.wrap (a2)))) (a0 == 27)) else (reloc_Value.j0 k a0 a3 (IntKind.u64.wrap (a1 + (IntKind.u64.wrap (a2)))) (a0 == 28))))))) else (some (0, 60)))
theorem reloc_Value.mono_l : ∀ k, (∀ y0 y1 y2 y3, LeO (reloc_Value.j0 k y0 y1 y2 y3) (reloc_Value.j0 (k + 1) y0 y1 y2 y3))
  | 0 => fun _ _ _ _ r h => by simp [reloc_Value.j0] at h
  | k + 1 => by
    have ih0 := reloc_Value.mono_l k
    · intro y0 y1 y2 y3
      unfold reloc_Value.j0
      repeat' first
      | (with_reducible exact ih0 _ _ _ _)
      | (with_reducible exact rela_Known.mono _ _)
      | (with_reducible exact reloc_fits.mono _ _ _)
      | (with_reducible exact LeO.refl _)
      | (with_reducible exact LeO.none _)
      | (with_reducible refine LeO.ite ?_ ?_)
      | (with_reducible refine LeO.bind ?_ (fun _ => ?_))
      | exact ih0 _ _ _ _
      | exact rela_Known.mono _ _
      | exact reloc_fits.mono _ _ _
      | exact LeO.none _
      | refine LeO.ite ?_ ?_
      | refine LeO.bind ?_ (fun _ => ?_)
theorem reloc_Value.mono : ∀ a0 a1 a2 a3 k, LeO (reloc_Value.f k a0 a1 a2 a3) (reloc_Value.f (k + 1) a0 a1 a2 a3) := by
  intro a0 a1 a2 a3 k
  have ih0 := reloc_Value.mono_l k
  unfold reloc_Value.f
  repeat' first
      | (with_reducible exact ih0 _ _ _ _)
      | (with_reducible exact rela_Known.mono _ _)
      | (with_reducible exact reloc_fits.mono _ _ _)
      | (with_reducible exact LeO.refl _)
      | (with_reducible exact LeO.none _)
      | (with_reducible refine LeO.ite ?_ ?_)
      | (with_reducible refine LeO.bind ?_ (fun _ => ?_))
      | exact ih0 _ _ _ _
      | exact rela_Known.mono _ _
      | exact reloc_fits.mono _ _ _
      | exact LeO.none _
      | refine LeO.ite ?_ ?_
      | refine LeO.bind ?_ (fun _ => ?_)
set_option maxHeartbeats 8000000 in
set_option maxRecDepth 100000 in
theorem reloc_Value.calls (k : Nat) (a0 : Int) (a1 : Int) (a2 : Int) (a3 : Int) (r1 : Int) (r2 : Int) (w : World) (h : reloc_Value.f k a0 a1 a2 a3 = some (r1, r2)) :
    Calls Try.prog 11 #[.int .u32 a0, .int .u64 a1, .int .i64 a2, .int .u64 a3] w fun e w' => e = .returned (.tuple #[.int .i64 r1, .int .i64 r2]) ∧ Below w.heap.size w w' := by
  have HB := Aside0.mk (Below.refl w.heap.size w)
  have H : ((rela_Known.f k a0).bind fun t126 => (if t126 = true then (if a0 = 51 then (some (0, 0)) else (if a0 = 1 then (reloc_Value.j0 k a0 a3 (IntKind.u64.wrap (a1 + (IntKind.u64.wrap (a2)))) (a0 == 1)) else (if a0 = 2 then (reloc_Value.j0 k a0 a3 (IntKind.u64.wrap (a1 + (IntKind.u64.wrap (a2)))) (a0 == 2)) else (if a0 = 26 then (reloc_Value.j0 k a0 a3 (IntKind.u64.wrap (a1 + (IntKind.u64.wrap (a2)))) (a0 == 26)) else (if a0 = 27 then (reloc_Value.j0 k a0 a3 (IntKind.u64.wrap (a1 + (IntKind.u64.wrap (a2)))) (a0 == 27)) else (reloc_Value.j0 k a0 a3 (IntKind.u64.wrap (a1 + (IntKind.u64.wrap (a2)))) (a0 == 28))))))) else (some (0, 60)))) = some (r1, r2) := h
  clear h
  replace H := Option.bind_eq_some_iff.mp H
  obtain ⟨t126, A50, H⟩ := H
  replace H : (if t126 = true then (if a0 = 51 then (some (0, 0)) else (if a0 = 1 then (reloc_Value.j0 k a0 a3 (IntKind.u64.wrap (a1 + (IntKind.u64.wrap (a2)))) (a0 == 1)) else (if a0 = 2 then (reloc_Value.j0 k a0 a3 (IntKind.u64.wrap (a1 + (IntKind.u64.wrap (a2)))) (a0 == 2)) else (if a0 = 26 then (reloc_Value.j0 k a0 a3 (IntKind.u64.wrap (a1 + (IntKind.u64.wrap (a2)))) (a0 == 26)) else (if a0 = 27 then (reloc_Value.j0 k a0 a3 (IntKind.u64.wrap (a1 + (IntKind.u64.wrap (a2)))) (a0 == 27)) else (reloc_Value.j0 k a0 a3 (IntKind.u64.wrap (a1 + (IntKind.u64.wrap (a2)))) (a0 == 28))))))) else (some (0, 60))) = some (r1, r2) := H
  have A5 := Aside0.mk A50
  clear A50
  by_cases c6 : t126 = true
  · subst c6
    have H1 : (if a0 = 51 then (some (0, 0)) else (if a0 = 1 then (reloc_Value.j0 k a0 a3 (IntKind.u64.wrap (a1 + (IntKind.u64.wrap (a2)))) (a0 == 1)) else (if a0 = 2 then (reloc_Value.j0 k a0 a3 (IntKind.u64.wrap (a1 + (IntKind.u64.wrap (a2)))) (a0 == 2)) else (if a0 = 26 then (reloc_Value.j0 k a0 a3 (IntKind.u64.wrap (a1 + (IntKind.u64.wrap (a2)))) (a0 == 26)) else (if a0 = 27 then (reloc_Value.j0 k a0 a3 (IntKind.u64.wrap (a1 + (IntKind.u64.wrap (a2)))) (a0 == 27)) else (reloc_Value.j0 k a0 a3 (IntKind.u64.wrap (a1 + (IntKind.u64.wrap (a2)))) (a0 == 28))))))) = some (r1, r2) := by rw [if_pos rfl] at H; exact H
    clear H
    have H := H1
    clear H1
    by_cases c7 : a0 = 51
    · rw [if_pos c7] at H
      have c7b0 : (a0 == 51) = true := beq_iff_eq.mpr c7
      have c7b1 : (a0 != 51) = false := bne_eq_false_iff_eq.mpr c7
      clear c7
      simp only [Option.some.injEq, Prod.mk.injEq] at H
      obtain ⟨rfl, rfl⟩ := H
      go_enter Try.func11, Try.ntmps11
      go_wp2_with (first | ((with_reducible refine gate_callee (f := 21) rfl ?_); refine goesL_ (some 12) rfl rfl Try.func21 (by kernel_rfl) rfl #[.int .u32 a0] rfl (by (try simp only [List.map_toArray, List.map_cons, List.map_nil]); first | done | rfl | (simp only [List.length_drop, List.length_take]; rfl)) ?_; (with_reducible refine (rela_Known.calls k a0 true _ A5.out).mono ?_); rintro e w' ⟨rfl, ⟨nd, rfl⟩⟩; refine ⟨_, rfl, ?_⟩))
      go_ret2
      exact ⟨by first | rfl | (simp [errW_none, errW_some] <;> rfl) | (simp [*, errW_none, errW_some] <;> rfl), by repeat (first | (with_reducible first | exact HB.out | apply below_alloc | apply pw_below_drewN | apply below_drew1) | exact HB.out)⟩
    · rw [if_neg c7] at H
      have c7b0 : (a0 == 51) = false := beq_eq_false_iff_ne.mpr c7
      have c7b1 : (a0 != 51) = true := bne_iff_ne.mpr c7
      have HC8 := Aside0.mk H
      clear H
      go_enter Try.func11, Try.ntmps11
      go_upto_if 24 with (first | ((with_reducible refine gate_callee (f := 21) rfl ?_); refine goesL_ (some 12) rfl rfl Try.func21 (by kernel_rfl) rfl #[.int .u32 a0] rfl (by (try simp only [List.map_toArray, List.map_cons, List.map_nil]); first | done | rfl | (simp only [List.length_drop, List.length_take]; rfl)) ?_; (with_reducible refine (rela_Known.calls k a0 true _ A5.out).mono ?_); rintro e w' ⟨rfl, ⟨nd, rfl⟩⟩; refine ⟨_, rfl, ?_⟩))
      (try simp only [Act.put, List.setIfInBounds_toArray, List.set_cons_zero, List.set_cons_succ])
      go_cut [24] (fun v24 wc => ∃ (kq : Nat) (x24_7 : Bool), v24 = .bool x24_7 ∧ Aside0 (reloc_Value.j0 kq a0 a3 (IntKind.u64.wrap (a1 + (IntKind.u64.wrap (a2)))) x24_7 = some (r1, r2)) ∧ Aside0 (kq ≤ k) ∧ Aside0 (Below w.heap.size w wc))
      case first =>
        have H := HC8.out
        clear HC8
        by_cases c9 : a0 = 1
        · rw [if_pos c9] at H
          have c9b0 : (a0 == 1) = true := beq_iff_eq.mpr c9
          have c9b1 : (a0 != 1) = false := bne_eq_false_iff_eq.mpr c9
          clear c9
          (first | rw [c9b0] | (simp only [i64_w, i32_w]; rw [c9b0]) | skip)
          have H' := Aside0.mk H
          clear H
          go_wp2
          go_meet
          case rel => exact ⟨_, ((a0 == 1)), (by first | rfl | (simp; done) | (simp [*]; done)), H', ⟨by first | omega | exact Nat.le_refl _⟩, ⟨by repeat (first | (with_reducible first | exact HB.out | apply below_alloc | apply pw_below_drewN | apply below_drew1) | exact HB.out)⟩⟩
        · rw [if_neg c9] at H
          have c9b0 : (a0 == 1) = false := beq_eq_false_iff_ne.mpr c9
          have c9b1 : (a0 != 1) = true := bne_iff_ne.mpr c9
          (first | rw [c9b0] | (simp only [i64_w, i32_w]; rw [c9b0]) | skip)
          by_cases c10 : a0 = 2
          · rw [if_pos c10] at H
            have c10b0 : (a0 == 2) = true := beq_iff_eq.mpr c10
            have c10b1 : (a0 != 2) = false := bne_eq_false_iff_eq.mpr c10
            clear c10
            have H' := Aside0.mk H
            clear H
            go_wp2
            go_meet
            case rel => exact ⟨_, ((a0 == 2)), (by first | rfl | (simp; done) | (simp [*]; done)), H', ⟨by first | omega | exact Nat.le_refl _⟩, ⟨by repeat (first | (with_reducible first | exact HB.out | apply below_alloc | apply pw_below_drewN | apply below_drew1) | exact HB.out)⟩⟩
          · rw [if_neg c10] at H
            have c10b0 : (a0 == 2) = false := beq_eq_false_iff_ne.mpr c10
            have c10b1 : (a0 != 2) = true := bne_iff_ne.mpr c10
            by_cases c11 : a0 = 26
            · rw [if_pos c11] at H
              have c11b0 : (a0 == 26) = true := beq_iff_eq.mpr c11
              have c11b1 : (a0 != 26) = false := bne_eq_false_iff_eq.mpr c11
              clear c11
              have H' := Aside0.mk H
              clear H
              go_wp2
              go_meet
              case rel => exact ⟨_, ((a0 == 26)), (by first | rfl | (simp; done) | (simp [*]; done)), H', ⟨by first | omega | exact Nat.le_refl _⟩, ⟨by repeat (first | (with_reducible first | exact HB.out | apply below_alloc | apply pw_below_drewN | apply below_drew1) | exact HB.out)⟩⟩
            · rw [if_neg c11] at H
              have c11b0 : (a0 == 26) = false := beq_eq_false_iff_ne.mpr c11
              have c11b1 : (a0 != 26) = true := bne_iff_ne.mpr c11
              by_cases c12 : a0 = 27
              · rw [if_pos c12] at H
                have c12b0 : (a0 == 27) = true := beq_iff_eq.mpr c12
                have c12b1 : (a0 != 27) = false := bne_eq_false_iff_eq.mpr c12
                clear c12
                have H' := Aside0.mk H
                clear H
                go_wp2
                go_meet
                case rel => exact ⟨_, ((a0 == 27)), (by first | rfl | (simp; done) | (simp [*]; done)), H', ⟨by first | omega | exact Nat.le_refl _⟩, ⟨by repeat (first | (with_reducible first | exact HB.out | apply below_alloc | apply pw_below_drewN | apply below_drew1) | exact HB.out)⟩⟩
              · rw [if_neg c12] at H
                have c12b0 : (a0 == 27) = false := beq_eq_false_iff_ne.mpr c12
                have c12b1 : (a0 != 27) = true := bne_iff_ne.mpr c12
                have H' := Aside0.mk H
                clear H
                go_wp2
                go_meet
                case rel => exact ⟨_, ((a0 == 28)), (by first | rfl | (simp; done) | (simp [*]; done)), H', ⟨by first | omega | exact Nat.le_refl _⟩, ⟨by repeat (first | (with_reducible first | exact HB.out | apply below_alloc | apply pw_below_drewN | apply below_drew1) | exact HB.out)⟩⟩
      case rest =>
        clear HC8
        try clear c1
        try clear c2
        try clear p2
        try clear c6
        try clear c7
        try clear c7b0
        try clear c7b1
        try clear c9
        try clear c9b0
        try clear c9b1
        try clear c10
        try clear c10b0
        try clear c10b1
        try clear c11
        try clear c11b0
        try clear c11b1
        try clear c12
        try clear c12b0
        try clear c12b1
        obtain ⟨kq, x24_7, rfl, HA, HJ7, HB⟩ := hcut
        cases kq with
        | zero => exact absurd HA.out (by simp [reloc_Value.j0])
        | succ kj7 =>
          have H := HA.out
          clear HA
          simp only [reloc_Value.j0] at H
          by_cases c13 : x24_7 = true
          · subst c13
            have H1 : ((reloc_fits.f kj7 a0 (wrap64 ((IntKind.u64.wrap (a1 + (IntKind.u64.wrap (a2))))))).bind fun t127 => (if t127 = true then (some (wrap64 ((IntKind.u64.wrap (a1 + (IntKind.u64.wrap (a2))))), 0)) else (some (0, 61)))) = some (r1, r2) := by rw [if_pos rfl] at H; exact H
            clear H
            have H := H1
            clear H1
            replace H := Option.bind_eq_some_iff.mp H
            obtain ⟨t127, A140, H⟩ := H
            replace H : (if t127 = true then (some (wrap64 ((IntKind.u64.wrap (a1 + (IntKind.u64.wrap (a2))))), 0)) else (some (0, 61))) = some (r1, r2) := H
            have A14 := Aside0.mk A140
            clear A140
            by_cases c15 : t127 = true
            · subst c15
              have H1 : (some (wrap64 ((IntKind.u64.wrap (a1 + (IntKind.u64.wrap (a2))))), 0)) = some (r1, r2) := by rw [if_pos rfl] at H; exact H
              clear H
              have H := H1
              clear H1
              simp only [Option.some.injEq, Prod.mk.injEq] at H
              obtain ⟨rfl, rfl⟩ := H
              go_wp2_with (first | ((with_reducible refine gate_callee (f := 22) rfl ?_); refine goesL_ (some 33) rfl rfl Try.func22 (by kernel_rfl) rfl #[.int .u32 a0, .int .i64 (wrap64 ((IntKind.u64.wrap (a1 + (IntKind.u64.wrap (a2))))))] rfl (by (try simp only [List.map_toArray, List.map_cons, List.map_nil]); first | done | rfl | (simp only [List.length_drop, List.length_take]; rfl)) ?_; (with_reducible refine (reloc_fits.calls kj7 a0 (wrap64 ((IntKind.u64.wrap (a1 + (IntKind.u64.wrap (a2)))))) true _ A14.out).mono ?_); rintro e w16 ⟨rfl, hb⟩; refine ⟨_, rfl, ?_⟩; have n0_ := Aside0.mk (below_step (by repeat (first | (with_reducible first | exact HB.out | apply below_alloc | apply pw_below_drewN | apply below_drew1) | exact HB.out)) hb); clear HB; have HB := n0_; clear n0_; (try clear hb); (try clear hb2); (try clear hk); (try clear hi)))
              go_ret2
              exact ⟨by first | rfl | (simp [errW_none, errW_some] <;> rfl) | (simp [*, errW_none, errW_some] <;> rfl), by repeat (first | (with_reducible first | exact HB.out | apply below_alloc | apply pw_below_drewN | apply below_drew1) | exact HB.out)⟩
            · replace c15 := Bool.eq_false_iff.mpr c15
              subst c15
              have H1 : (some (0, 61)) = some (r1, r2) := by rw [if_neg (show ¬ (false = true) by decide)] at H; exact H
              clear H
              have H := H1
              clear H1
              simp only [Option.some.injEq, Prod.mk.injEq] at H
              obtain ⟨rfl, rfl⟩ := H
              go_wp2_with (first | ((with_reducible refine gate_callee (f := 22) rfl ?_); refine goesL_ (some 33) rfl rfl Try.func22 (by kernel_rfl) rfl #[.int .u32 a0, .int .i64 (wrap64 ((IntKind.u64.wrap (a1 + (IntKind.u64.wrap (a2))))))] rfl (by (try simp only [List.map_toArray, List.map_cons, List.map_nil]); first | done | rfl | (simp only [List.length_drop, List.length_take]; rfl)) ?_; (with_reducible refine (reloc_fits.calls kj7 a0 (wrap64 ((IntKind.u64.wrap (a1 + (IntKind.u64.wrap (a2)))))) false _ A14.out).mono ?_); rintro e w17 ⟨rfl, hb⟩; refine ⟨_, rfl, ?_⟩; have n0_ := Aside0.mk (below_step (by repeat (first | (with_reducible first | exact HB.out | apply below_alloc | apply pw_below_drewN | apply below_drew1) | exact HB.out)) hb); clear HB; have HB := n0_; clear n0_; (try clear hb); (try clear hb2); (try clear hk); (try clear hi)))
              go_ret2
              exact ⟨by first | rfl | (simp [errW_none, errW_some] <;> rfl) | (simp [*, errW_none, errW_some] <;> rfl), by repeat (first | (with_reducible first | exact HB.out | apply below_alloc | apply pw_below_drewN | apply below_drew1) | exact HB.out)⟩
          · replace c13 := Bool.eq_false_iff.mpr c13
            subst c13
            have H1 : ((reloc_fits.f kj7 a0 (wrap64 (IntKind.u64.wrap ((IntKind.u64.wrap (a1 + (IntKind.u64.wrap (a2)))) - a3)))).bind fun t128 => (if t128 = true then (some (wrap64 (IntKind.u64.wrap ((IntKind.u64.wrap (a1 + (IntKind.u64.wrap (a2)))) - a3)), 0)) else (some (0, 61)))) = some (r1, r2) := by rw [if_neg (show ¬ (false = true) by decide)] at H; exact H
            clear H
            have H := H1
            clear H1
            replace H := Option.bind_eq_some_iff.mp H
            obtain ⟨t128, A180, H⟩ := H
            replace H : (if t128 = true then (some (wrap64 (IntKind.u64.wrap ((IntKind.u64.wrap (a1 + (IntKind.u64.wrap (a2)))) - a3)), 0)) else (some (0, 61))) = some (r1, r2) := H
            have A18 := Aside0.mk A180
            clear A180
            by_cases c19 : t128 = true
            · subst c19
              have H1 : (some (wrap64 (IntKind.u64.wrap ((IntKind.u64.wrap (a1 + (IntKind.u64.wrap (a2)))) - a3)), 0)) = some (r1, r2) := by rw [if_pos rfl] at H; exact H
              clear H
              have H := H1
              clear H1
              simp only [Option.some.injEq, Prod.mk.injEq] at H
              obtain ⟨rfl, rfl⟩ := H
              go_wp2_with (first | ((with_reducible refine gate_callee (f := 22) rfl ?_); refine goesL_ (some 33) rfl rfl Try.func22 (by kernel_rfl) rfl #[.int .u32 a0, .int .i64 (wrap64 (IntKind.u64.wrap ((IntKind.u64.wrap (a1 + (IntKind.u64.wrap (a2)))) - a3)))] rfl (by (try simp only [List.map_toArray, List.map_cons, List.map_nil]); first | done | rfl | (simp only [List.length_drop, List.length_take]; rfl)) ?_; (with_reducible refine (reloc_fits.calls kj7 a0 (wrap64 (IntKind.u64.wrap ((IntKind.u64.wrap (a1 + (IntKind.u64.wrap (a2)))) - a3))) true _ A18.out).mono ?_); rintro e w20 ⟨rfl, hb⟩; refine ⟨_, rfl, ?_⟩; have n0_ := Aside0.mk (below_step (by repeat (first | (with_reducible first | exact HB.out | apply below_alloc | apply pw_below_drewN | apply below_drew1) | exact HB.out)) hb); clear HB; have HB := n0_; clear n0_; (try clear hb); (try clear hb2); (try clear hk); (try clear hi)))
              go_ret2
              exact ⟨by first | rfl | (simp [errW_none, errW_some] <;> rfl) | (simp [*, errW_none, errW_some] <;> rfl), by repeat (first | (with_reducible first | exact HB.out | apply below_alloc | apply pw_below_drewN | apply below_drew1) | exact HB.out)⟩
            · replace c19 := Bool.eq_false_iff.mpr c19
              subst c19
              have H1 : (some (0, 61)) = some (r1, r2) := by rw [if_neg (show ¬ (false = true) by decide)] at H; exact H
              clear H
              have H := H1
              clear H1
              simp only [Option.some.injEq, Prod.mk.injEq] at H
              obtain ⟨rfl, rfl⟩ := H
              go_wp2_with (first | ((with_reducible refine gate_callee (f := 22) rfl ?_); refine goesL_ (some 33) rfl rfl Try.func22 (by kernel_rfl) rfl #[.int .u32 a0, .int .i64 (wrap64 (IntKind.u64.wrap ((IntKind.u64.wrap (a1 + (IntKind.u64.wrap (a2)))) - a3)))] rfl (by (try simp only [List.map_toArray, List.map_cons, List.map_nil]); first | done | rfl | (simp only [List.length_drop, List.length_take]; rfl)) ?_; (with_reducible refine (reloc_fits.calls kj7 a0 (wrap64 (IntKind.u64.wrap ((IntKind.u64.wrap (a1 + (IntKind.u64.wrap (a2)))) - a3))) false _ A18.out).mono ?_); rintro e w21 ⟨rfl, hb⟩; refine ⟨_, rfl, ?_⟩; have n0_ := Aside0.mk (below_step (by repeat (first | (with_reducible first | exact HB.out | apply below_alloc | apply pw_below_drewN | apply below_drew1) | exact HB.out)) hb); clear HB; have HB := n0_; clear n0_; (try clear hb); (try clear hb2); (try clear hk); (try clear hi)))
              go_ret2
              exact ⟨by first | rfl | (simp [errW_none, errW_some] <;> rfl) | (simp [*, errW_none, errW_some] <;> rfl), by repeat (first | (with_reducible first | exact HB.out | apply below_alloc | apply pw_below_drewN | apply below_drew1) | exact HB.out)⟩
  · replace c6 := Bool.eq_false_iff.mpr c6
    subst c6
    have H1 : (some (0, 60)) = some (r1, r2) := by rw [if_neg (show ¬ (false = true) by decide)] at H; exact H
    clear H
    have H := H1
    clear H1
    simp only [Option.some.injEq, Prod.mk.injEq] at H
    obtain ⟨rfl, rfl⟩ := H
    go_enter Try.func11, Try.ntmps11
    go_wp2_with (first | ((with_reducible refine gate_callee (f := 21) rfl ?_); refine goesL_ (some 12) rfl rfl Try.func21 (by kernel_rfl) rfl #[.int .u32 a0] rfl (by (try simp only [List.map_toArray, List.map_cons, List.map_nil]); first | done | rfl | (simp only [List.length_drop, List.length_take]; rfl)) ?_; (with_reducible refine (rela_Known.calls k a0 false _ A5.out).mono ?_); rintro e w' ⟨rfl, ⟨nd, rfl⟩⟩; refine ⟨_, rfl, ?_⟩))
    go_ret2
    exact ⟨by first | rfl | (simp [errW_none, errW_some] <;> rfl) | (simp [*, errW_none, errW_some] <;> rfl), by repeat (first | (with_reducible first | exact HB.out | apply below_alloc | apply pw_below_drewN | apply below_drew1) | exact HB.out)⟩

/-! ### span_Within: function 25 -/
def span_Within.f (a0 : Int) (a1 : Int) (a2 : Int) : Option (Bool) := if a1 ≤ a2 then (some (decide (a0 ≤ (IntKind.u64.wrap (a2 - a1))))) else (some false)
set_option maxHeartbeats 8000000 in
set_option maxRecDepth 100000 in
theorem span_Within.calls (a0 : Int) (a1 : Int) (a2 : Int) (r : Bool) (w : World) (h : span_Within.f a0 a1 a2 = some r) :
    Calls Try.prog 25 #[.int .u64 a0, .int .u64 a1, .int .u64 a2] w fun e w' => e = .returned (.bool r) ∧ Drawn0 w w' := by
  have H : (if a1 ≤ a2 then (some (decide (a0 ≤ (IntKind.u64.wrap (a2 - a1))))) else (some false)) = some r := h
  clear h
  by_cases c4 : a1 ≤ a2
  · rw [if_pos c4] at H
    have c4b0 : decide (a1 ≤ a2) = true := decide_eq_true c4
    clear c4
    obtain rfl := Option.some.inj H
    go_enter Try.func25, Try.ntmps25
    go_wp2
    go_ret
    exact ⟨by first | rfl | (simp; done) | (simp [*]; done), by repeat (first | exact Drawn0.refl _ | apply Drawn0.step)⟩
  · rw [if_neg c4] at H
    have c4b0 : decide (a1 ≤ a2) = false := decide_eq_false c4
    clear c4
    obtain rfl := Option.some.inj H
    go_enter Try.func25, Try.ntmps25
    go_wp2
    go_ret
    exact ⟨by first | rfl | (simp; done) | (simp [*]; done), by repeat (first | exact Drawn0.refl _ | apply Drawn0.step)⟩

/-! ### rela_Width: function 26 -/
def rela_Width.j0 : Nat → Int → Bool → Option (Int)
  | 0, _, _ => none
  | k + 1, x3, x4 => if x4 = true then (some 8) else (if x3 = 51 then (some 0) else (some 4))
def rela_Width.f (k : Nat) (a0 : Int) : Option (Int) := if a0 = 2 then (rela_Width.j0 k a0 (a0 == 2)) else (if a0 = 18 then (rela_Width.j0 k a0 (a0 == 18)) else (rela_Width.j0 k a0 (a0 == 19)))
theorem rela_Width.mono_l : ∀ k, (∀ y0 y1, LeO (rela_Width.j0 k y0 y1) (rela_Width.j0 (k + 1) y0 y1))
  | 0 => fun _ _ r h => by simp [rela_Width.j0] at h
  | k + 1 => by
    have ih0 := rela_Width.mono_l k
    · intro y0 y1
      unfold rela_Width.j0
      repeat' first
      | (with_reducible exact ih0 _ _)
      | (with_reducible exact LeO.refl _)
      | (with_reducible exact LeO.none _)
      | (with_reducible refine LeO.ite ?_ ?_)
      | (with_reducible refine LeO.bind ?_ (fun _ => ?_))
      | exact ih0 _ _
      | exact LeO.none _
      | refine LeO.ite ?_ ?_
      | refine LeO.bind ?_ (fun _ => ?_)
theorem rela_Width.mono : ∀ a0 k, LeO (rela_Width.f k a0) (rela_Width.f (k + 1) a0) := by
  intro a0 k
  have ih0 := rela_Width.mono_l k
  unfold rela_Width.f
  repeat' first
      | (with_reducible exact ih0 _ _)
      | (with_reducible exact LeO.refl _)
      | (with_reducible exact LeO.none _)
      | (with_reducible refine LeO.ite ?_ ?_)
      | (with_reducible refine LeO.bind ?_ (fun _ => ?_))
      | exact ih0 _ _
      | exact LeO.none _
      | refine LeO.ite ?_ ?_
      | refine LeO.bind ?_ (fun _ => ?_)
set_option maxHeartbeats 8000000 in
set_option maxRecDepth 100000 in
theorem rela_Width.calls (k : Nat) (a0 : Int) (r : Int) (w : World) (h : rela_Width.f k a0 = some r) :
    Calls Try.prog 26 #[.int .u32 a0] w fun e w' => e = .returned (.int .i64 r) ∧ Drawn0 w w' := by
  have H : (if a0 = 2 then (rela_Width.j0 k a0 (a0 == 2)) else (if a0 = 18 then (rela_Width.j0 k a0 (a0 == 18)) else (rela_Width.j0 k a0 (a0 == 19)))) = some r := h
  clear h
  have HC2 := Aside0.mk H
  clear H
  go_enter Try.func26, Try.ntmps26
  go_upto_if 4 with (fail)
  go_cut [4] (fun v4 wc => ∃ (kq : Nat) (x4_1 : Bool), v4 = .bool x4_1 ∧ Aside0 (rela_Width.j0 kq a0 x4_1 = some r) ∧ Aside0 (kq ≤ k) ∧ Drawn0 w wc)
  case first =>
    have H := HC2.out
    clear HC2
    by_cases c3 : a0 = 2
    · rw [if_pos c3] at H
      have c3b0 : (a0 == 2) = true := beq_iff_eq.mpr c3
      have c3b1 : (a0 != 2) = false := bne_eq_false_iff_eq.mpr c3
      clear c3
      (first | rw [c3b0] | (simp only [i64_w, i32_w]; rw [c3b0]) | skip)
      have H' := Aside0.mk H
      clear H
      go_wp2
      go_meet
      case rel => exact ⟨_, ((a0 == 2)), (by first | rfl | (simp; done) | (simp [*]; done)), H', ⟨by first | omega | exact Nat.le_refl _⟩, by repeat (first | exact Drawn0.refl _ | apply Drawn0.step)⟩
    · rw [if_neg c3] at H
      have c3b0 : (a0 == 2) = false := beq_eq_false_iff_ne.mpr c3
      have c3b1 : (a0 != 2) = true := bne_iff_ne.mpr c3
      (first | rw [c3b0] | (simp only [i64_w, i32_w]; rw [c3b0]) | skip)
      by_cases c4 : a0 = 18
      · rw [if_pos c4] at H
        have c4b0 : (a0 == 18) = true := beq_iff_eq.mpr c4
        have c4b1 : (a0 != 18) = false := bne_eq_false_iff_eq.mpr c4
        clear c4
        have H' := Aside0.mk H
        clear H
        go_wp2
        go_meet
        case rel => exact ⟨_, ((a0 == 18)), (by first | rfl | (simp; done) | (simp [*]; done)), H', ⟨by first | omega | exact Nat.le_refl _⟩, by repeat (first | exact Drawn0.refl _ | apply Drawn0.step)⟩
      · rw [if_neg c4] at H
        have c4b0 : (a0 == 18) = false := beq_eq_false_iff_ne.mpr c4
        have c4b1 : (a0 != 18) = true := bne_iff_ne.mpr c4
        have H' := Aside0.mk H
        clear H
        go_wp2
        go_meet
        case rel => exact ⟨_, ((a0 == 19)), (by first | rfl | (simp; done) | (simp [*]; done)), H', ⟨by first | omega | exact Nat.le_refl _⟩, by repeat (first | exact Drawn0.refl _ | apply Drawn0.step)⟩
  case rest =>
    clear HC2
    try clear c2
    try clear p2
    try clear c3
    try clear c3b0
    try clear c3b1
    try clear c4
    try clear c4b0
    try clear c4b1
    obtain ⟨kq, x4_1, rfl, HA, HJ1, ⟨mc1, rfl⟩⟩ := hcut
    cases kq with
    | zero => exact absurd HA.out (by simp [rela_Width.j0])
    | succ kj1 =>
      have H := HA.out
      clear HA
      simp only [rela_Width.j0] at H
      by_cases c5 : x4_1 = true
      · subst c5
        have H1 : (some 8) = some r := by rw [if_pos rfl] at H; exact H
        clear H
        have H := H1
        clear H1
        obtain rfl := Option.some.inj H
        go_wp2
        go_ret
        exact ⟨by first | rfl | (simp; done) | (simp [*]; done), by repeat (first | exact Drawn0.refl _ | apply Drawn0.step)⟩
      · replace c5 := Bool.eq_false_iff.mpr c5
        subst c5
        have H1 : (if a0 = 51 then (some 0) else (some 4)) = some r := by rw [if_neg (show ¬ (false = true) by decide)] at H; exact H
        clear H
        have H := H1
        clear H1
        by_cases c6 : a0 = 51
        · rw [if_pos c6] at H
          have c6b0 : (a0 == 51) = true := beq_iff_eq.mpr c6
          have c6b1 : (a0 != 51) = false := bne_eq_false_iff_eq.mpr c6
          clear c6
          obtain rfl := Option.some.inj H
          go_wp2
          go_ret
          exact ⟨by first | rfl | (simp; done) | (simp [*]; done), by repeat (first | exact Drawn0.refl _ | apply Drawn0.step)⟩
        · rw [if_neg c6] at H
          have c6b0 : (a0 == 51) = false := beq_eq_false_iff_ne.mpr c6
          have c6b1 : (a0 != 51) = true := bne_iff_ne.mpr c6
          obtain rfl := Option.some.inj H
          go_wp2
          go_ret
          exact ⟨by first | rfl | (simp; done) | (simp [*]; done), by repeat (first | exact Drawn0.refl _ | apply Drawn0.step)⟩

/-! ### le_within: function 46 -/
def le_within.f (a0 : Int) (a1 : Int) (a2 : Int) : Option (Bool) := if a1 ≤ (IntKind.u64.wrap (a2)) then (some (decide (a0 ≤ (IntKind.u64.wrap ((IntKind.u64.wrap (a2)) - a1))))) else (some false)
set_option maxHeartbeats 8000000 in
set_option maxRecDepth 100000 in
theorem le_within.calls (a0 : Int) (a1 : Int) (a2 : Int) (r : Bool) (w : World) (h : le_within.f a0 a1 a2 = some r) :
    Calls Try.prog 46 #[.int .u64 a0, .int .u64 a1, .int .i64 a2] w fun e w' => e = .returned (.bool r) ∧ Drawn0 w w' := by
  have H : (if a1 ≤ (IntKind.u64.wrap (a2)) then (some (decide (a0 ≤ (IntKind.u64.wrap ((IntKind.u64.wrap (a2)) - a1))))) else (some false)) = some r := h
  clear h
  by_cases c4 : a1 ≤ (IntKind.u64.wrap (a2))
  · rw [if_pos c4] at H
    have c4b0 : decide (a1 ≤ (IntKind.u64.wrap (a2))) = true := decide_eq_true c4
    clear c4
    obtain rfl := Option.some.inj H
    go_enter Try.func46, Try.ntmps46
    go_wp2
    go_ret
    exact ⟨by first | rfl | (simp; done) | (simp [*]; done), by repeat (first | exact Drawn0.refl _ | apply Drawn0.step)⟩
  · rw [if_neg c4] at H
    have c4b0 : decide (a1 ≤ (IntKind.u64.wrap (a2))) = false := decide_eq_false c4
    clear c4
    obtain rfl := Option.some.inj H
    go_enter Try.func46, Try.ntmps46
    go_wp2
    go_ret
    exact ⟨by first | rfl | (simp; done) | (simp [*]; done), by repeat (first | exact Drawn0.refl _ | apply Drawn0.step)⟩

-- contract by hand: function 47 (slices_Clone_byte_byte)

/-! ### le_put: function 48 -/
def le_put.l0 : Nat → List Int → Int → Int → Int → Option (List Int)
  | 0, _, _, _, _ => none
  | k + 1, x0, x1, x8, x9 => if x9 < x8 then (if 0 ≤ (IntKind.u64.wrap (wrap64 (8 * x9))) then (if x0.length < 140737488355328 then (le_put.l0 k (x0 ++ [(shr .u64 x1 (IntKind.u64.wrap (wrap64 (8 * x9)))) % 256]) x1 x8 (wrap64 (x9 + 1))) else (none)) else (none)) else (some x0)
def le_put.f (k : Nat) (l0 : List Int) (a1 : Int) (a2 : Int) : Option (List Int) := le_put.l0 k l0 a1 a2 0
theorem le_put.mono_l : ∀ k, (∀ y0 y1 y2 y3, LeO (le_put.l0 k y0 y1 y2 y3) (le_put.l0 (k + 1) y0 y1 y2 y3))
  | 0 => fun _ _ _ _ r h => by simp [le_put.l0] at h
  | k + 1 => by
    have ih0 := le_put.mono_l k
    · intro y0 y1 y2 y3
      unfold le_put.l0
      repeat' first
      | (with_reducible exact ih0 _ _ _ _)
      | (with_reducible exact LeO.refl _)
      | (with_reducible exact LeO.none _)
      | (with_reducible refine LeO.ite ?_ ?_)
      | (with_reducible refine LeO.bind ?_ (fun _ => ?_))
      | exact ih0 _ _ _ _
      | exact LeO.none _
      | refine LeO.ite ?_ ?_
      | refine LeO.bind ?_ (fun _ => ?_)
theorem le_put.mono : ∀ a0 a1 a2 k, LeO (le_put.f k a0 a1 a2) (le_put.f (k + 1) a0 a1 a2) := by
  intro a0 a1 a2 k
  have ih0 := le_put.mono_l k
  unfold le_put.f
  repeat' first
      | (with_reducible exact ih0 _ _ _ _)
      | (with_reducible exact LeO.refl _)
      | (with_reducible exact LeO.none _)
      | (with_reducible refine LeO.ite ?_ ?_)
      | (with_reducible refine LeO.bind ?_ (fun _ => ?_))
      | exact ih0 _ _ _ _
      | exact LeO.none _
      | refine LeO.ite ?_ ?_
      | refine LeO.bind ?_ (fun _ => ?_)
set_option maxHeartbeats 8000000 in
set_option maxRecDepth 100000 in
theorem le_put.calls (k : Nat) (P0_ : Nat → Prop) (u9000_ : Value) (l0 : List Int) (a1 : Int) (a2 : Int) (r : List Int) (w0 w : World) (hB : Below w0.heap.size w0 w) (ho0 : Kd.R (Kd.int .u8) 5 w w0.heap.size P0_ u9000_ l0) (h : le_put.f k l0 a1 a2 = some r) :
    Calls Try.prog 48 #[u9000_, .int .u64 a1, .int .i64 a2] w fun e w' => ∃ v0_ : Value, e = .returned (v0_) ∧ Kd.R (Kd.int .u8) 5 w' w0.heap.size (fun k_ => (P0_ k_ ∨ w.heap.size ≤ k_)) v0_ r ∧ Below w0.heap.size w0 w' ∧ Kept w w' (fun k_ => P0_ k_) := by
  have HO0 := Aside0.mk (show Kd.R (Kd.int .u8) 5 w w0.heap.size (fun k_ => (P0_ k_ ∨ w.heap.size ≤ k_)) u9000_ l0 from Kd.R_mono ho0 (fun k_ hk => (.inl hk)))
  have HK := Aside0.mk (Kept.refl w (fun k_ => P0_ k_))
  have HW0 := Aside0.mk hB.size
  have HB := Aside0.mk hB
  clear hB
  have H : (le_put.l0 k l0 a1 a2 0) = some r := h
  clear h
  have H' := Aside0.mk H
  clear H
  go_enter Try.func48, Try.ntmps48
  go_wp2
  go_loopg [0, 9] k (fun kq v0 v9 w' => ∃ (x0_1 : List Int) (x9_1 : Int), v9 = .int .i64 x9_1 ∧ Aside0 (le_put.l0 kq x0_1 a1 a2 x9_1 = some r) ∧ Aside0 (kq ≤ k) ∧ Aside0 (Kd.R (Kd.int .u8) 5 w' w0.heap.size (fun k_ => (P0_ k_ ∨ w.heap.size ≤ k_)) v0 x0_1) ∧ Aside0 (Kept w w' (fun k_ => P0_ k_)) ∧ Aside0 (Below w0.heap.size w0 w'))
  case atStart => exact ⟨(l0), (0), (by first | rfl | (simp; done) | (simp [*]; done)), H', ⟨Nat.le_refl _⟩, ⟨by (with_reducible repeat (first | apply Kd.R_alloc | apply Kd.R_drewN | apply Kd.R_drew)); exact HO0.out⟩, ⟨by repeat (first | (with_reducible first | exact HK.out | apply Kept.alloc | apply Kept.drewN | apply Kept.drew) | exact HK.out)⟩, ⟨by repeat (first | (with_reducible first | exact HB.out | apply below_alloc | apply pw_below_drewN | apply below_drew1) | exact HB.out)⟩⟩
  case round =>
    clear H'
    try clear p2
    obtain ⟨x0_1, x9_1, rfl, HA, HK1, HO_0, HK, HB⟩ := hrel
    cases gk with
    | zero => exact absurd HA.out (by simp [le_put.l0])
    | succ k1 =>
      have H := HA.out
      clear HA
      simp only [le_put.l0] at H
      by_cases c4 : x9_1 < a2
      · rw [if_pos c4] at H
        have c4b0 : decide (x9_1 < a2) = true := decide_eq_true c4
        clear c4
        obtain ⟨ji5, hji5⟩ : ∃ j_ : Int, (IntKind.u64.wrap (wrap64 (8 * x9_1))) = j_ := ⟨_, rfl⟩
        replace H : (if 0 ≤ (ji5) then (if x0_1.length < 140737488355328 then (le_put.l0 k1 (x0_1 ++ [(shr .u64 a1 (ji5)) % 256]) a1 a2 (wrap64 (x9_1 + 1))) else (none)) else (none)) = some r := by first | (rw [hji5] at H; exact H) | (simp only [hji5] at H ⊢; exact H)
        by_cases c6 : 0 ≤ (ji5)
        · rw [if_pos c6] at H
          have c6b0 := eq_true c6
          have c6b1 : decide (0 ≤ (ji5)) = true := decide_eq_true c6
          clear c6
          obtain ⟨ji7, hji7⟩ : ∃ j_ : Int, (shr .u64 a1 (ji5)) = j_ := ⟨_, rfl⟩
          replace H : (if x0_1.length < 140737488355328 then (le_put.l0 k1 (x0_1 ++ [(ji7) % 256]) a1 a2 (wrap64 (x9_1 + 1))) else (none)) = some r := by first | (rw [hji7] at H; exact H) | (simp only [hji7] at H ⊢; exact H)
          have hji7_ : (a1 / 2 ^ min (ji5).toNat 64) = ji7 := hji7
          have hji7z : (ji5) ≤ 64 → (a1 / 2 ^ (ji5).toNat) = ji7 := shr_small hji7
          by_cases c8 : x0_1.length < 140737488355328
          · rw [if_pos c8] at H
            have LMc8 := Aside0.mk c8
            clear c8
            obtain ⟨y129, hy129⟩ : ∃ y_ : List Int, y_ = (x0_1 ++ [(ji7) % 256]) := ⟨_, rfl⟩
            replace H : (le_put.l0 k1 y129 a1 a2 (wrap64 (x9_1 + 1))) = some r := by first | (rw [hy129]; with_reducible exact H) | (have H2_ := (Option.bind_some _ _).symm.trans H; rw [hy129]; with_reducible exact H2_) | (have H2_ := (Option.bind_some _ _).symm.trans H; with_reducible exact H2_) | with_reducible exact H | (rw [hy129]; exact H) | exact H
            have Ny129 := Aside0.mk hy129
            clear hy129
            have H' := Aside0.mk H
            clear H
            go_wp2_with (first | ((with_reducible refine gate_builtin (b := .append) (xs := #[.tmp 12, .tmp 19]) rfl ?_); at_builtin; refine Kd.R_append (Kd.int .u8) (w0 := w0) w0.heap.size rfl (.tmp 12) (.tmp 19) 33 5 (.int .u8 0) 1 rfl Try.underlying33 info5 rfl (by decide) (by omega) u0 x0_1 ((ji7) % 256) [.int .u8 ((ji7) % 256)] (fun k_ => (P0_ k_ ∨ w.heap.size ≤ k_)) (fun _ => False) rfl rfl ?aP (fun _ hk => hk.elim) ?aF ?aO ?aB ?aS ?aL ?_; (case aP => exact rfl); (case aB => exact (by repeat (first | (with_reducible first | exact HB.out | apply below_alloc | apply pw_below_drewN | apply below_drew1) | exact HB.out))); (case aF => exact (fun k_ hk => (.inr (Nat.le_trans (by first | exact HK.out.1 | exact (show Kept w _ (fun k_ => P0_ k_) from by repeat (first | (with_reducible first | exact HK.out | apply Kept.alloc | apply Kept.drewN | apply Kept.drew) | exact HK.out)).1) hk)))); (case aO => exact (by (with_reducible repeat (first | apply Kd.R_alloc | apply Kd.R_drewN | apply Kd.R_drew)); exact HO_0.out)); (case aS => exact (below_size (by repeat (first | (with_reducible first | exact HB.out | apply below_alloc | apply pw_below_drewN | apply below_drew1) | exact HB.out)))); (case aL => have := LMc8.out; omega); intro v130 w9 ho hb hg hat; rw [← Ny129.out] at ho; have n0_ := Aside0.mk (hb); have n1_ := Aside0.mk (Kept.of_grown (S := (fun k_ => P0_ k_)) hg (by repeat (first | (with_reducible first | exact HK.out | apply Kept.alloc | apply Kept.drewN | apply Kept.drew) | exact HK.out)) (fun k_ e_ => (HO_0.out.1 k_ e_))); have n2_ := Aside0.mk (ho); clear HB; clear HK; clear HO_0; have HB := n0_; have HK := n1_; have HO131 := n2_; clear n0_ n1_ n2_; clear ho hb hg hat))
            go_roundg k1
            case measure => have := HK1.out; omega
            case rel => exact ⟨(y129), (wrap64 (x9_1 + 1)), (by first | rfl | (simp; done) | (simp [*]; done)), H', ⟨by have := HK1.out; omega⟩, ⟨by (with_reducible repeat (first | apply Kd.R_alloc | apply Kd.R_drewN | apply Kd.R_drew)); exact HO131.out⟩, ⟨by repeat (first | (with_reducible first | exact HK.out | apply Kept.alloc | apply Kept.drewN | apply Kept.drew) | exact HK.out)⟩, ⟨by repeat (first | (with_reducible first | exact HB.out | apply below_alloc | apply pw_below_drewN | apply below_drew1) | exact HB.out)⟩⟩
          · rw [if_neg c8] at H
            exact absurd H (by simp)
        · rw [if_neg c6] at H
          exact absurd H (by simp)
      · rw [if_neg c4] at H
        have c4b0 : decide (x9_1 < a2) = false := decide_eq_false c4
        clear c4
        obtain rfl := Option.some.inj H
        go_wp2
        go_ret
        exact ⟨_, by first | rfl | (simp [errW_none, errW_some] <;> rfl) | (simp [*, errW_none, errW_some] <;> rfl), by (with_reducible repeat (first | apply Kd.R_alloc | apply Kd.R_drewN | apply Kd.R_drew)); exact HO_0.out, by repeat (first | (with_reducible first | exact HB.out | apply below_alloc | apply pw_below_drewN | apply below_drew1) | exact HB.out), by repeat (first | (with_reducible first | exact HK.out | apply Kept.alloc | apply Kept.drewN | apply Kept.drew) | exact HK.out)⟩

/-! ### le_Set: function 27 (by hand) -/
def le_Set.f (l0 : List Int) (a1 : Int) (a2 : Int) (a3 : Int) : Option (List Int × Bool) :=
  if a3 < 1 then some ([], false) else if 8 < a3 then some ([], false) else
  (le_within.f a1 (IntKind.u64.wrap (a3)) (l0.length : Int)).bind fun t => if t = true then
    ((Go.Proofs.Ytooleipgpkjpjaa.Man.slices_Clone_byte_byte.f l0).bind fun c => (le_put.f 9 [] a2 a3).bind fun p =>
      if 0 ≤ a1 ∧ 0 < p.length ∧ a1.toNat + p.length ≤ c.length ∧ c.length ≤ 140737488355328 then some (splice c a1.toNat p, true) else none)
  else some ([], false)
theorem splice_take {α : Type} (L : List α) (o n : Nat) (cs : List α) (h : o + cs.length ≤ n) (hL : o ≤ L.length) : (splice L o cs).take n = splice (L.take n) o cs := by
  unfold splice
  have e : (List.take o L).length = o := by simp; omega
  rw [List.take_append, List.take_append, e, List.take_of_length_le (l := cs) (by omega), List.take_take, List.take_take, Nat.min_comm n o, List.drop_take]
  congr 3; omega
theorem splice_map {α β : Type} (f : α → β) (c p : List α) (o : Nat) : splice (c.map f) o (p.map f) = (splice c o p).map f := by simp [splice, List.map_take, List.map_drop]
set_option maxHeartbeats 2000000 in
set_option maxRecDepth 100000 in
theorem le_Set.calls (A0 : Option Addr) (c0 : Nat) (l0 : List Int) (a1 : Int) (a2 : Int) (a3 : Int) (r1 : List Int) (r2 : Bool) (w : World) (hr0 : Kd.C (Kd.int .u8) w A0 l0.length l0) (hc0 : l0.length ≤ c0) (h : le_Set.f l0 a1 a2 a3 = some (r1, r2)) :
    Calls Try.prog 27 #[.slice A0 l0.length c0, .int .u64 a1, .int .u64 a2, .int .i64 a3] w fun e w' => ∃ v0_ : Value, e = .returned (.tuple #[v0_, .bool r2]) ∧ Kd.R (Kd.int .u8) 5 w' w.heap.size (fun _ => True) v0_ r1 ∧ Below w.heap.size w w' := by
  unfold le_Set.f at h
  by_cases c1 : a3 < 1
  · rw [if_pos c1] at h
    have d1 : decide (a3 < 1) = true := decide_eq_true c1
    clear c1
    obtain ⟨rfl, rfl⟩ := Prod.mk.inj (Option.some.inj h)
    clear h hr0
    go_enter Try.func27, Try.ntmps27
    go_wp2
    go_ret2
    exact ⟨_, rfl, Kd.R_nil _ _ _ _ _, by repeat (first | exact Below.refl _ _ | apply below_alloc | apply pw_below_drewN | apply below_drew1)⟩
  rw [if_neg c1] at h
  have d1 : decide (a3 < 1) = false := decide_eq_false c1
  by_cases c2 : 8 < a3
  · rw [if_pos c2] at h
    have d2 : decide (a3 > 8) = true := decide_eq_true c2
    clear c1 c2
    obtain ⟨rfl, rfl⟩ := Prod.mk.inj (Option.some.inj h)
    clear h hr0
    go_enter Try.func27, Try.ntmps27
    go_wp2
    go_ret2
    exact ⟨_, rfl, Kd.R_nil _ _ _ _ _, by repeat (first | exact Below.refl _ _ | apply below_alloc | apply pw_below_drewN | apply below_drew1)⟩
  rw [if_neg c2] at h
  have d2 : decide (a3 > 8) = false := decide_eq_false c2
  clear c1 c2
  obtain ⟨t, ht, h⟩ := Option.bind_eq_some_iff.1 h
  cases t with
  | false =>
    rw [if_neg (by simp)] at h
    obtain ⟨rfl, rfl⟩ := Prod.mk.inj (Option.some.inj h)
    clear h hr0
    have HT := Aside0.mk ht
    clear ht
    go_enter Try.func27, Try.ntmps27
    go_wp2_with fail
    refine (le_within.calls _ _ _ _ _ HT.out).mono ?_
    rintro e w1 ⟨rfl, hb⟩
    have B1 := Aside0.mk hb.below
    clear hb
    go_wp2_with fail
    go_ret2
    exact ⟨_, rfl, Kd.R_nil _ _ _ _ _, B1.out⟩
  | true =>
    rw [if_pos rfl] at h
    obtain ⟨c, hc, h⟩ := Option.bind_eq_some_iff.1 h
    obtain ⟨p, hp, h⟩ := Option.bind_eq_some_iff.1 h
    by_cases hg : 0 ≤ a1 ∧ 0 < p.length ∧ a1.toNat + p.length ≤ c.length ∧ c.length ≤ 140737488355328
    case neg => rw [if_neg hg] at h; exact absurd h (by simp)
    rw [if_pos hg] at h
    obtain ⟨rfl, rfl⟩ := Prod.mk.inj (Option.some.inj h)
    clear h
    have hcl : c = l0 := by
      unfold Go.Proofs.Ytooleipgpkjpjaa.Man.slices_Clone_byte_byte.f at hc
      split at hc
      · exact (Option.some.inj hc).symm
      · cases hc
    subst hcl
    have HT := Aside0.mk ht
    have HC := Aside0.mk hc
    have HP := Aside0.mk hp
    have HG := Aside0.mk hg
    have HR := Aside0.mk hr0
    clear ht hc hp hg hr0
    go_enter Try.func27, Try.ntmps27
    go_wp2_with fail
    refine (le_within.calls _ _ _ _ _ HT.out).mono ?_
    rintro e w1 ⟨rfl, hb⟩
    have HR1 := Aside0.mk (Kd.C_below HR.out hb.below)
    have B1 := Aside0.mk hb.below
    clear hb
    go_wp2_with fail
    refine (Go.Proofs.Ytooleipgpkjpjaa.Man.slices_Clone_byte_byte.calls _ _ _ _ _ HR1.out hc0 HC.out).mono ?_
    rintro e w2 ⟨v0, rfl, hr, hb⟩
    have hs1 := B1.out.size
    have B2 := Aside0.mk (below_step B1.out hb)
    clear hb
    have ho := Kd.own_of_R hr
    clear hr
    obtain ⟨hl, (⟨_, hn⟩ | ⟨g, cap, ⟨cur⟩, rfl, hg1, hg2, hg3, hg4', hg5, hg6⟩)⟩ := ho
    · have := HG.out; omega
    obtain ⟨G1, G2, G3, G4⟩ := HG.out
    have hgs : g < w2.heap.size := (Array.getElem?_eq_some_iff.1 hg2).1
    have hcs : (cap = a1.toNat) = False := eq_false (by omega)
    have hcl' : (a1 ≤ (c.length : Int)) = True := eq_true (by omega)
    have hsz : cap ≤ cur.length := by simp at hg5; omega
    have HH := Aside0.mk hg2
    have HK := Aside0.mk hg6
    clear hg2 hg6 hl
    go_wp2_with fail
    have hB : w.heap.size ≤ g := by omega
    have hN : (nums .u8 p).length = Nat.min p.length (c.length - a1.toNat) := by simp only [nums, List.length_map]; exact (Nat.min_eq_left (by omega)).symm
    have hF : a1.toNat + (nums .u8 p).length ≤ cur.length := by simp [nums]; omega
    have h1 : ∀ u ∈ nums .u8 p, u.oneCell' = true := fun u hu => by obtain ⟨x, _, rfl⟩ := List.mem_map.1 hu; rfl
    go_region_law (first
      | (go_simp
         refine (le_put.calls 9 (fun _ => False) _ [] a2 a3 p w2.drew w2.drew (Below.refl _ _) (Kd.R_nil _ _ _ _ _) HP.out).mono ?_
         rintro _ w3 ⟨v3, rfl, hv3, hb3, hk3⟩
         have h3b : Below w2.heap.size w2 w3 := (below_drew (Below.refl _ _)).trans hb3
         have h3d := below_step B2.out h3b
         have h3g : w3.heap[g]? = some (.cells cur.toArray 5 (0, 0)) := (h3b.block g hgs).trans HH.out
         obtain ⟨_, (⟨_, hn3⟩ | ⟨g3, cap3, cur3, rfl, hg31, hg32, hg33, hg34, hg35, hg36⟩)⟩ := Kd.own_of_R hv3
         · exfalso; omega
         have h3c := Go.Proofs.Ytooleipgpkjpjaa.Man.cells_of_C (Kd.R_reads' hv3).2.2
         clear hv3 hg31 hg32 hg33 hg34 hg35 hg36 hb3 hk3)
      | (refine step_copy_splice rfl (.tmp 29) (.tmp 32) 33 33 rfl 5 Try.underlying33 (by kernel_rfl) _ _ _ _ _ _ rfl rfl g a1.toNat cur 5 h3g (nums .u8 p) hN (fun _ => ⟨rfl, _, rfl, h3c⟩) hF h1 w.heap.size w h3d hB ?_
         intro w4 hg4 hb4))
    go_wp2_with fail
    go_ret2
    refine ⟨_, rfl, Kd.R_of_own ?_ (fun _ _ => trivial), hb4⟩
    have hl : (splice c a1.toNat p).length = c.length := length_splice c _ p (by omega)
    rw [hl]
    refine ⟨by simp [encs, hl], .inr ⟨g, cap, _, rfl, hB, hg4, hg3, hg4', ?_, ?_⟩⟩
    · simp only [List.size_toArray, Nat.mul_one]; rw [length_splice _ _ _ hF]; simpa using hg5
    · rw [Nat.mul_one, List.toList_toArray, splice_take _ _ _ _ (by simp [nums]; omega) (by omega)]
      have e : List.take c.length cur = encs (Value.int .u8) c := by have h_ := HK.out; simpa using h_
      rw [e]
      exact splice_map _ _ _ _


end Go.Proofs.Ytooleipgpkjpjaa.QRelocEdges
