/- The contract of slices.Clone over bytes: the same bytes in memory of the call's own. No condition. -/
import Derived.Test.YtodgpncfjogdbaaProg
import Derived.WalkKit
import Derived.KernelRfl
import Derived.OwnWalk
import Derived.Lib.SliceRun
import Derived.Lib.Walk
import Derived.Test.YtodgpncfjogdbaaWMore
namespace Go.Proofs.Ytodgpncfjogdbaa.Man
open Go.RowKit Go.Proofs.YtodgpncfjogdbaaW.PrintWords Go.Proofs.YtodgpncfjogdbaaW.PrintLast Go.Proofs.YtodgpncfjogdbaaW.PrintMore
set_option linter.unusedVariables false
set_option linter.unusedSimpArgs false

/-! ### slices_Clone_byte_byte: function 16 -/
def slices_Clone_byte_byte.f (l0 : List Int) : Option (List Int) := if l0.length ≤ 140737488355328 then some l0 else none
theorem cells_of_C {w : World} {a : Addr} {n : Nat} {l : List Int} (h : Kd.C (Kd.int .u8) w (some a) n l) (j : Nat) (u : Value) (hj : (nums .u8 l)[j]? = some u) : w.cell? (a.add j) = some u := by
  have hj' : j < l.length := by
    have := (List.getElem?_eq_some_iff.1 hj).1
    simpa [nums] using this
  have hn : n = l.length := h.1.symm
  subst hn
  obtain ⟨ad, e, hc⟩ := Kd.at_int h (j : Int) (by omega) (by omega)
  cases e
  rw [Int.toNat_natCast] at hc
  rw [hc]
  have e2 : (nums .u8 l)[j]? = some (.int .u8 (rd l j)) := by simp [nums, rd, List.getD, hj']
  rw [e2] at hj
  exact hj
theorem clone_info : (Try.prog.info? 5).map (fun i => (i.zero, i.size, i.bytes)) = some (some (.int .u8 0), 1, 1) := by kernel_rfl
set_option maxHeartbeats 2000000 in
set_option maxRecDepth 100000 in
theorem slices_Clone_byte_byte.calls (A0 : Option Addr) (c0 : Nat) (l0 : List Int) (r : List Int) (w : World) (hr0 : Kd.C (Kd.int .u8) w A0 l0.length l0) (hc0 : l0.length ≤ c0) (h : slices_Clone_byte_byte.f l0 = some r) :
    Calls Try.prog 16 #[.slice A0 l0.length c0] w fun e w' => ∃ v0_ : Value, e = .returned (v0_) ∧ Kd.R (Kd.int .u8) 5 w' w.heap.size (fun _ => True) v0_ r ∧ Below w.heap.size w w' := by
  unfold slices_Clone_byte_byte.f at h
  by_cases hb : l0.length ≤ 140737488355328
  · rw [if_pos hb] at h
    obtain rfl := Option.some.inj h
    clear h
    obtain ⟨i0, hi, hz0, hz1, hz2⟩ := info_parts clone_info
    have q22 : ∀ (w : World) (a : Option Addr) (n c n' c' : Nat), (binOp .eql 22 (.slice a n c) (.slice none n' c')).run Try.prog w = .ok (.bool a.isNone) w := fun w a n c n' c' => Lib.run_eql_slice_nil w _ _ a n c n' c' Try.underlying22
    have u22 : ∀ w, Sem.run Try.prog (underlying 22) w = .ok (TypeDesc.slice 5) w := run_underlying Try.underlying22
    have z5 : ∀ w, Sem.run Try.prog (Go.sizeOf 5) w = .ok 1 w := fun w => by simp [Go.sizeOf, typeInfo, hi, hz1]
    cases A0 with
    | none =>
      have hl : l0 = [] := by
        have hn : l0.length = 0 := by
          rcases Nat.eq_zero_or_pos l0.length with h | h
          · exact h
          · obtain ⟨ad, e, _⟩ := Kd.at_int hr0 0 (by omega) (by omega); cases e
        exact List.length_eq_zero_iff.1 hn
      subst hl
      clear hr0
      go_enter Try.func16, Try.ntmps16
      go_wp2
      go_ret
      exact ⟨_, rfl, Kd.R_nil _ _ _ _ _, Below.refl _ _⟩
    | some a =>
      have hmax : l0.length ≤ 9223372036854775807 := hr0.2.1
      have HA : Aside0 (∀ j u, (nums .u8 l0)[j]? = some u → w.cell? (a.add j) = some u) := ⟨cells_of_C hr0⟩
      clear hr0
      go_enter Try.func16, Try.ntmps16
      go_wp2_with (at_builtin; refine wpList_append_own _ rfl _ _ 22 rfl w.heap.size 5 i0 (.int .u8 0) 1 1 Try.underlying22 hi hz0 hz1 hz2 rfl (by decide) _ _ _ rfl (World.ownsRow_made w #[] 0 (Nat.le_refl _) (Nat.zero_le _) rfl) a l0.length c0 (nums .u8 l0) rfl ?qc1 ?qc2 ?qc3 ?qc4 ?qc5 ?qc6 ?_)
      case qc1 => simp [nums]
      case qc2 => intro j u hj; exact Lib.cell?_alloc_some _ (HA.out j u hj)
      case qc3 => intro u hu; obtain ⟨x, _, rfl⟩ := List.mem_map.1 hu; rfl
      case qc4 => unfold maxLen; omega
      case qc5 => omega
      case qc6 => simp
      intro v' w1 hown hgrow hnil
      go_wp2
      go_ret
      refine ⟨v', rfl, Kd.R_of_own (by simpa [nums, encs] using hown) (fun _ _ => trivial), ?_⟩
      exact ((Below.refl _ w).alloc (Nat.le_refl _) _).grown hgrow (by simp) (by intro k hk; simp [Value.ownBlock] at hk; omega)
  · rw [if_neg hb] at h; exact absurd h (by simp)

end Go.Proofs.Ytodgpncfjogdbaa.Man
