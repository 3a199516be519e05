/- Contracts of what a law reaches, each function as a plain Lean function: written by a program of this claim's repo (myprint.py); conditions: those of each theorem. -/
import Derived.Test.YtlpphlfbdicaaaaQInstNamesx0
namespace Go.Proofs.Ytlpphlfbdicaaaa.QInstNames
open Go.RowKit Go.Proofs.YtlpphlfbdicaaaaW.PrintWords Go.Proofs.YtlpphlfbdicaaaaW.PrintLast Go.Proofs.YtlpphlfbdicaaaaW.PrintMore
attribute [local go_sem] max2_int min2_int max_two min_two max_three min_three max_four min_four   -- for this text's walks alone
set_option linter.unusedVariables false
set_option linter.unusedSimpArgs false

/-! ### inst_keyed: function 16 -/
mutual
def inst_keyed.j0 : Nat → Int → Bool → Int → Int → Int → Option (Int × Int × Int)
  | 0, _, _, _, _, _ => none
  | k + 1, x4, x21, x106000, x106001, x106002 => if x21 = true then (some (x106000, x106001, x4)) else (if x106000 = 27 then (if x106001 = 1 then (inst_keyed.j1 k x4 true x106000 x106001 x106002) else (inst_keyed.j1 k x4 (x106001 == 5) x106000 x106001 x106002)) else (inst_keyed.j1 k x4 false x106000 x106001 x106002))
def inst_keyed.j1 : Nat → Int → Bool → Int → Int → Int → Option (Int × Int × Int)
  | 0, _, _, _, _, _ => none
  | k + 1, x4, x32, x106000, x106001, x106002 => if x32 = true then (some (x106000, x106001, x4)) else (if x106000 = 19 then (if x106001 = 1 then (some (x106000, x106001, Go.bits .andNot .u32 x4 1)) else (if x106001 = 5 then (some (x106000, x106001, Go.bits .andNot .u32 x4 1)) else (some (x106000, x106001, x106002)))) else (some (x106000, x106001, x106002)))
end
def inst_keyed.f (k : Nat) (a0 : Int) : Option (Int × Int × Int) := if (Go.bits .and .u32 a0 127) = 55 then (some (Go.bits .and .u32 a0 127, 0, 0)) else (if (Go.bits .and .u32 a0 127) = 23 then (some (Go.bits .and .u32 a0 127, 0, 0)) else (if (Go.bits .and .u32 a0 127) = 111 then (some (Go.bits .and .u32 a0 127, 0, 0)) else (if (Go.bits .and .u32 a0 127) = 51 then (inst_keyed.j0 k (a0 / 33554432) true (Go.bits .and .u32 a0 127) (Go.bits .and .u32 (a0 / 4096) 7) 0) else (inst_keyed.j0 k (a0 / 33554432) ((Go.bits .and .u32 a0 127) == 59) (Go.bits .and .u32 a0 127) (Go.bits .and .u32 (a0 / 4096) 7) 0))))
theorem inst_keyed.mono_l : ∀ k, (∀ y0 y1 y2 y3 y4, LeO (inst_keyed.j0 k y0 y1 y2 y3 y4) (inst_keyed.j0 (k + 1) y0 y1 y2 y3 y4)) ∧ (∀ y0 y1 y2 y3 y4, LeO (inst_keyed.j1 k y0 y1 y2 y3 y4) (inst_keyed.j1 (k + 1) y0 y1 y2 y3 y4))
  | 0 => ⟨fun _ _ _ _ _ r h => by simp [inst_keyed.j0] at h, fun _ _ _ _ _ r h => by simp [inst_keyed.j1] at h⟩
  | k + 1 => by
    obtain ⟨ih0, ih1⟩ := inst_keyed.mono_l k
    refine ⟨?_, ?_⟩
    · intro y0 y1 y2 y3 y4
      unfold inst_keyed.j0
      repeat' first
      | (with_reducible exact ih0 _ _ _ _ _)
      | (with_reducible exact ih1 _ _ _ _ _)
      | (with_reducible exact LeO.refl _)
      | (with_reducible exact LeO.none _)
      | (with_reducible refine LeO.ite ?_ ?_)
      | (with_reducible refine LeO.bind ?_ (fun _ => ?_))
      | exact ih0 _ _ _ _ _
      | exact ih1 _ _ _ _ _
      | exact LeO.none _
      | refine LeO.ite ?_ ?_
      | refine LeO.bind ?_ (fun _ => ?_)
    · intro y0 y1 y2 y3 y4
      unfold inst_keyed.j1
      repeat' first
      | (with_reducible exact ih0 _ _ _ _ _)
      | (with_reducible exact ih1 _ _ _ _ _)
      | (with_reducible exact LeO.refl _)
      | (with_reducible exact LeO.none _)
      | (with_reducible refine LeO.ite ?_ ?_)
      | (with_reducible refine LeO.bind ?_ (fun _ => ?_))
      | exact ih0 _ _ _ _ _
      | exact ih1 _ _ _ _ _
      | exact LeO.none _
      | refine LeO.ite ?_ ?_
      | refine LeO.bind ?_ (fun _ => ?_)
theorem inst_keyed.mono : ∀ a0 k, LeO (inst_keyed.f k a0) (inst_keyed.f (k + 1) a0) := by
  intro a0 k
  obtain ⟨ih0, ih1⟩ := inst_keyed.mono_l k
  unfold inst_keyed.f
  repeat' first
      | (with_reducible exact ih0 _ _ _ _ _)
      | (with_reducible exact ih1 _ _ _ _ _)
      | (with_reducible exact LeO.refl _)
      | (with_reducible exact LeO.none _)
      | (with_reducible refine LeO.ite ?_ ?_)
      | (with_reducible refine LeO.bind ?_ (fun _ => ?_))
      | exact ih0 _ _ _ _ _
      | exact ih1 _ _ _ _ _
      | exact LeO.none _
      | refine LeO.ite ?_ ?_
      | refine LeO.bind ?_ (fun _ => ?_)
set_option maxHeartbeats 8000000 in
set_option maxRecDepth 100000 in
theorem inst_keyed.calls (k : Nat) (a0 : Int) (r1 : Int) (r2 : Int) (r3 : Int) (w : World) (h : inst_keyed.f k a0 = some (r1, r2, r3)) :
    Calls Try.prog 16 #[.int .u32 a0] w fun e w' => e = .returned (.agg #[.int .u32 r1, .int .u32 r2, .int .u32 r3]) ∧ Below w.heap.size w w' := by
  have hu44 := Try.underlying44
  have HB := Aside0.mk (Below.refl w.heap.size w)
  have H : (if (Go.bits .and .u32 a0 127) = 55 then (some (Go.bits .and .u32 a0 127, 0, 0)) else (if (Go.bits .and .u32 a0 127) = 23 then (some (Go.bits .and .u32 a0 127, 0, 0)) else (if (Go.bits .and .u32 a0 127) = 111 then (some (Go.bits .and .u32 a0 127, 0, 0)) else (if (Go.bits .and .u32 a0 127) = 51 then (inst_keyed.j0 k (a0 / 33554432) true (Go.bits .and .u32 a0 127) (Go.bits .and .u32 (a0 / 4096) 7) 0) else (inst_keyed.j0 k (a0 / 33554432) ((Go.bits .and .u32 a0 127) == 59) (Go.bits .and .u32 a0 127) (Go.bits .and .u32 (a0 / 4096) 7) 0))))) = some (r1, r2, r3) := h
  clear h
  by_cases c2 : (Go.bits .and .u32 a0 127) = 55
  · rw [if_pos c2] at H
    have c2b0 : ((Go.bits .and .u32 a0 127) == 55) = true := beq_iff_eq.mpr c2
    have c2b1 : ((Go.bits .and .u32 a0 127) != 55) = false := bne_eq_false_iff_eq.mpr c2
    clear c2
    simp only [Option.some.injEq, Prod.mk.injEq] at H
    obtain ⟨rfl, rfl, rfl⟩ := H
    go_enter Try.func16, Try.ntmps16
    go_wp2_with (first | ((with_reducible refine gate_dst (N := 2) rfl ?_); refine box_event ?hg (N := 2) ?hd (cs := #[.int .u32 0, .int .u32 0, .int .u32 0]) (t := 44) ?hr ?_; (case hd => rfl); (case hg => rfl); (case hr => first | (go_simp; done) | (go_simp; rfl)); intro gb104 hg w3 hbox hb; have n0_ := Aside0.mk (below_step (by repeat (first | (with_reducible first | exact HB.out | apply below_alloc | apply pw_below_drewN | apply below_drew1) | exact HB.out)) hb); have n1_ := Aside0.mk (hbox); have n2_ := Aside0.mk ((by rw [hg]; exact (below_size (by repeat (first | (with_reducible first | exact HB.out | apply below_alloc | apply pw_below_drewN | apply below_drew1) | exact HB.out))) : w.heap.size ≤ gb104)); have n3_ := Aside0.mk ((by rw [hg]; exact (below_size (by repeat (first | (with_reducible first | exact HB.out | apply below_alloc | apply pw_below_drewN | apply below_drew1) | exact HB.out))) : w.heap.size ≤ gb104)); clear HB; have HB := n0_; have BK104 := n1_; have GW104 := n2_; have GE104 := n3_; clear n0_ n1_ n2_ n3_; clear hb hbox hg) | ((with_reducible refine gate_dst (N := 3) rfl ?_); refine box_event ?hg (N := 3) ?hd (cs := #[.int .u32 0, .int .u32 0, .int .u32 0]) (t := 44) ?hr ?_; (case hd => rfl); (case hg => rfl); (case hr => first | (go_simp; done) | (go_simp; rfl)); intro gb105 hg w4 hbox hb; have n0_ := Aside0.mk (blk_below (g := gb104) (o := .cells #[.int .u32 0, .int .u32 0, .int .u32 0] 44 (0, 0)) (by (with_reducible repeat (first | refine blk_drewN ?_ _ | refine blk_drew ?_ | refine blk_alloc ?_ _)); exact BK104.out) hb); have n1_ := Aside0.mk (below_step (by repeat (first | (with_reducible first | exact HB.out | apply below_alloc | apply pw_below_drewN | apply below_drew1 | refine below_set ?_ GE104.out) | exact HB.out)) hb); have n2_ := Aside0.mk (hbox); have n3_ := Aside0.mk ((by rw [hg]; exact (below_size (by repeat (first | (with_reducible first | exact HB.out | apply below_alloc | apply pw_below_drewN | apply below_drew1 | refine below_set ?_ GE104.out) | exact HB.out))) : w.heap.size ≤ gb105)); have n4_ := Aside0.mk ((by rw [hg]; exact (below_size (by repeat (first | (with_reducible first | exact HB.out | apply below_alloc | apply pw_below_drewN | apply below_drew1 | refine below_set ?_ GE104.out) | exact HB.out))) : w.heap.size ≤ gb105)); have n5_ := Aside0.mk ((by rw [hg]; exact Nat.ne_of_lt (blk_lt (g := gb104) (o := .cells #[.int .u32 0, .int .u32 0, .int .u32 0] 44 (0, 0)) (by (with_reducible repeat (first | refine blk_drewN ?_ _ | refine blk_drew ?_ | refine blk_alloc ?_ _)); exact BK104.out)) : gb104 ≠ gb105)); have n6_ := Aside0.mk ((by rw [hg]; exact Nat.ne_of_gt (blk_lt (g := gb104) (o := .cells #[.int .u32 0, .int .u32 0, .int .u32 0] 44 (0, 0)) (by (with_reducible repeat (first | refine blk_drewN ?_ _ | refine blk_drew ?_ | refine blk_alloc ?_ _)); exact BK104.out)) : gb105 ≠ gb104)); clear BK104; clear HB; have BK104 := n0_; have HB := n1_; have BK105 := n2_; have GW105 := n3_; have GE105 := n4_; have NB104_105 := n5_; have NB105_104 := n6_; clear n0_ n1_ n2_ n3_ n4_ n5_ n6_; clear hb hbox hg; have hnb5 := NB105_104.out; have hnc5 := NB104_105.out; have hcz6_0 : w4.cell? ⟨gb105, 0, none⟩ = some (.int .u32 0) := (blk_cell BK105.out 0).trans rfl; have hcz6_1 : w4.cell? ⟨gb105, 1, none⟩ = some (.int .u32 0) := (blk_cell BK105.out 1).trans rfl; have hcz6_2 : w4.cell? ⟨gb105, 2, none⟩ = some (.int .u32 0) := (blk_cell BK105.out 2).trans rfl; have hfz6_0 := blk_frozen BK105.out 0; have hfz6_1 := blk_frozen BK105.out 1; have hfz6_2 := blk_frozen BK105.out 2; have hcz7_0 : w4.cell? ⟨gb104, 0, none⟩ = some (.int .u32 0) := (blk_cell BK104.out 0).trans rfl; have hcz7_1 : w4.cell? ⟨gb104, 1, none⟩ = some (.int .u32 0) := (blk_cell BK104.out 1).trans rfl; have hcz7_2 : w4.cell? ⟨gb104, 2, none⟩ = some (.int .u32 0) := (blk_cell BK104.out 2).trans rfl; have hfz7_0 := blk_frozen BK104.out 0; have hfz7_1 := blk_frozen BK104.out 1; have hfz7_2 := blk_frozen BK104.out 2))
    refine bodyPost_ret (results_cell_row rfl _ _ gb104 44 #[.int .u32 (Go.bits .and .u32 a0 127), .int .u32 0, .int .u32 0] (0, 0) _ rfl (by (with_reducible repeat (first | refine blk_drewN ?_ _ | refine blk_drew ?_ | refine blk_alloc ?_ _)); refine blk_put (cs := #[.int .u32 (Go.bits .and .u32 a0 127), .int .u32 0, .int .u32 0]) ?_ 2 _ rfl; (with_reducible repeat (first | refine blk_drewN ?_ _ | refine blk_drew ?_ | refine blk_alloc ?_ _)); refine blk_put (cs := #[.int .u32 (Go.bits .and .u32 a0 127), .int .u32 0, .int .u32 0]) ?_ 1 _ rfl; (with_reducible repeat (first | refine blk_drewN ?_ _ | refine blk_drew ?_ | refine blk_alloc ?_ _)); refine blk_put (cs := #[.int .u32 0, .int .u32 0, .int .u32 0]) ?_ 0 _ rfl; (with_reducible repeat (first | refine blk_drewN ?_ _ | refine blk_drew ?_ | refine blk_alloc ?_ _)); refine blk_far ?_ NB104_105.out _; (with_reducible repeat (first | refine blk_drewN ?_ _ | refine blk_drew ?_ | refine blk_alloc ?_ _)); refine blk_far ?_ NB104_105.out _; (with_reducible repeat (first | refine blk_drewN ?_ _ | refine blk_drew ?_ | refine blk_alloc ?_ _)); refine blk_far ?_ NB104_105.out _; (with_reducible repeat (first | refine blk_drewN ?_ _ | refine blk_drew ?_ | refine blk_alloc ?_ _)); exact BK104.out) Try.underlying44 rfl (by kernel_rfl)) rfl ?_
    exact ⟨by first | rfl | (simp [errW_none, errW_some] <;> rfl) | (simp [*, errW_none, errW_some] <;> rfl), by repeat (first | (with_reducible first | exact HB.out | apply below_alloc | apply pw_below_drewN | apply below_drew1 | refine below_set ?_ GE104.out | refine below_set ?_ GE105.out) | exact HB.out)⟩
  · rw [if_neg c2] at H
    have c2b0 : ((Go.bits .and .u32 a0 127) == 55) = false := beq_eq_false_iff_ne.mpr c2
    have c2b1 : ((Go.bits .and .u32 a0 127) != 55) = true := bne_iff_ne.mpr c2
    by_cases c8 : (Go.bits .and .u32 a0 127) = 23
    · rw [if_pos c8] at H
      have c8b0 : ((Go.bits .and .u32 a0 127) == 23) = true := beq_iff_eq.mpr c8
      have c8b1 : ((Go.bits .and .u32 a0 127) != 23) = false := bne_eq_false_iff_eq.mpr c8
      clear c8
      simp only [Option.some.injEq, Prod.mk.injEq] at H
      obtain ⟨rfl, rfl, rfl⟩ := H
      go_enter Try.func16, Try.ntmps16
      go_wp2_with (first | ((with_reducible refine gate_dst (N := 2) rfl ?_); refine box_event ?hg (N := 2) ?hd (cs := #[.int .u32 0, .int .u32 0, .int .u32 0]) (t := 44) ?hr ?_; (case hd => rfl); (case hg => rfl); (case hr => first | (go_simp; done) | (go_simp; rfl)); intro gb104 hg w9 hbox hb; have n0_ := Aside0.mk (below_step (by repeat (first | (with_reducible first | exact HB.out | apply below_alloc | apply pw_below_drewN | apply below_drew1) | exact HB.out)) hb); have n1_ := Aside0.mk (hbox); have n2_ := Aside0.mk ((by rw [hg]; exact (below_size (by repeat (first | (with_reducible first | exact HB.out | apply below_alloc | apply pw_below_drewN | apply below_drew1) | exact HB.out))) : w.heap.size ≤ gb104)); have n3_ := Aside0.mk ((by rw [hg]; exact (below_size (by repeat (first | (with_reducible first | exact HB.out | apply below_alloc | apply pw_below_drewN | apply below_drew1) | exact HB.out))) : w.heap.size ≤ gb104)); clear HB; have HB := n0_; have BK104 := n1_; have GW104 := n2_; have GE104 := n3_; clear n0_ n1_ n2_ n3_; clear hb hbox hg) | ((with_reducible refine gate_dst (N := 3) rfl ?_); refine box_event ?hg (N := 3) ?hd (cs := #[.int .u32 0, .int .u32 0, .int .u32 0]) (t := 44) ?hr ?_; (case hd => rfl); (case hg => rfl); (case hr => first | (go_simp; done) | (go_simp; rfl)); intro gb105 hg w10 hbox hb; have n0_ := Aside0.mk (blk_below (g := gb104) (o := .cells #[.int .u32 0, .int .u32 0, .int .u32 0] 44 (0, 0)) (by (with_reducible repeat (first | refine blk_drewN ?_ _ | refine blk_drew ?_ | refine blk_alloc ?_ _)); exact BK104.out) hb); have n1_ := Aside0.mk (below_step (by repeat (first | (with_reducible first | exact HB.out | apply below_alloc | apply pw_below_drewN | apply below_drew1 | refine below_set ?_ GE104.out) | exact HB.out)) hb); have n2_ := Aside0.mk (hbox); have n3_ := Aside0.mk ((by rw [hg]; exact (below_size (by repeat (first | (with_reducible first | exact HB.out | apply below_alloc | apply pw_below_drewN | apply below_drew1 | refine below_set ?_ GE104.out) | exact HB.out))) : w.heap.size ≤ gb105)); have n4_ := Aside0.mk ((by rw [hg]; exact (below_size (by repeat (first | (with_reducible first | exact HB.out | apply below_alloc | apply pw_below_drewN | apply below_drew1 | refine below_set ?_ GE104.out) | exact HB.out))) : w.heap.size ≤ gb105)); have n5_ := Aside0.mk ((by rw [hg]; exact Nat.ne_of_lt (blk_lt (g := gb104) (o := .cells #[.int .u32 0, .int .u32 0, .int .u32 0] 44 (0, 0)) (by (with_reducible repeat (first | refine blk_drewN ?_ _ | refine blk_drew ?_ | refine blk_alloc ?_ _)); exact BK104.out)) : gb104 ≠ gb105)); have n6_ := Aside0.mk ((by rw [hg]; exact Nat.ne_of_gt (blk_lt (g := gb104) (o := .cells #[.int .u32 0, .int .u32 0, .int .u32 0] 44 (0, 0)) (by (with_reducible repeat (first | refine blk_drewN ?_ _ | refine blk_drew ?_ | refine blk_alloc ?_ _)); exact BK104.out)) : gb105 ≠ gb104)); clear BK104; clear HB; have BK104 := n0_; have HB := n1_; have BK105 := n2_; have GW105 := n3_; have GE105 := n4_; have NB104_105 := n5_; have NB105_104 := n6_; clear n0_ n1_ n2_ n3_ n4_ n5_ n6_; clear hb hbox hg; have hnb11 := NB105_104.out; have hnc11 := NB104_105.out; have hcz12_0 : w10.cell? ⟨gb105, 0, none⟩ = some (.int .u32 0) := (blk_cell BK105.out 0).trans rfl; have hcz12_1 : w10.cell? ⟨gb105, 1, none⟩ = some (.int .u32 0) := (blk_cell BK105.out 1).trans rfl; have hcz12_2 : w10.cell? ⟨gb105, 2, none⟩ = some (.int .u32 0) := (blk_cell BK105.out 2).trans rfl; have hfz12_0 := blk_frozen BK105.out 0; have hfz12_1 := blk_frozen BK105.out 1; have hfz12_2 := blk_frozen BK105.out 2; have hcz13_0 : w10.cell? ⟨gb104, 0, none⟩ = some (.int .u32 0) := (blk_cell BK104.out 0).trans rfl; have hcz13_1 : w10.cell? ⟨gb104, 1, none⟩ = some (.int .u32 0) := (blk_cell BK104.out 1).trans rfl; have hcz13_2 : w10.cell? ⟨gb104, 2, none⟩ = some (.int .u32 0) := (blk_cell BK104.out 2).trans rfl; have hfz13_0 := blk_frozen BK104.out 0; have hfz13_1 := blk_frozen BK104.out 1; have hfz13_2 := blk_frozen BK104.out 2))
      refine bodyPost_ret (results_cell_row rfl _ _ gb104 44 #[.int .u32 (Go.bits .and .u32 a0 127), .int .u32 0, .int .u32 0] (0, 0) _ rfl (by (with_reducible repeat (first | refine blk_drewN ?_ _ | refine blk_drew ?_ | refine blk_alloc ?_ _)); refine blk_put (cs := #[.int .u32 (Go.bits .and .u32 a0 127), .int .u32 0, .int .u32 0]) ?_ 2 _ rfl; (with_reducible repeat (first | refine blk_drewN ?_ _ | refine blk_drew ?_ | refine blk_alloc ?_ _)); refine blk_put (cs := #[.int .u32 (Go.bits .and .u32 a0 127), .int .u32 0, .int .u32 0]) ?_ 1 _ rfl; (with_reducible repeat (first | refine blk_drewN ?_ _ | refine blk_drew ?_ | refine blk_alloc ?_ _)); refine blk_put (cs := #[.int .u32 0, .int .u32 0, .int .u32 0]) ?_ 0 _ rfl; (with_reducible repeat (first | refine blk_drewN ?_ _ | refine blk_drew ?_ | refine blk_alloc ?_ _)); refine blk_far ?_ NB104_105.out _; (with_reducible repeat (first | refine blk_drewN ?_ _ | refine blk_drew ?_ | refine blk_alloc ?_ _)); refine blk_far ?_ NB104_105.out _; (with_reducible repeat (first | refine blk_drewN ?_ _ | refine blk_drew ?_ | refine blk_alloc ?_ _)); refine blk_far ?_ NB104_105.out _; (with_reducible repeat (first | refine blk_drewN ?_ _ | refine blk_drew ?_ | refine blk_alloc ?_ _)); exact BK104.out) Try.underlying44 rfl (by kernel_rfl)) rfl ?_
      exact ⟨by first | rfl | (simp [errW_none, errW_some] <;> rfl) | (simp [*, errW_none, errW_some] <;> rfl), by repeat (first | (with_reducible first | exact HB.out | apply below_alloc | apply pw_below_drewN | apply below_drew1 | refine below_set ?_ GE104.out | refine below_set ?_ GE105.out) | exact HB.out)⟩
    · rw [if_neg c8] at H
      have c8b0 : ((Go.bits .and .u32 a0 127) == 23) = false := beq_eq_false_iff_ne.mpr c8
      have c8b1 : ((Go.bits .and .u32 a0 127) != 23) = true := bne_iff_ne.mpr c8
      by_cases c14 : (Go.bits .and .u32 a0 127) = 111
      · rw [if_pos c14] at H
        have c14b0 : ((Go.bits .and .u32 a0 127) == 111) = true := beq_iff_eq.mpr c14
        have c14b1 : ((Go.bits .and .u32 a0 127) != 111) = false := bne_eq_false_iff_eq.mpr c14
        clear c14
        simp only [Option.some.injEq, Prod.mk.injEq] at H
        obtain ⟨rfl, rfl, rfl⟩ := H
        go_enter Try.func16, Try.ntmps16
        go_wp2_with (first | ((with_reducible refine gate_dst (N := 2) rfl ?_); refine box_event ?hg (N := 2) ?hd (cs := #[.int .u32 0, .int .u32 0, .int .u32 0]) (t := 44) ?hr ?_; (case hd => rfl); (case hg => rfl); (case hr => first | (go_simp; done) | (go_simp; rfl)); intro gb104 hg w15 hbox hb; have n0_ := Aside0.mk (below_step (by repeat (first | (with_reducible first | exact HB.out | apply below_alloc | apply pw_below_drewN | apply below_drew1) | exact HB.out)) hb); have n1_ := Aside0.mk (hbox); have n2_ := Aside0.mk ((by rw [hg]; exact (below_size (by repeat (first | (with_reducible first | exact HB.out | apply below_alloc | apply pw_below_drewN | apply below_drew1) | exact HB.out))) : w.heap.size ≤ gb104)); have n3_ := Aside0.mk ((by rw [hg]; exact (below_size (by repeat (first | (with_reducible first | exact HB.out | apply below_alloc | apply pw_below_drewN | apply below_drew1) | exact HB.out))) : w.heap.size ≤ gb104)); clear HB; have HB := n0_; have BK104 := n1_; have GW104 := n2_; have GE104 := n3_; clear n0_ n1_ n2_ n3_; clear hb hbox hg) | ((with_reducible refine gate_dst (N := 3) rfl ?_); refine box_event ?hg (N := 3) ?hd (cs := #[.int .u32 0, .int .u32 0, .int .u32 0]) (t := 44) ?hr ?_; (case hd => rfl); (case hg => rfl); (case hr => first | (go_simp; done) | (go_simp; rfl)); intro gb105 hg w16 hbox hb; have n0_ := Aside0.mk (blk_below (g := gb104) (o := .cells #[.int .u32 0, .int .u32 0, .int .u32 0] 44 (0, 0)) (by (with_reducible repeat (first | refine blk_drewN ?_ _ | refine blk_drew ?_ | refine blk_alloc ?_ _)); exact BK104.out) hb); have n1_ := Aside0.mk (below_step (by repeat (first | (with_reducible first | exact HB.out | apply below_alloc | apply pw_below_drewN | apply below_drew1 | refine below_set ?_ GE104.out) | exact HB.out)) hb); have n2_ := Aside0.mk (hbox); have n3_ := Aside0.mk ((by rw [hg]; exact (below_size (by repeat (first | (with_reducible first | exact HB.out | apply below_alloc | apply pw_below_drewN | apply below_drew1 | refine below_set ?_ GE104.out) | exact HB.out))) : w.heap.size ≤ gb105)); have n4_ := Aside0.mk ((by rw [hg]; exact (below_size (by repeat (first | (with_reducible first | exact HB.out | apply below_alloc | apply pw_below_drewN | apply below_drew1 | refine below_set ?_ GE104.out) | exact HB.out))) : w.heap.size ≤ gb105)); have n5_ := Aside0.mk ((by rw [hg]; exact Nat.ne_of_lt (blk_lt (g := gb104) (o := .cells #[.int .u32 0, .int .u32 0, .int .u32 0] 44 (0, 0)) (by (with_reducible repeat (first | refine blk_drewN ?_ _ | refine blk_drew ?_ | refine blk_alloc ?_ _)); exact BK104.out)) : gb104 ≠ gb105)); have n6_ := Aside0.mk ((by rw [hg]; exact Nat.ne_of_gt (blk_lt (g := gb104) (o := .cells #[.int .u32 0, .int .u32 0, .int .u32 0] 44 (0, 0)) (by (with_reducible repeat (first | refine blk_drewN ?_ _ | refine blk_drew ?_ | refine blk_alloc ?_ _)); exact BK104.out)) : gb105 ≠ gb104)); clear BK104; clear HB; have BK104 := n0_; have HB := n1_; have BK105 := n2_; have GW105 := n3_; have GE105 := n4_; have NB104_105 := n5_; have NB105_104 := n6_; clear n0_ n1_ n2_ n3_ n4_ n5_ n6_; clear hb hbox hg; have hnb17 := NB105_104.out; have hnc17 := NB104_105.out; have hcz18_0 : w16.cell? ⟨gb105, 0, none⟩ = some (.int .u32 0) := (blk_cell BK105.out 0).trans rfl; have hcz18_1 : w16.cell? ⟨gb105, 1, none⟩ = some (.int .u32 0) := (blk_cell BK105.out 1).trans rfl; have hcz18_2 : w16.cell? ⟨gb105, 2, none⟩ = some (.int .u32 0) := (blk_cell BK105.out 2).trans rfl; have hfz18_0 := blk_frozen BK105.out 0; have hfz18_1 := blk_frozen BK105.out 1; have hfz18_2 := blk_frozen BK105.out 2; have hcz19_0 : w16.cell? ⟨gb104, 0, none⟩ = some (.int .u32 0) := (blk_cell BK104.out 0).trans rfl; have hcz19_1 : w16.cell? ⟨gb104, 1, none⟩ = some (.int .u32 0) := (blk_cell BK104.out 1).trans rfl; have hcz19_2 : w16.cell? ⟨gb104, 2, none⟩ = some (.int .u32 0) := (blk_cell BK104.out 2).trans rfl; have hfz19_0 := blk_frozen BK104.out 0; have hfz19_1 := blk_frozen BK104.out 1; have hfz19_2 := blk_frozen BK104.out 2))
        refine bodyPost_ret (results_cell_row rfl _ _ gb104 44 #[.int .u32 (Go.bits .and .u32 a0 127), .int .u32 0, .int .u32 0] (0, 0) _ rfl (by (with_reducible repeat (first | refine blk_drewN ?_ _ | refine blk_drew ?_ | refine blk_alloc ?_ _)); refine blk_put (cs := #[.int .u32 (Go.bits .and .u32 a0 127), .int .u32 0, .int .u32 0]) ?_ 2 _ rfl; (with_reducible repeat (first | refine blk_drewN ?_ _ | refine blk_drew ?_ | refine blk_alloc ?_ _)); refine blk_put (cs := #[.int .u32 (Go.bits .and .u32 a0 127), .int .u32 0, .int .u32 0]) ?_ 1 _ rfl; (with_reducible repeat (first | refine blk_drewN ?_ _ | refine blk_drew ?_ | refine blk_alloc ?_ _)); refine blk_put (cs := #[.int .u32 0, .int .u32 0, .int .u32 0]) ?_ 0 _ rfl; (with_reducible repeat (first | refine blk_drewN ?_ _ | refine blk_drew ?_ | refine blk_alloc ?_ _)); refine blk_far ?_ NB104_105.out _; (with_reducible repeat (first | refine blk_drewN ?_ _ | refine blk_drew ?_ | refine blk_alloc ?_ _)); refine blk_far ?_ NB104_105.out _; (with_reducible repeat (first | refine blk_drewN ?_ _ | refine blk_drew ?_ | refine blk_alloc ?_ _)); refine blk_far ?_ NB104_105.out _; (with_reducible repeat (first | refine blk_drewN ?_ _ | refine blk_drew ?_ | refine blk_alloc ?_ _)); exact BK104.out) Try.underlying44 rfl (by kernel_rfl)) rfl ?_
        exact ⟨by first | rfl | (simp [errW_none, errW_some] <;> rfl) | (simp [*, errW_none, errW_some] <;> rfl), by repeat (first | (with_reducible first | exact HB.out | apply below_alloc | apply pw_below_drewN | apply below_drew1 | refine below_set ?_ GE104.out | refine below_set ?_ GE105.out) | exact HB.out)⟩
      · rw [if_neg c14] at H
        have c14b0 : ((Go.bits .and .u32 a0 127) == 111) = false := beq_eq_false_iff_ne.mpr c14
        have c14b1 : ((Go.bits .and .u32 a0 127) != 111) = true := bne_iff_ne.mpr c14
        have HC20 := Aside0.mk H
        clear H
        go_enter Try.func16, Try.ntmps16
        go_upto_region 9 with (first | ((with_reducible refine gate_dst (N := 2) rfl ?_); refine box_event ?hg (N := 2) ?hd (cs := #[.int .u32 0, .int .u32 0, .int .u32 0]) (t := 44) ?hr ?_; (case hd => rfl); (case hg => rfl); (case hr => first | (go_simp; done) | (go_simp; rfl)); intro gb104 hg w21 hbox hb; have n0_ := Aside0.mk (below_step (by repeat (first | (with_reducible first | exact HB.out | apply below_alloc | apply pw_below_drewN | apply below_drew1) | exact HB.out)) hb); have n1_ := Aside0.mk (hbox); have n2_ := Aside0.mk ((by rw [hg]; exact (below_size (by repeat (first | (with_reducible first | exact HB.out | apply below_alloc | apply pw_below_drewN | apply below_drew1) | exact HB.out))) : w.heap.size ≤ gb104)); have n3_ := Aside0.mk ((by rw [hg]; exact (below_size (by repeat (first | (with_reducible first | exact HB.out | apply below_alloc | apply pw_below_drewN | apply below_drew1) | exact HB.out))) : w.heap.size ≤ gb104)); clear HB; have HB := n0_; have BK104 := n1_; have GW104 := n2_; have GE104 := n3_; clear n0_ n1_ n2_ n3_; clear hb hbox hg) | ((with_reducible refine gate_dst (N := 3) rfl ?_); refine box_event ?hg (N := 3) ?hd (cs := #[.int .u32 0, .int .u32 0, .int .u32 0]) (t := 44) ?hr ?_; (case hd => rfl); (case hg => rfl); (case hr => first | (go_simp; done) | (go_simp; rfl)); intro gb105 hg w22 hbox hb; have n0_ := Aside0.mk (blk_below (g := gb104) (o := .cells #[.int .u32 0, .int .u32 0, .int .u32 0] 44 (0, 0)) (by (with_reducible repeat (first | refine blk_drewN ?_ _ | refine blk_drew ?_ | refine blk_alloc ?_ _)); exact BK104.out) hb); have n1_ := Aside0.mk (below_step (by repeat (first | (with_reducible first | exact HB.out | apply below_alloc | apply pw_below_drewN | apply below_drew1 | refine below_set ?_ GE104.out) | exact HB.out)) hb); have n2_ := Aside0.mk (hbox); have n3_ := Aside0.mk ((by rw [hg]; exact (below_size (by repeat (first | (with_reducible first | exact HB.out | apply below_alloc | apply pw_below_drewN | apply below_drew1 | refine below_set ?_ GE104.out) | exact HB.out))) : w.heap.size ≤ gb105)); have n4_ := Aside0.mk ((by rw [hg]; exact (below_size (by repeat (first | (with_reducible first | exact HB.out | apply below_alloc | apply pw_below_drewN | apply below_drew1 | refine below_set ?_ GE104.out) | exact HB.out))) : w.heap.size ≤ gb105)); have n5_ := Aside0.mk ((by rw [hg]; exact Nat.ne_of_lt (blk_lt (g := gb104) (o := .cells #[.int .u32 0, .int .u32 0, .int .u32 0] 44 (0, 0)) (by (with_reducible repeat (first | refine blk_drewN ?_ _ | refine blk_drew ?_ | refine blk_alloc ?_ _)); exact BK104.out)) : gb104 ≠ gb105)); have n6_ := Aside0.mk ((by rw [hg]; exact Nat.ne_of_gt (blk_lt (g := gb104) (o := .cells #[.int .u32 0, .int .u32 0, .int .u32 0] 44 (0, 0)) (by (with_reducible repeat (first | refine blk_drewN ?_ _ | refine blk_drew ?_ | refine blk_alloc ?_ _)); exact BK104.out)) : gb105 ≠ gb104)); clear BK104; clear HB; have BK104 := n0_; have HB := n1_; have BK105 := n2_; have GW105 := n3_; have GE105 := n4_; have NB104_105 := n5_; have NB105_104 := n6_; clear n0_ n1_ n2_ n3_ n4_ n5_ n6_; clear hb hbox hg; have hnb23 := NB105_104.out; have hnc23 := NB104_105.out; have hcz24_0 : w22.cell? ⟨gb105, 0, none⟩ = some (.int .u32 0) := (blk_cell BK105.out 0).trans rfl; have hcz24_1 : w22.cell? ⟨gb105, 1, none⟩ = some (.int .u32 0) := (blk_cell BK105.out 1).trans rfl; have hcz24_2 : w22.cell? ⟨gb105, 2, none⟩ = some (.int .u32 0) := (blk_cell BK105.out 2).trans rfl; have hfz24_0 := blk_frozen BK105.out 0; have hfz24_1 := blk_frozen BK105.out 1; have hfz24_2 := blk_frozen BK105.out 2))
        (try simp only [Act.put, List.setIfInBounds_toArray, List.set_cons_zero, List.set_cons_succ])
        go_cut [21] (fun v21 wc => ∃ (kq : Nat) (x21_19 : Bool), v21 = .bool x21_19 ∧ Aside0 (inst_keyed.j0 kq (a0 / 33554432) x21_19 (Go.bits .and .u32 a0 127) (Go.bits .and .u32 (a0 / 4096) 7) 0 = some (r1, r2, r3)) ∧ Aside0 (kq ≤ k) ∧ Aside0 (wc.heap[gb104]? = some (.cells #[.int .u32 0, .int .u32 0, .int .u32 0] 44 (0, 0))) ∧ Aside0 (wc.heap[gb105]? = some (.cells #[.int .u32 (Go.bits .and .u32 a0 127), .int .u32 (Go.bits .and .u32 (a0 / 4096) 7), .int .u32 0] 44 (0, 0))) ∧ Aside0 (Below w.heap.size w wc))
        case first =>
          have H := HC20.out
          clear HC20
          by_cases c25 : (Go.bits .and .u32 a0 127) = 51
          · rw [if_pos c25] at H
            have c25b0 : ((Go.bits .and .u32 a0 127) == 51) = true := beq_iff_eq.mpr c25
            have c25b1 : ((Go.bits .and .u32 a0 127) != 51) = false := bne_eq_false_iff_eq.mpr c25
            clear c25
            (first | rw [c25b0] | (simp only [i64_w, i32_w]; rw [c25b0]) | skip)
            have H' := Aside0.mk H
            clear H
            have hnb26 := NB105_104.out
            have hnc26 := NB104_105.out
            have hcz27_0 : w22.cell? ⟨gb105, 0, none⟩ = some (.int .u32 0) := (blk_cell BK105.out 0).trans rfl
            have hcz27_1 : w22.cell? ⟨gb105, 1, none⟩ = some (.int .u32 0) := (blk_cell BK105.out 1).trans rfl
            have hcz27_2 : w22.cell? ⟨gb105, 2, none⟩ = some (.int .u32 0) := (blk_cell BK105.out 2).trans rfl
            have hfz27_0 := blk_frozen BK105.out 0
            have hfz27_1 := blk_frozen BK105.out 1
            have hfz27_2 := blk_frozen BK105.out 2
            go_wp2
            go_meet
            case rel => exact ⟨_, (true), (by first | rfl | (simp; done) | (simp [*]; done)), H', ⟨by first | omega | exact Nat.le_refl _⟩, ⟨by (with_reducible repeat (first | refine blk_drewN ?_ _ | refine blk_drew ?_ | refine blk_alloc ?_ _)); refine blk_far ?_ NB104_105.out _; (with_reducible repeat (first | refine blk_drewN ?_ _ | refine blk_drew ?_ | refine blk_alloc ?_ _)); refine blk_far ?_ NB104_105.out _; (with_reducible repeat (first | refine blk_drewN ?_ _ | refine blk_drew ?_ | refine blk_alloc ?_ _)); refine blk_far ?_ NB104_105.out _; (with_reducible repeat (first | refine blk_drewN ?_ _ | refine blk_drew ?_ | refine blk_alloc ?_ _)); refine blk_far ?_ NB104_105.out _; (with_reducible repeat (first | refine blk_drewN ?_ _ | refine blk_drew ?_ | refine blk_alloc ?_ _)); exact BK104.out⟩, ⟨by (with_reducible repeat (first | refine blk_drewN ?_ _ | refine blk_drew ?_ | refine blk_alloc ?_ _)); refine blk_put (cs := #[.int .u32 (Go.bits .and .u32 a0 127), .int .u32 0, .int .u32 0]) ?_ 1 _ rfl; (with_reducible repeat (first | refine blk_drewN ?_ _ | refine blk_drew ?_ | refine blk_alloc ?_ _)); refine blk_put (cs := #[.int .u32 (Go.bits .and .u32 a0 127), .int .u32 0, .int .u32 0]) ?_ 2 _ rfl; (with_reducible repeat (first | refine blk_drewN ?_ _ | refine blk_drew ?_ | refine blk_alloc ?_ _)); refine blk_put (cs := #[.int .u32 (Go.bits .and .u32 a0 127), .int .u32 0, .int .u32 0]) ?_ 1 _ rfl; (with_reducible repeat (first | refine blk_drewN ?_ _ | refine blk_drew ?_ | refine blk_alloc ?_ _)); refine blk_put (cs := #[.int .u32 0, .int .u32 0, .int .u32 0]) ?_ 0 _ rfl; (with_reducible repeat (first | refine blk_drewN ?_ _ | refine blk_drew ?_ | refine blk_alloc ?_ _)); exact BK105.out⟩, ⟨by repeat (first | (with_reducible first | exact HB.out | apply below_alloc | apply pw_below_drewN | apply below_drew1 | refine below_set ?_ GE104.out | refine below_set ?_ GE105.out) | exact HB.out)⟩⟩
          · rw [if_neg c25] at H
            have c25b0 : ((Go.bits .and .u32 a0 127) == 51) = false := beq_eq_false_iff_ne.mpr c25
            have c25b1 : ((Go.bits .and .u32 a0 127) != 51) = true := bne_iff_ne.mpr c25
            (first | rw [c25b0] | (simp only [i64_w, i32_w]; rw [c25b0]) | skip)
            have H' := Aside0.mk H
            clear H
            have hnb28 := NB105_104.out
            have hnc28 := NB104_105.out
            have hcz29_0 : w22.cell? ⟨gb105, 0, none⟩ = some (.int .u32 0) := (blk_cell BK105.out 0).trans rfl
            have hcz29_1 : w22.cell? ⟨gb105, 1, none⟩ = some (.int .u32 0) := (blk_cell BK105.out 1).trans rfl
            have hcz29_2 : w22.cell? ⟨gb105, 2, none⟩ = some (.int .u32 0) := (blk_cell BK105.out 2).trans rfl
            have hfz29_0 := blk_frozen BK105.out 0
            have hfz29_1 := blk_frozen BK105.out 1
            have hfz29_2 := blk_frozen BK105.out 2
            go_wp2
            go_meet
            case rel => exact ⟨_, (((Go.bits .and .u32 a0 127) == 59)), (by first | rfl | (simp; done) | (simp [*]; done)), H', ⟨by first | omega | exact Nat.le_refl _⟩, ⟨by (with_reducible repeat (first | refine blk_drewN ?_ _ | refine blk_drew ?_ | refine blk_alloc ?_ _)); refine blk_far ?_ NB104_105.out _; (with_reducible repeat (first | refine blk_drewN ?_ _ | refine blk_drew ?_ | refine blk_alloc ?_ _)); refine blk_far ?_ NB104_105.out _; (with_reducible repeat (first | refine blk_drewN ?_ _ | refine blk_drew ?_ | refine blk_alloc ?_ _)); refine blk_far ?_ NB104_105.out _; (with_reducible repeat (first | refine blk_drewN ?_ _ | refine blk_drew ?_ | refine blk_alloc ?_ _)); refine blk_far ?_ NB104_105.out _; (with_reducible repeat (first | refine blk_drewN ?_ _ | refine blk_drew ?_ | refine blk_alloc ?_ _)); exact BK104.out⟩, ⟨by (with_reducible repeat (first | refine blk_drewN ?_ _ | refine blk_drew ?_ | refine blk_alloc ?_ _)); refine blk_put (cs := #[.int .u32 (Go.bits .and .u32 a0 127), .int .u32 0, .int .u32 0]) ?_ 1 _ rfl; (with_reducible repeat (first | refine blk_drewN ?_ _ | refine blk_drew ?_ | refine blk_alloc ?_ _)); refine blk_put (cs := #[.int .u32 (Go.bits .and .u32 a0 127), .int .u32 0, .int .u32 0]) ?_ 2 _ rfl; (with_reducible repeat (first | refine blk_drewN ?_ _ | refine blk_drew ?_ | refine blk_alloc ?_ _)); refine blk_put (cs := #[.int .u32 (Go.bits .and .u32 a0 127), .int .u32 0, .int .u32 0]) ?_ 1 _ rfl; (with_reducible repeat (first | refine blk_drewN ?_ _ | refine blk_drew ?_ | refine blk_alloc ?_ _)); refine blk_put (cs := #[.int .u32 0, .int .u32 0, .int .u32 0]) ?_ 0 _ rfl; (with_reducible repeat (first | refine blk_drewN ?_ _ | refine blk_drew ?_ | refine blk_alloc ?_ _)); exact BK105.out⟩, ⟨by repeat (first | (with_reducible first | exact HB.out | apply below_alloc | apply pw_below_drewN | apply below_drew1 | refine below_set ?_ GE104.out | refine below_set ?_ GE105.out) | exact HB.out)⟩⟩
        case rest =>
          clear HC20
          try clear c1
          try clear c2
          try clear c2b0
          try clear c2b1
          try clear p2
          try clear c5
          try clear c8
          try clear c8b0
          try clear c8b1
          try clear c11
          try clear c14
          try clear c14b0
          try clear c14b1
          try clear c16
          try clear c17
          try clear c23
          try clear c25
          try clear c25b0
          try clear c25b1
          try clear c26
          try clear c28
          try clear hcz12_0
          try clear hcz12_1
          try clear hcz12_2
          try clear hcz13_0
          try clear hcz13_1
          try clear hcz13_2
          try clear hcz18_0
          try clear hcz18_1
          try clear hcz18_2
          try clear hcz19_0
          try clear hcz19_1
          try clear hcz19_2
          try clear hcz24_0
          try clear hcz24_1
          try clear hcz24_2
          try clear hcz27_0
          try clear hcz27_1
          try clear hcz27_2
          try clear hcz29_0
          try clear hcz29_1
          try clear hcz29_2
          try clear hcz6_0
          try clear hcz6_1
          try clear hcz6_2
          try clear hcz7_0
          try clear hcz7_1
          try clear hcz7_2
          try clear hfz12_0
          try clear hfz12_1
          try clear hfz12_2
          try clear hfz13_0
          try clear hfz13_1
          try clear hfz13_2
          try clear hfz18_0
          try clear hfz18_1
          try clear hfz18_2
          try clear hfz19_0
          try clear hfz19_1
          try clear hfz19_2
          try clear hfz24_0
          try clear hfz24_1
          try clear hfz24_2
          try clear hfz27_0
          try clear hfz27_1
          try clear hfz27_2
          try clear hfz29_0
          try clear hfz29_1
          try clear hfz29_2
          try clear hfz6_0
          try clear hfz6_1
          try clear hfz6_2
          try clear hfz7_0
          try clear hfz7_1
          try clear hfz7_2
          obtain ⟨kq, x21_19, rfl, HA, HJ19, BK104, BK105, HB⟩ := hcut
          cases kq with
          | zero => exact absurd HA.out (by simp [inst_keyed.j0])
          | succ kj19 =>
            have H := HA.out
            clear HA
            simp only [inst_keyed.j0] at H
            by_cases c30 : x21_19 = true
            · subst c30
              have H1 : (some ((Go.bits .and .u32 a0 127), (Go.bits .and .u32 (a0 / 4096) 7), (a0 / 33554432))) = some (r1, r2, r3) := by rw [if_pos rfl] at H; exact H
              clear H
              have H := H1
              clear H1
              simp only [Option.some.injEq, Prod.mk.injEq] at H
              obtain ⟨rfl, rfl, rfl⟩ := H
              have hnb31 := NB105_104.out
              have hnc31 := NB104_105.out
              have hcz32_0 : wc.cell? ⟨gb105, 0, none⟩ = some (.int .u32 (Go.bits .and .u32 a0 127)) := (blk_cell BK105.out 0).trans rfl
              have hcz32_1 : wc.cell? ⟨gb105, 1, none⟩ = some (.int .u32 (Go.bits .and .u32 (a0 / 4096) 7)) := (blk_cell BK105.out 1).trans rfl
              have hcz32_2 : wc.cell? ⟨gb105, 2, none⟩ = some (.int .u32 0) := (blk_cell BK105.out 2).trans rfl
              have hfz32_0 := blk_frozen BK105.out 0
              have hfz32_1 := blk_frozen BK105.out 1
              have hfz32_2 := blk_frozen BK105.out 2
              have hcz33_0 : wc.cell? ⟨gb104, 0, none⟩ = some (.int .u32 0) := (blk_cell BK104.out 0).trans rfl
              have hcz33_1 : wc.cell? ⟨gb104, 1, none⟩ = some (.int .u32 0) := (blk_cell BK104.out 1).trans rfl
              have hcz33_2 : wc.cell? ⟨gb104, 2, none⟩ = some (.int .u32 0) := (blk_cell BK104.out 2).trans rfl
              have hfz33_0 := blk_frozen BK104.out 0
              have hfz33_1 := blk_frozen BK104.out 1
              have hfz33_2 := blk_frozen BK104.out 2
              go_wp2
              refine bodyPost_ret (results_cell_row rfl _ _ gb104 44 #[.int .u32 (Go.bits .and .u32 a0 127), .int .u32 (Go.bits .and .u32 (a0 / 4096) 7), .int .u32 (a0 / 33554432)] (0, 0) _ rfl (by (with_reducible repeat (first | refine blk_drewN ?_ _ | refine blk_drew ?_ | refine blk_alloc ?_ _)); refine blk_put (cs := #[.int .u32 (Go.bits .and .u32 a0 127), .int .u32 (Go.bits .and .u32 (a0 / 4096) 7), .int .u32 0]) ?_ 2 _ rfl; (with_reducible repeat (first | refine blk_drewN ?_ _ | refine blk_drew ?_ | refine blk_alloc ?_ _)); refine blk_put (cs := #[.int .u32 (Go.bits .and .u32 a0 127), .int .u32 0, .int .u32 0]) ?_ 1 _ rfl; (with_reducible repeat (first | refine blk_drewN ?_ _ | refine blk_drew ?_ | refine blk_alloc ?_ _)); refine blk_put (cs := #[.int .u32 0, .int .u32 0, .int .u32 0]) ?_ 0 _ rfl; (with_reducible repeat (first | refine blk_drewN ?_ _ | refine blk_drew ?_ | refine blk_alloc ?_ _)); refine blk_far ?_ NB104_105.out _; (with_reducible repeat (first | refine blk_drewN ?_ _ | refine blk_drew ?_ | refine blk_alloc ?_ _)); exact BK104.out) Try.underlying44 rfl (by kernel_rfl)) rfl ?_
              exact ⟨by first | rfl | (simp [errW_none, errW_some] <;> rfl) | (simp [*, errW_none, errW_some] <;> rfl), by repeat (first | (with_reducible first | exact HB.out | apply below_alloc | apply pw_below_drewN | apply below_drew1 | refine below_set ?_ GE104.out | refine below_set ?_ GE105.out) | exact HB.out)⟩
            · replace c30 := Bool.eq_false_iff.mpr c30
              subst c30
              have H1 : (if (Go.bits .and .u32 a0 127) = 27 then (if (Go.bits .and .u32 (a0 / 4096) 7) = 1 then (inst_keyed.j1 kj19 (a0 / 33554432) true (Go.bits .and .u32 a0 127) (Go.bits .and .u32 (a0 / 4096) 7) 0) else (inst_keyed.j1 kj19 (a0 / 33554432) ((Go.bits .and .u32 (a0 / 4096) 7) == 5) (Go.bits .and .u32 a0 127) (Go.bits .and .u32 (a0 / 4096) 7) 0)) else (inst_keyed.j1 kj19 (a0 / 33554432) false (Go.bits .and .u32 a0 127) (Go.bits .and .u32 (a0 / 4096) 7) 0)) = some (r1, r2, r3) := by rw [if_neg (show ¬ (false = true) by decide)] at H; exact H
              clear H
              have H := H1
              clear H1
              have HC34 := Aside0.mk H
              clear H
              go_upto_region 11 with (fail)
              go_cut [32] (fun v32 wc => ∃ (kq : Nat) (x32_33 : Bool), v32 = .bool x32_33 ∧ Aside0 (inst_keyed.j1 kq (a0 / 33554432) x32_33 (Go.bits .and .u32 a0 127) (Go.bits .and .u32 (a0 / 4096) 7) 0 = some (r1, r2, r3)) ∧ Aside0 (kq ≤ kj19) ∧ Aside0 (wc.heap[gb104]? = some (.cells #[.int .u32 0, .int .u32 0, .int .u32 0] 44 (0, 0))) ∧ Aside0 (wc.heap[gb105]? = some (.cells #[.int .u32 (Go.bits .and .u32 a0 127), .int .u32 (Go.bits .and .u32 (a0 / 4096) 7), .int .u32 0] 44 (0, 0))) ∧ Aside0 (Below w.heap.size w wc))
              case first =>
                have H := HC34.out
                clear HC34
                by_cases c35 : (Go.bits .and .u32 a0 127) = 27
                · rw [if_pos c35] at H
                  have c35b0 : ((Go.bits .and .u32 a0 127) == 27) = true := beq_iff_eq.mpr c35
                  have c35b1 : ((Go.bits .and .u32 a0 127) != 27) = false := bne_eq_false_iff_eq.mpr c35
                  clear c35
                  (first | rw [c35b0] | (simp only [i64_w, i32_w]; rw [c35b0]) | skip)
                  by_cases c36 : (Go.bits .and .u32 (a0 / 4096) 7) = 1
                  · rw [if_pos c36] at H
                    have c36b0 : ((Go.bits .and .u32 (a0 / 4096) 7) == 1) = true := beq_iff_eq.mpr c36
                    have c36b1 : ((Go.bits .and .u32 (a0 / 4096) 7) != 1) = false := bne_eq_false_iff_eq.mpr c36
                    clear c36
                    have H' := Aside0.mk H
                    clear H
                    have hnb37 := NB105_104.out
                    have hnc37 := NB104_105.out
                    have hcz38_0 : wc.cell? ⟨gb105, 0, none⟩ = some (.int .u32 (Go.bits .and .u32 a0 127)) := (blk_cell BK105.out 0).trans rfl
                    have hcz38_1 : wc.cell? ⟨gb105, 1, none⟩ = some (.int .u32 (Go.bits .and .u32 (a0 / 4096) 7)) := (blk_cell BK105.out 1).trans rfl
                    have hcz38_2 : wc.cell? ⟨gb105, 2, none⟩ = some (.int .u32 0) := (blk_cell BK105.out 2).trans rfl
                    have hfz38_0 := blk_frozen BK105.out 0
                    have hfz38_1 := blk_frozen BK105.out 1
                    have hfz38_2 := blk_frozen BK105.out 2
                    go_wp2
                    go_meet
                    case rel => exact ⟨_, (true), (by first | rfl | (simp; done) | (simp [*]; done)), H', ⟨by have := HJ19.out; first | omega | exact Nat.le_refl _⟩, ⟨by (with_reducible repeat (first | refine blk_drewN ?_ _ | refine blk_drew ?_ | refine blk_alloc ?_ _)); exact BK104.out⟩, ⟨by (with_reducible repeat (first | refine blk_drewN ?_ _ | refine blk_drew ?_ | refine blk_alloc ?_ _)); exact BK105.out⟩, ⟨by repeat (first | (with_reducible first | exact HB.out | apply below_alloc | apply pw_below_drewN | apply below_drew1 | refine below_set ?_ GE104.out | refine below_set ?_ GE105.out) | exact HB.out)⟩⟩
                  · rw [if_neg c36] at H
                    have c36b0 : ((Go.bits .and .u32 (a0 / 4096) 7) == 1) = false := beq_eq_false_iff_ne.mpr c36
                    have c36b1 : ((Go.bits .and .u32 (a0 / 4096) 7) != 1) = true := bne_iff_ne.mpr c36
                    have H' := Aside0.mk H
                    clear H
                    have hnb39 := NB105_104.out
                    have hnc39 := NB104_105.out
                    have hcz40_0 : wc.cell? ⟨gb105, 0, none⟩ = some (.int .u32 (Go.bits .and .u32 a0 127)) := (blk_cell BK105.out 0).trans rfl
                    have hcz40_1 : wc.cell? ⟨gb105, 1, none⟩ = some (.int .u32 (Go.bits .and .u32 (a0 / 4096) 7)) := (blk_cell BK105.out 1).trans rfl
                    have hcz40_2 : wc.cell? ⟨gb105, 2, none⟩ = some (.int .u32 0) := (blk_cell BK105.out 2).trans rfl
                    have hfz40_0 := blk_frozen BK105.out 0
                    have hfz40_1 := blk_frozen BK105.out 1
                    have hfz40_2 := blk_frozen BK105.out 2
                    go_wp2
                    go_meet
                    case rel => exact ⟨_, (((Go.bits .and .u32 (a0 / 4096) 7) == 5)), (by first | rfl | (simp; done) | (simp [*]; done)), H', ⟨by have := HJ19.out; first | omega | exact Nat.le_refl _⟩, ⟨by (with_reducible repeat (first | refine blk_drewN ?_ _ | refine blk_drew ?_ | refine blk_alloc ?_ _)); exact BK104.out⟩, ⟨by (with_reducible repeat (first | refine blk_drewN ?_ _ | refine blk_drew ?_ | refine blk_alloc ?_ _)); exact BK105.out⟩, ⟨by repeat (first | (with_reducible first | exact HB.out | apply below_alloc | apply pw_below_drewN | apply below_drew1 | refine below_set ?_ GE104.out | refine below_set ?_ GE105.out) | exact HB.out)⟩⟩
                · rw [if_neg c35] at H
                  have c35b0 : ((Go.bits .and .u32 a0 127) == 27) = false := beq_eq_false_iff_ne.mpr c35
                  have c35b1 : ((Go.bits .and .u32 a0 127) != 27) = true := bne_iff_ne.mpr c35
                  (first | rw [c35b0] | (simp only [i64_w, i32_w]; rw [c35b0]) | skip)
                  have H' := Aside0.mk H
                  clear H
                  have hnb41 := NB105_104.out
                  have hnc41 := NB104_105.out
                  have hcz42_0 : wc.cell? ⟨gb105, 0, none⟩ = some (.int .u32 (Go.bits .and .u32 a0 127)) := (blk_cell BK105.out 0).trans rfl
                  have hcz42_1 : wc.cell? ⟨gb105, 1, none⟩ = some (.int .u32 (Go.bits .and .u32 (a0 / 4096) 7)) := (blk_cell BK105.out 1).trans rfl
                  have hcz42_2 : wc.cell? ⟨gb105, 2, none⟩ = some (.int .u32 0) := (blk_cell BK105.out 2).trans rfl
                  have hfz42_0 := blk_frozen BK105.out 0
                  have hfz42_1 := blk_frozen BK105.out 1
                  have hfz42_2 := blk_frozen BK105.out 2
                  go_wp2
                  go_meet
                  case rel => exact ⟨_, (false), (by first | rfl | (simp; done) | (simp [*]; done)), H', ⟨by have := HJ19.out; first | omega | exact Nat.le_refl _⟩, ⟨by (with_reducible repeat (first | refine blk_drewN ?_ _ | refine blk_drew ?_ | refine blk_alloc ?_ _)); exact BK104.out⟩, ⟨by (with_reducible repeat (first | refine blk_drewN ?_ _ | refine blk_drew ?_ | refine blk_alloc ?_ _)); exact BK105.out⟩, ⟨by repeat (first | (with_reducible first | exact HB.out | apply below_alloc | apply pw_below_drewN | apply below_drew1 | refine below_set ?_ GE104.out | refine below_set ?_ GE105.out) | exact HB.out)⟩⟩
              case rest =>
                clear HC34
                try clear c1
                try clear c2
                try clear c2b0
                try clear c2b1
                try clear p2
                try clear c3
                try clear c4
                try clear c5
                try clear c8
                try clear c8b0
                try clear c8b1
                try clear c11
                try clear c14
                try clear c14b0
                try clear c14b1
                try clear c16
                try clear c17
                try clear c23
                try clear c25
                try clear c25b0
                try clear c25b1
                try clear c26
                try clear c28
                try clear c30
                try clear c31
                try clear c35
                try clear c35b0
                try clear c35b1
                try clear c36
                try clear c36b0
                try clear c36b1
                try clear c37
                try clear c39
                try clear c41
                try clear hcz12_0
                try clear hcz12_1
                try clear hcz12_2
                try clear hcz13_0
                try clear hcz13_1
                try clear hcz13_2
                try clear hcz18_0
                try clear hcz18_1
                try clear hcz18_2
                try clear hcz19_0
                try clear hcz19_1
                try clear hcz19_2
                try clear hcz24_0
                try clear hcz24_1
                try clear hcz24_2
                try clear hcz27_0
                try clear hcz27_1
                try clear hcz27_2
                try clear hcz29_0
                try clear hcz29_1
                try clear hcz29_2
                try clear hcz32_0
                try clear hcz32_1
                try clear hcz32_2
                try clear hcz33_0
                try clear hcz33_1
                try clear hcz33_2
                try clear hcz38_0
                try clear hcz38_1
                try clear hcz38_2
                try clear hcz40_0
                try clear hcz40_1
                try clear hcz40_2
                try clear hcz42_0
                try clear hcz42_1
                try clear hcz42_2
                try clear hcz6_0
                try clear hcz6_1
                try clear hcz6_2
                try clear hcz7_0
                try clear hcz7_1
                try clear hcz7_2
                try clear hfz12_0
                try clear hfz12_1
                try clear hfz12_2
                try clear hfz13_0
                try clear hfz13_1
                try clear hfz13_2
                try clear hfz18_0
                try clear hfz18_1
                try clear hfz18_2
                try clear hfz19_0
                try clear hfz19_1
                try clear hfz19_2
                try clear hfz24_0
                try clear hfz24_1
                try clear hfz24_2
                try clear hfz27_0
                try clear hfz27_1
                try clear hfz27_2
                try clear hfz29_0
                try clear hfz29_1
                try clear hfz29_2
                try clear hfz32_0
                try clear hfz32_1
                try clear hfz32_2
                try clear hfz33_0
                try clear hfz33_1
                try clear hfz33_2
                try clear hfz38_0
                try clear hfz38_1
                try clear hfz38_2
                try clear hfz40_0
                try clear hfz40_1
                try clear hfz40_2
                try clear hfz42_0
                try clear hfz42_1
                try clear hfz42_2
                try clear hfz6_0
                try clear hfz6_1
                try clear hfz6_2
                try clear hfz7_0
                try clear hfz7_1
                try clear hfz7_2
                try clear p2
                obtain ⟨kq, x32_33, rfl, HA, HJ33, BK104, BK105, HB⟩ := hcut
                cases kq with
                | zero => exact absurd HA.out (by simp [inst_keyed.j1])
                | succ kj33 =>
                  have H := HA.out
                  clear HA
                  simp only [inst_keyed.j1] at H
                  by_cases c43 : x32_33 = true
                  · subst c43
                    have H1 : (some ((Go.bits .and .u32 a0 127), (Go.bits .and .u32 (a0 / 4096) 7), (a0 / 33554432))) = some (r1, r2, r3) := by rw [if_pos rfl] at H; exact H
                    clear H
                    have H := H1
                    clear H1
                    simp only [Option.some.injEq, Prod.mk.injEq] at H
                    obtain ⟨rfl, rfl, rfl⟩ := H
                    have hnb44 := NB105_104.out
                    have hnc44 := NB104_105.out
                    have hcz45_0 : wc.cell? ⟨gb105, 0, none⟩ = some (.int .u32 (Go.bits .and .u32 a0 127)) := (blk_cell BK105.out 0).trans rfl
                    have hcz45_1 : wc.cell? ⟨gb105, 1, none⟩ = some (.int .u32 (Go.bits .and .u32 (a0 / 4096) 7)) := (blk_cell BK105.out 1).trans rfl
                    have hcz45_2 : wc.cell? ⟨gb105, 2, none⟩ = some (.int .u32 0) := (blk_cell BK105.out 2).trans rfl
                    have hfz45_0 := blk_frozen BK105.out 0
                    have hfz45_1 := blk_frozen BK105.out 1
                    have hfz45_2 := blk_frozen BK105.out 2
                    have hcz46_0 : wc.cell? ⟨gb104, 0, none⟩ = some (.int .u32 0) := (blk_cell BK104.out 0).trans rfl
                    have hcz46_1 : wc.cell? ⟨gb104, 1, none⟩ = some (.int .u32 0) := (blk_cell BK104.out 1).trans rfl
                    have hcz46_2 : wc.cell? ⟨gb104, 2, none⟩ = some (.int .u32 0) := (blk_cell BK104.out 2).trans rfl
                    have hfz46_0 := blk_frozen BK104.out 0
                    have hfz46_1 := blk_frozen BK104.out 1
                    have hfz46_2 := blk_frozen BK104.out 2
                    go_wp2
                    refine bodyPost_ret (results_cell_row rfl _ _ gb104 44 #[.int .u32 (Go.bits .and .u32 a0 127), .int .u32 (Go.bits .and .u32 (a0 / 4096) 7), .int .u32 (a0 / 33554432)] (0, 0) _ rfl (by (with_reducible repeat (first | refine blk_drewN ?_ _ | refine blk_drew ?_ | refine blk_alloc ?_ _)); refine blk_put (cs := #[.int .u32 (Go.bits .and .u32 a0 127), .int .u32 (Go.bits .and .u32 (a0 / 4096) 7), .int .u32 0]) ?_ 2 _ rfl; (with_reducible repeat (first | refine blk_drewN ?_ _ | refine blk_drew ?_ | refine blk_alloc ?_ _)); refine blk_put (cs := #[.int .u32 (Go.bits .and .u32 a0 127), .int .u32 0, .int .u32 0]) ?_ 1 _ rfl; (with_reducible repeat (first | refine blk_drewN ?_ _ | refine blk_drew ?_ | refine blk_alloc ?_ _)); refine blk_put (cs := #[.int .u32 0, .int .u32 0, .int .u32 0]) ?_ 0 _ rfl; (with_reducible repeat (first | refine blk_drewN ?_ _ | refine blk_drew ?_ | refine blk_alloc ?_ _)); refine blk_far ?_ NB104_105.out _; (with_reducible repeat (first | refine blk_drewN ?_ _ | refine blk_drew ?_ | refine blk_alloc ?_ _)); exact BK104.out) Try.underlying44 rfl (by kernel_rfl)) rfl ?_
                    exact ⟨by first | rfl | (simp [errW_none, errW_some] <;> rfl) | (simp [*, errW_none, errW_some] <;> rfl), by repeat (first | (with_reducible first | exact HB.out | apply below_alloc | apply pw_below_drewN | apply below_drew1 | refine below_set ?_ GE104.out | refine below_set ?_ GE105.out) | exact HB.out)⟩
                  · replace c43 := Bool.eq_false_iff.mpr c43
                    subst c43
                    have H1 : (if (Go.bits .and .u32 a0 127) = 19 then (if (Go.bits .and .u32 (a0 / 4096) 7) = 1 then (some ((Go.bits .and .u32 a0 127), (Go.bits .and .u32 (a0 / 4096) 7), Go.bits .andNot .u32 (a0 / 33554432) 1)) else (if (Go.bits .and .u32 (a0 / 4096) 7) = 5 then (some ((Go.bits .and .u32 a0 127), (Go.bits .and .u32 (a0 / 4096) 7), Go.bits .andNot .u32 (a0 / 33554432) 1)) else (some ((Go.bits .and .u32 a0 127), (Go.bits .and .u32 (a0 / 4096) 7), 0)))) else (some ((Go.bits .and .u32 a0 127), (Go.bits .and .u32 (a0 / 4096) 7), 0))) = some (r1, r2, r3) := by rw [if_neg (show ¬ (false = true) by decide)] at H; exact H
                    clear H
                    have H := H1
                    clear H1
                    by_cases c47 : (Go.bits .and .u32 a0 127) = 19
                    · rw [if_pos c47] at H
                      have c47b0 : ((Go.bits .and .u32 a0 127) == 19) = true := beq_iff_eq.mpr c47
                      have c47b1 : ((Go.bits .and .u32 a0 127) != 19) = false := bne_eq_false_iff_eq.mpr c47
                      clear c47
                      by_cases c48 : (Go.bits .and .u32 (a0 / 4096) 7) = 1
                      · rw [if_pos c48] at H
                        have c48b0 : ((Go.bits .and .u32 (a0 / 4096) 7) == 1) = true := beq_iff_eq.mpr c48
                        have c48b1 : ((Go.bits .and .u32 (a0 / 4096) 7) != 1) = false := bne_eq_false_iff_eq.mpr c48
                        clear c48
                        simp only [Option.some.injEq, Prod.mk.injEq] at H
                        obtain ⟨rfl, rfl, rfl⟩ := H
                        have hnb49 := NB105_104.out
                        have hnc49 := NB104_105.out
                        have hcz50_0 : wc.cell? ⟨gb105, 0, none⟩ = some (.int .u32 (Go.bits .and .u32 a0 127)) := (blk_cell BK105.out 0).trans rfl
                        have hcz50_1 : wc.cell? ⟨gb105, 1, none⟩ = some (.int .u32 (Go.bits .and .u32 (a0 / 4096) 7)) := (blk_cell BK105.out 1).trans rfl
                        have hcz50_2 : wc.cell? ⟨gb105, 2, none⟩ = some (.int .u32 0) := (blk_cell BK105.out 2).trans rfl
                        have hfz50_0 := blk_frozen BK105.out 0
                        have hfz50_1 := blk_frozen BK105.out 1
                        have hfz50_2 := blk_frozen BK105.out 2
                        have hcz51_0 : wc.cell? ⟨gb104, 0, none⟩ = some (.int .u32 0) := (blk_cell BK104.out 0).trans rfl
                        have hcz51_1 : wc.cell? ⟨gb104, 1, none⟩ = some (.int .u32 0) := (blk_cell BK104.out 1).trans rfl
                        have hcz51_2 : wc.cell? ⟨gb104, 2, none⟩ = some (.int .u32 0) := (blk_cell BK104.out 2).trans rfl
                        have hfz51_0 := blk_frozen BK104.out 0
                        have hfz51_1 := blk_frozen BK104.out 1
                        have hfz51_2 := blk_frozen BK104.out 2
                        go_wp2
                        refine bodyPost_ret (results_cell_row rfl _ _ gb104 44 #[.int .u32 (Go.bits .and .u32 a0 127), .int .u32 (Go.bits .and .u32 (a0 / 4096) 7), .int .u32 (Go.bits .andNot .u32 (a0 / 33554432) 1)] (0, 0) _ rfl (by (with_reducible repeat (first | refine blk_drewN ?_ _ | refine blk_drew ?_ | refine blk_alloc ?_ _)); refine blk_put (cs := #[.int .u32 (Go.bits .and .u32 a0 127), .int .u32 (Go.bits .and .u32 (a0 / 4096) 7), .int .u32 0]) ?_ 2 _ rfl; (with_reducible repeat (first | refine blk_drewN ?_ _ | refine blk_drew ?_ | refine blk_alloc ?_ _)); refine blk_put (cs := #[.int .u32 (Go.bits .and .u32 a0 127), .int .u32 0, .int .u32 0]) ?_ 1 _ rfl; (with_reducible repeat (first | refine blk_drewN ?_ _ | refine blk_drew ?_ | refine blk_alloc ?_ _)); refine blk_put (cs := #[.int .u32 0, .int .u32 0, .int .u32 0]) ?_ 0 _ rfl; (with_reducible repeat (first | refine blk_drewN ?_ _ | refine blk_drew ?_ | refine blk_alloc ?_ _)); refine blk_far ?_ NB104_105.out _; (with_reducible repeat (first | refine blk_drewN ?_ _ | refine blk_drew ?_ | refine blk_alloc ?_ _)); exact BK104.out) Try.underlying44 rfl (by kernel_rfl)) rfl ?_
                        exact ⟨by first | rfl | (simp [errW_none, errW_some] <;> rfl) | (simp [*, errW_none, errW_some] <;> rfl), by repeat (first | (with_reducible first | exact HB.out | apply below_alloc | apply pw_below_drewN | apply below_drew1 | refine below_set ?_ GE104.out | refine below_set ?_ GE105.out) | exact HB.out)⟩
                      · rw [if_neg c48] at H
                        have c48b0 : ((Go.bits .and .u32 (a0 / 4096) 7) == 1) = false := beq_eq_false_iff_ne.mpr c48
                        have c48b1 : ((Go.bits .and .u32 (a0 / 4096) 7) != 1) = true := bne_iff_ne.mpr c48
                        by_cases c52 : (Go.bits .and .u32 (a0 / 4096) 7) = 5
                        · rw [if_pos c52] at H
                          have c52b0 : ((Go.bits .and .u32 (a0 / 4096) 7) == 5) = true := beq_iff_eq.mpr c52
                          have c52b1 : ((Go.bits .and .u32 (a0 / 4096) 7) != 5) = false := bne_eq_false_iff_eq.mpr c52
                          clear c52
                          simp only [Option.some.injEq, Prod.mk.injEq] at H
                          obtain ⟨rfl, rfl, rfl⟩ := H
                          have hnb53 := NB105_104.out
                          have hnc53 := NB104_105.out
                          have hcz54_0 : wc.cell? ⟨gb105, 0, none⟩ = some (.int .u32 (Go.bits .and .u32 a0 127)) := (blk_cell BK105.out 0).trans rfl
                          have hcz54_1 : wc.cell? ⟨gb105, 1, none⟩ = some (.int .u32 (Go.bits .and .u32 (a0 / 4096) 7)) := (blk_cell BK105.out 1).trans rfl
                          have hcz54_2 : wc.cell? ⟨gb105, 2, none⟩ = some (.int .u32 0) := (blk_cell BK105.out 2).trans rfl
                          have hfz54_0 := blk_frozen BK105.out 0
                          have hfz54_1 := blk_frozen BK105.out 1
                          have hfz54_2 := blk_frozen BK105.out 2
                          have hcz55_0 : wc.cell? ⟨gb104, 0, none⟩ = some (.int .u32 0) := (blk_cell BK104.out 0).trans rfl
                          have hcz55_1 : wc.cell? ⟨gb104, 1, none⟩ = some (.int .u32 0) := (blk_cell BK104.out 1).trans rfl
                          have hcz55_2 : wc.cell? ⟨gb104, 2, none⟩ = some (.int .u32 0) := (blk_cell BK104.out 2).trans rfl
                          have hfz55_0 := blk_frozen BK104.out 0
                          have hfz55_1 := blk_frozen BK104.out 1
                          have hfz55_2 := blk_frozen BK104.out 2
                          go_wp2
                          refine bodyPost_ret (results_cell_row rfl _ _ gb104 44 #[.int .u32 (Go.bits .and .u32 a0 127), .int .u32 (Go.bits .and .u32 (a0 / 4096) 7), .int .u32 (Go.bits .andNot .u32 (a0 / 33554432) 1)] (0, 0) _ rfl (by (with_reducible repeat (first | refine blk_drewN ?_ _ | refine blk_drew ?_ | refine blk_alloc ?_ _)); refine blk_put (cs := #[.int .u32 (Go.bits .and .u32 a0 127), .int .u32 (Go.bits .and .u32 (a0 / 4096) 7), .int .u32 0]) ?_ 2 _ rfl; (with_reducible repeat (first | refine blk_drewN ?_ _ | refine blk_drew ?_ | refine blk_alloc ?_ _)); refine blk_put (cs := #[.int .u32 (Go.bits .and .u32 a0 127), .int .u32 0, .int .u32 0]) ?_ 1 _ rfl; (with_reducible repeat (first | refine blk_drewN ?_ _ | refine blk_drew ?_ | refine blk_alloc ?_ _)); refine blk_put (cs := #[.int .u32 0, .int .u32 0, .int .u32 0]) ?_ 0 _ rfl; (with_reducible repeat (first | refine blk_drewN ?_ _ | refine blk_drew ?_ | refine blk_alloc ?_ _)); refine blk_far ?_ NB104_105.out _; (with_reducible repeat (first | refine blk_drewN ?_ _ | refine blk_drew ?_ | refine blk_alloc ?_ _)); exact BK104.out) Try.underlying44 rfl (by kernel_rfl)) rfl ?_
                          exact ⟨by first | rfl | (simp [errW_none, errW_some] <;> rfl) | (simp [*, errW_none, errW_some] <;> rfl), by repeat (first | (with_reducible first | exact HB.out | apply below_alloc | apply pw_below_drewN | apply below_drew1 | refine below_set ?_ GE104.out | refine below_set ?_ GE105.out) | exact HB.out)⟩
                        · rw [if_neg c52] at H
                          have c52b0 : ((Go.bits .and .u32 (a0 / 4096) 7) == 5) = false := beq_eq_false_iff_ne.mpr c52
                          have c52b1 : ((Go.bits .and .u32 (a0 / 4096) 7) != 5) = true := bne_iff_ne.mpr c52
                          simp only [Option.some.injEq, Prod.mk.injEq] at H
                          obtain ⟨rfl, rfl, rfl⟩ := H
                          have hnb56 := NB105_104.out
                          have hnc56 := NB104_105.out
                          have hcz57_0 : wc.cell? ⟨gb105, 0, none⟩ = some (.int .u32 (Go.bits .and .u32 a0 127)) := (blk_cell BK105.out 0).trans rfl
                          have hcz57_1 : wc.cell? ⟨gb105, 1, none⟩ = some (.int .u32 (Go.bits .and .u32 (a0 / 4096) 7)) := (blk_cell BK105.out 1).trans rfl
                          have hcz57_2 : wc.cell? ⟨gb105, 2, none⟩ = some (.int .u32 0) := (blk_cell BK105.out 2).trans rfl
                          have hfz57_0 := blk_frozen BK105.out 0
                          have hfz57_1 := blk_frozen BK105.out 1
                          have hfz57_2 := blk_frozen BK105.out 2
                          have hcz58_0 : wc.cell? ⟨gb104, 0, none⟩ = some (.int .u32 0) := (blk_cell BK104.out 0).trans rfl
                          have hcz58_1 : wc.cell? ⟨gb104, 1, none⟩ = some (.int .u32 0) := (blk_cell BK104.out 1).trans rfl
                          have hcz58_2 : wc.cell? ⟨gb104, 2, none⟩ = some (.int .u32 0) := (blk_cell BK104.out 2).trans rfl
                          have hfz58_0 := blk_frozen BK104.out 0
                          have hfz58_1 := blk_frozen BK104.out 1
                          have hfz58_2 := blk_frozen BK104.out 2
                          go_wp2
                          refine bodyPost_ret (results_cell_row rfl _ _ gb104 44 #[.int .u32 (Go.bits .and .u32 a0 127), .int .u32 (Go.bits .and .u32 (a0 / 4096) 7), .int .u32 0] (0, 0) _ rfl (by (with_reducible repeat (first | refine blk_drewN ?_ _ | refine blk_drew ?_ | refine blk_alloc ?_ _)); refine blk_put (cs := #[.int .u32 (Go.bits .and .u32 a0 127), .int .u32 (Go.bits .and .u32 (a0 / 4096) 7), .int .u32 0]) ?_ 2 _ rfl; (with_reducible repeat (first | refine blk_drewN ?_ _ | refine blk_drew ?_ | refine blk_alloc ?_ _)); refine blk_put (cs := #[.int .u32 (Go.bits .and .u32 a0 127), .int .u32 0, .int .u32 0]) ?_ 1 _ rfl; (with_reducible repeat (first | refine blk_drewN ?_ _ | refine blk_drew ?_ | refine blk_alloc ?_ _)); refine blk_put (cs := #[.int .u32 0, .int .u32 0, .int .u32 0]) ?_ 0 _ rfl; (with_reducible repeat (first | refine blk_drewN ?_ _ | refine blk_drew ?_ | refine blk_alloc ?_ _)); exact BK104.out) Try.underlying44 rfl (by kernel_rfl)) rfl ?_
                          exact ⟨by first | rfl | (simp [errW_none, errW_some] <;> rfl) | (simp [*, errW_none, errW_some] <;> rfl), by repeat (first | (with_reducible first | exact HB.out | apply below_alloc | apply pw_below_drewN | apply below_drew1 | refine below_set ?_ GE104.out | refine below_set ?_ GE105.out) | exact HB.out)⟩
                    · rw [if_neg c47] at H
                      have c47b0 : ((Go.bits .and .u32 a0 127) == 19) = false := beq_eq_false_iff_ne.mpr c47
                      have c47b1 : ((Go.bits .and .u32 a0 127) != 19) = true := bne_iff_ne.mpr c47
                      simp only [Option.some.injEq, Prod.mk.injEq] at H
                      obtain ⟨rfl, rfl, rfl⟩ := H
                      have hnb59 := NB105_104.out
                      have hnc59 := NB104_105.out
                      have hcz60_0 : wc.cell? ⟨gb105, 0, none⟩ = some (.int .u32 (Go.bits .and .u32 a0 127)) := (blk_cell BK105.out 0).trans rfl
                      have hcz60_1 : wc.cell? ⟨gb105, 1, none⟩ = some (.int .u32 (Go.bits .and .u32 (a0 / 4096) 7)) := (blk_cell BK105.out 1).trans rfl
                      have hcz60_2 : wc.cell? ⟨gb105, 2, none⟩ = some (.int .u32 0) := (blk_cell BK105.out 2).trans rfl
                      have hfz60_0 := blk_frozen BK105.out 0
                      have hfz60_1 := blk_frozen BK105.out 1
                      have hfz60_2 := blk_frozen BK105.out 2
                      have hcz61_0 : wc.cell? ⟨gb104, 0, none⟩ = some (.int .u32 0) := (blk_cell BK104.out 0).trans rfl
                      have hcz61_1 : wc.cell? ⟨gb104, 1, none⟩ = some (.int .u32 0) := (blk_cell BK104.out 1).trans rfl
                      have hcz61_2 : wc.cell? ⟨gb104, 2, none⟩ = some (.int .u32 0) := (blk_cell BK104.out 2).trans rfl
                      have hfz61_0 := blk_frozen BK104.out 0
                      have hfz61_1 := blk_frozen BK104.out 1
                      have hfz61_2 := blk_frozen BK104.out 2
                      go_wp2
                      refine bodyPost_ret (results_cell_row rfl _ _ gb104 44 #[.int .u32 (Go.bits .and .u32 a0 127), .int .u32 (Go.bits .and .u32 (a0 / 4096) 7), .int .u32 0] (0, 0) _ rfl (by (with_reducible repeat (first | refine blk_drewN ?_ _ | refine blk_drew ?_ | refine blk_alloc ?_ _)); refine blk_put (cs := #[.int .u32 (Go.bits .and .u32 a0 127), .int .u32 (Go.bits .and .u32 (a0 / 4096) 7), .int .u32 0]) ?_ 2 _ rfl; (with_reducible repeat (first | refine blk_drewN ?_ _ | refine blk_drew ?_ | refine blk_alloc ?_ _)); refine blk_put (cs := #[.int .u32 (Go.bits .and .u32 a0 127), .int .u32 0, .int .u32 0]) ?_ 1 _ rfl; (with_reducible repeat (first | refine blk_drewN ?_ _ | refine blk_drew ?_ | refine blk_alloc ?_ _)); refine blk_put (cs := #[.int .u32 0, .int .u32 0, .int .u32 0]) ?_ 0 _ rfl; (with_reducible repeat (first | refine blk_drewN ?_ _ | refine blk_drew ?_ | refine blk_alloc ?_ _)); exact BK104.out) Try.underlying44 rfl (by kernel_rfl)) rfl ?_
                      exact ⟨by first | rfl | (simp [errW_none, errW_some] <;> rfl) | (simp [*, errW_none, errW_some] <;> rfl), by repeat (first | (with_reducible first | exact HB.out | apply below_alloc | apply pw_below_drewN | apply below_drew1 | refine below_set ?_ GE104.out | refine below_set ?_ GE105.out) | exact HB.out)⟩

/-! ### imm_pieces: function 29 -/
def imm_pieces.f (a0 : Int) : Option ((List (S65)) × Int) := if a0 = 1 then (some ((([(⟨0, 20, 12⟩ : S65)] : List (S65))), 12)) else (if a0 = 2 then (some ((([(⟨0, 7, 5⟩ : S65), (⟨5, 25, 7⟩ : S65)] : List (S65))), 12)) else (if a0 = 3 then (some ((([(⟨1, 8, 4⟩ : S65), (⟨5, 25, 6⟩ : S65), (⟨11, 7, 1⟩ : S65), (⟨12, 31, 1⟩ : S65)] : List (S65))), 13)) else (if a0 = 4 then (some ((([(⟨0, 12, 20⟩ : S65)] : List (S65))), 20)) else (if a0 = 5 then (some ((([(⟨1, 21, 10⟩ : S65), (⟨11, 20, 1⟩ : S65), (⟨12, 12, 8⟩ : S65), (⟨20, 31, 1⟩ : S65)] : List (S65))), 21)) else (some (([] : List (S65)), 0))))))
set_option maxHeartbeats 8000000 in
set_option maxRecDepth 100000 in
theorem imm_pieces.calls (a0 : Int) (r1 : List (S65)) (r2 : Int) (w : World) (h : imm_pieces.f a0 = some (r1, r2)) :
    Calls Try.prog 29 #[.int .i64 a0] w fun e w' => ∃ v0_ : Value, e = .returned (.tuple #[v0_, .int .i64 r2]) ∧ Kd.R k65 65 w' w.heap.size (fun _ => True) v0_ r1 ∧ Below w.heap.size w w' := by
  have hu65 := Try.underlying65
  have HB := Aside0.mk (Below.refl w.heap.size w)
  have H : (if a0 = 1 then (some ((([(⟨0, 20, 12⟩ : S65)] : List (S65))), 12)) else (if a0 = 2 then (some ((([(⟨0, 7, 5⟩ : S65), (⟨5, 25, 7⟩ : S65)] : List (S65))), 12)) else (if a0 = 3 then (some ((([(⟨1, 8, 4⟩ : S65), (⟨5, 25, 6⟩ : S65), (⟨11, 7, 1⟩ : S65), (⟨12, 31, 1⟩ : S65)] : List (S65))), 13)) else (if a0 = 4 then (some ((([(⟨0, 12, 20⟩ : S65)] : List (S65))), 20)) else (if a0 = 5 then (some ((([(⟨1, 21, 10⟩ : S65), (⟨11, 20, 1⟩ : S65), (⟨12, 12, 8⟩ : S65), (⟨20, 31, 1⟩ : S65)] : List (S65))), 21)) else (some (([] : List (S65)), 0))))))) = some (r1, r2) := h
  clear h
  by_cases c2 : a0 = 1
  · rw [if_pos c2] at H
    have c2b0 : (a0 == 1) = true := beq_iff_eq.mpr c2
    have c2b1 : (a0 != 1) = false := bne_eq_false_iff_eq.mpr c2
    clear c2
    obtain ⟨y106, hy106⟩ : ∃ y_ : List (S65), y_ = (([(⟨0, 20, 12⟩ : S65)] : List (S65))) := ⟨_, rfl⟩
    replace H : (some (y106, 12)) = some (r1, r2) := by first | (rw [hy106]; with_reducible exact H) | (have H2_ := (Option.bind_some _ _).symm.trans H; rw [hy106]; with_reducible exact H2_) | (have H2_ := (Option.bind_some _ _).symm.trans H; with_reducible exact H2_) | with_reducible exact H | (rw [hy106]; exact H) | exact H
    have Ny106 := Aside0.mk hy106
    clear hy106
    simp only [Option.some.injEq, Prod.mk.injEq] at H
    obtain ⟨rfl, rfl⟩ := H
    go_enter Try.func29, Try.ntmps29
    go_wp2_with (first | ((with_reducible refine gate_dst (N := 8) rfl ?_); refine Kd.R_lit k65 _ 65 ?hg (N := 8) ?hd (xs := ([(⟨0, 20, 12⟩ : S65)] : List (S65))) (inner := [.int .i64 0, .int .i64 20, .int .i64 12]) (ok := fun _ => True) (okp := fun _ => True) ?hr ?hp (fun _ hk => hk) trivial (Below.refl _ _) (Nat.le_refl _) (by simp) ?_; (case hd => rfl); (case hg => rfl); (case hr => first | (go_simp; done) | (go_simp; rfl)); (case hp => exact (Reps.c3 (show Kd.M k65 _ _ _ (⟨0, 20, 12⟩ : S65) [.int .i64 0, .int .i64 20, .int .i64 12] from (k65_mkM _ _ _ (⟨0, 20, 12⟩ : S65) )) (Reps.none _ _))); intro v107 w3 ho4 hb hg_ hnew_; clear hg_ hnew_; (first | rw [← Ny106.out] at ho4 | (simp only [Int.reduceToNat] at ho4; rw [← Ny106.out] at ho4)); have n0_ := Aside0.mk (Kd.R_lower ho4 (below_size (by repeat (first | (with_reducible first | exact HB.out | apply below_alloc | apply pw_below_drewN | apply below_drew1) | exact HB.out)))); have n1_ := Aside0.mk (below_step (by repeat (first | (with_reducible first | exact HB.out | apply below_alloc | apply pw_below_drewN | apply below_drew1) | exact HB.out)) hb); clear HB; have HO108 := n0_; have HB := n1_; clear n0_ n1_; clear hb ho4))
    go_ret2
    exact ⟨_, by first | rfl | (simp [errW_none, errW_some] <;> rfl) | (simp [*, errW_none, errW_some] <;> rfl), by (with_reducible repeat (first | apply Kd.R_alloc | apply Kd.R_drewN | apply Kd.R_drew)); exact HO108.out, by repeat (first | (with_reducible first | exact HB.out | apply below_alloc | apply pw_below_drewN | apply below_drew1) | exact HB.out)⟩
  · rw [if_neg c2] at H
    have c2b0 : (a0 == 1) = false := beq_eq_false_iff_ne.mpr c2
    have c2b1 : (a0 != 1) = true := bne_iff_ne.mpr c2
    by_cases c5 : a0 = 2
    · rw [if_pos c5] at H
      have c5b0 : (a0 == 2) = true := beq_iff_eq.mpr c5
      have c5b1 : (a0 != 2) = false := bne_eq_false_iff_eq.mpr c5
      clear c5
      obtain ⟨y109, hy109⟩ : ∃ y_ : List (S65), y_ = (([(⟨0, 7, 5⟩ : S65), (⟨5, 25, 7⟩ : S65)] : List (S65))) := ⟨_, rfl⟩
      replace H : (some (y109, 12)) = some (r1, r2) := by first | (rw [hy109]; with_reducible exact H) | (have H2_ := (Option.bind_some _ _).symm.trans H; rw [hy109]; with_reducible exact H2_) | (have H2_ := (Option.bind_some _ _).symm.trans H; with_reducible exact H2_) | with_reducible exact H | (rw [hy109]; exact H) | exact H
      have Ny109 := Aside0.mk hy109
      clear hy109
      simp only [Option.some.injEq, Prod.mk.injEq] at H
      obtain ⟨rfl, rfl⟩ := H
      go_enter Try.func29, Try.ntmps29
      go_wp2_with (first | ((with_reducible refine gate_dst (N := 13) rfl ?_); refine Kd.R_lit k65 _ 65 ?hg (N := 13) ?hd (xs := ([(⟨0, 7, 5⟩ : S65), (⟨5, 25, 7⟩ : S65)] : List (S65))) (inner := [.int .i64 0, .int .i64 7, .int .i64 5, .int .i64 5, .int .i64 25, .int .i64 7]) (ok := fun _ => True) (okp := fun _ => True) ?hr ?hp (fun _ hk => hk) trivial (Below.refl _ _) (Nat.le_refl _) (by simp) ?_; (case hd => rfl); (case hg => rfl); (case hr => first | (go_simp; done) | (go_simp; rfl)); (case hp => exact (Reps.c3 (show Kd.M k65 _ _ _ (⟨0, 7, 5⟩ : S65) [.int .i64 0, .int .i64 7, .int .i64 5] from (k65_mkM _ _ _ (⟨0, 7, 5⟩ : S65) )) (Reps.c3 (show Kd.M k65 _ _ _ (⟨5, 25, 7⟩ : S65) [.int .i64 5, .int .i64 25, .int .i64 7] from (k65_mkM _ _ _ (⟨5, 25, 7⟩ : S65) )) (Reps.none _ _)))); intro v110 w6 ho7 hb hg_ hnew_; clear hg_ hnew_; (first | rw [← Ny109.out] at ho7 | (simp only [Int.reduceToNat] at ho7; rw [← Ny109.out] at ho7)); have n0_ := Aside0.mk (Kd.R_lower ho7 (below_size (by repeat (first | (with_reducible first | exact HB.out | apply below_alloc | apply pw_below_drewN | apply below_drew1) | exact HB.out)))); have n1_ := Aside0.mk (below_step (by repeat (first | (with_reducible first | exact HB.out | apply below_alloc | apply pw_below_drewN | apply below_drew1) | exact HB.out)) hb); clear HB; have HO111 := n0_; have HB := n1_; clear n0_ n1_; clear hb ho7))
      go_ret2
      exact ⟨_, by first | rfl | (simp [errW_none, errW_some] <;> rfl) | (simp [*, errW_none, errW_some] <;> rfl), by (with_reducible repeat (first | apply Kd.R_alloc | apply Kd.R_drewN | apply Kd.R_drew)); exact HO111.out, by repeat (first | (with_reducible first | exact HB.out | apply below_alloc | apply pw_below_drewN | apply below_drew1) | exact HB.out)⟩
    · rw [if_neg c5] at H
      have c5b0 : (a0 == 2) = false := beq_eq_false_iff_ne.mpr c5
      have c5b1 : (a0 != 2) = true := bne_iff_ne.mpr c5
      by_cases c8 : a0 = 3
      · rw [if_pos c8] at H
        have c8b0 : (a0 == 3) = true := beq_iff_eq.mpr c8
        have c8b1 : (a0 != 3) = false := bne_eq_false_iff_eq.mpr c8
        clear c8
        obtain ⟨y112, hy112⟩ : ∃ y_ : List (S65), y_ = (([(⟨1, 8, 4⟩ : S65), (⟨5, 25, 6⟩ : S65), (⟨11, 7, 1⟩ : S65), (⟨12, 31, 1⟩ : S65)] : List (S65))) := ⟨_, rfl⟩
        replace H : (some (y112, 13)) = some (r1, r2) := by first | (rw [hy112]; with_reducible exact H) | (have H2_ := (Option.bind_some _ _).symm.trans H; rw [hy112]; with_reducible exact H2_) | (have H2_ := (Option.bind_some _ _).symm.trans H; with_reducible exact H2_) | with_reducible exact H | (rw [hy112]; exact H) | exact H
        have Ny112 := Aside0.mk hy112
        clear hy112
        simp only [Option.some.injEq, Prod.mk.injEq] at H
        obtain ⟨rfl, rfl⟩ := H
        go_enter Try.func29, Try.ntmps29
        go_wp2_with (first | ((with_reducible refine gate_dst (N := 20) rfl ?_); refine Kd.R_lit k65 _ 65 ?hg (N := 20) ?hd (xs := ([(⟨1, 8, 4⟩ : S65), (⟨5, 25, 6⟩ : S65), (⟨11, 7, 1⟩ : S65), (⟨12, 31, 1⟩ : S65)] : List (S65))) (inner := [.int .i64 1, .int .i64 8, .int .i64 4, .int .i64 5, .int .i64 25, .int .i64 6, .int .i64 11, .int .i64 7, .int .i64 1, .int .i64 12, .int .i64 31, .int .i64 1]) (ok := fun _ => True) (okp := fun _ => True) ?hr ?hp (fun _ hk => hk) trivial (Below.refl _ _) (Nat.le_refl _) (by simp) ?_; (case hd => rfl); (case hg => rfl); (case hr => first | (go_simp; done) | (go_simp; rfl)); (case hp => exact (Reps.c3 (show Kd.M k65 _ _ _ (⟨1, 8, 4⟩ : S65) [.int .i64 1, .int .i64 8, .int .i64 4] from (k65_mkM _ _ _ (⟨1, 8, 4⟩ : S65) )) (Reps.c3 (show Kd.M k65 _ _ _ (⟨5, 25, 6⟩ : S65) [.int .i64 5, .int .i64 25, .int .i64 6] from (k65_mkM _ _ _ (⟨5, 25, 6⟩ : S65) )) (Reps.c3 (show Kd.M k65 _ _ _ (⟨11, 7, 1⟩ : S65) [.int .i64 11, .int .i64 7, .int .i64 1] from (k65_mkM _ _ _ (⟨11, 7, 1⟩ : S65) )) (Reps.c3 (show Kd.M k65 _ _ _ (⟨12, 31, 1⟩ : S65) [.int .i64 12, .int .i64 31, .int .i64 1] from (k65_mkM _ _ _ (⟨12, 31, 1⟩ : S65) )) (Reps.none _ _)))))); intro v113 w9 ho10 hb hg_ hnew_; clear hg_ hnew_; (first | rw [← Ny112.out] at ho10 | (simp only [Int.reduceToNat] at ho10; rw [← Ny112.out] at ho10)); have n0_ := Aside0.mk (Kd.R_lower ho10 (below_size (by repeat (first | (with_reducible first | exact HB.out | apply below_alloc | apply pw_below_drewN | apply below_drew1) | exact HB.out)))); have n1_ := Aside0.mk (below_step (by repeat (first | (with_reducible first | exact HB.out | apply below_alloc | apply pw_below_drewN | apply below_drew1) | exact HB.out)) hb); clear HB; have HO114 := n0_; have HB := n1_; clear n0_ n1_; clear hb ho10))
        go_ret2
        exact ⟨_, by first | rfl | (simp [errW_none, errW_some] <;> rfl) | (simp [*, errW_none, errW_some] <;> rfl), by (with_reducible repeat (first | apply Kd.R_alloc | apply Kd.R_drewN | apply Kd.R_drew)); exact HO114.out, by repeat (first | (with_reducible first | exact HB.out | apply below_alloc | apply pw_below_drewN | apply below_drew1) | exact HB.out)⟩
      · rw [if_neg c8] at H
        have c8b0 : (a0 == 3) = false := beq_eq_false_iff_ne.mpr c8
        have c8b1 : (a0 != 3) = true := bne_iff_ne.mpr c8
        by_cases c11 : a0 = 4
        · rw [if_pos c11] at H
          have c11b0 : (a0 == 4) = true := beq_iff_eq.mpr c11
          have c11b1 : (a0 != 4) = false := bne_eq_false_iff_eq.mpr c11
          clear c11
          obtain ⟨y115, hy115⟩ : ∃ y_ : List (S65), y_ = (([(⟨0, 12, 20⟩ : S65)] : List (S65))) := ⟨_, rfl⟩
          replace H : (some (y115, 20)) = some (r1, r2) := by first | (rw [hy115]; with_reducible exact H) | (have H2_ := (Option.bind_some _ _).symm.trans H; rw [hy115]; with_reducible exact H2_) | (have H2_ := (Option.bind_some _ _).symm.trans H; with_reducible exact H2_) | with_reducible exact H | (rw [hy115]; exact H) | exact H
          have Ny115 := Aside0.mk hy115
          clear hy115
          simp only [Option.some.injEq, Prod.mk.injEq] at H
          obtain ⟨rfl, rfl⟩ := H
          go_enter Try.func29, Try.ntmps29
          go_wp2_with (first | ((with_reducible refine gate_dst (N := 24) rfl ?_); refine Kd.R_lit k65 _ 65 ?hg (N := 24) ?hd (xs := ([(⟨0, 12, 20⟩ : S65)] : List (S65))) (inner := [.int .i64 0, .int .i64 12, .int .i64 20]) (ok := fun _ => True) (okp := fun _ => True) ?hr ?hp (fun _ hk => hk) trivial (Below.refl _ _) (Nat.le_refl _) (by simp) ?_; (case hd => rfl); (case hg => rfl); (case hr => first | (go_simp; done) | (go_simp; rfl)); (case hp => exact (Reps.c3 (show Kd.M k65 _ _ _ (⟨0, 12, 20⟩ : S65) [.int .i64 0, .int .i64 12, .int .i64 20] from (k65_mkM _ _ _ (⟨0, 12, 20⟩ : S65) )) (Reps.none _ _))); intro v116 w12 ho13 hb hg_ hnew_; clear hg_ hnew_; (first | rw [← Ny115.out] at ho13 | (simp only [Int.reduceToNat] at ho13; rw [← Ny115.out] at ho13)); have n0_ := Aside0.mk (Kd.R_lower ho13 (below_size (by repeat (first | (with_reducible first | exact HB.out | apply below_alloc | apply pw_below_drewN | apply below_drew1) | exact HB.out)))); have n1_ := Aside0.mk (below_step (by repeat (first | (with_reducible first | exact HB.out | apply below_alloc | apply pw_below_drewN | apply below_drew1) | exact HB.out)) hb); clear HB; have HO117 := n0_; have HB := n1_; clear n0_ n1_; clear hb ho13))
          go_ret2
          exact ⟨_, by first | rfl | (simp [errW_none, errW_some] <;> rfl) | (simp [*, errW_none, errW_some] <;> rfl), by (with_reducible repeat (first | apply Kd.R_alloc | apply Kd.R_drewN | apply Kd.R_drew)); exact HO117.out, by repeat (first | (with_reducible first | exact HB.out | apply below_alloc | apply pw_below_drewN | apply below_drew1) | exact HB.out)⟩
        · rw [if_neg c11] at H
          have c11b0 : (a0 == 4) = false := beq_eq_false_iff_ne.mpr c11
          have c11b1 : (a0 != 4) = true := bne_iff_ne.mpr c11
          by_cases c14 : a0 = 5
          · rw [if_pos c14] at H
            have c14b0 : (a0 == 5) = true := beq_iff_eq.mpr c14
            have c14b1 : (a0 != 5) = false := bne_eq_false_iff_eq.mpr c14
            clear c14
            obtain ⟨y118, hy118⟩ : ∃ y_ : List (S65), y_ = (([(⟨1, 21, 10⟩ : S65), (⟨11, 20, 1⟩ : S65), (⟨12, 12, 8⟩ : S65), (⟨20, 31, 1⟩ : S65)] : List (S65))) := ⟨_, rfl⟩
            replace H : (some (y118, 21)) = some (r1, r2) := by first | (rw [hy118]; with_reducible exact H) | (have H2_ := (Option.bind_some _ _).symm.trans H; rw [hy118]; with_reducible exact H2_) | (have H2_ := (Option.bind_some _ _).symm.trans H; with_reducible exact H2_) | with_reducible exact H | (rw [hy118]; exact H) | exact H
            have Ny118 := Aside0.mk hy118
            clear hy118
            simp only [Option.some.injEq, Prod.mk.injEq] at H
            obtain ⟨rfl, rfl⟩ := H
            go_enter Try.func29, Try.ntmps29
            go_wp2_with (first | ((with_reducible refine gate_dst (N := 31) rfl ?_); refine Kd.R_lit k65 _ 65 ?hg (N := 31) ?hd (xs := ([(⟨1, 21, 10⟩ : S65), (⟨11, 20, 1⟩ : S65), (⟨12, 12, 8⟩ : S65), (⟨20, 31, 1⟩ : S65)] : List (S65))) (inner := [.int .i64 1, .int .i64 21, .int .i64 10, .int .i64 11, .int .i64 20, .int .i64 1, .int .i64 12, .int .i64 12, .int .i64 8, .int .i64 20, .int .i64 31, .int .i64 1]) (ok := fun _ => True) (okp := fun _ => True) ?hr ?hp (fun _ hk => hk) trivial (Below.refl _ _) (Nat.le_refl _) (by simp) ?_; (case hd => rfl); (case hg => rfl); (case hr => first | (go_simp; done) | (go_simp; rfl)); (case hp => exact (Reps.c3 (show Kd.M k65 _ _ _ (⟨1, 21, 10⟩ : S65) [.int .i64 1, .int .i64 21, .int .i64 10] from (k65_mkM _ _ _ (⟨1, 21, 10⟩ : S65) )) (Reps.c3 (show Kd.M k65 _ _ _ (⟨11, 20, 1⟩ : S65) [.int .i64 11, .int .i64 20, .int .i64 1] from (k65_mkM _ _ _ (⟨11, 20, 1⟩ : S65) )) (Reps.c3 (show Kd.M k65 _ _ _ (⟨12, 12, 8⟩ : S65) [.int .i64 12, .int .i64 12, .int .i64 8] from (k65_mkM _ _ _ (⟨12, 12, 8⟩ : S65) )) (Reps.c3 (show Kd.M k65 _ _ _ (⟨20, 31, 1⟩ : S65) [.int .i64 20, .int .i64 31, .int .i64 1] from (k65_mkM _ _ _ (⟨20, 31, 1⟩ : S65) )) (Reps.none _ _)))))); intro v119 w15 ho16 hb hg_ hnew_; clear hg_ hnew_; (first | rw [← Ny118.out] at ho16 | (simp only [Int.reduceToNat] at ho16; rw [← Ny118.out] at ho16)); have n0_ := Aside0.mk (Kd.R_lower ho16 (below_size (by repeat (first | (with_reducible first | exact HB.out | apply below_alloc | apply pw_below_drewN | apply below_drew1) | exact HB.out)))); have n1_ := Aside0.mk (below_step (by repeat (first | (with_reducible first | exact HB.out | apply below_alloc | apply pw_below_drewN | apply below_drew1) | exact HB.out)) hb); clear HB; have HO120 := n0_; have HB := n1_; clear n0_ n1_; clear hb ho16))
            go_ret2
            exact ⟨_, by first | rfl | (simp [errW_none, errW_some] <;> rfl) | (simp [*, errW_none, errW_some] <;> rfl), by (with_reducible repeat (first | apply Kd.R_alloc | apply Kd.R_drewN | apply Kd.R_drew)); exact HO120.out, by repeat (first | (with_reducible first | exact HB.out | apply below_alloc | apply pw_below_drewN | apply below_drew1) | exact HB.out)⟩
          · rw [if_neg c14] at H
            have c14b0 : (a0 == 5) = false := beq_eq_false_iff_ne.mpr c14
            have c14b1 : (a0 != 5) = true := bne_iff_ne.mpr c14
            simp only [Option.some.injEq, Prod.mk.injEq] at H
            obtain ⟨rfl, rfl⟩ := H
            go_enter Try.func29, Try.ntmps29
            go_wp2
            go_ret2
            exact ⟨_, by first | rfl | (simp [errW_none, errW_some] <;> rfl) | (simp [*, errW_none, errW_some] <;> rfl), by first | exact Kd.R_nil _ _ _ _ _ | exact Kd.N_nil _ _ _ _ _ | exact Kd.V_nil _ _ _ _ _ | exact Kd.Q_nil _ _ _ _ _ | exact Kd.S_nil _ _ _ _ _, by repeat (first | (with_reducible first | exact HB.out | apply below_alloc | apply pw_below_drewN | apply below_drew1) | exact HB.out)⟩

/-! ### imm_Sign: function 30 -/
def imm_Sign.f (a0 : Int) (a1 : Int) : Option (Int) := if a1 < 1 then (some 0) else (if 0 ≤ (IntKind.u64.wrap (wrap64 (64 - (mn a1 64)))) then (some (shr .i64 (wrap64 (shl .u64 a0 (IntKind.u64.wrap (wrap64 (64 - (mn a1 64)))))) (IntKind.u64.wrap (wrap64 (64 - (mn a1 64)))))) else (none))
set_option maxHeartbeats 8000000 in
set_option maxRecDepth 100000 in
theorem imm_Sign.calls (a0 : Int) (a1 : Int) (r : Int) (w : World) (h : imm_Sign.f a0 a1 = some r) :
    Calls Try.prog 30 #[.int .u64 a0, .int .i64 a1] w fun e w' => e = .returned (.int .i64 r) ∧ Below w.heap.size w w' := by
  have HB := Aside0.mk (Below.refl w.heap.size w)
  have H : (if a1 < 1 then (some 0) else (if 0 ≤ (IntKind.u64.wrap (wrap64 (64 - (mn a1 64)))) then (some (shr .i64 (wrap64 (shl .u64 a0 (IntKind.u64.wrap (wrap64 (64 - (mn a1 64)))))) (IntKind.u64.wrap (wrap64 (64 - (mn a1 64)))))) else (none))) = some r := h
  clear h
  by_cases c3 : a1 < 1
  · rw [if_pos c3] at H
    have c3b0 : decide (a1 < 1) = true := decide_eq_true c3
    clear c3
    obtain rfl := Option.some.inj H
    go_enter Try.func30, Try.ntmps30
    go_wp2
    go_ret
    exact ⟨by first | rfl | (simp [errW_none, errW_some] <;> rfl) | (simp [*, errW_none, errW_some] <;> rfl), by repeat (first | (with_reducible first | exact HB.out | apply below_alloc | apply pw_below_drewN | apply below_drew1) | exact HB.out)⟩
  · rw [if_neg c3] at H
    have c3b0 : decide (a1 < 1) = false := decide_eq_false c3
    clear c3
    obtain ⟨ji4, hji4⟩ : ∃ j_ : Int, (mn a1 64) = j_ := ⟨_, rfl⟩
    replace H : (if 0 ≤ (IntKind.u64.wrap (wrap64 (64 - (ji4)))) then (some (shr .i64 (wrap64 (shl .u64 a0 (IntKind.u64.wrap (wrap64 (64 - (ji4)))))) (IntKind.u64.wrap (wrap64 (64 - (ji4)))))) else (none)) = some r := by first | (rw [hji4] at H; exact H) | (simp only [hji4] at H ⊢; exact H)
    (try (have hji4h : ji4 ≤ 64 := by (rw [← hji4]; unfold mn; (repeat' split) <;> omega)))
    (try (have hji4g : ji4 ≤ 64 := by omega))
    have hji4_ : (if 64 < a1 then 64 else a1) = ji4 := hji4
    obtain ⟨ji5, hji5⟩ : ∃ j_ : Int, (IntKind.u64.wrap (wrap64 (64 - (ji4)))) = j_ := ⟨_, rfl⟩
    replace H : (if 0 ≤ (ji5) then (some (shr .i64 (wrap64 (shl .u64 a0 (ji5))) (ji5))) else (none)) = some r := by first | (rw [hji5] at H; exact H) | (simp only [hji5] at H ⊢; exact H)
    by_cases c6 : 0 ≤ (ji5)
    · rw [if_pos c6] at H
      have c6b0 := eq_true c6
      have c6b1 : decide (0 ≤ (ji5)) = true := decide_eq_true c6
      clear c6
      obtain ⟨ji7, hji7⟩ : ∃ j_ : Int, (shl .u64 a0 (ji5)) = j_ := ⟨_, rfl⟩
      replace H : (some (shr .i64 (wrap64 (ji7)) (ji5))) = some r := by first | (rw [hji7] at H; exact H) | (simp only [hji7] at H ⊢; exact H)
      have hji7_ : (IntKind.u64.wrap (a0 * 2 ^ min (ji5).toNat 64)) = ji7 := hji7
      have hji7z : (ji5) ≤ 64 → (IntKind.u64.wrap (a0 * 2 ^ (ji5).toNat)) = ji7 := shl_small hji7
      have c8b0 := eq_true (of_decide_eq_true (by first | (with_reducible assumption) | assumption) : 0 ≤ (ji5))
      obtain ⟨ji9, hji9⟩ : ∃ j_ : Int, (shr .i64 (wrap64 (ji7)) (ji5)) = j_ := ⟨_, rfl⟩
      replace H : (some ji9) = some r := by first | (rw [hji9] at H; exact H) | (simp only [hji9] at H ⊢; exact H)
      have hji9_ : ((wrap64 (ji7)) / 2 ^ min (ji5).toNat 64) = ji9 := hji9
      have hji9z : (ji5) ≤ 64 → ((wrap64 (ji7)) / 2 ^ (ji5).toNat) = ji9 := shr_small hji9
      obtain rfl := Option.some.inj H
      go_enter Try.func30, Try.ntmps30
      go_wp2
      go_ret
      exact ⟨by first | rfl | (simp [errW_none, errW_some] <;> rfl) | (simp only [← hji4, ← hji5, ← hji7, ← hji9]; first | rfl | (simp [errW_none, errW_some] <;> rfl)) | (simp [*, errW_none, errW_some] <;> rfl), by repeat (first | (with_reducible first | exact HB.out | apply below_alloc | apply pw_below_drewN | apply below_drew1) | exact HB.out)⟩
    · rw [if_neg c6] at H
      exact absurd H (by simp)

/-! ### imm_Get: function 17 -/
def imm_Get.l0 : Nat → Int → Int → Int → List (S65) → Int → Int → Option (Int)
  | 0, _, _, _, _, _, _ => none
  | k + 1, x1, x6, x7, x15, x16, x17 => if x17 < x16 then (if 0 ≤ x17 then (if x17 < (x15.length : Int) then (if 0 ≤ (IntKind.u64.wrap ((rd_T65 x15 x17).f1)) then (if 0 ≤ (IntKind.u64.wrap ((rd_T65 x15 x17).f2)) then (if 0 ≤ (IntKind.u64.wrap ((rd_T65 x15 x17).f0)) then (imm_Get.l0 k x1 x6 (Go.bits .or .u64 x7 (shl .u64 (Go.bits .and .u64 (shr .u64 (IntKind.u64.wrap (x1)) (IntKind.u64.wrap ((rd_T65 x15 x17).f1))) (IntKind.u64.wrap ((shl .u64 1 (IntKind.u64.wrap ((rd_T65 x15 x17).f2))) - 1))) (IntKind.u64.wrap ((rd_T65 x15 x17).f0)))) x15 x16 (wrap64 (x17 + 1))) else (none)) else (none)) else (none)) else (none)) else (none)) else ((imm_Sign.f x7 x6).bind fun t127 => (some t127))
def imm_Get.f (k : Nat) (a0 : Int) (a1 : Int) : Option (Int) := (imm_pieces.f a0).bind fun bt121 => (imm_Get.l0 k a1 bt121.2 0 bt121.1 (bt121.1.length : Int) 0)
theorem imm_Get.mono_l : ∀ k, (∀ y0 y1 y2 y3 y4 y5, LeO (imm_Get.l0 k y0 y1 y2 y3 y4 y5) (imm_Get.l0 (k + 1) y0 y1 y2 y3 y4 y5))
  | 0 => fun _ _ _ _ _ _ r h => by simp [imm_Get.l0] at h
  | k + 1 => by
    have ih0 := imm_Get.mono_l k
    · intro y0 y1 y2 y3 y4 y5
      unfold imm_Get.l0
      repeat' first
      | (with_reducible exact ih0 _ _ _ _ _ _)
      | (with_reducible exact LeO.refl _)
      | (with_reducible exact LeO.none _)
      | (with_reducible refine LeO.ite ?_ ?_)
      | (with_reducible refine LeO.bind ?_ (fun _ => ?_))
      | exact ih0 _ _ _ _ _ _
      | exact LeO.none _
      | refine LeO.ite ?_ ?_
      | refine LeO.bind ?_ (fun _ => ?_)
theorem imm_Get.mono : ∀ a0 a1 k, LeO (imm_Get.f k a0 a1) (imm_Get.f (k + 1) a0 a1) := by
  intro a0 a1 k
  have ih0 := imm_Get.mono_l k
  unfold imm_Get.f
  repeat' first
      | (with_reducible exact ih0 _ _ _ _ _ _)
      | (with_reducible exact LeO.refl _)
      | (with_reducible exact LeO.none _)
      | (with_reducible refine LeO.ite ?_ ?_)
      | (with_reducible refine LeO.bind ?_ (fun _ => ?_))
      | exact ih0 _ _ _ _ _ _
      | exact LeO.none _
      | refine LeO.ite ?_ ?_
      | refine LeO.bind ?_ (fun _ => ?_)
set_option maxHeartbeats 8000000 in
set_option maxRecDepth 100000 in
theorem imm_Get.calls (k : Nat) (a0 : Int) (a1 : Int) (r : Int) (w : World) (h : imm_Get.f k a0 a1 = some r) :
    Calls Try.prog 17 #[.int .i64 a0, .int .u32 a1] w fun e w' => e = .returned (.int .i64 r) ∧ Below w.heap.size w w' := by
  have hu65 := Try.underlying65
  have HB := Aside0.mk (Below.refl w.heap.size w)
  have H : ((imm_pieces.f a0).bind fun bt121 => (imm_Get.l0 k a1 bt121.2 0 bt121.1 (bt121.1.length : Int) 0)) = some r := h
  clear h
  replace H := Option.bind_eq_some_iff.mp H
  obtain ⟨⟨t121, t122⟩, A30, H⟩ := H
  replace H : (imm_Get.l0 k a1 t122 0 t121 (t121.length : Int) 0) = some r := H
  have A3 := Aside0.mk A30
  clear A30
  have H' := Aside0.mk H
  clear H
  go_enter Try.func17, Try.ntmps17
  go_wp2_with (first | ((with_reducible refine gate_callee (f := 29) rfl ?_); refine goesL_ (some 12) rfl rfl Try.func29 (by kernel_rfl) rfl #[.int .i64 a0] rfl (by (try simp only [List.map_toArray, List.map_cons, List.map_nil]); first | done | rfl | (simp only [List.length_drop, List.length_take]; rfl)) ?_; (with_reducible refine (imm_pieces.calls a0 t121 t122 _ A3.out).mono ?_); rintro e w4 ⟨v123, rfl, ho0, hb⟩; refine ⟨_, rfl, ?_⟩; have n0_ := Aside0.mk (Kd.R_lower ho0 (below_size (by repeat (first | (with_reducible first | exact HB.out | apply below_alloc | apply pw_below_drewN | apply below_drew1) | exact HB.out)))); have n1_ := Aside0.mk (below_step (by repeat (first | (with_reducible first | exact HB.out | apply below_alloc | apply pw_below_drewN | apply below_drew1) | exact HB.out)) hb); clear HB; have HO124 := n0_; have HB := n1_; clear n0_ n1_; (try clear hb); (try clear hb2); (try clear hk); (try clear hi); (try clear ho0); obtain ⟨Ao5, co5, eo5⟩ := Kd.R_slice HO124.out; subst eo5))
  go_loopg [7, 17] k (fun kq v7 v17 w' => ∃ (x7_1 : Int) (x17_1 : Int), v7 = .int .u64 x7_1 ∧ v17 = .int .i64 x17_1 ∧ Aside0 (imm_Get.l0 kq a1 t122 x7_1 t121 (t121.length : Int) x17_1 = some r) ∧ Aside0 (kq ≤ k) ∧ Aside0 (Kd.R k65 65 w' w.heap.size (fun _ => True) (.slice Ao5 t121.length co5) t121) ∧ Aside0 (Below w.heap.size w w'))
  case atStart => exact ⟨(0), (0), (by first | rfl | (simp; done) | (simp [*]; done)), (by first | rfl | (simp; done) | (simp [*]; done)), H', ⟨Nat.le_refl _⟩, ⟨by (with_reducible repeat (first | apply Kd.R_alloc | apply Kd.R_drewN | apply Kd.R_drew)); exact HO124.out⟩, ⟨by repeat (first | (with_reducible first | exact HB.out | apply below_alloc | apply pw_below_drewN | apply below_drew1) | exact HB.out)⟩⟩
  case round =>
    clear H'
    try clear c1
    try clear c2
    try clear p2
    obtain ⟨x7_1, x17_1, rfl, rfl, HA, HK1, HO_15, HB⟩ := hrel
    cases gk with
    | zero => exact absurd HA.out (by simp [imm_Get.l0])
    | succ k1 =>
      have H := HA.out
      clear HA
      simp only [imm_Get.l0] at H
      by_cases c6 : x17_1 < (t121.length : Int)
      · rw [if_pos c6] at H
        have c6b0 : decide (x17_1 < (t121.length : Int)) = true := decide_eq_true c6
        clear c6
        by_cases c7 : 0 ≤ x17_1
        · rw [if_pos c7] at H
          have c7b0 : decide (0 ≤ x17_1) = true := decide_eq_true c7
          clear c7
          by_cases c8 : x17_1 < (t121.length : Int)
          · rw [if_pos c8] at H
            have c8b0 : decide (x17_1 < (t121.length : Int)) = true := decide_eq_true c8
            clear c8
            obtain ⟨ji9, hji9⟩ : ∃ j_ : Int, (IntKind.u64.wrap ((rd_T65 t121 x17_1).f1)) = j_ := ⟨_, rfl⟩
            replace H : (if 0 ≤ (ji9) then (if 0 ≤ (IntKind.u64.wrap ((rd_T65 t121 x17_1).f2)) then (if 0 ≤ (IntKind.u64.wrap ((rd_T65 t121 x17_1).f0)) then (imm_Get.l0 k1 a1 t122 (Go.bits .or .u64 x7_1 (shl .u64 (Go.bits .and .u64 (shr .u64 (IntKind.u64.wrap (a1)) (ji9)) (IntKind.u64.wrap ((shl .u64 1 (IntKind.u64.wrap ((rd_T65 t121 x17_1).f2))) - 1))) (IntKind.u64.wrap ((rd_T65 t121 x17_1).f0)))) t121 (t121.length : Int) (wrap64 (x17_1 + 1))) else (none)) else (none)) else (none)) = some r := by first | (rw [hji9] at H; exact H) | (simp only [hji9] at H ⊢; exact H)
            by_cases c10 : 0 ≤ (ji9)
            · rw [if_pos c10] at H
              have c10b0 := eq_true c10
              have c10b1 : decide (0 ≤ (ji9)) = true := decide_eq_true c10
              clear c10
              obtain ⟨ji11, hji11⟩ : ∃ j_ : Int, (shr .u64 (IntKind.u64.wrap (a1)) (ji9)) = j_ := ⟨_, rfl⟩
              replace H : (if 0 ≤ (IntKind.u64.wrap ((rd_T65 t121 x17_1).f2)) then (if 0 ≤ (IntKind.u64.wrap ((rd_T65 t121 x17_1).f0)) then (imm_Get.l0 k1 a1 t122 (Go.bits .or .u64 x7_1 (shl .u64 (Go.bits .and .u64 (ji11) (IntKind.u64.wrap ((shl .u64 1 (IntKind.u64.wrap ((rd_T65 t121 x17_1).f2))) - 1))) (IntKind.u64.wrap ((rd_T65 t121 x17_1).f0)))) t121 (t121.length : Int) (wrap64 (x17_1 + 1))) else (none)) else (none)) = some r := by first | (rw [hji11] at H; exact H) | (simp only [hji11] at H ⊢; exact H)
              have hji11_ : ((IntKind.u64.wrap (a1)) / 2 ^ min (ji9).toNat 64) = ji11 := hji11
              have hji11z : (ji9) ≤ 64 → ((IntKind.u64.wrap (a1)) / 2 ^ (ji9).toNat) = ji11 := shr_small hji11
              obtain ⟨ji12, hji12⟩ : ∃ j_ : Int, (IntKind.u64.wrap ((rd_T65 t121 x17_1).f2)) = j_ := ⟨_, rfl⟩
              replace H : (if 0 ≤ (ji12) then (if 0 ≤ (IntKind.u64.wrap ((rd_T65 t121 x17_1).f0)) then (imm_Get.l0 k1 a1 t122 (Go.bits .or .u64 x7_1 (shl .u64 (Go.bits .and .u64 (ji11) (IntKind.u64.wrap ((shl .u64 1 (ji12)) - 1))) (IntKind.u64.wrap ((rd_T65 t121 x17_1).f0)))) t121 (t121.length : Int) (wrap64 (x17_1 + 1))) else (none)) else (none)) = some r := by first | (rw [hji12] at H; exact H) | (simp only [hji12] at H ⊢; exact H)
              by_cases c13 : 0 ≤ (ji12)
              · rw [if_pos c13] at H
                have c13b0 := eq_true c13
                have c13b1 : decide (0 ≤ (ji12)) = true := decide_eq_true c13
                clear c13
                obtain ⟨ji14, hji14⟩ : ∃ j_ : Int, (shl .u64 1 (ji12)) = j_ := ⟨_, rfl⟩
                replace H : (if 0 ≤ (IntKind.u64.wrap ((rd_T65 t121 x17_1).f0)) then (imm_Get.l0 k1 a1 t122 (Go.bits .or .u64 x7_1 (shl .u64 (Go.bits .and .u64 (ji11) (IntKind.u64.wrap ((ji14) - 1))) (IntKind.u64.wrap ((rd_T65 t121 x17_1).f0)))) t121 (t121.length : Int) (wrap64 (x17_1 + 1))) else (none)) = some r := by first | (rw [hji14] at H; exact H) | (simp only [hji14] at H ⊢; exact H)
                have hji14_ : (IntKind.u64.wrap (1 * 2 ^ min (ji12).toNat 64)) = ji14 := hji14
                have hji14z : (ji12) ≤ 64 → (IntKind.u64.wrap (1 * 2 ^ (ji12).toNat)) = ji14 := shl_small hji14
                have hji14u : (IntKind.u64.wrap (2 ^ min (ji12).toNat 64)) = ji14 := by have h_ := hji14_; rw [Int.one_mul] at h_; exact h_
                have hji14v : (ji12) ≤ 64 → (IntKind.u64.wrap (2 ^ (ji12).toNat)) = ji14 := fun hle_ => by have h_ := hji14z hle_; rw [Int.one_mul] at h_; exact h_
                obtain ⟨ji15, hji15⟩ : ∃ j_ : Int, (IntKind.u64.wrap ((rd_T65 t121 x17_1).f0)) = j_ := ⟨_, rfl⟩
                replace H : (if 0 ≤ (ji15) then (imm_Get.l0 k1 a1 t122 (Go.bits .or .u64 x7_1 (shl .u64 (Go.bits .and .u64 (ji11) (IntKind.u64.wrap ((ji14) - 1))) (ji15))) t121 (t121.length : Int) (wrap64 (x17_1 + 1))) else (none)) = some r := by first | (rw [hji15] at H; exact H) | (simp only [hji15] at H ⊢; exact H)
                by_cases c16 : 0 ≤ (ji15)
                · rw [if_pos c16] at H
                  have c16b0 := eq_true c16
                  have c16b1 : decide (0 ≤ (ji15)) = true := decide_eq_true c16
                  clear c16
                  obtain ⟨ji17, hji17⟩ : ∃ j_ : Int, (shl .u64 (Go.bits .and .u64 (ji11) (IntKind.u64.wrap ((ji14) - 1))) (ji15)) = j_ := ⟨_, rfl⟩
                  replace H : (imm_Get.l0 k1 a1 t122 (Go.bits .or .u64 x7_1 (ji17)) t121 (t121.length : Int) (wrap64 (x17_1 + 1))) = some r := by first | (rw [hji17] at H; exact H) | (simp only [hji17] at H ⊢; exact H)
                  have hji17_ : (IntKind.u64.wrap ((Go.bits .and .u64 (ji11) (IntKind.u64.wrap ((ji14) - 1))) * 2 ^ min (ji15).toNat 64)) = ji17 := hji17
                  have hji17z : (ji15) ≤ 64 → (IntKind.u64.wrap ((Go.bits .and .u64 (ji11) (IntKind.u64.wrap ((ji14) - 1))) * 2 ^ (ji15).toNat)) = ji17 := shl_small hji17
                  have H' := Aside0.mk H
                  clear H
                  have p125 : 0 ≤ (x17_1 : Int) := of_decide_eq_true (by first | (with_reducible assumption) | assumption)
                  have q125 : x17_1 < (t121.length : Int) := of_decide_eq_true (by first | (with_reducible assumption) | assumption)
                  obtain ⟨ad125, e125, hx125_0, hx125_1, hx125_2⟩ := at_T65 (Kd.R_reads' HO_15.out).2.2 x17_1 p125 q125
                  cases e125
                  replace p125 := eq_true p125
                  replace q125 := eq_true q125
                  go_wp2_with (first | ((with_reducible refine gate_dst (N := 9) rfl ?_); refine box_event ?hg (N := 9) ?hd (cs := #[.int .i64 0, .int .i64 0, .int .i64 0]) (t := 65) ?hr ?_; (case hd => rfl); (case hg => rfl); (case hr => first | (go_simp; done) | (go_simp; rfl)); intro gb126 hg w18 hbox hb; have n0_ := Aside0.mk (Kd.R_below (Kd.R_elderB (by (with_reducible repeat (first | apply Kd.R_alloc | apply Kd.R_drewN | apply Kd.R_drew)); exact HO_15.out) gb126 (Nat.le_of_eq hg.symm)) hb); have n1_ := Aside0.mk (below_step (by repeat (first | (with_reducible first | exact HB.out | apply below_alloc | apply pw_below_drewN | apply below_drew1) | exact HB.out)) hb); have n2_ := Aside0.mk (hbox); have n3_ := Aside0.mk ((by rw [hg]; exact (below_size (by repeat (first | (with_reducible first | exact HB.out | apply below_alloc | apply pw_below_drewN | apply below_drew1) | exact HB.out))) : w.heap.size ≤ gb126)); have n4_ := Aside0.mk ((by rw [hg]; exact (below_size (by repeat (first | (with_reducible first | exact HB.out | apply below_alloc | apply pw_below_drewN | apply below_drew1) | exact HB.out))) : w.heap.size ≤ gb126)); clear HO_15; clear HB; have HO_15 := n0_; have HB := n1_; have BK126 := n2_; have GW126 := n3_; have GE126 := n4_; clear n0_ n1_ n2_ n3_ n4_; clear hb hbox hg; have hcz19_0 : w18.cell? ⟨gb126, 0, none⟩ = some (.int .i64 0) := (blk_cell BK126.out 0).trans rfl; have hcz19_1 : w18.cell? ⟨gb126, 1, none⟩ = some (.int .i64 0) := (blk_cell BK126.out 1).trans rfl; have hcz19_2 : w18.cell? ⟨gb126, 2, none⟩ = some (.int .i64 0) := (blk_cell BK126.out 2).trans rfl; have hfz19_0 := blk_frozen BK126.out 0; have hfz19_1 := blk_frozen BK126.out 1; have hfz19_2 := blk_frozen BK126.out 2))
                  go_roundg k1
                  case measure => have := HK1.out; omega
                  case rel => exact ⟨(Go.bits .or .u64 x7_1 (ji17)), (wrap64 (x17_1 + 1)), (by first | rfl | (simp; done) | (simp only [← hji17] <;> (first | rfl | simp)) | (simp [*]; done)), (by first | rfl | (simp; done) | (simp [*]; done)), H', ⟨by have := HK1.out; omega⟩, ⟨by (with_reducible repeat (first | apply Kd.R_alloc | apply Kd.R_drewN | apply Kd.R_drew)); exact Kd.R_mono (Kd.R_far (p := ⟨gb126, 2, none⟩) (Kd.R_far (p := ⟨gb126, 1, none⟩) (Kd.R_far (p := ⟨gb126, 0, none⟩) (Kd.R_mono HO_15.out (fun k_ hk => (⟨hk, hk.2⟩ : _ ∧ k_ ≠ gb126))) (fun _ hk => hk.2) (.int .i64 ((rd_T65 t121 x17_1).f0))) (fun _ hk => hk.2) (.int .i64 ((rd_T65 t121 x17_1).f1))) (fun _ hk => hk.2) (.int .i64 ((rd_T65 t121 x17_1).f2))) (fun _ hk => trivial)⟩, ⟨by repeat (first | (with_reducible first | exact HB.out | apply below_alloc | apply pw_below_drewN | apply below_drew1 | refine below_set ?_ GE126.out) | exact HB.out)⟩⟩
                · rw [if_neg c16] at H
                  exact absurd H (by simp)
              · rw [if_neg c13] at H
                exact absurd H (by simp)
            · rw [if_neg c10] at H
              exact absurd H (by simp)
          · rw [if_neg c8] at H
            exact absurd H (by simp)
        · rw [if_neg c7] at H
          exact absurd H (by simp)
      · rw [if_neg c6] at H
        have c6b0 : decide (x17_1 < (t121.length : Int)) = false := decide_eq_false c6
        clear c6
        replace H := Option.bind_eq_some_iff.mp H
        obtain ⟨t127, A200, H⟩ := H
        replace H : (some t127) = some r := H
        have A20 := Aside0.mk A200
        clear A200
        obtain rfl := Option.some.inj H
        go_wp2_with (first | ((with_reducible refine gate_callee (f := 30) rfl ?_); refine goesL_ (some 42) rfl rfl Try.func30 (by kernel_rfl) rfl #[.int .u64 x7_1, .int .i64 t122] rfl (by (try simp only [List.map_toArray, List.map_cons, List.map_nil]); first | done | rfl | (simp only [List.length_drop, List.length_take]; rfl)) ?_; (with_reducible refine (imm_Sign.calls x7_1 t122 t127 _ A20.out).mono ?_); rintro e w21 ⟨rfl, hb⟩; refine ⟨_, rfl, ?_⟩; have n0_ := Aside0.mk (Kd.R_below (by (with_reducible repeat (first | apply Kd.R_alloc | apply Kd.R_drewN | apply Kd.R_drew)); exact HO_15.out) hb); have n1_ := Aside0.mk (below_step (by repeat (first | (with_reducible first | exact HB.out | apply below_alloc | apply pw_below_drewN | apply below_drew1) | exact HB.out)) hb); clear HO_15; clear HB; have HO_15 := n0_; have HB := n1_; clear n0_ n1_; (try clear hb); (try clear hb2); (try clear hk); (try clear hi)))
        go_ret
        exact ⟨by first | rfl | (simp [errW_none, errW_some] <;> rfl) | (simp [*, errW_none, errW_some] <;> rfl), by repeat (first | (with_reducible first | exact HB.out | apply below_alloc | apply pw_below_drewN | apply below_drew1) | exact HB.out)⟩

end Go.Proofs.Ytlpphlfbdicaaaa.QInstNames
