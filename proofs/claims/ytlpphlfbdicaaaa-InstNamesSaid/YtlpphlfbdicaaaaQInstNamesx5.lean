/- Contracts of what a law reaches, each function as a plain Lean function: written by a program of this claim's repo (myprint.py); conditions: those of each theorem. -/
import Derived.Test.YtlpphlfbdicaaaaQInstNamesx0
import Derived.Test.YtlpphlfbdicaaaaQInstNamesx4
namespace Go.Proofs.Ytlpphlfbdicaaaa.QInstNames
open Go.RowKit Go.Proofs.YtlpphlfbdicaaaaW.PrintWords Go.Proofs.YtlpphlfbdicaaaaW.PrintLast Go.Proofs.YtlpphlfbdicaaaaW.PrintMore
attribute [local go_sem] max2_int min2_int max_two min_two max_three min_three max_four min_four   -- for this text's walks alone
set_option linter.unusedVariables false
set_option linter.unusedSimpArgs false

/-! ### inst_Encode: function 9 -/
mutual
def inst_Encode.j0 : Nat → Int → Bool → Int → Int → Int → Int → Int → Int → Int → ByteArray → Int → Int → Int → Bool → Bool → Option (Int × Bool)
  | 0, _, _, _, _, _, _, _, _, _, _, _, _, _, _, _ => none
  | k + 1, x6, x34, x148000, x148001, x148002, x148003, x148004, x158000, x158001, x158002, x158003, x158004, x158005, x158006, x158007 => if x34 = true then (inst_Encode.j1 k (Go.bits .or .u32 x6 ((x158004 * 4096) % 4294967296)) x148000 x148001 x148002 x148003 x148004 x158000 x158001 x158002 x158003 x158004 x158005 x158006 x158007) else (inst_Encode.j1 k x6 x148000 x148001 x148002 x148003 x148004 x158000 x158001 x158002 x158003 x158004 x158005 x158006 x158007)
def inst_Encode.j1 : Nat → Int → Int → Int → Int → Int → Int → Int → Int → ByteArray → Int → Int → Int → Bool → Bool → Option (Int × Bool)
  | 0, _, _, _, _, _, _, _, _, _, _, _, _, _, _ => none
  | k + 1, x6, x148000, x148001, x148002, x148003, x148004, x158000, x158001, x158002, x158003, x158004, x158005, x158006, x158007 => (some (([x148001, x148002, x148003] : List Int) : List Int)).bind fun y158 => (inst_Encode.l0 k x6 y158 (y158.length : Int) 0 x148000 x148001 x148002 x148003 x148004 x158000 x158001 x158002 x158003 x158004 x158005 x158006 x158007)
def inst_Encode.l0 : Nat → Int → List Int → Int → Int → Int → Int → Int → Int → Int → Int → Int → ByteArray → Int → Int → Int → Bool → Bool → Option (Int × Bool)
  | 0, _, _, _, _, _, _, _, _, _, _, _, _, _, _, _, _, _ => none
  | k + 1, x6, x46, x47, x48, x148000, x148001, x148002, x148003, x148004, x158000, x158001, x158002, x158003, x158004, x158005, x158006, x158007 => if x48 < x47 then (if 0 ≤ x48 then (if x48 < (x46.length : Int) then ((inst_has.f x158001 x48).bind fun t162 => (if t162 = true then (if (rd x46 x48) < 0 then (some (0, false)) else (if (rd x46 x48) > 31 then (some (0, false)) else ((some (([7, 15, 20] : List Int) : List Int)).bind fun y163 => (if x48 < (y163.length : Int) then (if 0 ≤ (rd y163 x48) then (inst_Encode.l0 k (Go.bits .or .u32 x6 (shl .u32 ((rd x46 x48) % 4294967296) (rd y163 x48))) x46 x47 (wrap64 (x48 + 1)) x148000 x148001 x148002 x148003 x148004 x158000 x158001 x158002 x158003 x158004 x158005 x158006 x158007) else (none)) else (none))))) else (inst_Encode.l0 k x6 x46 x47 (wrap64 (x48 + 1)) x148000 x148001 x148002 x148003 x148004 x158000 x158001 x158002 x158003 x158004 x158005 x158006 x158007))) else (none)) else (none)) else (if x158006 = true then (if x158007 = true then (if x148004 < 0 then (some (0, false)) else (if x148004 > 63 then (some (0, false)) else (some (Go.bits .or .u32 (Go.bits .or .u32 x6 ((x158005 * 33554432) % 4294967296)) ((((x148004) % 4294967296) * 1048576) % 4294967296), true)))) else (if x148004 < 0 then (some (0, false)) else (if x148004 > 31 then (some (0, false)) else (some (Go.bits .or .u32 (Go.bits .or .u32 x6 ((x158005 * 33554432) % 4294967296)) ((((x148004) % 4294967296) * 1048576) % 4294967296), true))))) else (if x158001 = 0 then ((imm_Put.f k x158001 (Go.bits .or .u32 x6 ((x158005 * 33554432) % 4294967296)) x148004).bind fun bt167 => (some (bt167.1, bt167.2))) else ((imm_Put.f k x158001 x6 x148004).bind fun bt169 => (some (bt169.1, bt169.2)))))
end
def inst_Encode.f (k : Nat) (a0_0 : Int) (a0_1 : Int) (a0_2 : Int) (a0_3 : Int) (a0_4 : Int) : Option (Int × Bool) := (inst_find.f a0_0).bind fun bt148 => (if bt148.2.2.2.2.2.2.2.2 = true then (if bt148.2.1 = 6 then (some (bt148.2.2.2.1, true)) else (if bt148.2.1 = 4 then (inst_Encode.j0 k bt148.2.2.2.1 false a0_0 a0_1 a0_2 a0_3 a0_4 bt148.1 bt148.2.1 bt148.2.2.1 bt148.2.2.2.1 bt148.2.2.2.2.1 bt148.2.2.2.2.2.1 bt148.2.2.2.2.2.2.1 bt148.2.2.2.2.2.2.2.1) else (inst_Encode.j0 k bt148.2.2.2.1 (bt148.2.1 != 5) a0_0 a0_1 a0_2 a0_3 a0_4 bt148.1 bt148.2.1 bt148.2.2.1 bt148.2.2.2.1 bt148.2.2.2.2.1 bt148.2.2.2.2.2.1 bt148.2.2.2.2.2.2.1 bt148.2.2.2.2.2.2.2.1))) else (some (0, false)))
theorem inst_Encode.mono_l : ∀ k, (∀ y0 y1 y2 y3 y4 y5 y6 y7 y8 y9 y10 y11 y12 y13 y14, LeO (inst_Encode.j0 k y0 y1 y2 y3 y4 y5 y6 y7 y8 y9 y10 y11 y12 y13 y14) (inst_Encode.j0 (k + 1) y0 y1 y2 y3 y4 y5 y6 y7 y8 y9 y10 y11 y12 y13 y14)) ∧ (∀ y0 y1 y2 y3 y4 y5 y6 y7 y8 y9 y10 y11 y12 y13, LeO (inst_Encode.j1 k y0 y1 y2 y3 y4 y5 y6 y7 y8 y9 y10 y11 y12 y13) (inst_Encode.j1 (k + 1) y0 y1 y2 y3 y4 y5 y6 y7 y8 y9 y10 y11 y12 y13)) ∧ (∀ y0 y1 y2 y3 y4 y5 y6 y7 y8 y9 y10 y11 y12 y13 y14 y15 y16, LeO (inst_Encode.l0 k y0 y1 y2 y3 y4 y5 y6 y7 y8 y9 y10 y11 y12 y13 y14 y15 y16) (inst_Encode.l0 (k + 1) y0 y1 y2 y3 y4 y5 y6 y7 y8 y9 y10 y11 y12 y13 y14 y15 y16))
  | 0 => ⟨fun _ _ _ _ _ _ _ _ _ _ _ _ _ _ _ r h => by simp [inst_Encode.j0] at h, fun _ _ _ _ _ _ _ _ _ _ _ _ _ _ r h => by simp [inst_Encode.j1] at h, fun _ _ _ _ _ _ _ _ _ _ _ _ _ _ _ _ _ r h => by simp [inst_Encode.l0] at h⟩
  | k + 1 => by
    obtain ⟨ih0, ih1, ih2⟩ := inst_Encode.mono_l k
    refine ⟨?_, ?_, ?_⟩
    · intro y0 y1 y2 y3 y4 y5 y6 y7 y8 y9 y10 y11 y12 y13 y14
      unfold inst_Encode.j0
      repeat' first
      | (with_reducible exact ih0 _ _ _ _ _ _ _ _ _ _ _ _ _ _ _)
      | (with_reducible exact ih1 _ _ _ _ _ _ _ _ _ _ _ _ _ _)
      | (with_reducible exact ih2 _ _ _ _ _ _ _ _ _ _ _ _ _ _ _ _ _)
      | (with_reducible exact imm_Put.mono _ _ _ _)
      | (with_reducible exact LeO.refl _)
      | (with_reducible exact LeO.none _)
      | (with_reducible refine LeO.ite ?_ ?_)
      | (with_reducible refine LeO.bind ?_ (fun _ => ?_))
      | exact ih0 _ _ _ _ _ _ _ _ _ _ _ _ _ _ _
      | exact ih1 _ _ _ _ _ _ _ _ _ _ _ _ _ _
      | exact ih2 _ _ _ _ _ _ _ _ _ _ _ _ _ _ _ _ _
      | exact imm_Put.mono _ _ _ _
      | exact LeO.none _
      | refine LeO.ite ?_ ?_
      | refine LeO.bind ?_ (fun _ => ?_)
    · intro y0 y1 y2 y3 y4 y5 y6 y7 y8 y9 y10 y11 y12 y13
      unfold inst_Encode.j1
      repeat' first
      | (with_reducible exact ih0 _ _ _ _ _ _ _ _ _ _ _ _ _ _ _)
      | (with_reducible exact ih1 _ _ _ _ _ _ _ _ _ _ _ _ _ _)
      | (with_reducible exact ih2 _ _ _ _ _ _ _ _ _ _ _ _ _ _ _ _ _)
      | (with_reducible exact imm_Put.mono _ _ _ _)
      | (with_reducible exact LeO.refl _)
      | (with_reducible exact LeO.none _)
      | (with_reducible refine LeO.ite ?_ ?_)
      | (with_reducible refine LeO.bind ?_ (fun _ => ?_))
      | exact ih0 _ _ _ _ _ _ _ _ _ _ _ _ _ _ _
      | exact ih1 _ _ _ _ _ _ _ _ _ _ _ _ _ _
      | exact ih2 _ _ _ _ _ _ _ _ _ _ _ _ _ _ _ _ _
      | exact imm_Put.mono _ _ _ _
      | exact LeO.none _
      | refine LeO.ite ?_ ?_
      | refine LeO.bind ?_ (fun _ => ?_)
    · intro y0 y1 y2 y3 y4 y5 y6 y7 y8 y9 y10 y11 y12 y13 y14 y15 y16
      unfold inst_Encode.l0
      repeat' first
      | (with_reducible exact ih0 _ _ _ _ _ _ _ _ _ _ _ _ _ _ _)
      | (with_reducible exact ih1 _ _ _ _ _ _ _ _ _ _ _ _ _ _)
      | (with_reducible exact ih2 _ _ _ _ _ _ _ _ _ _ _ _ _ _ _ _ _)
      | (with_reducible exact imm_Put.mono _ _ _ _)
      | (with_reducible exact LeO.refl _)
      | (with_reducible exact LeO.none _)
      | (with_reducible refine LeO.ite ?_ ?_)
      | (with_reducible refine LeO.bind ?_ (fun _ => ?_))
      | exact ih0 _ _ _ _ _ _ _ _ _ _ _ _ _ _ _
      | exact ih1 _ _ _ _ _ _ _ _ _ _ _ _ _ _
      | exact ih2 _ _ _ _ _ _ _ _ _ _ _ _ _ _ _ _ _
      | exact imm_Put.mono _ _ _ _
      | exact LeO.none _
      | refine LeO.ite ?_ ?_
      | refine LeO.bind ?_ (fun _ => ?_)
theorem inst_Encode.mono : ∀ a0 a1 a2 a3 a4 k, LeO (inst_Encode.f k a0 a1 a2 a3 a4) (inst_Encode.f (k + 1) a0 a1 a2 a3 a4) := by
  intro a0 a1 a2 a3 a4 k
  obtain ⟨ih0, ih1, ih2⟩ := inst_Encode.mono_l k
  unfold inst_Encode.f
  repeat' first
      | (with_reducible exact ih0 _ _ _ _ _ _ _ _ _ _ _ _ _ _ _)
      | (with_reducible exact ih1 _ _ _ _ _ _ _ _ _ _ _ _ _ _)
      | (with_reducible exact ih2 _ _ _ _ _ _ _ _ _ _ _ _ _ _ _ _ _)
      | (with_reducible exact imm_Put.mono _ _ _ _)
      | (with_reducible exact LeO.refl _)
      | (with_reducible exact LeO.none _)
      | (with_reducible refine LeO.ite ?_ ?_)
      | (with_reducible refine LeO.bind ?_ (fun _ => ?_))
      | exact ih0 _ _ _ _ _ _ _ _ _ _ _ _ _ _ _
      | exact ih1 _ _ _ _ _ _ _ _ _ _ _ _ _ _
      | exact ih2 _ _ _ _ _ _ _ _ _ _ _ _ _ _ _ _ _
      | exact imm_Put.mono _ _ _ _
      | exact LeO.none _
      | refine LeO.ite ?_ ?_
      | refine LeO.bind ?_ (fun _ => ?_)
set_option maxHeartbeats 8000000 in
set_option maxRecDepth 100000 in
theorem inst_Encode.calls (k : Nat) (a0_0 : Int) (a0_1 : Int) (a0_2 : Int) (a0_3 : Int) (a0_4 : Int) (r1 : Int) (r2 : Bool) (w : World) (h : inst_Encode.f k a0_0 a0_1 a0_2 a0_3 a0_4 = some (r1, r2)) :
    Calls Try.prog 9 #[.agg #[.int .i64 a0_0, .int .i64 a0_1, .int .i64 a0_2, .int .i64 a0_3, .int .i64 a0_4]] w fun e w' => e = .returned (.tuple #[.int .u32 r1, .bool r2]) ∧ Below w.heap.size w w' := by
  have hu25 := Try.underlying25
  have hu42 := Try.underlying42
  have HB := Aside0.mk (Below.refl w.heap.size w)
  have H : ((inst_find.f a0_0).bind fun bt148 => (if bt148.2.2.2.2.2.2.2.2 = true then (if bt148.2.1 = 6 then (some (bt148.2.2.2.1, true)) else (if bt148.2.1 = 4 then (inst_Encode.j0 k bt148.2.2.2.1 false a0_0 a0_1 a0_2 a0_3 a0_4 bt148.1 bt148.2.1 bt148.2.2.1 bt148.2.2.2.1 bt148.2.2.2.2.1 bt148.2.2.2.2.2.1 bt148.2.2.2.2.2.2.1 bt148.2.2.2.2.2.2.2.1) else (inst_Encode.j0 k bt148.2.2.2.1 (bt148.2.1 != 5) a0_0 a0_1 a0_2 a0_3 a0_4 bt148.1 bt148.2.1 bt148.2.2.1 bt148.2.2.2.1 bt148.2.2.2.2.1 bt148.2.2.2.2.2.1 bt148.2.2.2.2.2.2.1 bt148.2.2.2.2.2.2.2.1))) else (some (0, false)))) = some (r1, r2) := h
  clear h
  replace H := Option.bind_eq_some_iff.mp H
  obtain ⟨⟨t148, t149, t150, t151, t152, t153, t154, t155, t156⟩, A20, H⟩ := H
  replace H : (if t156 = true then (if t149 = 6 then (some (t151, true)) else (if t149 = 4 then (inst_Encode.j0 k t151 false a0_0 a0_1 a0_2 a0_3 a0_4 t148 t149 t150 t151 t152 t153 t154 t155) else (inst_Encode.j0 k t151 (t149 != 5) a0_0 a0_1 a0_2 a0_3 a0_4 t148 t149 t150 t151 t152 t153 t154 t155))) else (some (0, false))) = some (r1, r2) := H
  have A2 := Aside0.mk A20
  clear A20
  by_cases c3 : t156 = true
  · subst c3
    have H1 : (if t149 = 6 then (some (t151, true)) else (if t149 = 4 then (inst_Encode.j0 k t151 false a0_0 a0_1 a0_2 a0_3 a0_4 t148 t149 t150 t151 t152 t153 t154 t155) else (inst_Encode.j0 k t151 (t149 != 5) a0_0 a0_1 a0_2 a0_3 a0_4 t148 t149 t150 t151 t152 t153 t154 t155))) = some (r1, r2) := by rw [if_pos rfl] at H; exact H
    clear H
    have H := H1
    clear H1
    by_cases c4 : t149 = 6
    · rw [if_pos c4] at H
      have c4b0 : (t149 == 6) = true := beq_iff_eq.mpr c4
      have c4b1 : (t149 != 6) = false := bne_eq_false_iff_eq.mpr c4
      clear c4
      simp only [Option.some.injEq, Prod.mk.injEq] at H
      obtain ⟨rfl, rfl⟩ := H
      go_enter Try.func9, Try.ntmps9
      go_wp2_with (first | ((with_reducible refine gate_dst (N := 1) rfl ?_); refine box_event ?hg (N := 1) ?hd (cs := #[.int .i64 a0_0, .int .i64 a0_1, .int .i64 a0_2, .int .i64 a0_3, .int .i64 a0_4]) (t := 25) ?hr ?_; (case hd => rfl); (case hg => rfl); (case hr => first | (go_simp; done) | (go_simp; rfl)); intro gb147 hg w5 hbox hb; have n0_ := Aside0.mk (below_step (by repeat (first | (with_reducible first | exact HB.out | apply below_alloc | apply pw_below_drewN | apply below_drew1) | exact HB.out)) hb); have n1_ := Aside0.mk (hbox); have n2_ := Aside0.mk ((by rw [hg]; exact (below_size (by repeat (first | (with_reducible first | exact HB.out | apply below_alloc | apply pw_below_drewN | apply below_drew1) | exact HB.out))) : w.heap.size ≤ gb147)); have n3_ := Aside0.mk ((by rw [hg]; exact (below_size (by repeat (first | (with_reducible first | exact HB.out | apply below_alloc | apply pw_below_drewN | apply below_drew1) | exact HB.out))) : w.heap.size ≤ gb147)); clear HB; have HB := n0_; have BK147 := n1_; have GW147 := n2_; have GE147 := n3_; clear n0_ n1_ n2_ n3_; clear hb hbox hg; have hcz6_0 : w5.cell? ⟨gb147, 0, none⟩ = some (.int .i64 a0_0) := (blk_cell BK147.out 0).trans rfl; have hcz6_1 : w5.cell? ⟨gb147, 1, none⟩ = some (.int .i64 a0_1) := (blk_cell BK147.out 1).trans rfl; have hcz6_2 : w5.cell? ⟨gb147, 2, none⟩ = some (.int .i64 a0_2) := (blk_cell BK147.out 2).trans rfl; have hcz6_3 : w5.cell? ⟨gb147, 3, none⟩ = some (.int .i64 a0_3) := (blk_cell BK147.out 3).trans rfl; have hcz6_4 : w5.cell? ⟨gb147, 4, none⟩ = some (.int .i64 a0_4) := (blk_cell BK147.out 4).trans rfl; have hfz6_0 := blk_frozen BK147.out 0; have hfz6_1 := blk_frozen BK147.out 1; have hfz6_2 := blk_frozen BK147.out 2; have hfz6_3 := blk_frozen BK147.out 3; have hfz6_4 := blk_frozen BK147.out 4) | ((with_reducible refine gate_callee (f := 26) rfl ?_); refine goesL_ (some 13) rfl rfl Try.func26 (by kernel_rfl) rfl #[.int .i64 a0_0] rfl (by (try simp only [List.map_toArray, List.map_cons, List.map_nil]); first | done | rfl | (simp only [List.length_drop, List.length_take]; rfl)) ?_; (with_reducible refine (inst_find.calls a0_0 t148 t149 t150 t151 t152 t153 t154 t155 true _ A2.out).mono ?_); rintro e w7 ⟨rfl, hb⟩; refine ⟨_, rfl, ?_⟩; have n0_ := Aside0.mk (blk_below (g := gb147) (o := .cells #[.int .i64 a0_0, .int .i64 a0_1, .int .i64 a0_2, .int .i64 a0_3, .int .i64 a0_4] 25 (0, 0)) (by (with_reducible repeat (first | refine blk_drewN ?_ _ | refine blk_drew ?_ | refine blk_alloc ?_ _)); exact BK147.out) hb); have n1_ := Aside0.mk (below_step (by repeat (first | (with_reducible first | exact HB.out | apply below_alloc | apply pw_below_drewN | apply below_drew1 | refine below_set ?_ GE147.out) | exact HB.out)) hb); clear BK147; clear HB; have BK147 := n0_; have HB := n1_; clear n0_ n1_; (try clear hb); (try clear hb2); (try clear hk); (try clear hi)) | ((with_reducible refine gate_dst (N := 4) rfl ?_); refine box_event ?hg (N := 4) ?hd (cs := #[.int .i64 0, .int .i64 0, .string (⟨#[]⟩ : ByteArray), .int .u32 0, .int .u32 0, .int .u32 0, .bool false, .bool false]) (t := 42) ?hr ?_; (case hd => rfl); (case hg => rfl); (case hr => first | (go_simp; done) | (go_simp; rfl)); intro gb157 hg w8 hbox hb; have n0_ := Aside0.mk (blk_below (g := gb147) (o := .cells #[.int .i64 a0_0, .int .i64 a0_1, .int .i64 a0_2, .int .i64 a0_3, .int .i64 a0_4] 25 (0, 0)) (by (with_reducible repeat (first | refine blk_drewN ?_ _ | refine blk_drew ?_ | refine blk_alloc ?_ _)); exact BK147.out) hb); have n1_ := Aside0.mk (below_step (by repeat (first | (with_reducible first | exact HB.out | apply below_alloc | apply pw_below_drewN | apply below_drew1 | refine below_set ?_ GE147.out) | exact HB.out)) hb); have n2_ := Aside0.mk (hbox); have n3_ := Aside0.mk ((by rw [hg]; exact (below_size (by repeat (first | (with_reducible first | exact HB.out | apply below_alloc | apply pw_below_drewN | apply below_drew1 | refine below_set ?_ GE147.out) | exact HB.out))) : w.heap.size ≤ gb157)); have n4_ := Aside0.mk ((by rw [hg]; exact (below_size (by repeat (first | (with_reducible first | exact HB.out | apply below_alloc | apply pw_below_drewN | apply below_drew1 | refine below_set ?_ GE147.out) | exact HB.out))) : w.heap.size ≤ gb157)); have n5_ := Aside0.mk ((by rw [hg]; exact Nat.ne_of_lt (blk_lt (g := gb147) (o := .cells #[.int .i64 a0_0, .int .i64 a0_1, .int .i64 a0_2, .int .i64 a0_3, .int .i64 a0_4] 25 (0, 0)) (by (with_reducible repeat (first | refine blk_drewN ?_ _ | refine blk_drew ?_ | refine blk_alloc ?_ _)); exact BK147.out)) : gb147 ≠ gb157)); have n6_ := Aside0.mk ((by rw [hg]; exact Nat.ne_of_gt (blk_lt (g := gb147) (o := .cells #[.int .i64 a0_0, .int .i64 a0_1, .int .i64 a0_2, .int .i64 a0_3, .int .i64 a0_4] 25 (0, 0)) (by (with_reducible repeat (first | refine blk_drewN ?_ _ | refine blk_drew ?_ | refine blk_alloc ?_ _)); exact BK147.out)) : gb157 ≠ gb147)); clear BK147; clear HB; have BK147 := n0_; have HB := n1_; have BK157 := n2_; have GW157 := n3_; have GE157 := n4_; have NB147_157 := n5_; have NB157_147 := n6_; clear n0_ n1_ n2_ n3_ n4_ n5_ n6_; clear hb hbox hg; have hnb9 := NB157_147.out; have hnc9 := NB147_157.out; have hcz10_0 : w8.cell? ⟨gb157, 0, none⟩ = some (.int .i64 0) := (blk_cell BK157.out 0).trans rfl; have hcz10_1 : w8.cell? ⟨gb157, 1, none⟩ = some (.int .i64 0) := (blk_cell BK157.out 1).trans rfl; have hcz10_2 : w8.cell? ⟨gb157, 2, none⟩ = some (.string (⟨#[]⟩ : ByteArray)) := (blk_cell BK157.out 2).trans rfl; have hcz10_3 : w8.cell? ⟨gb157, 3, none⟩ = some (.int .u32 0) := (blk_cell BK157.out 3).trans rfl; have hcz10_4 : w8.cell? ⟨gb157, 4, none⟩ = some (.int .u32 0) := (blk_cell BK157.out 4).trans rfl; have hcz10_5 : w8.cell? ⟨gb157, 5, none⟩ = some (.int .u32 0) := (blk_cell BK157.out 5).trans rfl; have hcz10_6 : w8.cell? ⟨gb157, 6, none⟩ = some (.bool false) := (blk_cell BK157.out 6).trans rfl; have hcz10_7 : w8.cell? ⟨gb157, 7, none⟩ = some (.bool false) := (blk_cell BK157.out 7).trans rfl; have hfz10_0 := blk_frozen BK157.out 0; have hfz10_1 := blk_frozen BK157.out 1; have hfz10_2 := blk_frozen BK157.out 2; have hfz10_3 := blk_frozen BK157.out 3; have hfz10_4 := blk_frozen BK157.out 4; have hfz10_5 := blk_frozen BK157.out 5; have hfz10_6 := blk_frozen BK157.out 6; have hfz10_7 := blk_frozen BK157.out 7))
      go_ret2
      exact ⟨by first | rfl | (simp [errW_none, errW_some] <;> rfl) | (simp [*, errW_none, errW_some] <;> rfl), by repeat (first | (with_reducible first | exact HB.out | apply below_alloc | apply pw_below_drewN | apply below_drew1 | refine below_set ?_ GE147.out | refine below_set ?_ GE157.out) | exact HB.out)⟩
    · rw [if_neg c4] at H
      have c4b0 : (t149 == 6) = false := beq_eq_false_iff_ne.mpr c4
      have c4b1 : (t149 != 6) = true := bne_iff_ne.mpr c4
      have HC11 := Aside0.mk H
      clear H
      go_enter Try.func9, Try.ntmps9
      go_upto_region 7 with (first | ((with_reducible refine gate_dst (N := 1) rfl ?_); refine box_event ?hg (N := 1) ?hd (cs := #[.int .i64 a0_0, .int .i64 a0_1, .int .i64 a0_2, .int .i64 a0_3, .int .i64 a0_4]) (t := 25) ?hr ?_; (case hd => rfl); (case hg => rfl); (case hr => first | (go_simp; done) | (go_simp; rfl)); intro gb147 hg w12 hbox hb; have n0_ := Aside0.mk (below_step (by repeat (first | (with_reducible first | exact HB.out | apply below_alloc | apply pw_below_drewN | apply below_drew1) | exact HB.out)) hb); have n1_ := Aside0.mk (hbox); have n2_ := Aside0.mk ((by rw [hg]; exact (below_size (by repeat (first | (with_reducible first | exact HB.out | apply below_alloc | apply pw_below_drewN | apply below_drew1) | exact HB.out))) : w.heap.size ≤ gb147)); have n3_ := Aside0.mk ((by rw [hg]; exact (below_size (by repeat (first | (with_reducible first | exact HB.out | apply below_alloc | apply pw_below_drewN | apply below_drew1) | exact HB.out))) : w.heap.size ≤ gb147)); clear HB; have HB := n0_; have BK147 := n1_; have GW147 := n2_; have GE147 := n3_; clear n0_ n1_ n2_ n3_; clear hb hbox hg; have hcz13_0 : w12.cell? ⟨gb147, 0, none⟩ = some (.int .i64 a0_0) := (blk_cell BK147.out 0).trans rfl; have hcz13_1 : w12.cell? ⟨gb147, 1, none⟩ = some (.int .i64 a0_1) := (blk_cell BK147.out 1).trans rfl; have hcz13_2 : w12.cell? ⟨gb147, 2, none⟩ = some (.int .i64 a0_2) := (blk_cell BK147.out 2).trans rfl; have hcz13_3 : w12.cell? ⟨gb147, 3, none⟩ = some (.int .i64 a0_3) := (blk_cell BK147.out 3).trans rfl; have hcz13_4 : w12.cell? ⟨gb147, 4, none⟩ = some (.int .i64 a0_4) := (blk_cell BK147.out 4).trans rfl; have hfz13_0 := blk_frozen BK147.out 0; have hfz13_1 := blk_frozen BK147.out 1; have hfz13_2 := blk_frozen BK147.out 2; have hfz13_3 := blk_frozen BK147.out 3; have hfz13_4 := blk_frozen BK147.out 4) | ((with_reducible refine gate_callee (f := 26) rfl ?_); refine goesL_ (some 13) rfl rfl Try.func26 (by kernel_rfl) rfl #[.int .i64 a0_0] rfl (by (try simp only [List.map_toArray, List.map_cons, List.map_nil]); first | done | rfl | (simp only [List.length_drop, List.length_take]; rfl)) ?_; (with_reducible refine (inst_find.calls a0_0 t148 t149 t150 t151 t152 t153 t154 t155 true _ A2.out).mono ?_); rintro e w14 ⟨rfl, hb⟩; refine ⟨_, rfl, ?_⟩; have n0_ := Aside0.mk (blk_below (g := gb147) (o := .cells #[.int .i64 a0_0, .int .i64 a0_1, .int .i64 a0_2, .int .i64 a0_3, .int .i64 a0_4] 25 (0, 0)) (by (with_reducible repeat (first | refine blk_drewN ?_ _ | refine blk_drew ?_ | refine blk_alloc ?_ _)); exact BK147.out) hb); have n1_ := Aside0.mk (below_step (by repeat (first | (with_reducible first | exact HB.out | apply below_alloc | apply pw_below_drewN | apply below_drew1 | refine below_set ?_ GE147.out) | exact HB.out)) hb); clear BK147; clear HB; have BK147 := n0_; have HB := n1_; clear n0_ n1_; (try clear hb); (try clear hb2); (try clear hk); (try clear hi)) | ((with_reducible refine gate_dst (N := 4) rfl ?_); refine box_event ?hg (N := 4) ?hd (cs := #[.int .i64 0, .int .i64 0, .string (⟨#[]⟩ : ByteArray), .int .u32 0, .int .u32 0, .int .u32 0, .bool false, .bool false]) (t := 42) ?hr ?_; (case hd => rfl); (case hg => rfl); (case hr => first | (go_simp; done) | (go_simp; rfl)); intro gb157 hg w15 hbox hb; have n0_ := Aside0.mk (blk_below (g := gb147) (o := .cells #[.int .i64 a0_0, .int .i64 a0_1, .int .i64 a0_2, .int .i64 a0_3, .int .i64 a0_4] 25 (0, 0)) (by (with_reducible repeat (first | refine blk_drewN ?_ _ | refine blk_drew ?_ | refine blk_alloc ?_ _)); exact BK147.out) hb); have n1_ := Aside0.mk (below_step (by repeat (first | (with_reducible first | exact HB.out | apply below_alloc | apply pw_below_drewN | apply below_drew1 | refine below_set ?_ GE147.out) | exact HB.out)) hb); have n2_ := Aside0.mk (hbox); have n3_ := Aside0.mk ((by rw [hg]; exact (below_size (by repeat (first | (with_reducible first | exact HB.out | apply below_alloc | apply pw_below_drewN | apply below_drew1 | refine below_set ?_ GE147.out) | exact HB.out))) : w.heap.size ≤ gb157)); have n4_ := Aside0.mk ((by rw [hg]; exact (below_size (by repeat (first | (with_reducible first | exact HB.out | apply below_alloc | apply pw_below_drewN | apply below_drew1 | refine below_set ?_ GE147.out) | exact HB.out))) : w.heap.size ≤ gb157)); have n5_ := Aside0.mk ((by rw [hg]; exact Nat.ne_of_lt (blk_lt (g := gb147) (o := .cells #[.int .i64 a0_0, .int .i64 a0_1, .int .i64 a0_2, .int .i64 a0_3, .int .i64 a0_4] 25 (0, 0)) (by (with_reducible repeat (first | refine blk_drewN ?_ _ | refine blk_drew ?_ | refine blk_alloc ?_ _)); exact BK147.out)) : gb147 ≠ gb157)); have n6_ := Aside0.mk ((by rw [hg]; exact Nat.ne_of_gt (blk_lt (g := gb147) (o := .cells #[.int .i64 a0_0, .int .i64 a0_1, .int .i64 a0_2, .int .i64 a0_3, .int .i64 a0_4] 25 (0, 0)) (by (with_reducible repeat (first | refine blk_drewN ?_ _ | refine blk_drew ?_ | refine blk_alloc ?_ _)); exact BK147.out)) : gb157 ≠ gb147)); clear BK147; clear HB; have BK147 := n0_; have HB := n1_; have BK157 := n2_; have GW157 := n3_; have GE157 := n4_; have NB147_157 := n5_; have NB157_147 := n6_; clear n0_ n1_ n2_ n3_ n4_ n5_ n6_; clear hb hbox hg; have hnb16 := NB157_147.out; have hnc16 := NB147_157.out; have hcz17_0 : w15.cell? ⟨gb157, 0, none⟩ = some (.int .i64 0) := (blk_cell BK157.out 0).trans rfl; have hcz17_1 : w15.cell? ⟨gb157, 1, none⟩ = some (.int .i64 0) := (blk_cell BK157.out 1).trans rfl; have hcz17_2 : w15.cell? ⟨gb157, 2, none⟩ = some (.string (⟨#[]⟩ : ByteArray)) := (blk_cell BK157.out 2).trans rfl; have hcz17_3 : w15.cell? ⟨gb157, 3, none⟩ = some (.int .u32 0) := (blk_cell BK157.out 3).trans rfl; have hcz17_4 : w15.cell? ⟨gb157, 4, none⟩ = some (.int .u32 0) := (blk_cell BK157.out 4).trans rfl; have hcz17_5 : w15.cell? ⟨gb157, 5, none⟩ = some (.int .u32 0) := (blk_cell BK157.out 5).trans rfl; have hcz17_6 : w15.cell? ⟨gb157, 6, none⟩ = some (.bool false) := (blk_cell BK157.out 6).trans rfl; have hcz17_7 : w15.cell? ⟨gb157, 7, none⟩ = some (.bool false) := (blk_cell BK157.out 7).trans rfl; have hfz17_0 := blk_frozen BK157.out 0; have hfz17_1 := blk_frozen BK157.out 1; have hfz17_2 := blk_frozen BK157.out 2; have hfz17_3 := blk_frozen BK157.out 3; have hfz17_4 := blk_frozen BK157.out 4; have hfz17_5 := blk_frozen BK157.out 5; have hfz17_6 := blk_frozen BK157.out 6; have hfz17_7 := blk_frozen BK157.out 7))
      (try simp only [Act.put, List.setIfInBounds_toArray, List.set_cons_zero, List.set_cons_succ])
      go_cut [34] (fun v34 wc => ∃ (kq : Nat) (x34_10 : Bool), v34 = .bool x34_10 ∧ Aside0 (inst_Encode.j0 kq t151 x34_10 a0_0 a0_1 a0_2 a0_3 a0_4 t148 t149 t150 t151 t152 t153 t154 t155 = some (r1, r2)) ∧ Aside0 (kq ≤ k) ∧ Aside0 (wc.heap[gb147]? = some (.cells #[.int .i64 a0_0, .int .i64 a0_1, .int .i64 a0_2, .int .i64 a0_3, .int .i64 a0_4] 25 (0, 0))) ∧ Aside0 (wc.heap[gb157]? = some (.cells #[.int .i64 t148, .int .i64 t149, .string t150, .int .u32 t151, .int .u32 t152, .int .u32 t153, .bool t154, .bool t155] 42 (0, 0))) ∧ Aside0 (Below w.heap.size w wc))
      case first =>
        have H := HC11.out
        clear HC11
        by_cases c18 : t149 = 4
        · rw [if_pos c18] at H
          have c18b0 : (t149 == 4) = true := beq_iff_eq.mpr c18
          have c18b1 : (t149 != 4) = false := bne_eq_false_iff_eq.mpr c18
          clear c18
          (first | rw [c18b0] | (simp only [i64_w, i32_w]; rw [c18b0]) | skip)
          have H' := Aside0.mk H
          clear H
          have hnb19 := NB157_147.out
          have hnc19 := NB147_157.out
          have hcz20_0 : w15.cell? ⟨gb157, 0, none⟩ = some (.int .i64 0) := (blk_cell BK157.out 0).trans rfl
          have hcz20_1 : w15.cell? ⟨gb157, 1, none⟩ = some (.int .i64 0) := (blk_cell BK157.out 1).trans rfl
          have hcz20_2 : w15.cell? ⟨gb157, 2, none⟩ = some (.string (⟨#[]⟩ : ByteArray)) := (blk_cell BK157.out 2).trans rfl
          have hcz20_3 : w15.cell? ⟨gb157, 3, none⟩ = some (.int .u32 0) := (blk_cell BK157.out 3).trans rfl
          have hcz20_4 : w15.cell? ⟨gb157, 4, none⟩ = some (.int .u32 0) := (blk_cell BK157.out 4).trans rfl
          have hcz20_5 : w15.cell? ⟨gb157, 5, none⟩ = some (.int .u32 0) := (blk_cell BK157.out 5).trans rfl
          have hcz20_6 : w15.cell? ⟨gb157, 6, none⟩ = some (.bool false) := (blk_cell BK157.out 6).trans rfl
          have hcz20_7 : w15.cell? ⟨gb157, 7, none⟩ = some (.bool false) := (blk_cell BK157.out 7).trans rfl
          have hfz20_0 := blk_frozen BK157.out 0
          have hfz20_1 := blk_frozen BK157.out 1
          have hfz20_2 := blk_frozen BK157.out 2
          have hfz20_3 := blk_frozen BK157.out 3
          have hfz20_4 := blk_frozen BK157.out 4
          have hfz20_5 := blk_frozen BK157.out 5
          have hfz20_6 := blk_frozen BK157.out 6
          have hfz20_7 := blk_frozen BK157.out 7
          go_wp2
          go_meet
          case rel => exact ⟨_, (false), (by first | rfl | (simp; done) | (simp [*]; done)), H', ⟨by first | omega | exact Nat.le_refl _⟩, ⟨by (with_reducible repeat (first | refine blk_drewN ?_ _ | refine blk_drew ?_ | refine blk_alloc ?_ _)); refine blk_far ?_ NB147_157.out _; (with_reducible repeat (first | refine blk_drewN ?_ _ | refine blk_drew ?_ | refine blk_alloc ?_ _)); refine blk_far ?_ NB147_157.out _; (with_reducible repeat (first | refine blk_drewN ?_ _ | refine blk_drew ?_ | refine blk_alloc ?_ _)); refine blk_far ?_ NB147_157.out _; (with_reducible repeat (first | refine blk_drewN ?_ _ | refine blk_drew ?_ | refine blk_alloc ?_ _)); refine blk_far ?_ NB147_157.out _; (with_reducible repeat (first | refine blk_drewN ?_ _ | refine blk_drew ?_ | refine blk_alloc ?_ _)); refine blk_far ?_ NB147_157.out _; (with_reducible repeat (first | refine blk_drewN ?_ _ | refine blk_drew ?_ | refine blk_alloc ?_ _)); refine blk_far ?_ NB147_157.out _; (with_reducible repeat (first | refine blk_drewN ?_ _ | refine blk_drew ?_ | refine blk_alloc ?_ _)); refine blk_far ?_ NB147_157.out _; (with_reducible repeat (first | refine blk_drewN ?_ _ | refine blk_drew ?_ | refine blk_alloc ?_ _)); refine blk_far ?_ NB147_157.out _; (with_reducible repeat (first | refine blk_drewN ?_ _ | refine blk_drew ?_ | refine blk_alloc ?_ _)); exact BK147.out⟩, ⟨by (with_reducible repeat (first | refine blk_drewN ?_ _ | refine blk_drew ?_ | refine blk_alloc ?_ _)); refine blk_put (cs := #[.int .i64 t148, .int .i64 t149, .string t150, .int .u32 t151, .int .u32 t152, .int .u32 t153, .bool t154, .bool false]) ?_ 7 _ rfl; (with_reducible repeat (first | refine blk_drewN ?_ _ | refine blk_drew ?_ | refine blk_alloc ?_ _)); refine blk_put (cs := #[.int .i64 t148, .int .i64 t149, .string t150, .int .u32 t151, .int .u32 t152, .int .u32 t153, .bool false, .bool false]) ?_ 6 _ rfl; (with_reducible repeat (first | refine blk_drewN ?_ _ | refine blk_drew ?_ | refine blk_alloc ?_ _)); refine blk_put (cs := #[.int .i64 t148, .int .i64 t149, .string t150, .int .u32 t151, .int .u32 t152, .int .u32 0, .bool false, .bool false]) ?_ 5 _ rfl; (with_reducible repeat (first | refine blk_drewN ?_ _ | refine blk_drew ?_ | refine blk_alloc ?_ _)); refine blk_put (cs := #[.int .i64 t148, .int .i64 t149, .string t150, .int .u32 t151, .int .u32 0, .int .u32 0, .bool false, .bool false]) ?_ 4 _ rfl; (with_reducible repeat (first | refine blk_drewN ?_ _ | refine blk_drew ?_ | refine blk_alloc ?_ _)); refine blk_put (cs := #[.int .i64 t148, .int .i64 t149, .string t150, .int .u32 0, .int .u32 0, .int .u32 0, .bool false, .bool false]) ?_ 3 _ rfl; (with_reducible repeat (first | refine blk_drewN ?_ _ | refine blk_drew ?_ | refine blk_alloc ?_ _)); refine blk_put (cs := #[.int .i64 t148, .int .i64 t149, .string (⟨#[]⟩ : ByteArray), .int .u32 0, .int .u32 0, .int .u32 0, .bool false, .bool false]) ?_ 2 _ rfl; (with_reducible repeat (first | refine blk_drewN ?_ _ | refine blk_drew ?_ | refine blk_alloc ?_ _)); refine blk_put (cs := #[.int .i64 t148, .int .i64 0, .string (⟨#[]⟩ : ByteArray), .int .u32 0, .int .u32 0, .int .u32 0, .bool false, .bool false]) ?_ 1 _ rfl; (with_reducible repeat (first | refine blk_drewN ?_ _ | refine blk_drew ?_ | refine blk_alloc ?_ _)); refine blk_put (cs := #[.int .i64 0, .int .i64 0, .string (⟨#[]⟩ : ByteArray), .int .u32 0, .int .u32 0, .int .u32 0, .bool false, .bool false]) ?_ 0 _ rfl; (with_reducible repeat (first | refine blk_drewN ?_ _ | refine blk_drew ?_ | refine blk_alloc ?_ _)); exact BK157.out⟩, ⟨by repeat (first | (with_reducible first | exact HB.out | apply below_alloc | apply pw_below_drewN | apply below_drew1 | refine below_set ?_ GE147.out | refine below_set ?_ GE157.out) | exact HB.out)⟩⟩
        · rw [if_neg c18] at H
          have c18b0 : (t149 == 4) = false := beq_eq_false_iff_ne.mpr c18
          have c18b1 : (t149 != 4) = true := bne_iff_ne.mpr c18
          (first | rw [c18b0] | (simp only [i64_w, i32_w]; rw [c18b0]) | skip)
          have H' := Aside0.mk H
          clear H
          have hnb21 := NB157_147.out
          have hnc21 := NB147_157.out
          have hcz22_0 : w15.cell? ⟨gb157, 0, none⟩ = some (.int .i64 0) := (blk_cell BK157.out 0).trans rfl
          have hcz22_1 : w15.cell? ⟨gb157, 1, none⟩ = some (.int .i64 0) := (blk_cell BK157.out 1).trans rfl
          have hcz22_2 : w15.cell? ⟨gb157, 2, none⟩ = some (.string (⟨#[]⟩ : ByteArray)) := (blk_cell BK157.out 2).trans rfl
          have hcz22_3 : w15.cell? ⟨gb157, 3, none⟩ = some (.int .u32 0) := (blk_cell BK157.out 3).trans rfl
          have hcz22_4 : w15.cell? ⟨gb157, 4, none⟩ = some (.int .u32 0) := (blk_cell BK157.out 4).trans rfl
          have hcz22_5 : w15.cell? ⟨gb157, 5, none⟩ = some (.int .u32 0) := (blk_cell BK157.out 5).trans rfl
          have hcz22_6 : w15.cell? ⟨gb157, 6, none⟩ = some (.bool false) := (blk_cell BK157.out 6).trans rfl
          have hcz22_7 : w15.cell? ⟨gb157, 7, none⟩ = some (.bool false) := (blk_cell BK157.out 7).trans rfl
          have hfz22_0 := blk_frozen BK157.out 0
          have hfz22_1 := blk_frozen BK157.out 1
          have hfz22_2 := blk_frozen BK157.out 2
          have hfz22_3 := blk_frozen BK157.out 3
          have hfz22_4 := blk_frozen BK157.out 4
          have hfz22_5 := blk_frozen BK157.out 5
          have hfz22_6 := blk_frozen BK157.out 6
          have hfz22_7 := blk_frozen BK157.out 7
          go_wp2
          go_meet
          case rel => exact ⟨_, ((t149 != 5)), (by first | rfl | (simp; done) | (simp [*]; done)), H', ⟨by first | omega | exact Nat.le_refl _⟩, ⟨by (with_reducible repeat (first | refine blk_drewN ?_ _ | refine blk_drew ?_ | refine blk_alloc ?_ _)); refine blk_far ?_ NB147_157.out _; (with_reducible repeat (first | refine blk_drewN ?_ _ | refine blk_drew ?_ | refine blk_alloc ?_ _)); refine blk_far ?_ NB147_157.out _; (with_reducible repeat (first | refine blk_drewN ?_ _ | refine blk_drew ?_ | refine blk_alloc ?_ _)); refine blk_far ?_ NB147_157.out _; (with_reducible repeat (first | refine blk_drewN ?_ _ | refine blk_drew ?_ | refine blk_alloc ?_ _)); refine blk_far ?_ NB147_157.out _; (with_reducible repeat (first | refine blk_drewN ?_ _ | refine blk_drew ?_ | refine blk_alloc ?_ _)); refine blk_far ?_ NB147_157.out _; (with_reducible repeat (first | refine blk_drewN ?_ _ | refine blk_drew ?_ | refine blk_alloc ?_ _)); refine blk_far ?_ NB147_157.out _; (with_reducible repeat (first | refine blk_drewN ?_ _ | refine blk_drew ?_ | refine blk_alloc ?_ _)); refine blk_far ?_ NB147_157.out _; (with_reducible repeat (first | refine blk_drewN ?_ _ | refine blk_drew ?_ | refine blk_alloc ?_ _)); refine blk_far ?_ NB147_157.out _; (with_reducible repeat (first | refine blk_drewN ?_ _ | refine blk_drew ?_ | refine blk_alloc ?_ _)); exact BK147.out⟩, ⟨by (with_reducible repeat (first | refine blk_drewN ?_ _ | refine blk_drew ?_ | refine blk_alloc ?_ _)); refine blk_put (cs := #[.int .i64 t148, .int .i64 t149, .string t150, .int .u32 t151, .int .u32 t152, .int .u32 t153, .bool t154, .bool false]) ?_ 7 _ rfl; (with_reducible repeat (first | refine blk_drewN ?_ _ | refine blk_drew ?_ | refine blk_alloc ?_ _)); refine blk_put (cs := #[.int .i64 t148, .int .i64 t149, .string t150, .int .u32 t151, .int .u32 t152, .int .u32 t153, .bool false, .bool false]) ?_ 6 _ rfl; (with_reducible repeat (first | refine blk_drewN ?_ _ | refine blk_drew ?_ | refine blk_alloc ?_ _)); refine blk_put (cs := #[.int .i64 t148, .int .i64 t149, .string t150, .int .u32 t151, .int .u32 t152, .int .u32 0, .bool false, .bool false]) ?_ 5 _ rfl; (with_reducible repeat (first | refine blk_drewN ?_ _ | refine blk_drew ?_ | refine blk_alloc ?_ _)); refine blk_put (cs := #[.int .i64 t148, .int .i64 t149, .string t150, .int .u32 t151, .int .u32 0, .int .u32 0, .bool false, .bool false]) ?_ 4 _ rfl; (with_reducible repeat (first | refine blk_drewN ?_ _ | refine blk_drew ?_ | refine blk_alloc ?_ _)); refine blk_put (cs := #[.int .i64 t148, .int .i64 t149, .string t150, .int .u32 0, .int .u32 0, .int .u32 0, .bool false, .bool false]) ?_ 3 _ rfl; (with_reducible repeat (first | refine blk_drewN ?_ _ | refine blk_drew ?_ | refine blk_alloc ?_ _)); refine blk_put (cs := #[.int .i64 t148, .int .i64 t149, .string (⟨#[]⟩ : ByteArray), .int .u32 0, .int .u32 0, .int .u32 0, .bool false, .bool false]) ?_ 2 _ rfl; (with_reducible repeat (first | refine blk_drewN ?_ _ | refine blk_drew ?_ | refine blk_alloc ?_ _)); refine blk_put (cs := #[.int .i64 t148, .int .i64 0, .string (⟨#[]⟩ : ByteArray), .int .u32 0, .int .u32 0, .int .u32 0, .bool false, .bool false]) ?_ 1 _ rfl; (with_reducible repeat (first | refine blk_drewN ?_ _ | refine blk_drew ?_ | refine blk_alloc ?_ _)); refine blk_put (cs := #[.int .i64 0, .int .i64 0, .string (⟨#[]⟩ : ByteArray), .int .u32 0, .int .u32 0, .int .u32 0, .bool false, .bool false]) ?_ 0 _ rfl; (with_reducible repeat (first | refine blk_drewN ?_ _ | refine blk_drew ?_ | refine blk_alloc ?_ _)); exact BK157.out⟩, ⟨by repeat (first | (with_reducible first | exact HB.out | apply below_alloc | apply pw_below_drewN | apply below_drew1 | refine below_set ?_ GE147.out | refine below_set ?_ GE157.out) | exact HB.out)⟩⟩
      case rest =>
        clear HC11
        try clear c1
        try clear c2
        try clear p2
        try clear c3
        try clear c4
        try clear c4b0
        try clear c4b1
        try clear c9
        try clear c16
        try clear c18
        try clear c18b0
        try clear c18b1
        try clear c19
        try clear c21
        try clear hcz10_0
        try clear hcz10_1
        try clear hcz10_2
        try clear hcz10_3
        try clear hcz10_4
        try clear hcz10_5
        try clear hcz10_6
        try clear hcz10_7
        try clear hcz13_0
        try clear hcz13_1
        try clear hcz13_2
        try clear hcz13_3
        try clear hcz13_4
        try clear hcz17_0
        try clear hcz17_1
        try clear hcz17_2
        try clear hcz17_3
        try clear hcz17_4
        try clear hcz17_5
        try clear hcz17_6
        try clear hcz17_7
        try clear hcz20_0
        try clear hcz20_1
        try clear hcz20_2
        try clear hcz20_3
        try clear hcz20_4
        try clear hcz20_5
        try clear hcz20_6
        try clear hcz20_7
        try clear hcz22_0
        try clear hcz22_1
        try clear hcz22_2
        try clear hcz22_3
        try clear hcz22_4
        try clear hcz22_5
        try clear hcz22_6
        try clear hcz22_7
        try clear hcz6_0
        try clear hcz6_1
        try clear hcz6_2
        try clear hcz6_3
        try clear hcz6_4
        try clear hfz10_0
        try clear hfz10_1
        try clear hfz10_2
        try clear hfz10_3
        try clear hfz10_4
        try clear hfz10_5
        try clear hfz10_6
        try clear hfz10_7
        try clear hfz13_0
        try clear hfz13_1
        try clear hfz13_2
        try clear hfz13_3
        try clear hfz13_4
        try clear hfz17_0
        try clear hfz17_1
        try clear hfz17_2
        try clear hfz17_3
        try clear hfz17_4
        try clear hfz17_5
        try clear hfz17_6
        try clear hfz17_7
        try clear hfz20_0
        try clear hfz20_1
        try clear hfz20_2
        try clear hfz20_3
        try clear hfz20_4
        try clear hfz20_5
        try clear hfz20_6
        try clear hfz20_7
        try clear hfz22_0
        try clear hfz22_1
        try clear hfz22_2
        try clear hfz22_3
        try clear hfz22_4
        try clear hfz22_5
        try clear hfz22_6
        try clear hfz22_7
        try clear hfz6_0
        try clear hfz6_1
        try clear hfz6_2
        try clear hfz6_3
        try clear hfz6_4
        obtain ⟨kq, x34_10, rfl, HA, HJ10, BK147, BK157, HB⟩ := hcut
        cases kq with
        | zero => exact absurd HA.out (by simp [inst_Encode.j0])
        | succ kj10 =>
          have H := HA.out
          clear HA
          simp only [inst_Encode.j0] at H
          have HC23 := Aside0.mk H
          clear H
          go_upto_if 34 with (fail)
          go_cut [6] (fun v6 wc => ∃ (kq : Nat) (x6_22 : Int), v6 = .int .u32 x6_22 ∧ Aside0 (inst_Encode.j1 kq x6_22 a0_0 a0_1 a0_2 a0_3 a0_4 t148 t149 t150 t151 t152 t153 t154 t155 = some (r1, r2)) ∧ Aside0 (kq ≤ kj10) ∧ Aside0 (wc.heap[gb147]? = some (.cells #[.int .i64 a0_0, .int .i64 a0_1, .int .i64 a0_2, .int .i64 a0_3, .int .i64 a0_4] 25 (0, 0))) ∧ Aside0 (wc.heap[gb157]? = some (.cells #[.int .i64 t148, .int .i64 t149, .string t150, .int .u32 t151, .int .u32 t152, .int .u32 t153, .bool t154, .bool t155] 42 (0, 0))) ∧ Aside0 (Below w.heap.size w wc))
          case first =>
            have H := HC23.out
            clear HC23
            by_cases c24 : x34_10 = true
            · subst c24
              have H1 : (inst_Encode.j1 kj10 (Go.bits .or .u32 t151 ((t152 * 4096) % 4294967296)) a0_0 a0_1 a0_2 a0_3 a0_4 t148 t149 t150 t151 t152 t153 t154 t155) = some (r1, r2) := by rw [if_pos rfl] at H; exact H
              clear H
              have H := H1
              clear H1
              have H' := Aside0.mk H
              clear H
              have hnb25 := NB157_147.out
              have hnc25 := NB147_157.out
              have hcz26_0 : wc.cell? ⟨gb157, 0, none⟩ = some (.int .i64 t148) := (blk_cell BK157.out 0).trans rfl
              have hcz26_1 : wc.cell? ⟨gb157, 1, none⟩ = some (.int .i64 t149) := (blk_cell BK157.out 1).trans rfl
              have hcz26_2 : wc.cell? ⟨gb157, 2, none⟩ = some (.string t150) := (blk_cell BK157.out 2).trans rfl
              have hcz26_3 : wc.cell? ⟨gb157, 3, none⟩ = some (.int .u32 t151) := (blk_cell BK157.out 3).trans rfl
              have hcz26_4 : wc.cell? ⟨gb157, 4, none⟩ = some (.int .u32 t152) := (blk_cell BK157.out 4).trans rfl
              have hcz26_5 : wc.cell? ⟨gb157, 5, none⟩ = some (.int .u32 t153) := (blk_cell BK157.out 5).trans rfl
              have hcz26_6 : wc.cell? ⟨gb157, 6, none⟩ = some (.bool t154) := (blk_cell BK157.out 6).trans rfl
              have hcz26_7 : wc.cell? ⟨gb157, 7, none⟩ = some (.bool t155) := (blk_cell BK157.out 7).trans rfl
              have hfz26_0 := blk_frozen BK157.out 0
              have hfz26_1 := blk_frozen BK157.out 1
              have hfz26_2 := blk_frozen BK157.out 2
              have hfz26_3 := blk_frozen BK157.out 3
              have hfz26_4 := blk_frozen BK157.out 4
              have hfz26_5 := blk_frozen BK157.out 5
              have hfz26_6 := blk_frozen BK157.out 6
              have hfz26_7 := blk_frozen BK157.out 7
              go_wp2
              go_meet
              case rel => exact ⟨_, (Go.bits .or .u32 t151 ((t152 * 4096) % 4294967296)), (by first | rfl | (simp; done) | (simp [*]; done)), H', ⟨by have := HJ10.out; first | omega | exact Nat.le_refl _⟩, ⟨by (with_reducible repeat (first | refine blk_drewN ?_ _ | refine blk_drew ?_ | refine blk_alloc ?_ _)); exact BK147.out⟩, ⟨by (with_reducible repeat (first | refine blk_drewN ?_ _ | refine blk_drew ?_ | refine blk_alloc ?_ _)); exact BK157.out⟩, ⟨by repeat (first | (with_reducible first | exact HB.out | apply below_alloc | apply pw_below_drewN | apply below_drew1 | refine below_set ?_ GE147.out | refine below_set ?_ GE157.out) | exact HB.out)⟩⟩
            · replace c24 := Bool.eq_false_iff.mpr c24
              subst c24
              have H1 : (inst_Encode.j1 kj10 t151 a0_0 a0_1 a0_2 a0_3 a0_4 t148 t149 t150 t151 t152 t153 t154 t155) = some (r1, r2) := by rw [if_neg (show ¬ (false = true) by decide)] at H; exact H
              clear H
              have H := H1
              clear H1
              have H' := Aside0.mk H
              clear H
              go_wp2
              go_meet
              case rel => exact ⟨_, (t151), (by first | rfl | (simp; done) | (simp [*]; done)), H', ⟨by have := HJ10.out; first | omega | exact Nat.le_refl _⟩, ⟨by (with_reducible repeat (first | refine blk_drewN ?_ _ | refine blk_drew ?_ | refine blk_alloc ?_ _)); exact BK147.out⟩, ⟨by (with_reducible repeat (first | refine blk_drewN ?_ _ | refine blk_drew ?_ | refine blk_alloc ?_ _)); exact BK157.out⟩, ⟨by repeat (first | (with_reducible first | exact HB.out | apply below_alloc | apply pw_below_drewN | apply below_drew1 | refine below_set ?_ GE147.out | refine below_set ?_ GE157.out) | exact HB.out)⟩⟩
          case rest =>
            clear HC23
            try clear c1
            try clear c2
            try clear p2
            try clear c3
            try clear c4
            try clear c4b0
            try clear c4b1
            try clear c9
            try clear c16
            try clear c18
            try clear c18b0
            try clear c18b1
            try clear c19
            try clear c21
            try clear c24
            try clear c25
            try clear c26
            try clear hcz10_0
            try clear hcz10_1
            try clear hcz10_2
            try clear hcz10_3
            try clear hcz10_4
            try clear hcz10_5
            try clear hcz10_6
            try clear hcz10_7
            try clear hcz13_0
            try clear hcz13_1
            try clear hcz13_2
            try clear hcz13_3
            try clear hcz13_4
            try clear hcz17_0
            try clear hcz17_1
            try clear hcz17_2
            try clear hcz17_3
            try clear hcz17_4
            try clear hcz17_5
            try clear hcz17_6
            try clear hcz17_7
            try clear hcz20_0
            try clear hcz20_1
            try clear hcz20_2
            try clear hcz20_3
            try clear hcz20_4
            try clear hcz20_5
            try clear hcz20_6
            try clear hcz20_7
            try clear hcz22_0
            try clear hcz22_1
            try clear hcz22_2
            try clear hcz22_3
            try clear hcz22_4
            try clear hcz22_5
            try clear hcz22_6
            try clear hcz22_7
            try clear hcz26_0
            try clear hcz26_1
            try clear hcz26_2
            try clear hcz26_3
            try clear hcz26_4
            try clear hcz26_5
            try clear hcz26_6
            try clear hcz26_7
            try clear hcz6_0
            try clear hcz6_1
            try clear hcz6_2
            try clear hcz6_3
            try clear hcz6_4
            try clear hfz10_0
            try clear hfz10_1
            try clear hfz10_2
            try clear hfz10_3
            try clear hfz10_4
            try clear hfz10_5
            try clear hfz10_6
            try clear hfz10_7
            try clear hfz13_0
            try clear hfz13_1
            try clear hfz13_2
            try clear hfz13_3
            try clear hfz13_4
            try clear hfz17_0
            try clear hfz17_1
            try clear hfz17_2
            try clear hfz17_3
            try clear hfz17_4
            try clear hfz17_5
            try clear hfz17_6
            try clear hfz17_7
            try clear hfz20_0
            try clear hfz20_1
            try clear hfz20_2
            try clear hfz20_3
            try clear hfz20_4
            try clear hfz20_5
            try clear hfz20_6
            try clear hfz20_7
            try clear hfz22_0
            try clear hfz22_1
            try clear hfz22_2
            try clear hfz22_3
            try clear hfz22_4
            try clear hfz22_5
            try clear hfz22_6
            try clear hfz22_7
            try clear hfz26_0
            try clear hfz26_1
            try clear hfz26_2
            try clear hfz26_3
            try clear hfz26_4
            try clear hfz26_5
            try clear hfz26_6
            try clear hfz26_7
            try clear hfz6_0
            try clear hfz6_1
            try clear hfz6_2
            try clear hfz6_3
            try clear hfz6_4
            try clear p2
            obtain ⟨kq, x6_22, rfl, HA, HJ22, BK147, BK157, HB⟩ := hcut
            cases kq with
            | zero => exact absurd HA.out (by simp [inst_Encode.j1])
            | succ kj22 =>
              have H := HA.out
              clear HA
              simp only [inst_Encode.j1] at H
              obtain ⟨y158, hy158⟩ : ∃ y_ : List Int, y_ = (([a0_1, a0_2, a0_3] : List Int)) := ⟨_, rfl⟩
              replace H : (inst_Encode.l0 kj22 x6_22 y158 (y158.length : Int) 0 a0_0 a0_1 a0_2 a0_3 a0_4 t148 t149 t150 t151 t152 t153 t154 t155) = some (r1, r2) := by first | (rw [hy158]; with_reducible exact H) | (have H2_ := (Option.bind_some _ _).symm.trans H; rw [hy158]; with_reducible exact H2_) | (have H2_ := (Option.bind_some _ _).symm.trans H; with_reducible exact H2_) | with_reducible exact H | (rw [hy158]; exact H) | exact H
              have Ny158 := Aside0.mk hy158
              clear hy158
              have H' := Aside0.mk H
              clear H
              have hnb27 := NB147_157.out
              have hnc27 := NB157_147.out
              have hcz28_0 : wc.cell? ⟨gb147, 0, none⟩ = some (.int .i64 a0_0) := (blk_cell BK147.out 0).trans rfl
              have hcz28_1 : wc.cell? ⟨gb147, 1, none⟩ = some (.int .i64 a0_1) := (blk_cell BK147.out 1).trans rfl
              have hcz28_2 : wc.cell? ⟨gb147, 2, none⟩ = some (.int .i64 a0_2) := (blk_cell BK147.out 2).trans rfl
              have hcz28_3 : wc.cell? ⟨gb147, 3, none⟩ = some (.int .i64 a0_3) := (blk_cell BK147.out 3).trans rfl
              have hcz28_4 : wc.cell? ⟨gb147, 4, none⟩ = some (.int .i64 a0_4) := (blk_cell BK147.out 4).trans rfl
              have hfz28_0 := blk_frozen BK147.out 0
              have hfz28_1 := blk_frozen BK147.out 1
              have hfz28_2 := blk_frozen BK147.out 2
              have hfz28_3 := blk_frozen BK147.out 3
              have hfz28_4 := blk_frozen BK147.out 4
              go_wp2_with (first | ((with_reducible refine gate_dst (N := 46) rfl ?_); refine Kd.R_lit (Kd.int .i64) _ 3 ?hg (N := 46) ?hd (xs := ([a0_1, a0_2, a0_3] : List Int)) (inner := [.int .i64 a0_1, .int .i64 a0_2, .int .i64 a0_3]) (ok := fun _ => True) (okp := fun _ => True) ?hr ?hp (fun _ hk => hk) trivial (Below.refl _ _) (Nat.le_refl _) (by simp) ?_; (case hd => rfl); (case hg => rfl); (case hr => first | (go_simp; done) | (go_simp; rfl)); (case hp => exact (Reps.one (show Kd.M (Kd.int .i64) _ _ _ a0_1 [.int .i64 a0_1] from rfl) (Reps.one (show Kd.M (Kd.int .i64) _ _ _ a0_2 [.int .i64 a0_2] from rfl) (Reps.one (show Kd.M (Kd.int .i64) _ _ _ a0_3 [.int .i64 a0_3] from rfl) (Reps.none _ _))))); intro v159 w29 ho30 hb hg_ hnew_; clear hg_ hnew_; (first | rw [← Ny158.out] at ho30 | (simp only [Int.reduceToNat] at ho30; rw [← Ny158.out] at ho30)); have n0_ := Aside0.mk (Kd.R_lower ho30 (below_size (by repeat (first | (with_reducible first | exact HB.out | apply below_alloc | apply pw_below_drewN | apply below_drew1 | refine below_set ?_ GE147.out | refine below_set ?_ GE157.out) | exact HB.out)))); have n1_ := Aside0.mk (blk_below (g := gb147) (o := .cells #[.int .i64 a0_0, .int .i64 a0_1, .int .i64 a0_2, .int .i64 a0_3, .int .i64 a0_4] 25 (0, 0)) (by (with_reducible repeat (first | refine blk_drewN ?_ _ | refine blk_drew ?_ | refine blk_alloc ?_ _)); exact BK147.out) hb); have n2_ := Aside0.mk (blk_below (g := gb157) (o := .cells #[.int .i64 t148, .int .i64 t149, .string t150, .int .u32 t151, .int .u32 t152, .int .u32 t153, .bool t154, .bool t155] 42 (0, 0)) (by (with_reducible repeat (first | refine blk_drewN ?_ _ | refine blk_drew ?_ | refine blk_alloc ?_ _)); exact BK157.out) hb); have n3_ := Aside0.mk (below_step (by repeat (first | (with_reducible first | exact HB.out | apply below_alloc | apply pw_below_drewN | apply below_drew1 | refine below_set ?_ GE147.out | refine below_set ?_ GE157.out) | exact HB.out)) hb); clear BK147; clear BK157; clear HB; have HO160 := n0_; have BK147 := n1_; have BK157 := n2_; have HB := n3_; clear n0_ n1_ n2_ n3_; clear hb ho30; obtain ⟨Ao31, co31, eo31⟩ := Kd.R_slice HO160.out; subst eo31))
              go_loopg [6, 48] kj22 (fun kq v6 v48 w' => ∃ (x6_3 : Int) (x48_3 : Int), v6 = .int .u32 x6_3 ∧ v48 = .int .i64 x48_3 ∧ Aside0 (inst_Encode.l0 kq x6_3 y158 (y158.length : Int) x48_3 a0_0 a0_1 a0_2 a0_3 a0_4 t148 t149 t150 t151 t152 t153 t154 t155 = some (r1, r2)) ∧ Aside0 (kq ≤ kj22) ∧ Aside0 (Kd.R (Kd.int .i64) 3 w' w.heap.size (fun _ => True) (.slice Ao31 y158.length co31) y158) ∧ Aside0 (w'.heap[gb147]? = some (.cells #[.int .i64 a0_0, .int .i64 a0_1, .int .i64 a0_2, .int .i64 a0_3, .int .i64 a0_4] 25 (0, 0))) ∧ Aside0 (w'.heap[gb157]? = some (.cells #[.int .i64 t148, .int .i64 t149, .string t150, .int .u32 t151, .int .u32 t152, .int .u32 t153, .bool t154, .bool t155] 42 (0, 0))) ∧ Aside0 (Below w.heap.size w w'))
              case atStart => exact ⟨(x6_22), (0), (by first | rfl | (simp; done) | (simp [*]; done)), (by first | rfl | (simp; done) | (simp [*]; done)), H', ⟨Nat.le_refl _⟩, ⟨by (with_reducible repeat (first | apply Kd.R_alloc | apply Kd.R_drewN | apply Kd.R_drew)); exact HO160.out⟩, ⟨by (with_reducible repeat (first | refine blk_drewN ?_ _ | refine blk_drew ?_ | refine blk_alloc ?_ _)); exact BK147.out⟩, ⟨by (with_reducible repeat (first | refine blk_drewN ?_ _ | refine blk_drew ?_ | refine blk_alloc ?_ _)); exact BK157.out⟩, ⟨by repeat (first | (with_reducible first | exact HB.out | apply below_alloc | apply pw_below_drewN | apply below_drew1 | refine below_set ?_ GE147.out | refine below_set ?_ GE157.out) | exact HB.out)⟩⟩
              case round =>
                clear H'
                try clear c1
                try clear c2
                try clear p2
                try clear c3
                try clear c4
                try clear c4b0
                try clear c4b1
                try clear c9
                try clear c16
                try clear c18
                try clear c18b0
                try clear c18b1
                try clear c19
                try clear c21
                try clear c24
                try clear c25
                try clear c26
                try clear c27
                try clear hcz10_0
                try clear hcz10_1
                try clear hcz10_2
                try clear hcz10_3
                try clear hcz10_4
                try clear hcz10_5
                try clear hcz10_6
                try clear hcz10_7
                try clear hcz13_0
                try clear hcz13_1
                try clear hcz13_2
                try clear hcz13_3
                try clear hcz13_4
                try clear hcz17_0
                try clear hcz17_1
                try clear hcz17_2
                try clear hcz17_3
                try clear hcz17_4
                try clear hcz17_5
                try clear hcz17_6
                try clear hcz17_7
                try clear hcz20_0
                try clear hcz20_1
                try clear hcz20_2
                try clear hcz20_3
                try clear hcz20_4
                try clear hcz20_5
                try clear hcz20_6
                try clear hcz20_7
                try clear hcz22_0
                try clear hcz22_1
                try clear hcz22_2
                try clear hcz22_3
                try clear hcz22_4
                try clear hcz22_5
                try clear hcz22_6
                try clear hcz22_7
                try clear hcz26_0
                try clear hcz26_1
                try clear hcz26_2
                try clear hcz26_3
                try clear hcz26_4
                try clear hcz26_5
                try clear hcz26_6
                try clear hcz26_7
                try clear hcz28_0
                try clear hcz28_1
                try clear hcz28_2
                try clear hcz28_3
                try clear hcz28_4
                try clear hcz6_0
                try clear hcz6_1
                try clear hcz6_2
                try clear hcz6_3
                try clear hcz6_4
                try clear hfz10_0
                try clear hfz10_1
                try clear hfz10_2
                try clear hfz10_3
                try clear hfz10_4
                try clear hfz10_5
                try clear hfz10_6
                try clear hfz10_7
                try clear hfz13_0
                try clear hfz13_1
                try clear hfz13_2
                try clear hfz13_3
                try clear hfz13_4
                try clear hfz17_0
                try clear hfz17_1
                try clear hfz17_2
                try clear hfz17_3
                try clear hfz17_4
                try clear hfz17_5
                try clear hfz17_6
                try clear hfz17_7
                try clear hfz20_0
                try clear hfz20_1
                try clear hfz20_2
                try clear hfz20_3
                try clear hfz20_4
                try clear hfz20_5
                try clear hfz20_6
                try clear hfz20_7
                try clear hfz22_0
                try clear hfz22_1
                try clear hfz22_2
                try clear hfz22_3
                try clear hfz22_4
                try clear hfz22_5
                try clear hfz22_6
                try clear hfz22_7
                try clear hfz26_0
                try clear hfz26_1
                try clear hfz26_2
                try clear hfz26_3
                try clear hfz26_4
                try clear hfz26_5
                try clear hfz26_6
                try clear hfz26_7
                try clear hfz28_0
                try clear hfz28_1
                try clear hfz28_2
                try clear hfz28_3
                try clear hfz28_4
                try clear hfz6_0
                try clear hfz6_1
                try clear hfz6_2
                try clear hfz6_3
                try clear hfz6_4
                try clear p2
                obtain ⟨x6_3, x48_3, rfl, rfl, HA, HK3, HO_46, BK147, BK157, HB⟩ := hrel
                cases gk with
                | zero => exact absurd HA.out (by simp [inst_Encode.l0])
                | succ k3 =>
                  have H := HA.out
                  clear HA
                  simp only [inst_Encode.l0] at H
                  by_cases c32 : x48_3 < (y158.length : Int)
                  · rw [if_pos c32] at H
                    have c32b0 : decide (x48_3 < (y158.length : Int)) = true := decide_eq_true c32
                    clear c32
                    by_cases c33 : 0 ≤ x48_3
                    · rw [if_pos c33] at H
                      have c33b0 : decide (0 ≤ x48_3) = true := decide_eq_true c33
                      clear c33
                      by_cases c34 : x48_3 < (y158.length : Int)
                      · rw [if_pos c34] at H
                        have c34b0 : decide (x48_3 < (y158.length : Int)) = true := decide_eq_true c34
                        clear c34
                        replace H := Option.bind_eq_some_iff.mp H
                        obtain ⟨t162, A350, H⟩ := H
                        replace H : (if t162 = true then (if (rd y158 x48_3) < 0 then (some (0, false)) else (if (rd y158 x48_3) > 31 then (some (0, false)) else ((some (([7, 15, 20] : List Int) : List Int)).bind fun y163 => (if x48_3 < (y163.length : Int) then (if 0 ≤ (rd y163 x48_3) then (inst_Encode.l0 k3 (Go.bits .or .u32 x6_3 (shl .u32 ((rd y158 x48_3) % 4294967296) (rd y163 x48_3))) y158 (y158.length : Int) (wrap64 (x48_3 + 1)) a0_0 a0_1 a0_2 a0_3 a0_4 t148 t149 t150 t151 t152 t153 t154 t155) else (none)) else (none))))) else (inst_Encode.l0 k3 x6_3 y158 (y158.length : Int) (wrap64 (x48_3 + 1)) a0_0 a0_1 a0_2 a0_3 a0_4 t148 t149 t150 t151 t152 t153 t154 t155)) = some (r1, r2) := H
                        have A35 := Aside0.mk A350
                        clear A350
                        by_cases c36 : t162 = true
                        · subst c36
                          have H1 : (if (rd y158 x48_3) < 0 then (some (0, false)) else (if (rd y158 x48_3) > 31 then (some (0, false)) else ((some (([7, 15, 20] : List Int) : List Int)).bind fun y163 => (if x48_3 < (y163.length : Int) then (if 0 ≤ (rd y163 x48_3) then (inst_Encode.l0 k3 (Go.bits .or .u32 x6_3 (shl .u32 ((rd y158 x48_3) % 4294967296) (rd y163 x48_3))) y158 (y158.length : Int) (wrap64 (x48_3 + 1)) a0_0 a0_1 a0_2 a0_3 a0_4 t148 t149 t150 t151 t152 t153 t154 t155) else (none)) else (none))))) = some (r1, r2) := by rw [if_pos rfl] at H; exact H
                          clear H
                          have H := H1
                          clear H1
                          by_cases c37 : (rd y158 x48_3) < 0
                          · rw [if_pos c37] at H
                            have c37b0 : decide ((rd y158 x48_3) < 0) = true := decide_eq_true c37
                            clear c37
                            simp only [Option.some.injEq, Prod.mk.injEq] at H
                            obtain ⟨rfl, rfl⟩ := H
                            have p161 : 0 ≤ (x48_3 : Int) := of_decide_eq_true (by first | (with_reducible assumption) | assumption)
                            have q161 : x48_3 < (y158.length : Int) := of_decide_eq_true (by first | (with_reducible assumption) | assumption)
                            obtain ⟨ad161, e161, hx161_0⟩ := Kd.at_int (Kd.R_reads' HO_46.out).2.2 x48_3 p161 q161
                            cases e161
                            replace p161 := eq_true p161
                            replace q161 := eq_true q161
                            have hnb38 := NB157_147.out
                            have hnc38 := NB147_157.out
                            have hcz39_0 : wr.cell? ⟨gb157, 0, none⟩ = some (.int .i64 t148) := (blk_cell BK157.out 0).trans rfl
                            have hcz39_1 : wr.cell? ⟨gb157, 1, none⟩ = some (.int .i64 t149) := (blk_cell BK157.out 1).trans rfl
                            have hcz39_2 : wr.cell? ⟨gb157, 2, none⟩ = some (.string t150) := (blk_cell BK157.out 2).trans rfl
                            have hcz39_3 : wr.cell? ⟨gb157, 3, none⟩ = some (.int .u32 t151) := (blk_cell BK157.out 3).trans rfl
                            have hcz39_4 : wr.cell? ⟨gb157, 4, none⟩ = some (.int .u32 t152) := (blk_cell BK157.out 4).trans rfl
                            have hcz39_5 : wr.cell? ⟨gb157, 5, none⟩ = some (.int .u32 t153) := (blk_cell BK157.out 5).trans rfl
                            have hcz39_6 : wr.cell? ⟨gb157, 6, none⟩ = some (.bool t154) := (blk_cell BK157.out 6).trans rfl
                            have hcz39_7 : wr.cell? ⟨gb157, 7, none⟩ = some (.bool t155) := (blk_cell BK157.out 7).trans rfl
                            have hfz39_0 := blk_frozen BK157.out 0
                            have hfz39_1 := blk_frozen BK157.out 1
                            have hfz39_2 := blk_frozen BK157.out 2
                            have hfz39_3 := blk_frozen BK157.out 3
                            have hfz39_4 := blk_frozen BK157.out 4
                            have hfz39_5 := blk_frozen BK157.out 5
                            have hfz39_6 := blk_frozen BK157.out 6
                            have hfz39_7 := blk_frozen BK157.out 7
                            go_wp2_with (first | ((with_reducible refine gate_callee (f := 18) rfl ?_); refine goesL_ (some 56) rfl rfl Try.func18 (by kernel_rfl) rfl #[.int .i64 t149, .int .i64 x48_3] rfl (by (try simp only [List.map_toArray, List.map_cons, List.map_nil]); first | done | rfl | (simp only [List.length_drop, List.length_take]; rfl)) ?_; (with_reducible refine (inst_has.calls t149 x48_3 true _ A35.out).mono ?_); rintro e w' ⟨rfl, ⟨nd, rfl⟩⟩; refine ⟨_, rfl, ?_⟩))
                            go_ret2
                            exact ⟨by first | rfl | (simp [errW_none, errW_some] <;> rfl) | (simp [*, errW_none, errW_some] <;> rfl), by repeat (first | (with_reducible first | exact HB.out | apply below_alloc | apply pw_below_drewN | apply below_drew1 | refine below_set ?_ GE147.out | refine below_set ?_ GE157.out) | exact HB.out)⟩
                          · rw [if_neg c37] at H
                            have c37b0 : decide ((rd y158 x48_3) < 0) = false := decide_eq_false c37
                            clear c37
                            by_cases c40 : (rd y158 x48_3) > 31
                            · rw [if_pos c40] at H
                              have c40b0 : decide (31 < (rd y158 x48_3)) = true := decide_eq_true c40
                              clear c40
                              simp only [Option.some.injEq, Prod.mk.injEq] at H
                              obtain ⟨rfl, rfl⟩ := H
                              have p161 : 0 ≤ (x48_3 : Int) := of_decide_eq_true (by first | (with_reducible assumption) | assumption)
                              have q161 : x48_3 < (y158.length : Int) := of_decide_eq_true (by first | (with_reducible assumption) | assumption)
                              obtain ⟨ad161, e161, hx161_0⟩ := Kd.at_int (Kd.R_reads' HO_46.out).2.2 x48_3 p161 q161
                              cases e161
                              replace p161 := eq_true p161
                              replace q161 := eq_true q161
                              have hnb41 := NB157_147.out
                              have hnc41 := NB147_157.out
                              have hcz42_0 : wr.cell? ⟨gb157, 0, none⟩ = some (.int .i64 t148) := (blk_cell BK157.out 0).trans rfl
                              have hcz42_1 : wr.cell? ⟨gb157, 1, none⟩ = some (.int .i64 t149) := (blk_cell BK157.out 1).trans rfl
                              have hcz42_2 : wr.cell? ⟨gb157, 2, none⟩ = some (.string t150) := (blk_cell BK157.out 2).trans rfl
                              have hcz42_3 : wr.cell? ⟨gb157, 3, none⟩ = some (.int .u32 t151) := (blk_cell BK157.out 3).trans rfl
                              have hcz42_4 : wr.cell? ⟨gb157, 4, none⟩ = some (.int .u32 t152) := (blk_cell BK157.out 4).trans rfl
                              have hcz42_5 : wr.cell? ⟨gb157, 5, none⟩ = some (.int .u32 t153) := (blk_cell BK157.out 5).trans rfl
                              have hcz42_6 : wr.cell? ⟨gb157, 6, none⟩ = some (.bool t154) := (blk_cell BK157.out 6).trans rfl
                              have hcz42_7 : wr.cell? ⟨gb157, 7, none⟩ = some (.bool t155) := (blk_cell BK157.out 7).trans rfl
                              have hfz42_0 := blk_frozen BK157.out 0
                              have hfz42_1 := blk_frozen BK157.out 1
                              have hfz42_2 := blk_frozen BK157.out 2
                              have hfz42_3 := blk_frozen BK157.out 3
                              have hfz42_4 := blk_frozen BK157.out 4
                              have hfz42_5 := blk_frozen BK157.out 5
                              have hfz42_6 := blk_frozen BK157.out 6
                              have hfz42_7 := blk_frozen BK157.out 7
                              go_wp2_with (first | ((with_reducible refine gate_callee (f := 18) rfl ?_); refine goesL_ (some 56) rfl rfl Try.func18 (by kernel_rfl) rfl #[.int .i64 t149, .int .i64 x48_3] rfl (by (try simp only [List.map_toArray, List.map_cons, List.map_nil]); first | done | rfl | (simp only [List.length_drop, List.length_take]; rfl)) ?_; (with_reducible refine (inst_has.calls t149 x48_3 true _ A35.out).mono ?_); rintro e w' ⟨rfl, ⟨nd, rfl⟩⟩; refine ⟨_, rfl, ?_⟩))
                              go_ret2
                              exact ⟨by first | rfl | (simp [errW_none, errW_some] <;> rfl) | (simp [*, errW_none, errW_some] <;> rfl), by repeat (first | (with_reducible first | exact HB.out | apply below_alloc | apply pw_below_drewN | apply below_drew1 | refine below_set ?_ GE147.out | refine below_set ?_ GE157.out) | exact HB.out)⟩
                            · rw [if_neg c40] at H
                              have c40b0 : decide (31 < (rd y158 x48_3)) = false := decide_eq_false c40
                              clear c40
                              obtain ⟨y163, hy163⟩ : ∃ y_ : List Int, y_ = (([7, 15, 20] : List Int)) := ⟨_, rfl⟩
                              replace H : (if x48_3 < (y163.length : Int) then (if 0 ≤ (rd y163 x48_3) then (inst_Encode.l0 k3 (Go.bits .or .u32 x6_3 (shl .u32 ((rd y158 x48_3) % 4294967296) (rd y163 x48_3))) y158 (y158.length : Int) (wrap64 (x48_3 + 1)) a0_0 a0_1 a0_2 a0_3 a0_4 t148 t149 t150 t151 t152 t153 t154 t155) else (none)) else (none)) = some (r1, r2) := by first | (rw [hy163]; with_reducible exact H) | (have H2_ := (Option.bind_some _ _).symm.trans H; rw [hy163]; with_reducible exact H2_) | (have H2_ := (Option.bind_some _ _).symm.trans H; with_reducible exact H2_) | with_reducible exact H | (rw [hy163]; exact H) | exact H
                              have Ny163 := Aside0.mk hy163
                              clear hy163
                              by_cases c43 : x48_3 < (y163.length : Int)
                              · rw [if_pos c43] at H
                                have c43b0 : decide (x48_3 < (y163.length : Int)) = true := decide_eq_true c43
                                clear c43
                                by_cases c44 : 0 ≤ (rd y163 x48_3)
                                · rw [if_pos c44] at H
                                  have c44b0 := eq_true c44
                                  have c44b1 : decide (0 ≤ (rd y163 x48_3)) = true := decide_eq_true c44
                                  clear c44
                                  obtain ⟨ji45, hji45⟩ : ∃ j_ : Int, (shl .u32 ((rd y158 x48_3) % 4294967296) (rd y163 x48_3)) = j_ := ⟨_, rfl⟩
                                  replace H : (inst_Encode.l0 k3 (Go.bits .or .u32 x6_3 (ji45)) y158 (y158.length : Int) (wrap64 (x48_3 + 1)) a0_0 a0_1 a0_2 a0_3 a0_4 t148 t149 t150 t151 t152 t153 t154 t155) = some (r1, r2) := by first | (rw [hji45] at H; exact H) | (simp only [hji45] at H ⊢; exact H)
                                  (try rw [hji45] at A35)
                                  have hji45_ : (IntKind.u32.wrap (((rd y158 x48_3) % 4294967296) * 2 ^ min (rd y163 x48_3).toNat 32)) = ji45 := hji45
                                  have hji45z : (rd y163 x48_3) ≤ 32 → (IntKind.u32.wrap (((rd y158 x48_3) % 4294967296) * 2 ^ (rd y163 x48_3).toNat)) = ji45 := shl_small hji45
                                  have H' := Aside0.mk H
                                  clear H
                                  have p161 : 0 ≤ (x48_3 : Int) := of_decide_eq_true (by first | (with_reducible assumption) | assumption)
                                  have q161 : x48_3 < (y158.length : Int) := of_decide_eq_true (by first | (with_reducible assumption) | assumption)
                                  obtain ⟨ad161, e161, hx161_0⟩ := Kd.at_int (Kd.R_reads' HO_46.out).2.2 x48_3 p161 q161
                                  cases e161
                                  replace p161 := eq_true p161
                                  replace q161 := eq_true q161
                                  have hnb46 := NB157_147.out
                                  have hnc46 := NB147_157.out
                                  have hcz47_0 : wr.cell? ⟨gb157, 0, none⟩ = some (.int .i64 t148) := (blk_cell BK157.out 0).trans rfl
                                  have hcz47_1 : wr.cell? ⟨gb157, 1, none⟩ = some (.int .i64 t149) := (blk_cell BK157.out 1).trans rfl
                                  have hcz47_2 : wr.cell? ⟨gb157, 2, none⟩ = some (.string t150) := (blk_cell BK157.out 2).trans rfl
                                  have hcz47_3 : wr.cell? ⟨gb157, 3, none⟩ = some (.int .u32 t151) := (blk_cell BK157.out 3).trans rfl
                                  have hcz47_4 : wr.cell? ⟨gb157, 4, none⟩ = some (.int .u32 t152) := (blk_cell BK157.out 4).trans rfl
                                  have hcz47_5 : wr.cell? ⟨gb157, 5, none⟩ = some (.int .u32 t153) := (blk_cell BK157.out 5).trans rfl
                                  have hcz47_6 : wr.cell? ⟨gb157, 6, none⟩ = some (.bool t154) := (blk_cell BK157.out 6).trans rfl
                                  have hcz47_7 : wr.cell? ⟨gb157, 7, none⟩ = some (.bool t155) := (blk_cell BK157.out 7).trans rfl
                                  have hfz47_0 := blk_frozen BK157.out 0
                                  have hfz47_1 := blk_frozen BK157.out 1
                                  have hfz47_2 := blk_frozen BK157.out 2
                                  have hfz47_3 := blk_frozen BK157.out 3
                                  have hfz47_4 := blk_frozen BK157.out 4
                                  have hfz47_5 := blk_frozen BK157.out 5
                                  have hfz47_6 := blk_frozen BK157.out 6
                                  have hfz47_7 := blk_frozen BK157.out 7
                                  go_wp2_with (first | ((with_reducible refine gate_callee (f := 18) rfl ?_); refine goesL_ (some 56) rfl rfl Try.func18 (by kernel_rfl) rfl #[.int .i64 t149, .int .i64 x48_3] rfl (by (try simp only [List.map_toArray, List.map_cons, List.map_nil]); first | done | rfl | (simp only [List.length_drop, List.length_take]; rfl)) ?_; (with_reducible refine (inst_has.calls t149 x48_3 true _ A35.out).mono ?_); rintro e w' ⟨rfl, ⟨nd, rfl⟩⟩; refine ⟨_, rfl, ?_⟩) | ((with_reducible refine gate_dst (N := 67) rfl ?_); refine Kd.R_lit (Kd.int .u64) _ 37 ?hg (N := 67) ?hd (xs := ([7, 15, 20] : List Int)) (inner := [.int .u64 7, .int .u64 15, .int .u64 20]) (ok := fun _ => True) (okp := fun _ => True) ?hr ?hp (fun _ hk => hk) trivial (Below.refl _ _) (Nat.le_refl _) (by simp) ?_; (case hd => rfl); (case hg => rfl); (case hr => first | (go_simp; done) | (go_simp; rfl)); (case hp => exact (Reps.one (show Kd.M (Kd.int .u64) _ _ _ 7 [.int .u64 7] from rfl) (Reps.one (show Kd.M (Kd.int .u64) _ _ _ 15 [.int .u64 15] from rfl) (Reps.one (show Kd.M (Kd.int .u64) _ _ _ 20 [.int .u64 20] from rfl) (Reps.none _ _))))); intro v164 w48 ho49 hb hg_ hnew_; clear hg_ hnew_; (first | rw [← Ny163.out] at ho49 | (simp only [Int.reduceToNat] at ho49; rw [← Ny163.out] at ho49)); have n0_ := Aside0.mk (Kd.R_below (by (with_reducible repeat (first | apply Kd.R_alloc | apply Kd.R_drewN | apply Kd.R_drew)); exact HO_46.out) hb); have n1_ := Aside0.mk (Kd.R_lower ho49 (below_size (by repeat (first | (with_reducible first | exact HB.out | apply below_alloc | apply pw_below_drewN | apply below_drew1 | refine below_set ?_ GE147.out | refine below_set ?_ GE157.out) | exact HB.out)))); have n2_ := Aside0.mk (blk_below (g := gb147) (o := .cells #[.int .i64 a0_0, .int .i64 a0_1, .int .i64 a0_2, .int .i64 a0_3, .int .i64 a0_4] 25 (0, 0)) (by (with_reducible repeat (first | refine blk_drewN ?_ _ | refine blk_drew ?_ | refine blk_alloc ?_ _)); exact BK147.out) hb); have n3_ := Aside0.mk (blk_below (g := gb157) (o := .cells #[.int .i64 t148, .int .i64 t149, .string t150, .int .u32 t151, .int .u32 t152, .int .u32 t153, .bool t154, .bool t155] 42 (0, 0)) (by (with_reducible repeat (first | refine blk_drewN ?_ _ | refine blk_drew ?_ | refine blk_alloc ?_ _)); exact BK157.out) hb); have n4_ := Aside0.mk (below_step (by repeat (first | (with_reducible first | exact HB.out | apply below_alloc | apply pw_below_drewN | apply below_drew1 | refine below_set ?_ GE147.out | refine below_set ?_ GE157.out) | exact HB.out)) hb); clear HO_46; clear BK147; clear BK157; clear HB; have HO_46 := n0_; have HO165 := n1_; have BK147 := n2_; have BK157 := n3_; have HB := n4_; clear n0_ n1_ n2_ n3_ n4_; clear hb ho49; obtain ⟨Ao50, co50, eo50⟩ := Kd.R_slice HO165.out; subst eo50; have p166 : 0 ≤ (x48_3 : Int) := of_decide_eq_true (by first | (with_reducible assumption) | assumption); have q166 : x48_3 < (y163.length : Int) := of_decide_eq_true (by first | (with_reducible assumption) | assumption); obtain ⟨ad166, e166, hx166_0⟩ := Kd.at_int (Kd.R_reads' HO165.out).2.2 x48_3 p166 q166; cases e166; replace p166 := eq_true p166; replace q166 := eq_true q166))
                                  go_roundg k3
                                  case measure => have := HJ10.out; have := HJ22.out; have := HK3.out; omega
                                  case rel => exact ⟨(Go.bits .or .u32 x6_3 (ji45)), (wrap64 (x48_3 + 1)), (by first | rfl | (simp; done) | (simp only [← hji45] <;> (first | rfl | simp)) | (simp [*]; done)), (by first | rfl | (simp; done) | (simp [*]; done)), H', ⟨by have := HJ10.out; have := HJ22.out; have := HK3.out; omega⟩, ⟨by (with_reducible repeat (first | apply Kd.R_alloc | apply Kd.R_drewN | apply Kd.R_drew)); exact HO_46.out⟩, ⟨by (with_reducible repeat (first | refine blk_drewN ?_ _ | refine blk_drew ?_ | refine blk_alloc ?_ _)); exact BK147.out⟩, ⟨by (with_reducible repeat (first | refine blk_drewN ?_ _ | refine blk_drew ?_ | refine blk_alloc ?_ _)); exact BK157.out⟩, ⟨by repeat (first | (with_reducible first | exact HB.out | apply below_alloc | apply pw_below_drewN | apply below_drew1 | refine below_set ?_ GE147.out | refine below_set ?_ GE157.out) | exact HB.out)⟩⟩
                                · rw [if_neg c44] at H
                                  exact absurd H (by simp)
                              · rw [if_neg c43] at H
                                exact absurd H (by simp)
                        · replace c36 := Bool.eq_false_iff.mpr c36
                          subst c36
                          have H1 : (inst_Encode.l0 k3 x6_3 y158 (y158.length : Int) (wrap64 (x48_3 + 1)) a0_0 a0_1 a0_2 a0_3 a0_4 t148 t149 t150 t151 t152 t153 t154 t155) = some (r1, r2) := by rw [if_neg (show ¬ (false = true) by decide)] at H; exact H
                          clear H
                          have H := H1
                          clear H1
                          have H' := Aside0.mk H
                          clear H
                          have p161 : 0 ≤ (x48_3 : Int) := of_decide_eq_true (by first | (with_reducible assumption) | assumption)
                          have q161 : x48_3 < (y158.length : Int) := of_decide_eq_true (by first | (with_reducible assumption) | assumption)
                          obtain ⟨ad161, e161, hx161_0⟩ := Kd.at_int (Kd.R_reads' HO_46.out).2.2 x48_3 p161 q161
                          cases e161
                          replace p161 := eq_true p161
                          replace q161 := eq_true q161
                          have hnb51 := NB157_147.out
                          have hnc51 := NB147_157.out
                          have hcz52_0 : wr.cell? ⟨gb157, 0, none⟩ = some (.int .i64 t148) := (blk_cell BK157.out 0).trans rfl
                          have hcz52_1 : wr.cell? ⟨gb157, 1, none⟩ = some (.int .i64 t149) := (blk_cell BK157.out 1).trans rfl
                          have hcz52_2 : wr.cell? ⟨gb157, 2, none⟩ = some (.string t150) := (blk_cell BK157.out 2).trans rfl
                          have hcz52_3 : wr.cell? ⟨gb157, 3, none⟩ = some (.int .u32 t151) := (blk_cell BK157.out 3).trans rfl
                          have hcz52_4 : wr.cell? ⟨gb157, 4, none⟩ = some (.int .u32 t152) := (blk_cell BK157.out 4).trans rfl
                          have hcz52_5 : wr.cell? ⟨gb157, 5, none⟩ = some (.int .u32 t153) := (blk_cell BK157.out 5).trans rfl
                          have hcz52_6 : wr.cell? ⟨gb157, 6, none⟩ = some (.bool t154) := (blk_cell BK157.out 6).trans rfl
                          have hcz52_7 : wr.cell? ⟨gb157, 7, none⟩ = some (.bool t155) := (blk_cell BK157.out 7).trans rfl
                          have hfz52_0 := blk_frozen BK157.out 0
                          have hfz52_1 := blk_frozen BK157.out 1
                          have hfz52_2 := blk_frozen BK157.out 2
                          have hfz52_3 := blk_frozen BK157.out 3
                          have hfz52_4 := blk_frozen BK157.out 4
                          have hfz52_5 := blk_frozen BK157.out 5
                          have hfz52_6 := blk_frozen BK157.out 6
                          have hfz52_7 := blk_frozen BK157.out 7
                          go_wp2_with (first | ((with_reducible refine gate_callee (f := 18) rfl ?_); refine goesL_ (some 56) rfl rfl Try.func18 (by kernel_rfl) rfl #[.int .i64 t149, .int .i64 x48_3] rfl (by (try simp only [List.map_toArray, List.map_cons, List.map_nil]); first | done | rfl | (simp only [List.length_drop, List.length_take]; rfl)) ?_; (with_reducible refine (inst_has.calls t149 x48_3 false _ A35.out).mono ?_); rintro e w' ⟨rfl, ⟨nd, rfl⟩⟩; refine ⟨_, rfl, ?_⟩))
                          go_roundg k3
                          case measure => have := HJ10.out; have := HJ22.out; have := HK3.out; omega
                          case rel => exact ⟨(x6_3), (wrap64 (x48_3 + 1)), (by first | rfl | (simp; done) | (simp [*]; done)), (by first | rfl | (simp; done) | (simp [*]; done)), H', ⟨by have := HJ10.out; have := HJ22.out; have := HK3.out; omega⟩, ⟨by (with_reducible repeat (first | apply Kd.R_alloc | apply Kd.R_drewN | apply Kd.R_drew)); exact HO_46.out⟩, ⟨by (with_reducible repeat (first | refine blk_drewN ?_ _ | refine blk_drew ?_ | refine blk_alloc ?_ _)); exact BK147.out⟩, ⟨by (with_reducible repeat (first | refine blk_drewN ?_ _ | refine blk_drew ?_ | refine blk_alloc ?_ _)); exact BK157.out⟩, ⟨by repeat (first | (with_reducible first | exact HB.out | apply below_alloc | apply pw_below_drewN | apply below_drew1 | refine below_set ?_ GE147.out | refine below_set ?_ GE157.out) | exact HB.out)⟩⟩
                      · rw [if_neg c34] at H
                        exact absurd H (by simp)
                    · rw [if_neg c33] at H
                      exact absurd H (by simp)
                  · rw [if_neg c32] at H
                    have c32b0 : decide (x48_3 < (y158.length : Int)) = false := decide_eq_false c32
                    clear c32
                    by_cases c53 : t154 = true
                    · subst c53
                      have H1 : (if t155 = true then (if a0_4 < 0 then (some (0, false)) else (if a0_4 > 63 then (some (0, false)) else (some (Go.bits .or .u32 (Go.bits .or .u32 x6_3 ((t153 * 33554432) % 4294967296)) ((((a0_4) % 4294967296) * 1048576) % 4294967296), true)))) else (if a0_4 < 0 then (some (0, false)) else (if a0_4 > 31 then (some (0, false)) else (some (Go.bits .or .u32 (Go.bits .or .u32 x6_3 ((t153 * 33554432) % 4294967296)) ((((a0_4) % 4294967296) * 1048576) % 4294967296), true))))) = some (r1, r2) := by rw [if_pos rfl] at H; exact H
                      clear H
                      have H := H1
                      clear H1
                      by_cases c54 : t155 = true
                      · subst c54
                        have H1 : (if a0_4 < 0 then (some (0, false)) else (if a0_4 > 63 then (some (0, false)) else (some (Go.bits .or .u32 (Go.bits .or .u32 x6_3 ((t153 * 33554432) % 4294967296)) ((((a0_4) % 4294967296) * 1048576) % 4294967296), true)))) = some (r1, r2) := by rw [if_pos rfl] at H; exact H
                        clear H
                        have H := H1
                        clear H1
                        by_cases c55 : a0_4 < 0
                        · rw [if_pos c55] at H
                          have c55b0 : decide (a0_4 < 0) = true := decide_eq_true c55
                          clear c55
                          simp only [Option.some.injEq, Prod.mk.injEq] at H
                          obtain ⟨rfl, rfl⟩ := H
                          have hnb56 := NB157_147.out
                          have hnc56 := NB147_157.out
                          have hcz57_0 : wr.cell? ⟨gb157, 0, none⟩ = some (.int .i64 t148) := (blk_cell BK157.out 0).trans rfl
                          have hcz57_1 : wr.cell? ⟨gb157, 1, none⟩ = some (.int .i64 t149) := (blk_cell BK157.out 1).trans rfl
                          have hcz57_2 : wr.cell? ⟨gb157, 2, none⟩ = some (.string t150) := (blk_cell BK157.out 2).trans rfl
                          have hcz57_3 : wr.cell? ⟨gb157, 3, none⟩ = some (.int .u32 t151) := (blk_cell BK157.out 3).trans rfl
                          have hcz57_4 : wr.cell? ⟨gb157, 4, none⟩ = some (.int .u32 t152) := (blk_cell BK157.out 4).trans rfl
                          have hcz57_5 : wr.cell? ⟨gb157, 5, none⟩ = some (.int .u32 t153) := (blk_cell BK157.out 5).trans rfl
                          have hcz57_6 : wr.cell? ⟨gb157, 6, none⟩ = some (.bool true) := (blk_cell BK157.out 6).trans rfl
                          have hcz57_7 : wr.cell? ⟨gb157, 7, none⟩ = some (.bool true) := (blk_cell BK157.out 7).trans rfl
                          have hfz57_0 := blk_frozen BK157.out 0
                          have hfz57_1 := blk_frozen BK157.out 1
                          have hfz57_2 := blk_frozen BK157.out 2
                          have hfz57_3 := blk_frozen BK157.out 3
                          have hfz57_4 := blk_frozen BK157.out 4
                          have hfz57_5 := blk_frozen BK157.out 5
                          have hfz57_6 := blk_frozen BK157.out 6
                          have hfz57_7 := blk_frozen BK157.out 7
                          have hcz58_0 : wr.cell? ⟨gb147, 0, none⟩ = some (.int .i64 a0_0) := (blk_cell BK147.out 0).trans rfl
                          have hcz58_1 : wr.cell? ⟨gb147, 1, none⟩ = some (.int .i64 a0_1) := (blk_cell BK147.out 1).trans rfl
                          have hcz58_2 : wr.cell? ⟨gb147, 2, none⟩ = some (.int .i64 a0_2) := (blk_cell BK147.out 2).trans rfl
                          have hcz58_3 : wr.cell? ⟨gb147, 3, none⟩ = some (.int .i64 a0_3) := (blk_cell BK147.out 3).trans rfl
                          have hcz58_4 : wr.cell? ⟨gb147, 4, none⟩ = some (.int .i64 a0_4) := (blk_cell BK147.out 4).trans rfl
                          have hfz58_0 := blk_frozen BK147.out 0
                          have hfz58_1 := blk_frozen BK147.out 1
                          have hfz58_2 := blk_frozen BK147.out 2
                          have hfz58_3 := blk_frozen BK147.out 3
                          have hfz58_4 := blk_frozen BK147.out 4
                          go_wp2
                          go_ret2
                          exact ⟨by first | rfl | (simp [errW_none, errW_some] <;> rfl) | (simp [*, errW_none, errW_some] <;> rfl), by repeat (first | (with_reducible first | exact HB.out | apply below_alloc | apply pw_below_drewN | apply below_drew1 | refine below_set ?_ GE147.out | refine below_set ?_ GE157.out) | exact HB.out)⟩
                        · rw [if_neg c55] at H
                          have c55b0 : decide (a0_4 < 0) = false := decide_eq_false c55
                          clear c55
                          by_cases c59 : a0_4 > 63
                          · rw [if_pos c59] at H
                            have c59b0 : decide (63 < a0_4) = true := decide_eq_true c59
                            clear c59
                            simp only [Option.some.injEq, Prod.mk.injEq] at H
                            obtain ⟨rfl, rfl⟩ := H
                            have hnb60 := NB157_147.out
                            have hnc60 := NB147_157.out
                            have hcz61_0 : wr.cell? ⟨gb157, 0, none⟩ = some (.int .i64 t148) := (blk_cell BK157.out 0).trans rfl
                            have hcz61_1 : wr.cell? ⟨gb157, 1, none⟩ = some (.int .i64 t149) := (blk_cell BK157.out 1).trans rfl
                            have hcz61_2 : wr.cell? ⟨gb157, 2, none⟩ = some (.string t150) := (blk_cell BK157.out 2).trans rfl
                            have hcz61_3 : wr.cell? ⟨gb157, 3, none⟩ = some (.int .u32 t151) := (blk_cell BK157.out 3).trans rfl
                            have hcz61_4 : wr.cell? ⟨gb157, 4, none⟩ = some (.int .u32 t152) := (blk_cell BK157.out 4).trans rfl
                            have hcz61_5 : wr.cell? ⟨gb157, 5, none⟩ = some (.int .u32 t153) := (blk_cell BK157.out 5).trans rfl
                            have hcz61_6 : wr.cell? ⟨gb157, 6, none⟩ = some (.bool true) := (blk_cell BK157.out 6).trans rfl
                            have hcz61_7 : wr.cell? ⟨gb157, 7, none⟩ = some (.bool true) := (blk_cell BK157.out 7).trans rfl
                            have hfz61_0 := blk_frozen BK157.out 0
                            have hfz61_1 := blk_frozen BK157.out 1
                            have hfz61_2 := blk_frozen BK157.out 2
                            have hfz61_3 := blk_frozen BK157.out 3
                            have hfz61_4 := blk_frozen BK157.out 4
                            have hfz61_5 := blk_frozen BK157.out 5
                            have hfz61_6 := blk_frozen BK157.out 6
                            have hfz61_7 := blk_frozen BK157.out 7
                            have hcz62_0 : wr.cell? ⟨gb147, 0, none⟩ = some (.int .i64 a0_0) := (blk_cell BK147.out 0).trans rfl
                            have hcz62_1 : wr.cell? ⟨gb147, 1, none⟩ = some (.int .i64 a0_1) := (blk_cell BK147.out 1).trans rfl
                            have hcz62_2 : wr.cell? ⟨gb147, 2, none⟩ = some (.int .i64 a0_2) := (blk_cell BK147.out 2).trans rfl
                            have hcz62_3 : wr.cell? ⟨gb147, 3, none⟩ = some (.int .i64 a0_3) := (blk_cell BK147.out 3).trans rfl
                            have hcz62_4 : wr.cell? ⟨gb147, 4, none⟩ = some (.int .i64 a0_4) := (blk_cell BK147.out 4).trans rfl
                            have hfz62_0 := blk_frozen BK147.out 0
                            have hfz62_1 := blk_frozen BK147.out 1
                            have hfz62_2 := blk_frozen BK147.out 2
                            have hfz62_3 := blk_frozen BK147.out 3
                            have hfz62_4 := blk_frozen BK147.out 4
                            go_wp2
                            go_ret2
                            exact ⟨by first | rfl | (simp [errW_none, errW_some] <;> rfl) | (simp [*, errW_none, errW_some] <;> rfl), by repeat (first | (with_reducible first | exact HB.out | apply below_alloc | apply pw_below_drewN | apply below_drew1 | refine below_set ?_ GE147.out | refine below_set ?_ GE157.out) | exact HB.out)⟩
                          · rw [if_neg c59] at H
                            have c59b0 : decide (63 < a0_4) = false := decide_eq_false c59
                            clear c59
                            simp only [Option.some.injEq, Prod.mk.injEq] at H
                            obtain ⟨rfl, rfl⟩ := H
                            have hnb63 := NB157_147.out
                            have hnc63 := NB147_157.out
                            have hcz64_0 : wr.cell? ⟨gb157, 0, none⟩ = some (.int .i64 t148) := (blk_cell BK157.out 0).trans rfl
                            have hcz64_1 : wr.cell? ⟨gb157, 1, none⟩ = some (.int .i64 t149) := (blk_cell BK157.out 1).trans rfl
                            have hcz64_2 : wr.cell? ⟨gb157, 2, none⟩ = some (.string t150) := (blk_cell BK157.out 2).trans rfl
                            have hcz64_3 : wr.cell? ⟨gb157, 3, none⟩ = some (.int .u32 t151) := (blk_cell BK157.out 3).trans rfl
                            have hcz64_4 : wr.cell? ⟨gb157, 4, none⟩ = some (.int .u32 t152) := (blk_cell BK157.out 4).trans rfl
                            have hcz64_5 : wr.cell? ⟨gb157, 5, none⟩ = some (.int .u32 t153) := (blk_cell BK157.out 5).trans rfl
                            have hcz64_6 : wr.cell? ⟨gb157, 6, none⟩ = some (.bool true) := (blk_cell BK157.out 6).trans rfl
                            have hcz64_7 : wr.cell? ⟨gb157, 7, none⟩ = some (.bool true) := (blk_cell BK157.out 7).trans rfl
                            have hfz64_0 := blk_frozen BK157.out 0
                            have hfz64_1 := blk_frozen BK157.out 1
                            have hfz64_2 := blk_frozen BK157.out 2
                            have hfz64_3 := blk_frozen BK157.out 3
                            have hfz64_4 := blk_frozen BK157.out 4
                            have hfz64_5 := blk_frozen BK157.out 5
                            have hfz64_6 := blk_frozen BK157.out 6
                            have hfz64_7 := blk_frozen BK157.out 7
                            have hcz65_0 : wr.cell? ⟨gb147, 0, none⟩ = some (.int .i64 a0_0) := (blk_cell BK147.out 0).trans rfl
                            have hcz65_1 : wr.cell? ⟨gb147, 1, none⟩ = some (.int .i64 a0_1) := (blk_cell BK147.out 1).trans rfl
                            have hcz65_2 : wr.cell? ⟨gb147, 2, none⟩ = some (.int .i64 a0_2) := (blk_cell BK147.out 2).trans rfl
                            have hcz65_3 : wr.cell? ⟨gb147, 3, none⟩ = some (.int .i64 a0_3) := (blk_cell BK147.out 3).trans rfl
                            have hcz65_4 : wr.cell? ⟨gb147, 4, none⟩ = some (.int .i64 a0_4) := (blk_cell BK147.out 4).trans rfl
                            have hfz65_0 := blk_frozen BK147.out 0
                            have hfz65_1 := blk_frozen BK147.out 1
                            have hfz65_2 := blk_frozen BK147.out 2
                            have hfz65_3 := blk_frozen BK147.out 3
                            have hfz65_4 := blk_frozen BK147.out 4
                            go_wp2
                            go_ret2
                            exact ⟨by first | rfl | (simp [errW_none, errW_some] <;> rfl) | (simp [*, errW_none, errW_some] <;> rfl), by repeat (first | (with_reducible first | exact HB.out | apply below_alloc | apply pw_below_drewN | apply below_drew1 | refine below_set ?_ GE147.out | refine below_set ?_ GE157.out) | exact HB.out)⟩
                      · replace c54 := Bool.eq_false_iff.mpr c54
                        subst c54
                        have H1 : (if a0_4 < 0 then (some (0, false)) else (if a0_4 > 31 then (some (0, false)) else (some (Go.bits .or .u32 (Go.bits .or .u32 x6_3 ((t153 * 33554432) % 4294967296)) ((((a0_4) % 4294967296) * 1048576) % 4294967296), true)))) = some (r1, r2) := by rw [if_neg (show ¬ (false = true) by decide)] at H; exact H
                        clear H
                        have H := H1
                        clear H1
                        by_cases c66 : a0_4 < 0
                        · rw [if_pos c66] at H
                          have c66b0 : decide (a0_4 < 0) = true := decide_eq_true c66
                          clear c66
                          simp only [Option.some.injEq, Prod.mk.injEq] at H
                          obtain ⟨rfl, rfl⟩ := H
                          have hnb67 := NB157_147.out
                          have hnc67 := NB147_157.out
                          have hcz68_0 : wr.cell? ⟨gb157, 0, none⟩ = some (.int .i64 t148) := (blk_cell BK157.out 0).trans rfl
                          have hcz68_1 : wr.cell? ⟨gb157, 1, none⟩ = some (.int .i64 t149) := (blk_cell BK157.out 1).trans rfl
                          have hcz68_2 : wr.cell? ⟨gb157, 2, none⟩ = some (.string t150) := (blk_cell BK157.out 2).trans rfl
                          have hcz68_3 : wr.cell? ⟨gb157, 3, none⟩ = some (.int .u32 t151) := (blk_cell BK157.out 3).trans rfl
                          have hcz68_4 : wr.cell? ⟨gb157, 4, none⟩ = some (.int .u32 t152) := (blk_cell BK157.out 4).trans rfl
                          have hcz68_5 : wr.cell? ⟨gb157, 5, none⟩ = some (.int .u32 t153) := (blk_cell BK157.out 5).trans rfl
                          have hcz68_6 : wr.cell? ⟨gb157, 6, none⟩ = some (.bool true) := (blk_cell BK157.out 6).trans rfl
                          have hcz68_7 : wr.cell? ⟨gb157, 7, none⟩ = some (.bool false) := (blk_cell BK157.out 7).trans rfl
                          have hfz68_0 := blk_frozen BK157.out 0
                          have hfz68_1 := blk_frozen BK157.out 1
                          have hfz68_2 := blk_frozen BK157.out 2
                          have hfz68_3 := blk_frozen BK157.out 3
                          have hfz68_4 := blk_frozen BK157.out 4
                          have hfz68_5 := blk_frozen BK157.out 5
                          have hfz68_6 := blk_frozen BK157.out 6
                          have hfz68_7 := blk_frozen BK157.out 7
                          have hcz69_0 : wr.cell? ⟨gb147, 0, none⟩ = some (.int .i64 a0_0) := (blk_cell BK147.out 0).trans rfl
                          have hcz69_1 : wr.cell? ⟨gb147, 1, none⟩ = some (.int .i64 a0_1) := (blk_cell BK147.out 1).trans rfl
                          have hcz69_2 : wr.cell? ⟨gb147, 2, none⟩ = some (.int .i64 a0_2) := (blk_cell BK147.out 2).trans rfl
                          have hcz69_3 : wr.cell? ⟨gb147, 3, none⟩ = some (.int .i64 a0_3) := (blk_cell BK147.out 3).trans rfl
                          have hcz69_4 : wr.cell? ⟨gb147, 4, none⟩ = some (.int .i64 a0_4) := (blk_cell BK147.out 4).trans rfl
                          have hfz69_0 := blk_frozen BK147.out 0
                          have hfz69_1 := blk_frozen BK147.out 1
                          have hfz69_2 := blk_frozen BK147.out 2
                          have hfz69_3 := blk_frozen BK147.out 3
                          have hfz69_4 := blk_frozen BK147.out 4
                          go_wp2
                          go_ret2
                          exact ⟨by first | rfl | (simp [errW_none, errW_some] <;> rfl) | (simp [*, errW_none, errW_some] <;> rfl), by repeat (first | (with_reducible first | exact HB.out | apply below_alloc | apply pw_below_drewN | apply below_drew1 | refine below_set ?_ GE147.out | refine below_set ?_ GE157.out) | exact HB.out)⟩
                        · rw [if_neg c66] at H
                          have c66b0 : decide (a0_4 < 0) = false := decide_eq_false c66
                          clear c66
                          by_cases c70 : a0_4 > 31
                          · rw [if_pos c70] at H
                            have c70b0 : decide (31 < a0_4) = true := decide_eq_true c70
                            clear c70
                            simp only [Option.some.injEq, Prod.mk.injEq] at H
                            obtain ⟨rfl, rfl⟩ := H
                            have hnb71 := NB157_147.out
                            have hnc71 := NB147_157.out
                            have hcz72_0 : wr.cell? ⟨gb157, 0, none⟩ = some (.int .i64 t148) := (blk_cell BK157.out 0).trans rfl
                            have hcz72_1 : wr.cell? ⟨gb157, 1, none⟩ = some (.int .i64 t149) := (blk_cell BK157.out 1).trans rfl
                            have hcz72_2 : wr.cell? ⟨gb157, 2, none⟩ = some (.string t150) := (blk_cell BK157.out 2).trans rfl
                            have hcz72_3 : wr.cell? ⟨gb157, 3, none⟩ = some (.int .u32 t151) := (blk_cell BK157.out 3).trans rfl
                            have hcz72_4 : wr.cell? ⟨gb157, 4, none⟩ = some (.int .u32 t152) := (blk_cell BK157.out 4).trans rfl
                            have hcz72_5 : wr.cell? ⟨gb157, 5, none⟩ = some (.int .u32 t153) := (blk_cell BK157.out 5).trans rfl
                            have hcz72_6 : wr.cell? ⟨gb157, 6, none⟩ = some (.bool true) := (blk_cell BK157.out 6).trans rfl
                            have hcz72_7 : wr.cell? ⟨gb157, 7, none⟩ = some (.bool false) := (blk_cell BK157.out 7).trans rfl
                            have hfz72_0 := blk_frozen BK157.out 0
                            have hfz72_1 := blk_frozen BK157.out 1
                            have hfz72_2 := blk_frozen BK157.out 2
                            have hfz72_3 := blk_frozen BK157.out 3
                            have hfz72_4 := blk_frozen BK157.out 4
                            have hfz72_5 := blk_frozen BK157.out 5
                            have hfz72_6 := blk_frozen BK157.out 6
                            have hfz72_7 := blk_frozen BK157.out 7
                            have hcz73_0 : wr.cell? ⟨gb147, 0, none⟩ = some (.int .i64 a0_0) := (blk_cell BK147.out 0).trans rfl
                            have hcz73_1 : wr.cell? ⟨gb147, 1, none⟩ = some (.int .i64 a0_1) := (blk_cell BK147.out 1).trans rfl
                            have hcz73_2 : wr.cell? ⟨gb147, 2, none⟩ = some (.int .i64 a0_2) := (blk_cell BK147.out 2).trans rfl
                            have hcz73_3 : wr.cell? ⟨gb147, 3, none⟩ = some (.int .i64 a0_3) := (blk_cell BK147.out 3).trans rfl
                            have hcz73_4 : wr.cell? ⟨gb147, 4, none⟩ = some (.int .i64 a0_4) := (blk_cell BK147.out 4).trans rfl
                            have hfz73_0 := blk_frozen BK147.out 0
                            have hfz73_1 := blk_frozen BK147.out 1
                            have hfz73_2 := blk_frozen BK147.out 2
                            have hfz73_3 := blk_frozen BK147.out 3
                            have hfz73_4 := blk_frozen BK147.out 4
                            go_wp2
                            go_ret2
                            exact ⟨by first | rfl | (simp [errW_none, errW_some] <;> rfl) | (simp [*, errW_none, errW_some] <;> rfl), by repeat (first | (with_reducible first | exact HB.out | apply below_alloc | apply pw_below_drewN | apply below_drew1 | refine below_set ?_ GE147.out | refine below_set ?_ GE157.out) | exact HB.out)⟩
                          · rw [if_neg c70] at H
                            have c70b0 : decide (31 < a0_4) = false := decide_eq_false c70
                            clear c70
                            simp only [Option.some.injEq, Prod.mk.injEq] at H
                            obtain ⟨rfl, rfl⟩ := H
                            have hnb74 := NB157_147.out
                            have hnc74 := NB147_157.out
                            have hcz75_0 : wr.cell? ⟨gb157, 0, none⟩ = some (.int .i64 t148) := (blk_cell BK157.out 0).trans rfl
                            have hcz75_1 : wr.cell? ⟨gb157, 1, none⟩ = some (.int .i64 t149) := (blk_cell BK157.out 1).trans rfl
                            have hcz75_2 : wr.cell? ⟨gb157, 2, none⟩ = some (.string t150) := (blk_cell BK157.out 2).trans rfl
                            have hcz75_3 : wr.cell? ⟨gb157, 3, none⟩ = some (.int .u32 t151) := (blk_cell BK157.out 3).trans rfl
                            have hcz75_4 : wr.cell? ⟨gb157, 4, none⟩ = some (.int .u32 t152) := (blk_cell BK157.out 4).trans rfl
                            have hcz75_5 : wr.cell? ⟨gb157, 5, none⟩ = some (.int .u32 t153) := (blk_cell BK157.out 5).trans rfl
                            have hcz75_6 : wr.cell? ⟨gb157, 6, none⟩ = some (.bool true) := (blk_cell BK157.out 6).trans rfl
                            have hcz75_7 : wr.cell? ⟨gb157, 7, none⟩ = some (.bool false) := (blk_cell BK157.out 7).trans rfl
                            have hfz75_0 := blk_frozen BK157.out 0
                            have hfz75_1 := blk_frozen BK157.out 1
                            have hfz75_2 := blk_frozen BK157.out 2
                            have hfz75_3 := blk_frozen BK157.out 3
                            have hfz75_4 := blk_frozen BK157.out 4
                            have hfz75_5 := blk_frozen BK157.out 5
                            have hfz75_6 := blk_frozen BK157.out 6
                            have hfz75_7 := blk_frozen BK157.out 7
                            have hcz76_0 : wr.cell? ⟨gb147, 0, none⟩ = some (.int .i64 a0_0) := (blk_cell BK147.out 0).trans rfl
                            have hcz76_1 : wr.cell? ⟨gb147, 1, none⟩ = some (.int .i64 a0_1) := (blk_cell BK147.out 1).trans rfl
                            have hcz76_2 : wr.cell? ⟨gb147, 2, none⟩ = some (.int .i64 a0_2) := (blk_cell BK147.out 2).trans rfl
                            have hcz76_3 : wr.cell? ⟨gb147, 3, none⟩ = some (.int .i64 a0_3) := (blk_cell BK147.out 3).trans rfl
                            have hcz76_4 : wr.cell? ⟨gb147, 4, none⟩ = some (.int .i64 a0_4) := (blk_cell BK147.out 4).trans rfl
                            have hfz76_0 := blk_frozen BK147.out 0
                            have hfz76_1 := blk_frozen BK147.out 1
                            have hfz76_2 := blk_frozen BK147.out 2
                            have hfz76_3 := blk_frozen BK147.out 3
                            have hfz76_4 := blk_frozen BK147.out 4
                            go_wp2
                            go_ret2
                            exact ⟨by first | rfl | (simp [errW_none, errW_some] <;> rfl) | (simp [*, errW_none, errW_some] <;> rfl), by repeat (first | (with_reducible first | exact HB.out | apply below_alloc | apply pw_below_drewN | apply below_drew1 | refine below_set ?_ GE147.out | refine below_set ?_ GE157.out) | exact HB.out)⟩
                    · replace c53 := Bool.eq_false_iff.mpr c53
                      subst c53
                      have H1 : (if t149 = 0 then ((imm_Put.f k3 t149 (Go.bits .or .u32 x6_3 ((t153 * 33554432) % 4294967296)) a0_4).bind fun bt167 => (some (bt167.1, bt167.2))) else ((imm_Put.f k3 t149 x6_3 a0_4).bind fun bt169 => (some (bt169.1, bt169.2)))) = some (r1, r2) := by rw [if_neg (show ¬ (false = true) by decide)] at H; exact H
                      clear H
                      have H := H1
                      clear H1
                      by_cases c77 : t149 = 0
                      · rw [if_pos c77] at H
                        have c77b0 : (t149 == 0) = true := beq_iff_eq.mpr c77
                        have c77b1 : (t149 != 0) = false := bne_eq_false_iff_eq.mpr c77
                        clear c77
                        replace H := Option.bind_eq_some_iff.mp H
                        obtain ⟨⟨t167, t168⟩, A780, H⟩ := H
                        replace H : (some (t167, t168)) = some (r1, r2) := H
                        have A78 := Aside0.mk A780
                        clear A780
                        simp only [Option.some.injEq, Prod.mk.injEq] at H
                        obtain ⟨rfl, rfl⟩ := H
                        have hnb79 := NB157_147.out
                        have hnc79 := NB147_157.out
                        have hcz80_0 : wr.cell? ⟨gb157, 0, none⟩ = some (.int .i64 t148) := (blk_cell BK157.out 0).trans rfl
                        have hcz80_1 : wr.cell? ⟨gb157, 1, none⟩ = some (.int .i64 t149) := (blk_cell BK157.out 1).trans rfl
                        have hcz80_2 : wr.cell? ⟨gb157, 2, none⟩ = some (.string t150) := (blk_cell BK157.out 2).trans rfl
                        have hcz80_3 : wr.cell? ⟨gb157, 3, none⟩ = some (.int .u32 t151) := (blk_cell BK157.out 3).trans rfl
                        have hcz80_4 : wr.cell? ⟨gb157, 4, none⟩ = some (.int .u32 t152) := (blk_cell BK157.out 4).trans rfl
                        have hcz80_5 : wr.cell? ⟨gb157, 5, none⟩ = some (.int .u32 t153) := (blk_cell BK157.out 5).trans rfl
                        have hcz80_6 : wr.cell? ⟨gb157, 6, none⟩ = some (.bool false) := (blk_cell BK157.out 6).trans rfl
                        have hcz80_7 : wr.cell? ⟨gb157, 7, none⟩ = some (.bool t155) := (blk_cell BK157.out 7).trans rfl
                        have hfz80_0 := blk_frozen BK157.out 0
                        have hfz80_1 := blk_frozen BK157.out 1
                        have hfz80_2 := blk_frozen BK157.out 2
                        have hfz80_3 := blk_frozen BK157.out 3
                        have hfz80_4 := blk_frozen BK157.out 4
                        have hfz80_5 := blk_frozen BK157.out 5
                        have hfz80_6 := blk_frozen BK157.out 6
                        have hfz80_7 := blk_frozen BK157.out 7
                        have hcz81_0 : wr.cell? ⟨gb147, 0, none⟩ = some (.int .i64 a0_0) := (blk_cell BK147.out 0).trans rfl
                        have hcz81_1 : wr.cell? ⟨gb147, 1, none⟩ = some (.int .i64 a0_1) := (blk_cell BK147.out 1).trans rfl
                        have hcz81_2 : wr.cell? ⟨gb147, 2, none⟩ = some (.int .i64 a0_2) := (blk_cell BK147.out 2).trans rfl
                        have hcz81_3 : wr.cell? ⟨gb147, 3, none⟩ = some (.int .i64 a0_3) := (blk_cell BK147.out 3).trans rfl
                        have hcz81_4 : wr.cell? ⟨gb147, 4, none⟩ = some (.int .i64 a0_4) := (blk_cell BK147.out 4).trans rfl
                        have hfz81_0 := blk_frozen BK147.out 0
                        have hfz81_1 := blk_frozen BK147.out 1
                        have hfz81_2 := blk_frozen BK147.out 2
                        have hfz81_3 := blk_frozen BK147.out 3
                        have hfz81_4 := blk_frozen BK147.out 4
                        go_wp2_with (first | ((with_reducible refine gate_callee (f := 27) rfl ?_); refine goesL_ (some 90) rfl rfl Try.func27 (by kernel_rfl) rfl #[.int .i64 t149, .int .u32 (Go.bits .or .u32 x6_3 ((t153 * 33554432) % 4294967296)), .int .i64 a0_4] rfl (by (try simp only [List.map_toArray, List.map_cons, List.map_nil]); first | done | rfl | (simp only [List.length_drop, List.length_take]; rfl)) ?_; (with_reducible refine (imm_Put.calls k3 t149 (Go.bits .or .u32 x6_3 ((t153 * 33554432) % 4294967296)) a0_4 t167 t168 _ A78.out).mono ?_); rintro e w82 ⟨rfl, hb⟩; refine ⟨_, rfl, ?_⟩; have n0_ := Aside0.mk (Kd.R_below (by (with_reducible repeat (first | apply Kd.R_alloc | apply Kd.R_drewN | apply Kd.R_drew)); exact HO_46.out) hb); have n1_ := Aside0.mk (blk_below (g := gb147) (o := .cells #[.int .i64 a0_0, .int .i64 a0_1, .int .i64 a0_2, .int .i64 a0_3, .int .i64 a0_4] 25 (0, 0)) (by (with_reducible repeat (first | refine blk_drewN ?_ _ | refine blk_drew ?_ | refine blk_alloc ?_ _)); exact BK147.out) hb); have n2_ := Aside0.mk (blk_below (g := gb157) (o := .cells #[.int .i64 t148, .int .i64 t149, .string t150, .int .u32 t151, .int .u32 t152, .int .u32 t153, .bool false, .bool t155] 42 (0, 0)) (by (with_reducible repeat (first | refine blk_drewN ?_ _ | refine blk_drew ?_ | refine blk_alloc ?_ _)); exact BK157.out) hb); have n3_ := Aside0.mk (below_step (by repeat (first | (with_reducible first | exact HB.out | apply below_alloc | apply pw_below_drewN | apply below_drew1 | refine below_set ?_ GE147.out | refine below_set ?_ GE157.out) | exact HB.out)) hb); clear HO_46; clear BK147; clear BK157; clear HB; have HO_46 := n0_; have BK147 := n1_; have BK157 := n2_; have HB := n3_; clear n0_ n1_ n2_ n3_; (try clear hb); (try clear hb2); (try clear hk); (try clear hi)))
                        go_ret2
                        exact ⟨by first | rfl | (simp [errW_none, errW_some] <;> rfl) | (simp [*, errW_none, errW_some] <;> rfl), by repeat (first | (with_reducible first | exact HB.out | apply below_alloc | apply pw_below_drewN | apply below_drew1 | refine below_set ?_ GE147.out | refine below_set ?_ GE157.out) | exact HB.out)⟩
                      · rw [if_neg c77] at H
                        have c77b0 : (t149 == 0) = false := beq_eq_false_iff_ne.mpr c77
                        have c77b1 : (t149 != 0) = true := bne_iff_ne.mpr c77
                        replace H := Option.bind_eq_some_iff.mp H
                        obtain ⟨⟨t169, t170⟩, A830, H⟩ := H
                        replace H : (some (t169, t170)) = some (r1, r2) := H
                        have A83 := Aside0.mk A830
                        clear A830
                        simp only [Option.some.injEq, Prod.mk.injEq] at H
                        obtain ⟨rfl, rfl⟩ := H
                        have hnb84 := NB157_147.out
                        have hnc84 := NB147_157.out
                        have hcz85_0 : wr.cell? ⟨gb157, 0, none⟩ = some (.int .i64 t148) := (blk_cell BK157.out 0).trans rfl
                        have hcz85_1 : wr.cell? ⟨gb157, 1, none⟩ = some (.int .i64 t149) := (blk_cell BK157.out 1).trans rfl
                        have hcz85_2 : wr.cell? ⟨gb157, 2, none⟩ = some (.string t150) := (blk_cell BK157.out 2).trans rfl
                        have hcz85_3 : wr.cell? ⟨gb157, 3, none⟩ = some (.int .u32 t151) := (blk_cell BK157.out 3).trans rfl
                        have hcz85_4 : wr.cell? ⟨gb157, 4, none⟩ = some (.int .u32 t152) := (blk_cell BK157.out 4).trans rfl
                        have hcz85_5 : wr.cell? ⟨gb157, 5, none⟩ = some (.int .u32 t153) := (blk_cell BK157.out 5).trans rfl
                        have hcz85_6 : wr.cell? ⟨gb157, 6, none⟩ = some (.bool false) := (blk_cell BK157.out 6).trans rfl
                        have hcz85_7 : wr.cell? ⟨gb157, 7, none⟩ = some (.bool t155) := (blk_cell BK157.out 7).trans rfl
                        have hfz85_0 := blk_frozen BK157.out 0
                        have hfz85_1 := blk_frozen BK157.out 1
                        have hfz85_2 := blk_frozen BK157.out 2
                        have hfz85_3 := blk_frozen BK157.out 3
                        have hfz85_4 := blk_frozen BK157.out 4
                        have hfz85_5 := blk_frozen BK157.out 5
                        have hfz85_6 := blk_frozen BK157.out 6
                        have hfz85_7 := blk_frozen BK157.out 7
                        have hcz86_0 : wr.cell? ⟨gb147, 0, none⟩ = some (.int .i64 a0_0) := (blk_cell BK147.out 0).trans rfl
                        have hcz86_1 : wr.cell? ⟨gb147, 1, none⟩ = some (.int .i64 a0_1) := (blk_cell BK147.out 1).trans rfl
                        have hcz86_2 : wr.cell? ⟨gb147, 2, none⟩ = some (.int .i64 a0_2) := (blk_cell BK147.out 2).trans rfl
                        have hcz86_3 : wr.cell? ⟨gb147, 3, none⟩ = some (.int .i64 a0_3) := (blk_cell BK147.out 3).trans rfl
                        have hcz86_4 : wr.cell? ⟨gb147, 4, none⟩ = some (.int .i64 a0_4) := (blk_cell BK147.out 4).trans rfl
                        have hfz86_0 := blk_frozen BK147.out 0
                        have hfz86_1 := blk_frozen BK147.out 1
                        have hfz86_2 := blk_frozen BK147.out 2
                        have hfz86_3 := blk_frozen BK147.out 3
                        have hfz86_4 := blk_frozen BK147.out 4
                        go_wp2_with (first | ((with_reducible refine gate_callee (f := 27) rfl ?_); refine goesL_ (some 90) rfl rfl Try.func27 (by kernel_rfl) rfl #[.int .i64 t149, .int .u32 x6_3, .int .i64 a0_4] rfl (by (try simp only [List.map_toArray, List.map_cons, List.map_nil]); first | done | rfl | (simp only [List.length_drop, List.length_take]; rfl)) ?_; (with_reducible refine (imm_Put.calls k3 t149 x6_3 a0_4 t169 t170 _ A83.out).mono ?_); rintro e w87 ⟨rfl, hb⟩; refine ⟨_, rfl, ?_⟩; have n0_ := Aside0.mk (Kd.R_below (by (with_reducible repeat (first | apply Kd.R_alloc | apply Kd.R_drewN | apply Kd.R_drew)); exact HO_46.out) hb); have n1_ := Aside0.mk (blk_below (g := gb147) (o := .cells #[.int .i64 a0_0, .int .i64 a0_1, .int .i64 a0_2, .int .i64 a0_3, .int .i64 a0_4] 25 (0, 0)) (by (with_reducible repeat (first | refine blk_drewN ?_ _ | refine blk_drew ?_ | refine blk_alloc ?_ _)); exact BK147.out) hb); have n2_ := Aside0.mk (blk_below (g := gb157) (o := .cells #[.int .i64 t148, .int .i64 t149, .string t150, .int .u32 t151, .int .u32 t152, .int .u32 t153, .bool false, .bool t155] 42 (0, 0)) (by (with_reducible repeat (first | refine blk_drewN ?_ _ | refine blk_drew ?_ | refine blk_alloc ?_ _)); exact BK157.out) hb); have n3_ := Aside0.mk (below_step (by repeat (first | (with_reducible first | exact HB.out | apply below_alloc | apply pw_below_drewN | apply below_drew1 | refine below_set ?_ GE147.out | refine below_set ?_ GE157.out) | exact HB.out)) hb); clear HO_46; clear BK147; clear BK157; clear HB; have HO_46 := n0_; have BK147 := n1_; have BK157 := n2_; have HB := n3_; clear n0_ n1_ n2_ n3_; (try clear hb); (try clear hb2); (try clear hk); (try clear hi)))
                        go_ret2
                        exact ⟨by first | rfl | (simp [errW_none, errW_some] <;> rfl) | (simp [*, errW_none, errW_some] <;> rfl), by repeat (first | (with_reducible first | exact HB.out | apply below_alloc | apply pw_below_drewN | apply below_drew1 | refine below_set ?_ GE147.out | refine below_set ?_ GE157.out) | exact HB.out)⟩
  · replace c3 := Bool.eq_false_iff.mpr c3
    subst c3
    have H1 : (some (0, false)) = some (r1, r2) := by rw [if_neg (show ¬ (false = true) by decide)] at H; exact H
    clear H
    have H := H1
    clear H1
    simp only [Option.some.injEq, Prod.mk.injEq] at H
    obtain ⟨rfl, rfl⟩ := H
    go_enter Try.func9, Try.ntmps9
    go_wp2_with (first | ((with_reducible refine gate_dst (N := 1) rfl ?_); refine box_event ?hg (N := 1) ?hd (cs := #[.int .i64 a0_0, .int .i64 a0_1, .int .i64 a0_2, .int .i64 a0_3, .int .i64 a0_4]) (t := 25) ?hr ?_; (case hd => rfl); (case hg => rfl); (case hr => first | (go_simp; done) | (go_simp; rfl)); intro gb147 hg w88 hbox hb; have n0_ := Aside0.mk (below_step (by repeat (first | (with_reducible first | exact HB.out | apply below_alloc | apply pw_below_drewN | apply below_drew1) | exact HB.out)) hb); have n1_ := Aside0.mk (hbox); have n2_ := Aside0.mk ((by rw [hg]; exact (below_size (by repeat (first | (with_reducible first | exact HB.out | apply below_alloc | apply pw_below_drewN | apply below_drew1) | exact HB.out))) : w.heap.size ≤ gb147)); have n3_ := Aside0.mk ((by rw [hg]; exact (below_size (by repeat (first | (with_reducible first | exact HB.out | apply below_alloc | apply pw_below_drewN | apply below_drew1) | exact HB.out))) : w.heap.size ≤ gb147)); clear HB; have HB := n0_; have BK147 := n1_; have GW147 := n2_; have GE147 := n3_; clear n0_ n1_ n2_ n3_; clear hb hbox hg; have hcz89_0 : w88.cell? ⟨gb147, 0, none⟩ = some (.int .i64 a0_0) := (blk_cell BK147.out 0).trans rfl; have hcz89_1 : w88.cell? ⟨gb147, 1, none⟩ = some (.int .i64 a0_1) := (blk_cell BK147.out 1).trans rfl; have hcz89_2 : w88.cell? ⟨gb147, 2, none⟩ = some (.int .i64 a0_2) := (blk_cell BK147.out 2).trans rfl; have hcz89_3 : w88.cell? ⟨gb147, 3, none⟩ = some (.int .i64 a0_3) := (blk_cell BK147.out 3).trans rfl; have hcz89_4 : w88.cell? ⟨gb147, 4, none⟩ = some (.int .i64 a0_4) := (blk_cell BK147.out 4).trans rfl; have hfz89_0 := blk_frozen BK147.out 0; have hfz89_1 := blk_frozen BK147.out 1; have hfz89_2 := blk_frozen BK147.out 2; have hfz89_3 := blk_frozen BK147.out 3; have hfz89_4 := blk_frozen BK147.out 4) | ((with_reducible refine gate_callee (f := 26) rfl ?_); refine goesL_ (some 13) rfl rfl Try.func26 (by kernel_rfl) rfl #[.int .i64 a0_0] rfl (by (try simp only [List.map_toArray, List.map_cons, List.map_nil]); first | done | rfl | (simp only [List.length_drop, List.length_take]; rfl)) ?_; (with_reducible refine (inst_find.calls a0_0 t148 t149 t150 t151 t152 t153 t154 t155 false _ A2.out).mono ?_); rintro e w90 ⟨rfl, hb⟩; refine ⟨_, rfl, ?_⟩; have n0_ := Aside0.mk (blk_below (g := gb147) (o := .cells #[.int .i64 a0_0, .int .i64 a0_1, .int .i64 a0_2, .int .i64 a0_3, .int .i64 a0_4] 25 (0, 0)) (by (with_reducible repeat (first | refine blk_drewN ?_ _ | refine blk_drew ?_ | refine blk_alloc ?_ _)); exact BK147.out) hb); have n1_ := Aside0.mk (below_step (by repeat (first | (with_reducible first | exact HB.out | apply below_alloc | apply pw_below_drewN | apply below_drew1 | refine below_set ?_ GE147.out) | exact HB.out)) hb); clear BK147; clear HB; have BK147 := n0_; have HB := n1_; clear n0_ n1_; (try clear hb); (try clear hb2); (try clear hk); (try clear hi)) | ((with_reducible refine gate_dst (N := 4) rfl ?_); refine box_event ?hg (N := 4) ?hd (cs := #[.int .i64 0, .int .i64 0, .string (⟨#[]⟩ : ByteArray), .int .u32 0, .int .u32 0, .int .u32 0, .bool false, .bool false]) (t := 42) ?hr ?_; (case hd => rfl); (case hg => rfl); (case hr => first | (go_simp; done) | (go_simp; rfl)); intro gb157 hg w91 hbox hb; have n0_ := Aside0.mk (blk_below (g := gb147) (o := .cells #[.int .i64 a0_0, .int .i64 a0_1, .int .i64 a0_2, .int .i64 a0_3, .int .i64 a0_4] 25 (0, 0)) (by (with_reducible repeat (first | refine blk_drewN ?_ _ | refine blk_drew ?_ | refine blk_alloc ?_ _)); exact BK147.out) hb); have n1_ := Aside0.mk (below_step (by repeat (first | (with_reducible first | exact HB.out | apply below_alloc | apply pw_below_drewN | apply below_drew1 | refine below_set ?_ GE147.out) | exact HB.out)) hb); have n2_ := Aside0.mk (hbox); have n3_ := Aside0.mk ((by rw [hg]; exact (below_size (by repeat (first | (with_reducible first | exact HB.out | apply below_alloc | apply pw_below_drewN | apply below_drew1 | refine below_set ?_ GE147.out) | exact HB.out))) : w.heap.size ≤ gb157)); have n4_ := Aside0.mk ((by rw [hg]; exact (below_size (by repeat (first | (with_reducible first | exact HB.out | apply below_alloc | apply pw_below_drewN | apply below_drew1 | refine below_set ?_ GE147.out) | exact HB.out))) : w.heap.size ≤ gb157)); have n5_ := Aside0.mk ((by rw [hg]; exact Nat.ne_of_lt (blk_lt (g := gb147) (o := .cells #[.int .i64 a0_0, .int .i64 a0_1, .int .i64 a0_2, .int .i64 a0_3, .int .i64 a0_4] 25 (0, 0)) (by (with_reducible repeat (first | refine blk_drewN ?_ _ | refine blk_drew ?_ | refine blk_alloc ?_ _)); exact BK147.out)) : gb147 ≠ gb157)); have n6_ := Aside0.mk ((by rw [hg]; exact Nat.ne_of_gt (blk_lt (g := gb147) (o := .cells #[.int .i64 a0_0, .int .i64 a0_1, .int .i64 a0_2, .int .i64 a0_3, .int .i64 a0_4] 25 (0, 0)) (by (with_reducible repeat (first | refine blk_drewN ?_ _ | refine blk_drew ?_ | refine blk_alloc ?_ _)); exact BK147.out)) : gb157 ≠ gb147)); clear BK147; clear HB; have BK147 := n0_; have HB := n1_; have BK157 := n2_; have GW157 := n3_; have GE157 := n4_; have NB147_157 := n5_; have NB157_147 := n6_; clear n0_ n1_ n2_ n3_ n4_ n5_ n6_; clear hb hbox hg; have hnb92 := NB157_147.out; have hnc92 := NB147_157.out; have hcz93_0 : w91.cell? ⟨gb157, 0, none⟩ = some (.int .i64 0) := (blk_cell BK157.out 0).trans rfl; have hcz93_1 : w91.cell? ⟨gb157, 1, none⟩ = some (.int .i64 0) := (blk_cell BK157.out 1).trans rfl; have hcz93_2 : w91.cell? ⟨gb157, 2, none⟩ = some (.string (⟨#[]⟩ : ByteArray)) := (blk_cell BK157.out 2).trans rfl; have hcz93_3 : w91.cell? ⟨gb157, 3, none⟩ = some (.int .u32 0) := (blk_cell BK157.out 3).trans rfl; have hcz93_4 : w91.cell? ⟨gb157, 4, none⟩ = some (.int .u32 0) := (blk_cell BK157.out 4).trans rfl; have hcz93_5 : w91.cell? ⟨gb157, 5, none⟩ = some (.int .u32 0) := (blk_cell BK157.out 5).trans rfl; have hcz93_6 : w91.cell? ⟨gb157, 6, none⟩ = some (.bool false) := (blk_cell BK157.out 6).trans rfl; have hcz93_7 : w91.cell? ⟨gb157, 7, none⟩ = some (.bool false) := (blk_cell BK157.out 7).trans rfl; have hfz93_0 := blk_frozen BK157.out 0; have hfz93_1 := blk_frozen BK157.out 1; have hfz93_2 := blk_frozen BK157.out 2; have hfz93_3 := blk_frozen BK157.out 3; have hfz93_4 := blk_frozen BK157.out 4; have hfz93_5 := blk_frozen BK157.out 5; have hfz93_6 := blk_frozen BK157.out 6; have hfz93_7 := blk_frozen BK157.out 7))
    go_ret2
    exact ⟨by first | rfl | (simp [errW_none, errW_some] <;> rfl) | (simp [*, errW_none, errW_some] <;> rfl), by repeat (first | (with_reducible first | exact HB.out | apply below_alloc | apply pw_below_drewN | apply below_drew1 | refine below_set ?_ GE147.out | refine below_set ?_ GE157.out) | exact HB.out)⟩

end Go.Proofs.Ytlpphlfbdicaaaa.QInstNames
