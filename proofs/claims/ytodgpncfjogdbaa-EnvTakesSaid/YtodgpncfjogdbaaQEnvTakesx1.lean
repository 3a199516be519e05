/- Contracts of what a law reaches, each function as a plain Lean function: written by a program of this claim's repo (myprint.py); conditions: those of each theorem. -/
import Derived.Test.YtodgpncfjogdbaaQEnvTakesx0
namespace Go.Proofs.Ytodgpncfjogdbaa.QEnvTakes
open Go.Proofs.Ytodgpncfjogdbaa.Man
open Go.RowKit Go.Proofs.YtodgpncfjogdbaaW.PrintWords Go.Proofs.YtodgpncfjogdbaaW.PrintLast Go.Proofs.YtodgpncfjogdbaaW.PrintMore
attribute [local go_sem] max2_int min2_int max_two min_two max_three min_three max_four min_four   -- for this text's walks alone
set_option linter.unusedVariables false
set_option linter.unusedSimpArgs false

-- contract by hand: function 16 (slices_Clone_byte_byte)

-- NOT PRINTED: function 7 (env_New)

/-! ### env_own: function 17 -/
def env_own.f (a0_0 : Int) (a0_1 : Int) (l0_2 : List Int) (a0_3 : Int) : Option (Int × Int × List Int × Int) := (slices_Clone_byte_byte.f l0_2).bind fun t107 => (some (a0_0, a0_1, t107, a0_3))
set_option maxHeartbeats 8000000 in
set_option maxRecDepth 100000 in
theorem env_own.calls (a0_0 : Int) (a0_1 : Int) (A0_2 : Option Addr) (c0_2 : Nat) (l0_2 : List Int) (a0_3 : Int) (r1 : Int) (r2 : Int) (r3 : List Int) (r4 : Int) (w : World) (hr0_2 : Kd.C (Kd.int .u8) w A0_2 l0_2.length l0_2) (hc0_2 : l0_2.length ≤ c0_2) (h : env_own.f a0_0 a0_1 l0_2 a0_3 = some (r1, r2, r3, r4)) :
    Calls Try.prog 17 #[.agg #[.int .i64 a0_0, .int .i64 a0_1, .slice A0_2 l0_2.length c0_2, .int .i64 a0_3]] w fun e w' => ∃ v2_ : Value, e = .returned (.agg #[.int .i64 r1, .int .i64 r2, v2_, .int .i64 r4]) ∧ Kd.R (Kd.int .u8) 5 w' w.heap.size (fun _ => True) v2_ r3 ∧ Below w.heap.size w w' := by
  have hu32 := Try.underlying32
  have HR0_2 := Aside0.mk hr0_2
  have HC0_2 := Aside0.mk hc0_2
  clear hr0_2 hc0_2
  have HB := Aside0.mk (Below.refl w.heap.size w)
  have H : ((slices_Clone_byte_byte.f l0_2).bind fun t107 => (some (a0_0, a0_1, t107, a0_3))) = some (r1, r2, r3, r4) := h
  clear h
  replace H := Option.bind_eq_some_iff.mp H
  obtain ⟨t107, A20, H⟩ := H
  replace H : (some (a0_0, a0_1, t107, a0_3)) = some (r1, r2, r3, r4) := H
  have A2 := Aside0.mk A20
  clear A20
  simp only [Option.some.injEq, Prod.mk.injEq] at H
  obtain ⟨rfl, rfl, rfl, rfl⟩ := H
  go_enter Try.func17, Try.ntmps17
  go_wp2_with (first | ((with_reducible refine gate_dst (N := 1) rfl ?_); refine box_event ?hg (N := 1) ?hd (cs := #[.int .i64 a0_0, .int .i64 a0_1, .slice A0_2 l0_2.length c0_2, .int .i64 a0_3]) (t := 32) ?hr ?_; (case hd => rfl); (case hg => rfl); (case hr => first | (go_simp; done) | (go_simp; rfl)); intro gb105 hg w3 hbox hb; have n0_ := Aside0.mk (below_step (by repeat (first | (with_reducible first | exact HB.out | apply below_alloc | apply pw_below_drewN | apply below_drew1) | exact HB.out)) hb); have n1_ := Aside0.mk (hbox); have n2_ := Aside0.mk ((by rw [hg]; exact (below_size (by repeat (first | (with_reducible first | exact HB.out | apply below_alloc | apply pw_below_drewN | apply below_drew1) | exact HB.out))) : w.heap.size ≤ gb105)); have n3_ := Aside0.mk ((by rw [hg]; exact (below_size (by repeat (first | (with_reducible first | exact HB.out | apply below_alloc | apply pw_below_drewN | apply below_drew1) | exact HB.out))) : w.heap.size ≤ gb105)); clear HB; have HB := n0_; have BK105 := n1_; have GW105 := n2_; have GE105 := n3_; clear n0_ n1_ n2_ n3_; clear hb hbox hg) | ((with_reducible refine gate_dst (N := 2) rfl ?_); refine box_event ?hg (N := 2) ?hd (cs := #[.int .i64 0, .int .i64 0, .slice none 0 0, .int .i64 0]) (t := 32) ?hr ?_; (case hd => rfl); (case hg => rfl); (case hr => first | (go_simp; done) | (go_simp; rfl)); intro gb106 hg w4 hbox hb; have n0_ := Aside0.mk (blk_below (g := gb105) (o := .cells #[.int .i64 a0_0, .int .i64 a0_1, .slice A0_2 l0_2.length c0_2, .int .i64 a0_3] 32 (0, 0)) (by (with_reducible repeat (first | refine blk_drewN ?_ _ | refine blk_drew ?_ | refine blk_alloc ?_ _)); exact BK105.out) hb); have n1_ := Aside0.mk (below_step (by repeat (first | (with_reducible first | exact HB.out | apply below_alloc | apply pw_below_drewN | apply below_drew1 | refine below_set ?_ GE105.out) | exact HB.out)) hb); have n2_ := Aside0.mk (hbox); have n3_ := Aside0.mk ((by rw [hg]; exact (below_size (by repeat (first | (with_reducible first | exact HB.out | apply below_alloc | apply pw_below_drewN | apply below_drew1 | refine below_set ?_ GE105.out) | exact HB.out))) : w.heap.size ≤ gb106)); have n4_ := Aside0.mk ((by rw [hg]; exact (below_size (by repeat (first | (with_reducible first | exact HB.out | apply below_alloc | apply pw_below_drewN | apply below_drew1 | refine below_set ?_ GE105.out) | exact HB.out))) : w.heap.size ≤ gb106)); have n5_ := Aside0.mk ((by rw [hg]; exact Nat.ne_of_lt (blk_lt (g := gb105) (o := .cells #[.int .i64 a0_0, .int .i64 a0_1, .slice A0_2 l0_2.length c0_2, .int .i64 a0_3] 32 (0, 0)) (by (with_reducible repeat (first | refine blk_drewN ?_ _ | refine blk_drew ?_ | refine blk_alloc ?_ _)); exact BK105.out)) : gb105 ≠ gb106)); have n6_ := Aside0.mk ((by rw [hg]; exact Nat.ne_of_gt (blk_lt (g := gb105) (o := .cells #[.int .i64 a0_0, .int .i64 a0_1, .slice A0_2 l0_2.length c0_2, .int .i64 a0_3] 32 (0, 0)) (by (with_reducible repeat (first | refine blk_drewN ?_ _ | refine blk_drew ?_ | refine blk_alloc ?_ _)); exact BK105.out)) : gb106 ≠ gb105)); clear BK105; clear HB; have BK105 := n0_; have HB := n1_; have BK106 := n2_; have GW106 := n3_; have GE106 := n4_; have NB105_106 := n5_; have NB106_105 := n6_; clear n0_ n1_ n2_ n3_ n4_ n5_ n6_; clear hb hbox hg; have hnb5 := NB105_106.out; have hnc5 := NB106_105.out; have hcz6_0 : w4.cell? ⟨gb105, 0, none⟩ = some (.int .i64 a0_0) := (blk_cell BK105.out 0).trans rfl; have hcz6_1 : w4.cell? ⟨gb105, 1, none⟩ = some (.int .i64 a0_1) := (blk_cell BK105.out 1).trans rfl; have hcz6_2 : w4.cell? ⟨gb105, 2, none⟩ = some (.slice A0_2 l0_2.length c0_2) := (blk_cell BK105.out 2).trans rfl; have hcz6_3 : w4.cell? ⟨gb105, 3, none⟩ = some (.int .i64 a0_3) := (blk_cell BK105.out 3).trans rfl; have hfz6_0 := blk_frozen BK105.out 0; have hfz6_1 := blk_frozen BK105.out 1; have hfz6_2 := blk_frozen BK105.out 2; have hfz6_3 := blk_frozen BK105.out 3) | ((with_reducible refine gate_callee (f := 16) rfl ?_); refine goesL_ (some 5) rfl rfl Try.func16 (by kernel_rfl) rfl #[.slice A0_2 l0_2.length c0_2] rfl (by (try simp only [List.map_toArray, List.map_cons, List.map_nil]); first | done | rfl | (simp only [List.length_drop, List.length_take]; rfl)) ?_; (with_reducible refine (slices_Clone_byte_byte.calls _ _ l0_2 t107 _ ?side1 ?side2 A2.out).mono ?_); (case side1 => repeat (first | exact (Kd.C_below HR0_2.out HB.out) | (with_reducible refine Kd.C_alloc ?_ _) | (with_reducible refine Kd.C_drewN ?_ _) | (with_reducible refine Kd.C_drew ?_))); (case side2 => exact HC0_2.out); rintro e w7 ⟨v108, rfl, ho0, hb⟩; refine ⟨_, rfl, ?_⟩; have n0_ := Aside0.mk (Kd.R_lower ho0 (below_size (by repeat (first | (with_reducible first | exact HB.out | apply below_alloc | apply pw_below_drewN | apply below_drew1 | refine below_set ?_ GE105.out | refine below_set ?_ GE106.out) | exact HB.out)))); have n1_ := Aside0.mk (blk_below (g := gb105) (o := .cells #[.int .i64 a0_0, .int .i64 a0_1, .slice A0_2 l0_2.length c0_2, .int .i64 a0_3] 32 (0, 0)) (by (with_reducible repeat (first | refine blk_drewN ?_ _ | refine blk_drew ?_ | refine blk_alloc ?_ _)); exact BK105.out) hb); have n2_ := Aside0.mk (blk_below (g := gb106) (o := .cells #[.int .i64 0, .int .i64 0, .slice none 0 0, .int .i64 0] 32 (0, 0)) (by (with_reducible repeat (first | refine blk_drewN ?_ _ | refine blk_drew ?_ | refine blk_alloc ?_ _)); exact BK106.out) hb); have n3_ := Aside0.mk (below_step (by repeat (first | (with_reducible first | exact HB.out | apply below_alloc | apply pw_below_drewN | apply below_drew1 | refine below_set ?_ GE105.out | refine below_set ?_ GE106.out) | exact HB.out)) hb); clear BK105; clear BK106; clear HB; have HO109 := n0_; have BK105 := n1_; have BK106 := n2_; have HB := n3_; clear n0_ n1_ n2_ n3_; (try clear hb); (try clear hb2); (try clear hk); (try clear hi); (try clear ho0); obtain ⟨Ao8, co8, eo8⟩ := Kd.R_slice HO109.out; subst eo8; have hcz9_0 : w7.cell? ⟨gb105, 0, none⟩ = some (.int .i64 a0_0) := (blk_cell BK105.out 0).trans rfl; have hcz9_1 : w7.cell? ⟨gb105, 1, none⟩ = some (.int .i64 a0_1) := (blk_cell BK105.out 1).trans rfl; have hcz9_2 : w7.cell? ⟨gb105, 2, none⟩ = some (.slice A0_2 l0_2.length c0_2) := (blk_cell BK105.out 2).trans rfl; have hcz9_3 : w7.cell? ⟨gb105, 3, none⟩ = some (.int .i64 a0_3) := (blk_cell BK105.out 3).trans rfl; have hfz9_0 := blk_frozen BK105.out 0; have hfz9_1 := blk_frozen BK105.out 1; have hfz9_2 := blk_frozen BK105.out 2; have hfz9_3 := blk_frozen BK105.out 3; have hcz10_0 : w7.cell? ⟨gb106, 0, none⟩ = some (.int .i64 0) := (blk_cell BK106.out 0).trans rfl; have hcz10_1 : w7.cell? ⟨gb106, 1, none⟩ = some (.int .i64 0) := (blk_cell BK106.out 1).trans rfl; have hcz10_2 : w7.cell? ⟨gb106, 2, none⟩ = some (.slice none 0 0) := (blk_cell BK106.out 2).trans rfl; have hcz10_3 : w7.cell? ⟨gb106, 3, none⟩ = some (.int .i64 0) := (blk_cell BK106.out 3).trans rfl; have hfz10_0 := blk_frozen BK106.out 0; have hfz10_1 := blk_frozen BK106.out 1; have hfz10_2 := blk_frozen BK106.out 2; have hfz10_3 := blk_frozen BK106.out 3))
  refine bodyPost_ret (results_cell_row rfl _ _ gb106 32 #[.int .i64 a0_0, .int .i64 a0_1, .slice Ao8 t107.length co8, .int .i64 a0_3] (0, 0) _ rfl (by (with_reducible repeat (first | refine blk_drewN ?_ _ | refine blk_drew ?_ | refine blk_alloc ?_ _)); refine blk_put (cs := #[.int .i64 a0_0, .int .i64 a0_1, .slice Ao8 t107.length co8, .int .i64 0]) ?_ 3 _ rfl; (with_reducible repeat (first | refine blk_drewN ?_ _ | refine blk_drew ?_ | refine blk_alloc ?_ _)); refine blk_put (cs := #[.int .i64 a0_0, .int .i64 a0_1, .slice none 0 0, .int .i64 0]) ?_ 2 _ rfl; (with_reducible repeat (first | refine blk_drewN ?_ _ | refine blk_drew ?_ | refine blk_alloc ?_ _)); refine blk_put (cs := #[.int .i64 a0_0, .int .i64 0, .slice none 0 0, .int .i64 0]) ?_ 1 _ rfl; (with_reducible repeat (first | refine blk_drewN ?_ _ | refine blk_drew ?_ | refine blk_alloc ?_ _)); refine blk_put (cs := #[.int .i64 0, .int .i64 0, .slice none 0 0, .int .i64 0]) ?_ 0 _ rfl; (with_reducible repeat (first | refine blk_drewN ?_ _ | refine blk_drew ?_ | refine blk_alloc ?_ _)); refine blk_far ?_ NB106_105.out _; (with_reducible repeat (first | refine blk_drewN ?_ _ | refine blk_drew ?_ | refine blk_alloc ?_ _)); exact BK106.out) Try.underlying32 rfl (by kernel_rfl)) rfl ?_
  exact ⟨_, by first | rfl | (simp [errW_none, errW_some] <;> rfl) | (simp [*, errW_none, errW_some] <;> rfl), by (with_reducible repeat (first | apply Kd.R_alloc | apply Kd.R_drewN | apply Kd.R_drew)); exact Kd.R_mono (Kd.R_far (p := ⟨gb106, 3, none⟩) (Kd.R_far (p := ⟨gb106, 2, none⟩) (Kd.R_far (p := ⟨gb106, 1, none⟩) (Kd.R_far (p := ⟨gb106, 0, none⟩) (Kd.R_far (p := ⟨gb105, 2, none⟩) (Kd.R_types (Kd.R_types HO109.out BK105.out (by decide)) BK106.out (by decide)) (fun _ hk => hk.1.2) (.slice Ao8 t107.length co8)) (fun _ hk => hk.2) (.int .i64 a0_0)) (fun _ hk => hk.2) (.int .i64 a0_1)) (fun _ hk => hk.2) (.slice Ao8 t107.length co8)) (fun _ hk => hk.2) (.int .i64 a0_3)) (fun _ hk => trivial), by repeat (first | (with_reducible first | exact HB.out | apply below_alloc | apply pw_below_drewN | apply below_drew1 | refine below_set ?_ GE105.out | refine below_set ?_ GE106.out) | exact HB.out)⟩

-- NOT PRINTED: function 8 (env_Env_Note)

-- NOT PRINTED: function 9 (env_Env_Take)

/-- A state of type 46 at block g of W; what its slices lead to came in by w0. -/
def IsS46 (w0 W : World) (g : Nat) (f0 : List Int) (f1 : List (S32)) : Prop := ∃ A0 c0, ∃ A1 c1, W.heap[g]? = some (.cells #[.slice A0 f0.length c0, .slice A1 f1.length c1] 46 (0, 0)) ∧ w0.heap.size ≤ g ∧ Kd.C (Kd.int .u8) w0 A0 f0.length f0 ∧ Kd.C k32 w0 A1 f1.length f1
theorem IsS46.grown {w0 W : World} {g : Nat} {f0 : List Int} {f1 : List (S32)} {W1 : World} {row : Option Nat} (h : IsS46 w0 W g f0 f1) (hw : W.grownBy W1 row) (hne : some g ≠ row) : IsS46 w0 W1 g f0 f1 := by
  obtain ⟨A0, c0, A1, c1, hb, hg, hr0, hr1⟩ := h
  exact ⟨A0, c0, A1, c1, blk_grown hb hw hne, hg, hr0, hr1⟩
theorem IsS46.own_neN {w0 W : World} {g : Nat} {f0 : List Int} {f1 : List (S32)} {α : Type} {d : Kd α} {e : Nat} {base : Nat} {ok : Nat → Prop} {v : Value} {xs : List α} (h : IsS46 w0 W g f0 f1) (ho : Kd.N d e W base ok v xs) (ht : e ≠ 46) : some g ≠ v.ownBlock := by
  obtain ⟨A0, c0, A1, c1, hb, hg, hr0, hr1⟩ := h
  exact Kd.N_ne ho hb ht
theorem IsS46.fresh {w0 W : World} {g : Nat} {f0 : List Int} {f1 : List (S32)} (h : IsS46 w0 W g f0 f1) : ∀ k, W.heap.size ≤ k → k ≠ g := by
  obtain ⟨A0, c0, A1, c1, hb, hg, hr0, hr1⟩ := h
  exact Kd.freshB hb
theorem IsS46.kept {w0 W : World} {g : Nat} {f0 : List Int} {f1 : List (S32)} {W1 : World} {S : Nat → Prop} (h : IsS46 w0 W g f0 f1) (hk : Kept W W1 S) (hne : ¬ S g) : IsS46 w0 W1 g f0 f1 := by
  obtain ⟨A0, c0, A1, c1, hb, hg, hr0, hr1⟩ := h
  exact ⟨A0, c0, A1, c1, blk_kept hb hk hne, hg, hr0, hr1⟩
theorem IsS46.below {w0 W : World} {g : Nat} {f0 : List Int} {f1 : List (S32)} {W1 : World} (h : IsS46 w0 W g f0 f1) (hw : Below W.heap.size W W1) : IsS46 w0 W1 g f0 f1 := h.grown (grown_of_below hw none) (by simp)
theorem IsS46.alloc {w0 W : World} {g : Nat} {f0 : List Int} {f1 : List (S32)} (h : IsS46 w0 W g f0 f1) (o : Obj) : IsS46 w0 (W.alloc o) g f0 f1 := h.below (below_alloc (Below.refl _ _) o)
theorem IsS46.drewN {w0 W : World} {g : Nat} {f0 : List Int} {f1 : List (S32)} (h : IsS46 w0 W g f0 f1) (m : Nat) : IsS46 w0 (W.drewN m) g f0 f1 := h
theorem IsS46.drew {w0 W : World} {g : Nat} {f0 : List Int} {f1 : List (S32)} (h : IsS46 w0 W g f0 f1) : IsS46 w0 W.drew g f0 f1 := h
theorem IsS46.at_ {w0 W : World} {g : Nat} {f0 : List Int} {f1 : List (S32)} {w' : World} {m : Nat} (hq : W.drewN m = w') (h : IsS46 w0 W g f0 f1) : IsS46 w0 w' g f0 f1 := by subst hq; exact IsS46.drewN h m
theorem IsS46.apart {w0 W : World} {g : Nat} {f0 : List Int} {f1 : List (S32)} {α : Type} {d : Kd α} {e : Nat} {base : Nat} {ok : Nat → Prop} {v : Value} {xs : List α} (h : IsS46 w0 W g f0 f1) (ho : d.R e W base ok v xs) (ht : ∀ q, q ∈ e :: d.E → q ≠ 46) : d.R e W base (fun k => ok k ∧ k ≠ g) v xs := by
  obtain ⟨A0, c0, A1, c1, hb, hg, hr0, hr1⟩ := h
  exact Kd.R_types ho hb ht
theorem IsS46.own_ne {w0 W : World} {g : Nat} {f0 : List Int} {f1 : List (S32)} {α : Type} {d : Kd α} {e : Nat} {base : Nat} {ok : Nat → Prop} {v : Value} {xs : List α} (h : IsS46 w0 W g f0 f1) (ho : d.R e W base ok v xs) (ht : e ≠ 46) : some g ≠ v.ownBlock := by
  obtain ⟨A0, c0, A1, c1, hb, hg, hr0, hr1⟩ := h
  exact Kd.R_ne ho hb ht
theorem IsS46.apartQ {w0 W : World} {g : Nat} {f0 : List Int} {f1 : List (S32)} {α : Type} {d : Kd α} {e : Nat} {base : Nat} {ok : Nat → Prop} {v : Value} {xs : List α} (h : IsS46 w0 W g f0 f1) (ho : d.Q e W base ok v xs) (ht : ∀ q, q ∈ e :: d.E → q ≠ 46) : d.Q e W base (fun k => ok k ∧ k ≠ g) v xs := by
  obtain ⟨A0, c0, A1, c1, hb, hg, hr0, hr1⟩ := h
  exact Kd.Q_types ho hb ht
theorem IsS46.own_neQ {w0 W : World} {g : Nat} {f0 : List Int} {f1 : List (S32)} {α : Type} {d : Kd α} {e : Nat} {base : Nat} {ok : Nat → Prop} {v : Value} {xs : List α} (h : IsS46 w0 W g f0 f1) (ho : d.Q e W base ok v xs) (ht : e ≠ 46) : some g ≠ v.ownBlock := by
  obtain ⟨A0, c0, A1, c1, hb, hg, hr0, hr1⟩ := h
  exact Kd.Q_ne ho hb ht
theorem IsS46.apartS {w0 W : World} {g : Nat} {f0 : List Int} {f1 : List (S32)} {α : Type} {d : Kd α} {e : Nat} {base : Nat} {ok : Nat → Prop} {v : Value} {xs : List α} (h : IsS46 w0 W g f0 f1) (ho : d.S e W base ok v xs) (ht : ∀ q, q ∈ e :: d.E → q ≠ 46) : d.S e W base (fun k => ok k ∧ k ≠ g) v xs := by
  obtain ⟨A0, c0, A1, c1, hb, hg, hr0, hr1⟩ := h
  exact Kd.S_types ho hb ht
theorem IsS46.own_neS {w0 W : World} {g : Nat} {f0 : List Int} {f1 : List (S32)} {α : Type} {d : Kd α} {e : Nat} {base : Nat} {ok : Nat → Prop} {v : Value} {xs : List α} (h : IsS46 w0 W g f0 f1) (ho : d.S e W base ok v xs) (ht : e ≠ 46) : some g ≠ v.ownBlock := by
  obtain ⟨A0, c0, A1, c1, hb, hg, hr0, hr1⟩ := h
  exact Kd.S_ne ho hb ht
theorem IsS46.lt {w0 W : World} {g : Nat} {f0 : List Int} {f1 : List (S32)} (h : IsS46 w0 W g f0 f1) : g < W.heap.size := by
  obtain ⟨A0, c0, A1, c1, hb, hg, hr0, hr1⟩ := h
  exact blk_lt hb
theorem IsS46.ge {w0 W : World} {g : Nat} {f0 : List Int} {f1 : List (S32)} (h : IsS46 w0 W g f0 f1) : w0.heap.size ≤ g := by
  obtain ⟨A0, c0, A1, c1, hb, hg, hr0, hr1⟩ := h
  exact hg
theorem IsS46.ne_blk {w0 W : World} {g : Nat} {f0 : List Int} {f1 : List (S32)} {a : Nat} {cs : Array Value} {t : TypeId} {fr : Nat × Nat} (h : IsS46 w0 W g f0 f1) (hb2 : W.heap[a]? = some (.cells cs t fr)) (ht : t ≠ 46) : g ≠ a := by
  obtain ⟨A0, c0, A1, c1, hb, hg, hr0, hr1⟩ := h
  rintro rfl
  rw [hb] at hb2
  injection hb2 with hb2
  injection hb2 with _ ht2
  exact ht ht2.symm
theorem IsS46.far {w0 W : World} {g : Nat} {f0 : List Int} {f1 : List (S32)} {p : Addr} (h : IsS46 w0 W g f0 f1) (hne : g ≠ p.block) (u : Value) : IsS46 w0 (W.setCell p u) g f0 f1 := by
  obtain ⟨A0, c0, A1, c1, hb, hg, hr0, hr1⟩ := h
  exact ⟨A0, c0, A1, c1, blk_far hb hne u, hg, hr0, hr1⟩
theorem cellS46_0 {W : World} {g : Nat} {A0 : Option Addr} {c0 : Nat} {A1 : Option Addr} {c1 : Nat} {f0 : List Int} {f1 : List (S32)} (h : W.heap[g]? = some (.cells #[.slice A0 f0.length c0, .slice A1 f1.length c1] 46 (0, 0))) : W.cell? ⟨g, 0, none⟩ = some (.slice A0 f0.length c0) := (blk_cell h 0).trans rfl
theorem cellS46_1 {W : World} {g : Nat} {A0 : Option Addr} {c0 : Nat} {A1 : Option Addr} {c1 : Nat} {f0 : List Int} {f1 : List (S32)} (h : W.heap[g]? = some (.cells #[.slice A0 f0.length c0, .slice A1 f1.length c1] 46 (0, 0))) : W.cell? ⟨g, 1, none⟩ = some (.slice A1 f1.length c1) := (blk_cell h 1).trans rfl
theorem IsS46.new (w0 W : World) (A0 : Option Addr) (c0 : Nat) (A1 : Option Addr) (c1 : Nat) (f0 : List Int) (f1 : List (S32)) (hB : Below w0.heap.size w0 W) (hr0 : Kd.C (Kd.int .u8) w0 A0 f0.length f0) (hr1 : Kd.C k32 w0 A1 f1.length f1) : IsS46 w0 (W.alloc (.cells #[.slice A0 f0.length c0, .slice A1 f1.length c1] 46)) W.heap.size f0 f1 := ⟨A0, c0, A1, c1, by simpa using heap_alloc_new W _, hB.size, hr0, hr1⟩

/-! ### env_Env_Left: function 11 -/
def env_Env_Left.f (s0_0 : List Int) (s0_1 : List (S32)) : Option (Int) := some (s0_0.length : Int)
set_option maxHeartbeats 8000000 in
set_option maxRecDepth 100000 in
theorem env_Env_Left.calls (g : Nat) (s0_0 : List Int) (s0_1 : List (S32)) (r : Int) (w0 w : World) (hI : IsS46 w0 w g s0_0 s0_1) (hB : Below w0.heap.size w0 w) (h : env_Env_Left.f s0_0 s0_1 = some r) :
    Calls Try.prog 11 #[.pointer (some ⟨g, 0, none⟩)] w fun e w' => e = .returned (.int .i64 r) ∧ IsS46 w0 w' g s0_0 s0_1 ∧ Below w0.heap.size w0 w' ∧ KeepBut w w' g none := by
  have HI0 := Aside0.mk hI
  have HK := Aside0.mk (KeepBut.refl w g none)
  have HL := Aside0.mk hB.size
  clear hI
  have HW0 := Aside0.mk hB.size
  have HB := Aside0.mk hB
  clear hB
  have H : (some (s0_0.length : Int)) = some r := h
  clear h
  obtain rfl := Option.some.inj H
  obtain ⟨ASz2_0, cSz2_0, ASz2_1, cSz2_1, HGz2, hgz2, HSz2_0, HSz2_1⟩ := HI0.out
  have hcz2_0 := cellS46_0 HGz2
  have hcz2_1 := cellS46_1 HGz2
  clear HGz2 hgz2
  go_enter Try.func11, Try.ntmps11
  go_wp2
  go_ret
  exact ⟨by first | rfl | (simp [errW_none, errW_some] <;> rfl) | (simp [*, errW_none, errW_some] <;> rfl), by repeat (first | (with_reducible first | exact HI0.out | apply IsS46.alloc | apply IsS46.drewN | apply IsS46.drew) | exact HI0.out), by repeat (first | (with_reducible first | exact HB.out | apply below_alloc | apply pw_below_drewN | apply below_drew1 | refine below_set ?_ (IsS46.ge HI0.out)) | exact HB.out), by repeat (first | (with_reducible first | exact HK.out | apply KeepBut.set_ | apply keep_drewN | apply keep_drew | apply keep_alloc) | exact HK.out)⟩

-- NOT PRINTED: function 13 (env_Env_Trace)

-- NOT PRINTED: function 14 (env_Env_Output)

-- NOT PRINTED: function 6 (dovetaillaw7_known)

-- NOT PRINTED: function 5 (dovetaillaw7_EnvTakes)

end Go.Proofs.Ytodgpncfjogdbaa.QEnvTakes
