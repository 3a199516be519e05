/- Contracts of what a law reaches, each function as a plain Lean function: written by a program of this claim's repo (myprint.py); conditions: those of each theorem. -/
import Derived.Test.YtodgpncfjogdbaaQEnvPlaysx0
namespace Go.Proofs.Ytodgpncfjogdbaa.QEnvPlays
open Go.Proofs.Ytodgpncfjogdbaa.Man
open Go.RowKit Go.Proofs.YtodgpncfjogdbaaW.PrintWords Go.Proofs.YtodgpncfjogdbaaW.PrintLast Go.Proofs.YtodgpncfjogdbaaW.PrintMore
attribute [local go_sem] max2_int min2_int max_two min_two max_three min_three max_four min_four   -- for this text's walks alone
set_option linter.unusedVariables false
set_option linter.unusedSimpArgs false

-- contract by hand: function 16 (slices_Clone_byte_byte)

-- NOT PRINTED: function 7 (env_New)

/-! ### env_own: function 17 -/
def env_own.f (a0_0 : Int) (a0_1 : Int) (l0_2 : List Int) (a0_3 : Int) : Option (Int × Int × List Int × Int) := (slices_Clone_byte_byte.f l0_2).bind fun t107 => (some (a0_0, a0_1, t107, a0_3))
set_option maxHeartbeats 8000000 in
set_option maxRecDepth 100000 in
theorem env_own.calls (a0_0 : Int) (a0_1 : Int) (A0_2 : Option Addr) (c0_2 : Nat) (l0_2 : List Int) (a0_3 : Int) (r1 : Int) (r2 : Int) (r3 : List Int) (r4 : Int) (w : World) (hr0_2 : Kd.C (Kd.int .u8) w A0_2 l0_2.length l0_2) (hc0_2 : l0_2.length ≤ c0_2) (h : env_own.f a0_0 a0_1 l0_2 a0_3 = some (r1, r2, r3, r4)) :
    Calls Try.prog 17 #[.agg #[.int .i64 a0_0, .int .i64 a0_1, .slice A0_2 l0_2.length c0_2, .int .i64 a0_3]] w fun e w' => ∃ v2_ : Value, e = .returned (.agg #[.int .i64 r1, .int .i64 r2, v2_, .int .i64 r4]) ∧ Kd.R (Kd.int .u8) 5 w' w.heap.size (fun _ => True) v2_ r3 ∧ Below w.heap.size w w' := by
  have hu32 := Try.underlying32
  have HR0_2 := Aside0.mk hr0_2
  have HC0_2 := Aside0.mk hc0_2
  clear hr0_2 hc0_2
  have HB := Aside0.mk (Below.refl w.heap.size w)
  have H : ((slices_Clone_byte_byte.f l0_2).bind fun t107 => (some (a0_0, a0_1, t107, a0_3))) = some (r1, r2, r3, r4) := h
  clear h
  replace H := Option.bind_eq_some_iff.mp H
  obtain ⟨t107, A20, H⟩ := H
  replace H : (some (a0_0, a0_1, t107, a0_3)) = some (r1, r2, r3, r4) := H
  have A2 := Aside0.mk A20
  clear A20
  simp only [Option.some.injEq, Prod.mk.injEq] at H
  obtain ⟨rfl, rfl, rfl, rfl⟩ := H
  go_enter Try.func17, Try.ntmps17
  go_wp2_with (first | ((with_reducible refine gate_dst (N := 1) rfl ?_); refine box_event ?hg (N := 1) ?hd (cs := #[.int .i64 a0_0, .int .i64 a0_1, .slice A0_2 l0_2.length c0_2, .int .i64 a0_3]) (t := 32) ?hr ?_; (case hd => rfl); (case hg => rfl); (case hr => first | (go_simp; done) | (go_simp; rfl)); intro gb105 hg w3 hbox hb; have n0_ := Aside0.mk (below_step (by repeat (first | (with_reducible first | exact HB.out | apply below_alloc | apply pw_below_drewN | apply below_drew1) | exact HB.out)) hb); have n1_ := Aside0.mk (hbox); have n2_ := Aside0.mk ((by rw [hg]; exact (below_size (by repeat (first | (with_reducible first | exact HB.out | apply below_alloc | apply pw_below_drewN | apply below_drew1) | exact HB.out))) : w.heap.size ≤ gb105)); have n3_ := Aside0.mk ((by rw [hg]; exact (below_size (by repeat (first | (with_reducible first | exact HB.out | apply below_alloc | apply pw_below_drewN | apply below_drew1) | exact HB.out))) : w.heap.size ≤ gb105)); clear HB; have HB := n0_; have BK105 := n1_; have GW105 := n2_; have GE105 := n3_; clear n0_ n1_ n2_ n3_; clear hb hbox hg) | ((with_reducible refine gate_dst (N := 2) rfl ?_); refine box_event ?hg (N := 2) ?hd (cs := #[.int .i64 0, .int .i64 0, .slice none 0 0, .int .i64 0]) (t := 32) ?hr ?_; (case hd => rfl); (case hg => rfl); (case hr => first | (go_simp; done) | (go_simp; rfl)); intro gb106 hg w4 hbox hb; have n0_ := Aside0.mk (blk_below (g := gb105) (o := .cells #[.int .i64 a0_0, .int .i64 a0_1, .slice A0_2 l0_2.length c0_2, .int .i64 a0_3] 32 (0, 0)) (by (with_reducible repeat (first | refine blk_drewN ?_ _ | refine blk_drew ?_ | refine blk_alloc ?_ _)); exact BK105.out) hb); have n1_ := Aside0.mk (below_step (by repeat (first | (with_reducible first | exact HB.out | apply below_alloc | apply pw_below_drewN | apply below_drew1 | refine below_set ?_ GE105.out) | exact HB.out)) hb); have n2_ := Aside0.mk (hbox); have n3_ := Aside0.mk ((by rw [hg]; exact (below_size (by repeat (first | (with_reducible first | exact HB.out | apply below_alloc | apply pw_below_drewN | apply below_drew1 | refine below_set ?_ GE105.out) | exact HB.out))) : w.heap.size ≤ gb106)); have n4_ := Aside0.mk ((by rw [hg]; exact (below_size (by repeat (first | (with_reducible first | exact HB.out | apply below_alloc | apply pw_below_drewN | apply below_drew1 | refine below_set ?_ GE105.out) | exact HB.out))) : w.heap.size ≤ gb106)); have n5_ := Aside0.mk ((by rw [hg]; exact Nat.ne_of_lt (blk_lt (g := gb105) (o := .cells #[.int .i64 a0_0, .int .i64 a0_1, .slice A0_2 l0_2.length c0_2, .int .i64 a0_3] 32 (0, 0)) (by (with_reducible repeat (first | refine blk_drewN ?_ _ | refine blk_drew ?_ | refine blk_alloc ?_ _)); exact BK105.out)) : gb105 ≠ gb106)); have n6_ := Aside0.mk ((by rw [hg]; exact Nat.ne_of_gt (blk_lt (g := gb105) (o := .cells #[.int .i64 a0_0, .int .i64 a0_1, .slice A0_2 l0_2.length c0_2, .int .i64 a0_3] 32 (0, 0)) (by (with_reducible repeat (first | refine blk_drewN ?_ _ | refine blk_drew ?_ | refine blk_alloc ?_ _)); exact BK105.out)) : gb106 ≠ gb105)); clear BK105; clear HB; have BK105 := n0_; have HB := n1_; have BK106 := n2_; have GW106 := n3_; have GE106 := n4_; have NB105_106 := n5_; have NB106_105 := n6_; clear n0_ n1_ n2_ n3_ n4_ n5_ n6_; clear hb hbox hg; have hnb5 := NB105_106.out; have hnc5 := NB106_105.out; have hcz6_0 : w4.cell? ⟨gb105, 0, none⟩ = some (.int .i64 a0_0) := (blk_cell BK105.out 0).trans rfl; have hcz6_1 : w4.cell? ⟨gb105, 1, none⟩ = some (.int .i64 a0_1) := (blk_cell BK105.out 1).trans rfl; have hcz6_2 : w4.cell? ⟨gb105, 2, none⟩ = some (.slice A0_2 l0_2.length c0_2) := (blk_cell BK105.out 2).trans rfl; have hcz6_3 : w4.cell? ⟨gb105, 3, none⟩ = some (.int .i64 a0_3) := (blk_cell BK105.out 3).trans rfl; have hfz6_0 := blk_frozen BK105.out 0; have hfz6_1 := blk_frozen BK105.out 1; have hfz6_2 := blk_frozen BK105.out 2; have hfz6_3 := blk_frozen BK105.out 3) | ((with_reducible refine gate_callee (f := 16) rfl ?_); refine goesL_ (some 5) rfl rfl Try.func16 (by kernel_rfl) rfl #[.slice A0_2 l0_2.length c0_2] rfl (by (try simp only [List.map_toArray, List.map_cons, List.map_nil]); first | done | rfl | (simp only [List.length_drop, List.length_take]; rfl)) ?_; (with_reducible refine (slices_Clone_byte_byte.calls _ _ l0_2 t107 _ ?side1 ?side2 A2.out).mono ?_); (case side1 => repeat (first | exact (Kd.C_below HR0_2.out HB.out) | (with_reducible refine Kd.C_alloc ?_ _) | (with_reducible refine Kd.C_drewN ?_ _) | (with_reducible refine Kd.C_drew ?_))); (case side2 => exact HC0_2.out); rintro e w7 ⟨v108, rfl, ho0, hb⟩; refine ⟨_, rfl, ?_⟩; have n0_ := Aside0.mk (Kd.R_lower ho0 (below_size (by repeat (first | (with_reducible first | exact HB.out | apply below_alloc | apply pw_below_drewN | apply below_drew1 | refine below_set ?_ GE105.out | refine below_set ?_ GE106.out) | exact HB.out)))); have n1_ := Aside0.mk (blk_below (g := gb105) (o := .cells #[.int .i64 a0_0, .int .i64 a0_1, .slice A0_2 l0_2.length c0_2, .int .i64 a0_3] 32 (0, 0)) (by (with_reducible repeat (first | refine blk_drewN ?_ _ | refine blk_drew ?_ | refine blk_alloc ?_ _)); exact BK105.out) hb); have n2_ := Aside0.mk (blk_below (g := gb106) (o := .cells #[.int .i64 0, .int .i64 0, .slice none 0 0, .int .i64 0] 32 (0, 0)) (by (with_reducible repeat (first | refine blk_drewN ?_ _ | refine blk_drew ?_ | refine blk_alloc ?_ _)); exact BK106.out) hb); have n3_ := Aside0.mk (below_step (by repeat (first | (with_reducible first | exact HB.out | apply below_alloc | apply pw_below_drewN | apply below_drew1 | refine below_set ?_ GE105.out | refine below_set ?_ GE106.out) | exact HB.out)) hb); clear BK105; clear BK106; clear HB; have HO109 := n0_; have BK105 := n1_; have BK106 := n2_; have HB := n3_; clear n0_ n1_ n2_ n3_; (try clear hb); (try clear hb2); (try clear hk); (try clear hi); (try clear ho0); obtain ⟨Ao8, co8, eo8⟩ := Kd.R_slice HO109.out; subst eo8; have hcz9_0 : w7.cell? ⟨gb105, 0, none⟩ = some (.int .i64 a0_0) := (blk_cell BK105.out 0).trans rfl; have hcz9_1 : w7.cell? ⟨gb105, 1, none⟩ = some (.int .i64 a0_1) := (blk_cell BK105.out 1).trans rfl; have hcz9_2 : w7.cell? ⟨gb105, 2, none⟩ = some (.slice A0_2 l0_2.length c0_2) := (blk_cell BK105.out 2).trans rfl; have hcz9_3 : w7.cell? ⟨gb105, 3, none⟩ = some (.int .i64 a0_3) := (blk_cell BK105.out 3).trans rfl; have hfz9_0 := blk_frozen BK105.out 0; have hfz9_1 := blk_frozen BK105.out 1; have hfz9_2 := blk_frozen BK105.out 2; have hfz9_3 := blk_frozen BK105.out 3; have hcz10_0 : w7.cell? ⟨gb106, 0, none⟩ = some (.int .i64 0) := (blk_cell BK106.out 0).trans rfl; have hcz10_1 : w7.cell? ⟨gb106, 1, none⟩ = some (.int .i64 0) := (blk_cell BK106.out 1).trans rfl; have hcz10_2 : w7.cell? ⟨gb106, 2, none⟩ = some (.slice none 0 0) := (blk_cell BK106.out 2).trans rfl; have hcz10_3 : w7.cell? ⟨gb106, 3, none⟩ = some (.int .i64 0) := (blk_cell BK106.out 3).trans rfl; have hfz10_0 := blk_frozen BK106.out 0; have hfz10_1 := blk_frozen BK106.out 1; have hfz10_2 := blk_frozen BK106.out 2; have hfz10_3 := blk_frozen BK106.out 3))
  refine bodyPost_ret (results_cell_row rfl _ _ gb106 32 #[.int .i64 a0_0, .int .i64 a0_1, .slice Ao8 t107.length co8, .int .i64 a0_3] (0, 0) _ rfl (by (with_reducible repeat (first | refine blk_drewN ?_ _ | refine blk_drew ?_ | refine blk_alloc ?_ _)); refine blk_put (cs := #[.int .i64 a0_0, .int .i64 a0_1, .slice Ao8 t107.length co8, .int .i64 0]) ?_ 3 _ rfl; (with_reducible repeat (first | refine blk_drewN ?_ _ | refine blk_drew ?_ | refine blk_alloc ?_ _)); refine blk_put (cs := #[.int .i64 a0_0, .int .i64 a0_1, .slice none 0 0, .int .i64 0]) ?_ 2 _ rfl; (with_reducible repeat (first | refine blk_drewN ?_ _ | refine blk_drew ?_ | refine blk_alloc ?_ _)); refine blk_put (cs := #[.int .i64 a0_0, .int .i64 0, .slice none 0 0, .int .i64 0]) ?_ 1 _ rfl; (with_reducible repeat (first | refine blk_drewN ?_ _ | refine blk_drew ?_ | refine blk_alloc ?_ _)); refine blk_put (cs := #[.int .i64 0, .int .i64 0, .slice none 0 0, .int .i64 0]) ?_ 0 _ rfl; (with_reducible repeat (first | refine blk_drewN ?_ _ | refine blk_drew ?_ | refine blk_alloc ?_ _)); refine blk_far ?_ NB106_105.out _; (with_reducible repeat (first | refine blk_drewN ?_ _ | refine blk_drew ?_ | refine blk_alloc ?_ _)); exact BK106.out) Try.underlying32 rfl (by kernel_rfl)) rfl ?_
  exact ⟨_, by first | rfl | (simp [errW_none, errW_some] <;> rfl) | (simp [*, errW_none, errW_some] <;> rfl), by (with_reducible repeat (first | apply Kd.R_alloc | apply Kd.R_drewN | apply Kd.R_drew)); exact Kd.R_mono (Kd.R_far (p := ⟨gb106, 3, none⟩) (Kd.R_far (p := ⟨gb106, 2, none⟩) (Kd.R_far (p := ⟨gb106, 1, none⟩) (Kd.R_far (p := ⟨gb106, 0, none⟩) (Kd.R_far (p := ⟨gb105, 2, none⟩) (Kd.R_types (Kd.R_types HO109.out BK105.out (by decide)) BK106.out (by decide)) (fun _ hk => hk.1.2) (.slice Ao8 t107.length co8)) (fun _ hk => hk.2) (.int .i64 a0_0)) (fun _ hk => hk.2) (.int .i64 a0_1)) (fun _ hk => hk.2) (.slice Ao8 t107.length co8)) (fun _ hk => hk.2) (.int .i64 a0_3)) (fun _ hk => trivial), by repeat (first | (with_reducible first | exact HB.out | apply below_alloc | apply pw_below_drewN | apply below_drew1 | refine below_set ?_ GE105.out | refine below_set ?_ GE106.out) | exact HB.out)⟩

-- NOT PRINTED: function 8 (env_Env_Note)

-- NOT PRINTED: function 9 (env_Env_Take)

/-- A state of type 46 at block g of W; what its slices lead to came in by w0. -/
def IsS46 (w0 W : World) (g : Nat) (f0 : List Int) (f1 : List (S32)) : Prop := ∃ A0 c0, ∃ A1 c1, W.heap[g]? = some (.cells #[.slice A0 f0.length c0, .slice A1 f1.length c1] 46 (0, 0)) ∧ w0.heap.size ≤ g ∧ Kd.C (Kd.int .u8) w0 A0 f0.length f0 ∧ Kd.C k32 w0 A1 f1.length f1
theorem IsS46.grown {w0 W : World} {g : Nat} {f0 : List Int} {f1 : List (S32)} {W1 : World} {row : Option Nat} (h : IsS46 w0 W g f0 f1) (hw : W.grownBy W1 row) (hne : some g ≠ row) : IsS46 w0 W1 g f0 f1 := by
  obtain ⟨A0, c0, A1, c1, hb, hg, hr0, hr1⟩ := h
  exact ⟨A0, c0, A1, c1, blk_grown hb hw hne, hg, hr0, hr1⟩
theorem IsS46.own_neN {w0 W : World} {g : Nat} {f0 : List Int} {f1 : List (S32)} {α : Type} {d : Kd α} {e : Nat} {base : Nat} {ok : Nat → Prop} {v : Value} {xs : List α} (h : IsS46 w0 W g f0 f1) (ho : Kd.N d e W base ok v xs) (ht : e ≠ 46) : some g ≠ v.ownBlock := by
  obtain ⟨A0, c0, A1, c1, hb, hg, hr0, hr1⟩ := h
  exact Kd.N_ne ho hb ht
theorem IsS46.fresh {w0 W : World} {g : Nat} {f0 : List Int} {f1 : List (S32)} (h : IsS46 w0 W g f0 f1) : ∀ k, W.heap.size ≤ k → k ≠ g := by
  obtain ⟨A0, c0, A1, c1, hb, hg, hr0, hr1⟩ := h
  exact Kd.freshB hb
theorem IsS46.kept {w0 W : World} {g : Nat} {f0 : List Int} {f1 : List (S32)} {W1 : World} {S : Nat → Prop} (h : IsS46 w0 W g f0 f1) (hk : Kept W W1 S) (hne : ¬ S g) : IsS46 w0 W1 g f0 f1 := by
  obtain ⟨A0, c0, A1, c1, hb, hg, hr0, hr1⟩ := h
  exact ⟨A0, c0, A1, c1, blk_kept hb hk hne, hg, hr0, hr1⟩
theorem IsS46.below {w0 W : World} {g : Nat} {f0 : List Int} {f1 : List (S32)} {W1 : World} (h : IsS46 w0 W g f0 f1) (hw : Below W.heap.size W W1) : IsS46 w0 W1 g f0 f1 := h.grown (grown_of_below hw none) (by simp)
theorem IsS46.alloc {w0 W : World} {g : Nat} {f0 : List Int} {f1 : List (S32)} (h : IsS46 w0 W g f0 f1) (o : Obj) : IsS46 w0 (W.alloc o) g f0 f1 := h.below (below_alloc (Below.refl _ _) o)
theorem IsS46.drewN {w0 W : World} {g : Nat} {f0 : List Int} {f1 : List (S32)} (h : IsS46 w0 W g f0 f1) (m : Nat) : IsS46 w0 (W.drewN m) g f0 f1 := h
theorem IsS46.drew {w0 W : World} {g : Nat} {f0 : List Int} {f1 : List (S32)} (h : IsS46 w0 W g f0 f1) : IsS46 w0 W.drew g f0 f1 := h
theorem IsS46.at_ {w0 W : World} {g : Nat} {f0 : List Int} {f1 : List (S32)} {w' : World} {m : Nat} (hq : W.drewN m = w') (h : IsS46 w0 W g f0 f1) : IsS46 w0 w' g f0 f1 := by subst hq; exact IsS46.drewN h m
theorem IsS46.apart {w0 W : World} {g : Nat} {f0 : List Int} {f1 : List (S32)} {α : Type} {d : Kd α} {e : Nat} {base : Nat} {ok : Nat → Prop} {v : Value} {xs : List α} (h : IsS46 w0 W g f0 f1) (ho : d.R e W base ok v xs) (ht : ∀ q, q ∈ e :: d.E → q ≠ 46) : d.R e W base (fun k => ok k ∧ k ≠ g) v xs := by
  obtain ⟨A0, c0, A1, c1, hb, hg, hr0, hr1⟩ := h
  exact Kd.R_types ho hb ht
theorem IsS46.own_ne {w0 W : World} {g : Nat} {f0 : List Int} {f1 : List (S32)} {α : Type} {d : Kd α} {e : Nat} {base : Nat} {ok : Nat → Prop} {v : Value} {xs : List α} (h : IsS46 w0 W g f0 f1) (ho : d.R e W base ok v xs) (ht : e ≠ 46) : some g ≠ v.ownBlock := by
  obtain ⟨A0, c0, A1, c1, hb, hg, hr0, hr1⟩ := h
  exact Kd.R_ne ho hb ht
theorem IsS46.apartQ {w0 W : World} {g : Nat} {f0 : List Int} {f1 : List (S32)} {α : Type} {d : Kd α} {e : Nat} {base : Nat} {ok : Nat → Prop} {v : Value} {xs : List α} (h : IsS46 w0 W g f0 f1) (ho : d.Q e W base ok v xs) (ht : ∀ q, q ∈ e :: d.E → q ≠ 46) : d.Q e W base (fun k => ok k ∧ k ≠ g) v xs := by
  obtain ⟨A0, c0, A1, c1, hb, hg, hr0, hr1⟩ := h
  exact Kd.Q_types ho hb ht
theorem IsS46.own_neQ {w0 W : World} {g : Nat} {f0 : List Int} {f1 : List (S32)} {α : Type} {d : Kd α} {e : Nat} {base : Nat} {ok : Nat → Prop} {v : Value} {xs : List α} (h : IsS46 w0 W g f0 f1) (ho : d.Q e W base ok v xs) (ht : e ≠ 46) : some g ≠ v.ownBlock := by
  obtain ⟨A0, c0, A1, c1, hb, hg, hr0, hr1⟩ := h
  exact Kd.Q_ne ho hb ht
theorem IsS46.apartS {w0 W : World} {g : Nat} {f0 : List Int} {f1 : List (S32)} {α : Type} {d : Kd α} {e : Nat} {base : Nat} {ok : Nat → Prop} {v : Value} {xs : List α} (h : IsS46 w0 W g f0 f1) (ho : d.S e W base ok v xs) (ht : ∀ q, q ∈ e :: d.E → q ≠ 46) : d.S e W base (fun k => ok k ∧ k ≠ g) v xs := by
  obtain ⟨A0, c0, A1, c1, hb, hg, hr0, hr1⟩ := h
  exact Kd.S_types ho hb ht
theorem IsS46.own_neS {w0 W : World} {g : Nat} {f0 : List Int} {f1 : List (S32)} {α : Type} {d : Kd α} {e : Nat} {base : Nat} {ok : Nat → Prop} {v : Value} {xs : List α} (h : IsS46 w0 W g f0 f1) (ho : d.S e W base ok v xs) (ht : e ≠ 46) : some g ≠ v.ownBlock := by
  obtain ⟨A0, c0, A1, c1, hb, hg, hr0, hr1⟩ := h
  exact Kd.S_ne ho hb ht
theorem IsS46.lt {w0 W : World} {g : Nat} {f0 : List Int} {f1 : List (S32)} (h : IsS46 w0 W g f0 f1) : g < W.heap.size := by
  obtain ⟨A0, c0, A1, c1, hb, hg, hr0, hr1⟩ := h
  exact blk_lt hb
theorem IsS46.ge {w0 W : World} {g : Nat} {f0 : List Int} {f1 : List (S32)} (h : IsS46 w0 W g f0 f1) : w0.heap.size ≤ g := by
  obtain ⟨A0, c0, A1, c1, hb, hg, hr0, hr1⟩ := h
  exact hg
theorem IsS46.ne_blk {w0 W : World} {g : Nat} {f0 : List Int} {f1 : List (S32)} {a : Nat} {cs : Array Value} {t : TypeId} {fr : Nat × Nat} (h : IsS46 w0 W g f0 f1) (hb2 : W.heap[a]? = some (.cells cs t fr)) (ht : t ≠ 46) : g ≠ a := by
  obtain ⟨A0, c0, A1, c1, hb, hg, hr0, hr1⟩ := h
  rintro rfl
  rw [hb] at hb2
  injection hb2 with hb2
  injection hb2 with _ ht2
  exact ht ht2.symm
theorem IsS46.far {w0 W : World} {g : Nat} {f0 : List Int} {f1 : List (S32)} {p : Addr} (h : IsS46 w0 W g f0 f1) (hne : g ≠ p.block) (u : Value) : IsS46 w0 (W.setCell p u) g f0 f1 := by
  obtain ⟨A0, c0, A1, c1, hb, hg, hr0, hr1⟩ := h
  exact ⟨A0, c0, A1, c1, blk_far hb hne u, hg, hr0, hr1⟩
theorem cellS46_0 {W : World} {g : Nat} {A0 : Option Addr} {c0 : Nat} {A1 : Option Addr} {c1 : Nat} {f0 : List Int} {f1 : List (S32)} (h : W.heap[g]? = some (.cells #[.slice A0 f0.length c0, .slice A1 f1.length c1] 46 (0, 0))) : W.cell? ⟨g, 0, none⟩ = some (.slice A0 f0.length c0) := (blk_cell h 0).trans rfl
theorem cellS46_1 {W : World} {g : Nat} {A0 : Option Addr} {c0 : Nat} {A1 : Option Addr} {c1 : Nat} {f0 : List Int} {f1 : List (S32)} (h : W.heap[g]? = some (.cells #[.slice A0 f0.length c0, .slice A1 f1.length c1] 46 (0, 0))) : W.cell? ⟨g, 1, none⟩ = some (.slice A1 f1.length c1) := (blk_cell h 1).trans rfl
theorem IsS46.new (w0 W : World) (A0 : Option Addr) (c0 : Nat) (A1 : Option Addr) (c1 : Nat) (f0 : List Int) (f1 : List (S32)) (hB : Below w0.heap.size w0 W) (hr0 : Kd.C (Kd.int .u8) w0 A0 f0.length f0) (hr1 : Kd.C k32 w0 A1 f1.length f1) : IsS46 w0 (W.alloc (.cells #[.slice A0 f0.length c0, .slice A1 f1.length c1] 46)) W.heap.size f0 f1 := ⟨A0, c0, A1, c1, by simpa using heap_alloc_new W _, hB.size, hr0, hr1⟩

/-! ### env_Env_Left: function 11 -/
def env_Env_Left.f (s0_0 : List Int) (s0_1 : List (S32)) : Option (Int) := some (s0_0.length : Int)
set_option maxHeartbeats 8000000 in
set_option maxRecDepth 100000 in
theorem env_Env_Left.calls (g : Nat) (s0_0 : List Int) (s0_1 : List (S32)) (r : Int) (w0 w : World) (hI : IsS46 w0 w g s0_0 s0_1) (hB : Below w0.heap.size w0 w) (h : env_Env_Left.f s0_0 s0_1 = some r) :
    Calls Try.prog 11 #[.pointer (some ⟨g, 0, none⟩)] w fun e w' => e = .returned (.int .i64 r) ∧ IsS46 w0 w' g s0_0 s0_1 ∧ Below w0.heap.size w0 w' ∧ KeepBut w w' g none := by
  have HI0 := Aside0.mk hI
  have HK := Aside0.mk (KeepBut.refl w g none)
  have HL := Aside0.mk hB.size
  clear hI
  have HW0 := Aside0.mk hB.size
  have HB := Aside0.mk hB
  clear hB
  have H : (some (s0_0.length : Int)) = some r := h
  clear h
  obtain rfl := Option.some.inj H
  obtain ⟨ASz2_0, cSz2_0, ASz2_1, cSz2_1, HGz2, hgz2, HSz2_0, HSz2_1⟩ := HI0.out
  have hcz2_0 := cellS46_0 HGz2
  have hcz2_1 := cellS46_1 HGz2
  clear HGz2 hgz2
  go_enter Try.func11, Try.ntmps11
  go_wp2
  go_ret
  exact ⟨by first | rfl | (simp [errW_none, errW_some] <;> rfl) | (simp [*, errW_none, errW_some] <;> rfl), by repeat (first | (with_reducible first | exact HI0.out | apply IsS46.alloc | apply IsS46.drewN | apply IsS46.drew) | exact HI0.out), by repeat (first | (with_reducible first | exact HB.out | apply below_alloc | apply pw_below_drewN | apply below_drew1 | refine below_set ?_ (IsS46.ge HI0.out)) | exact HB.out), by repeat (first | (with_reducible first | exact HK.out | apply KeepBut.set_ | apply keep_drewN | apply keep_drew | apply keep_alloc) | exact HK.out)⟩

-- NOT PRINTED: function 13 (env_Env_Trace)

-- NOT PRINTED: function 14 (env_Env_Output)

-- NOT PRINTED: function 6 (dovetaillaw7_known)

-- NOT PRINTED: function 10 (dovetailref6_Env_Take)

/-! ### dovetailhelp_Events: function 12 -/
def dovetailhelp_Events.l0 : Nat → List (S32) → List (S32) → Int → Option (Bool)
  | 0, _, _, _ => none
  | k + 1, x0, x1, x5 => if x5 < (x0.length : Int) then (if 0 ≤ x5 then (if x5 < (x1.length : Int) then (if ((rd_T32 x0 x5).f0) = ((rd_T32 x1 x5).f0) then (if ((rd_T32 x0 x5).f1) = ((rd_T32 x1 x5).f1) then (if ((rd_T32 x0 x5).f3) = ((rd_T32 x1 x5).f3) then (if (strOfNums ((rd_T32 x0 x5).f2)).toList = (strOfNums ((rd_T32 x1 x5).f2)).toList then (dovetailhelp_Events.l0 k x0 x1 (wrap64 (x5 + 1))) else (some false)) else (some false)) else (some false)) else (some false)) else (none)) else (none)) else (some true)
def dovetailhelp_Events.f (k : Nat) (l0 : List (S32)) (l1 : List (S32)) : Option (Bool) := if (l0.length : Int) = (l1.length : Int) then (dovetailhelp_Events.l0 k l0 l1 0) else (some false)
theorem dovetailhelp_Events.mono_l : ∀ k, (∀ y0 y1 y2, LeO (dovetailhelp_Events.l0 k y0 y1 y2) (dovetailhelp_Events.l0 (k + 1) y0 y1 y2))
  | 0 => fun _ _ _ r h => by simp [dovetailhelp_Events.l0] at h
  | k + 1 => by
    have ih0 := dovetailhelp_Events.mono_l k
    · intro y0 y1 y2
      unfold dovetailhelp_Events.l0
      repeat' first
      | (with_reducible exact ih0 _ _ _)
      | (with_reducible exact LeO.refl _)
      | (with_reducible exact LeO.none _)
      | (with_reducible refine LeO.ite ?_ ?_)
      | (with_reducible refine LeO.bind ?_ (fun _ => ?_))
      | exact ih0 _ _ _
      | exact LeO.none _
      | refine LeO.ite ?_ ?_
      | refine LeO.bind ?_ (fun _ => ?_)
theorem dovetailhelp_Events.mono : ∀ a0 a1 k, LeO (dovetailhelp_Events.f k a0 a1) (dovetailhelp_Events.f (k + 1) a0 a1) := by
  intro a0 a1 k
  have ih0 := dovetailhelp_Events.mono_l k
  unfold dovetailhelp_Events.f
  repeat' first
      | (with_reducible exact ih0 _ _ _)
      | (with_reducible exact LeO.refl _)
      | (with_reducible exact LeO.none _)
      | (with_reducible refine LeO.ite ?_ ?_)
      | (with_reducible refine LeO.bind ?_ (fun _ => ?_))
      | exact ih0 _ _ _
      | exact LeO.none _
      | refine LeO.ite ?_ ?_
      | refine LeO.bind ?_ (fun _ => ?_)
set_option maxHeartbeats 8000000 in
set_option maxRecDepth 100000 in
theorem dovetailhelp_Events.calls (k : Nat) (A0 : Option Addr) (c0 : Nat) (l0 : List (S32)) (A1 : Option Addr) (c1 : Nat) (l1 : List (S32)) (r : Bool) (w : World) (hr0 : Kd.C k32 w A0 l0.length l0) (hc0 : l0.length ≤ c0) (hr1 : Kd.C k32 w A1 l1.length l1) (hc1 : l1.length ≤ c1) (h : dovetailhelp_Events.f k l0 l1 = some r) :
    Calls Try.prog 12 #[.slice A0 l0.length c0, .slice A1 l1.length c1] w fun e w' => e = .returned (.bool r) ∧ Drawn0 w w' := by
  have HR0 := Aside0.mk hr0
  have HC0 := Aside0.mk hc0
  clear hr0 hc0
  have HR1 := Aside0.mk hr1
  have HC1 := Aside0.mk hc1
  clear hr1 hc1
  have H : (if (l0.length : Int) = (l1.length : Int) then (dovetailhelp_Events.l0 k l0 l1 0) else (some false)) = some r := h
  clear h
  by_cases c3 : (l0.length : Int) = (l1.length : Int)
  · rw [if_pos c3] at H
    have c3b0 : ((l0.length : Int) == (l1.length : Int)) = true := beq_iff_eq.mpr c3
    have c3b1 : ((l0.length : Int) != (l1.length : Int)) = false := bne_eq_false_iff_eq.mpr c3
    have c3b2 : (l0.length == l1.length) = true := by first | simpa using c3 | (simp at c3 ⊢; omega)
    clear c3
    have H' := Aside0.mk H
    clear H
    go_enter Try.func12, Try.ntmps12
    go_wp2
    repeat (go_quiet (fail); try go_wp2)
    go_loopg [5] k (fun kq v5 w' => ∃ (x5_1 : Int), v5 = .int .i64 x5_1 ∧ Aside0 (dovetailhelp_Events.l0 kq l0 l1 x5_1 = some r) ∧ Aside0 (kq ≤ k) ∧ Drawn0 w w')
    case atStart => exact ⟨(0), (by first | rfl | (simp; done) | (simp [*]; done)), H', ⟨Nat.le_refl _⟩, by repeat (first | exact Drawn0.refl _ | apply Drawn0.step)⟩
    case round =>
      clear H'
      try clear c1
      try clear p2
      try clear c3
      try clear c3b0
      try clear c3b1
      try clear c3b2
      obtain ⟨x5_1, rfl, HA, HK1, ⟨m1, rfl⟩⟩ := hrel
      cases gk with
      | zero => exact absurd HA.out (by simp [dovetailhelp_Events.l0])
      | succ k1 =>
        have H := HA.out
        clear HA
        simp only [dovetailhelp_Events.l0] at H
        by_cases c4 : x5_1 < (l0.length : Int)
        · rw [if_pos c4] at H
          have c4b0 : decide (x5_1 < (l0.length : Int)) = true := decide_eq_true c4
          clear c4
          by_cases c5 : 0 ≤ x5_1
          · rw [if_pos c5] at H
            have c5b0 : decide (0 ≤ x5_1) = true := decide_eq_true c5
            clear c5
            by_cases c6 : x5_1 < (l1.length : Int)
            · rw [if_pos c6] at H
              have c6b0 : decide (x5_1 < (l1.length : Int)) = true := decide_eq_true c6
              clear c6
              by_cases c7 : ((rd_T32 l0 x5_1).f0) = ((rd_T32 l1 x5_1).f0)
              · rw [if_pos c7] at H
                have c7b0 : (((rd_T32 l0 x5_1).f0) == ((rd_T32 l1 x5_1).f0)) = true := beq_iff_eq.mpr c7
                have c7b1 : (((rd_T32 l0 x5_1).f0) != ((rd_T32 l1 x5_1).f0)) = false := bne_eq_false_iff_eq.mpr c7
                clear c7
                by_cases c8 : ((rd_T32 l0 x5_1).f1) = ((rd_T32 l1 x5_1).f1)
                · rw [if_pos c8] at H
                  have c8b0 : (((rd_T32 l0 x5_1).f1) == ((rd_T32 l1 x5_1).f1)) = true := beq_iff_eq.mpr c8
                  have c8b1 : (((rd_T32 l0 x5_1).f1) != ((rd_T32 l1 x5_1).f1)) = false := bne_eq_false_iff_eq.mpr c8
                  clear c8
                  by_cases c9 : ((rd_T32 l0 x5_1).f3) = ((rd_T32 l1 x5_1).f3)
                  · rw [if_pos c9] at H
                    have c9b0 : (((rd_T32 l0 x5_1).f3) == ((rd_T32 l1 x5_1).f3)) = true := beq_iff_eq.mpr c9
                    have c9b1 : (((rd_T32 l0 x5_1).f3) != ((rd_T32 l1 x5_1).f3)) = false := bne_eq_false_iff_eq.mpr c9
                    clear c9
                    by_cases c10 : (strOfNums ((rd_T32 l0 x5_1).f2)).toList = (strOfNums ((rd_T32 l1 x5_1).f2)).toList
                    · rw [if_pos c10] at H
                      have c10b0 : ((strOfNums ((rd_T32 l0 x5_1).f2)).toList == (strOfNums ((rd_T32 l1 x5_1).f2)).toList) = true := beq_iff_eq.mpr c10
                      have c10b1 : ((strOfNums ((rd_T32 l0 x5_1).f2)).toList != (strOfNums ((rd_T32 l1 x5_1).f2)).toList) = false := bne_eq_false_iff_eq.mpr c10
                      clear c10
                      have H' := Aside0.mk H
                      clear H
                      have p137 : 0 ≤ (x5_1 : Int) := of_decide_eq_true (by first | (with_reducible assumption) | assumption)
                      have q137 : x5_1 < (l0.length : Int) := of_decide_eq_true (by first | (with_reducible assumption) | assumption)
                      obtain ⟨ad137, A137_2, c137_2, e137, hx137_0, hx137_1, hx137_2, hx137_3, hl137_2, hi137_2⟩ := at_T32 HR0.out x5_1 p137 q137
                      cases e137
                      have HR137_2 := Aside0.mk hi137_2
                      have HC137_2 := Aside0.mk hl137_2
                      clear hi137_2 hl137_2
                      replace p137 := eq_true p137
                      replace q137 := eq_true q137
                      have p138 : 0 ≤ (x5_1 : Int) := of_decide_eq_true (by first | (with_reducible assumption) | assumption)
                      have q138 : x5_1 < (l1.length : Int) := of_decide_eq_true (by first | (with_reducible assumption) | assumption)
                      obtain ⟨ad138, A138_2, c138_2, e138, hx138_0, hx138_1, hx138_2, hx138_3, hl138_2, hi138_2⟩ := at_T32 HR1.out x5_1 p138 q138
                      cases e138
                      have HR138_2 := Aside0.mk hi138_2
                      have HC138_2 := Aside0.mk hl138_2
                      clear hi138_2 hl138_2
                      replace p138 := eq_true p138
                      replace q138 := eq_true q138
                      have p139 : 0 ≤ (x5_1 : Int) := of_decide_eq_true (by first | (with_reducible assumption) | assumption)
                      have q139 : x5_1 < (l0.length : Int) := of_decide_eq_true (by first | (with_reducible assumption) | assumption)
                      obtain ⟨ad139, A139_2, c139_2, e139, hx139_0, hx139_1, hx139_2, hx139_3, hl139_2, hi139_2⟩ := at_T32 HR0.out x5_1 p139 q139
                      obtain rfl : ad137 = ad139 := (by injection e139)
                      have HR139_2 := Aside0.mk hi139_2
                      have HC139_2 := Aside0.mk hl139_2
                      clear hi139_2 hl139_2
                      replace p139 := eq_true p139
                      replace q139 := eq_true q139
                      have ea_ := Option.some.inj (hx137_2.symm.trans hx139_2)
                      injection ea_ with ea_ en_ ec_
                      subst ea_
                      subst ec_
                      clear en_
                      have p140 : 0 ≤ (x5_1 : Int) := of_decide_eq_true (by first | (with_reducible assumption) | assumption)
                      have q140 : x5_1 < (l1.length : Int) := of_decide_eq_true (by first | (with_reducible assumption) | assumption)
                      obtain ⟨ad140, A140_2, c140_2, e140, hx140_0, hx140_1, hx140_2, hx140_3, hl140_2, hi140_2⟩ := at_T32 HR1.out x5_1 p140 q140
                      obtain rfl : ad138 = ad140 := (by injection e140)
                      have HR140_2 := Aside0.mk hi140_2
                      have HC140_2 := Aside0.mk hl140_2
                      clear hi140_2 hl140_2
                      replace p140 := eq_true p140
                      replace q140 := eq_true q140
                      have ea_ := Option.some.inj (hx138_2.symm.trans hx140_2)
                      injection ea_ with ea_ en_ ec_
                      subst ea_
                      subst ec_
                      clear en_
                      have p141 : 0 ≤ (x5_1 : Int) := of_decide_eq_true (by first | (with_reducible assumption) | assumption)
                      have q141 : x5_1 < (l0.length : Int) := of_decide_eq_true (by first | (with_reducible assumption) | assumption)
                      obtain ⟨ad141, A141_2, c141_2, e141, hx141_0, hx141_1, hx141_2, hx141_3, hl141_2, hi141_2⟩ := at_T32 HR0.out x5_1 p141 q141
                      obtain rfl : ad137 = ad141 := (by injection e141)
                      have HR141_2 := Aside0.mk hi141_2
                      have HC141_2 := Aside0.mk hl141_2
                      clear hi141_2 hl141_2
                      replace p141 := eq_true p141
                      replace q141 := eq_true q141
                      have ea_ := Option.some.inj (hx137_2.symm.trans hx141_2)
                      injection ea_ with ea_ en_ ec_
                      subst ea_
                      subst ec_
                      clear en_
                      have p142 : 0 ≤ (x5_1 : Int) := of_decide_eq_true (by first | (with_reducible assumption) | assumption)
                      have q142 : x5_1 < (l1.length : Int) := of_decide_eq_true (by first | (with_reducible assumption) | assumption)
                      obtain ⟨ad142, A142_2, c142_2, e142, hx142_0, hx142_1, hx142_2, hx142_3, hl142_2, hi142_2⟩ := at_T32 HR1.out x5_1 p142 q142
                      obtain rfl : ad138 = ad142 := (by injection e142)
                      have HR142_2 := Aside0.mk hi142_2
                      have HC142_2 := Aside0.mk hl142_2
                      clear hi142_2 hl142_2
                      replace p142 := eq_true p142
                      replace q142 := eq_true q142
                      have ea_ := Option.some.inj (hx138_2.symm.trans hx142_2)
                      injection ea_ with ea_ en_ ec_
                      subst ea_
                      subst ec_
                      clear en_
                      have p143 : 0 ≤ (x5_1 : Int) := of_decide_eq_true (by first | (with_reducible assumption) | assumption)
                      have q143 : x5_1 < (l0.length : Int) := of_decide_eq_true (by first | (with_reducible assumption) | assumption)
                      obtain ⟨ad143, A143_2, c143_2, e143, hx143_0, hx143_1, hx143_2, hx143_3, hl143_2, hi143_2⟩ := at_T32 HR0.out x5_1 p143 q143
                      obtain rfl : ad137 = ad143 := (by injection e143)
                      have HR143_2 := Aside0.mk hi143_2
                      have HC143_2 := Aside0.mk hl143_2
                      clear hi143_2 hl143_2
                      replace p143 := eq_true p143
                      replace q143 := eq_true q143
                      have ea_ := Option.some.inj (hx137_2.symm.trans hx143_2)
                      injection ea_ with ea_ en_ ec_
                      subst ea_
                      subst ec_
                      clear en_
                      have hcv11 := Kd.C_string (P := Try.prog) (A := A137_2) (c := c137_2) Try.underlying22 Try.underlying5 Try.underlying9 HR143_2.out
                      have hcv11n := fun (m_ : Nat) => Kd.C_string (P := Try.prog) (A := A137_2) (c := c137_2) Try.underlying22 Try.underlying5 Try.underlying9 (Kd.C_drewN HR143_2.out m_)
                      have p144 : 0 ≤ (x5_1 : Int) := of_decide_eq_true (by first | (with_reducible assumption) | assumption)
                      have q144 : x5_1 < (l1.length : Int) := of_decide_eq_true (by first | (with_reducible assumption) | assumption)
                      obtain ⟨ad144, A144_2, c144_2, e144, hx144_0, hx144_1, hx144_2, hx144_3, hl144_2, hi144_2⟩ := at_T32 HR1.out x5_1 p144 q144
                      obtain rfl : ad138 = ad144 := (by injection e144)
                      have HR144_2 := Aside0.mk hi144_2
                      have HC144_2 := Aside0.mk hl144_2
                      clear hi144_2 hl144_2
                      replace p144 := eq_true p144
                      replace q144 := eq_true q144
                      have ea_ := Option.some.inj (hx138_2.symm.trans hx144_2)
                      injection ea_ with ea_ en_ ec_
                      subst ea_
                      subst ec_
                      clear en_
                      have hcv12 := Kd.C_string (P := Try.prog) (A := A138_2) (c := c138_2) Try.underlying22 Try.underlying5 Try.underlying9 HR144_2.out
                      have hcv12n := fun (m_ : Nat) => Kd.C_string (P := Try.prog) (A := A138_2) (c := c138_2) Try.underlying22 Try.underlying5 Try.underlying9 (Kd.C_drewN HR144_2.out m_)
                      go_wp2
                      repeat (go_quiet (fail); try go_wp2)
                      go_roundg k1
                      case measure => have := HK1.out; omega
                      case rel => exact ⟨(wrap64 (x5_1 + 1)), (by first | rfl | (simp; done) | (simp [*]; done)), H', ⟨by have := HK1.out; omega⟩, by repeat (first | exact Drawn0.refl _ | apply Drawn0.step)⟩
                    · rw [if_neg c10] at H
                      have c10b0 : ((strOfNums ((rd_T32 l0 x5_1).f2)).toList == (strOfNums ((rd_T32 l1 x5_1).f2)).toList) = false := beq_eq_false_iff_ne.mpr c10
                      have c10b1 : ((strOfNums ((rd_T32 l0 x5_1).f2)).toList != (strOfNums ((rd_T32 l1 x5_1).f2)).toList) = true := bne_iff_ne.mpr c10
                      obtain rfl := Option.some.inj H
                      have p137 : 0 ≤ (x5_1 : Int) := of_decide_eq_true (by first | (with_reducible assumption) | assumption)
                      have q137 : x5_1 < (l0.length : Int) := of_decide_eq_true (by first | (with_reducible assumption) | assumption)
                      obtain ⟨ad137, A137_2, c137_2, e137, hx137_0, hx137_1, hx137_2, hx137_3, hl137_2, hi137_2⟩ := at_T32 HR0.out x5_1 p137 q137
                      cases e137
                      have HR137_2 := Aside0.mk hi137_2
                      have HC137_2 := Aside0.mk hl137_2
                      clear hi137_2 hl137_2
                      replace p137 := eq_true p137
                      replace q137 := eq_true q137
                      have p138 : 0 ≤ (x5_1 : Int) := of_decide_eq_true (by first | (with_reducible assumption) | assumption)
                      have q138 : x5_1 < (l1.length : Int) := of_decide_eq_true (by first | (with_reducible assumption) | assumption)
                      obtain ⟨ad138, A138_2, c138_2, e138, hx138_0, hx138_1, hx138_2, hx138_3, hl138_2, hi138_2⟩ := at_T32 HR1.out x5_1 p138 q138
                      cases e138
                      have HR138_2 := Aside0.mk hi138_2
                      have HC138_2 := Aside0.mk hl138_2
                      clear hi138_2 hl138_2
                      replace p138 := eq_true p138
                      replace q138 := eq_true q138
                      have p139 : 0 ≤ (x5_1 : Int) := of_decide_eq_true (by first | (with_reducible assumption) | assumption)
                      have q139 : x5_1 < (l0.length : Int) := of_decide_eq_true (by first | (with_reducible assumption) | assumption)
                      obtain ⟨ad139, A139_2, c139_2, e139, hx139_0, hx139_1, hx139_2, hx139_3, hl139_2, hi139_2⟩ := at_T32 HR0.out x5_1 p139 q139
                      obtain rfl : ad137 = ad139 := (by injection e139)
                      have HR139_2 := Aside0.mk hi139_2
                      have HC139_2 := Aside0.mk hl139_2
                      clear hi139_2 hl139_2
                      replace p139 := eq_true p139
                      replace q139 := eq_true q139
                      have ea_ := Option.some.inj (hx137_2.symm.trans hx139_2)
                      injection ea_ with ea_ en_ ec_
                      subst ea_
                      subst ec_
                      clear en_
                      have p140 : 0 ≤ (x5_1 : Int) := of_decide_eq_true (by first | (with_reducible assumption) | assumption)
                      have q140 : x5_1 < (l1.length : Int) := of_decide_eq_true (by first | (with_reducible assumption) | assumption)
                      obtain ⟨ad140, A140_2, c140_2, e140, hx140_0, hx140_1, hx140_2, hx140_3, hl140_2, hi140_2⟩ := at_T32 HR1.out x5_1 p140 q140
                      obtain rfl : ad138 = ad140 := (by injection e140)
                      have HR140_2 := Aside0.mk hi140_2
                      have HC140_2 := Aside0.mk hl140_2
                      clear hi140_2 hl140_2
                      replace p140 := eq_true p140
                      replace q140 := eq_true q140
                      have ea_ := Option.some.inj (hx138_2.symm.trans hx140_2)
                      injection ea_ with ea_ en_ ec_
                      subst ea_
                      subst ec_
                      clear en_
                      have p141 : 0 ≤ (x5_1 : Int) := of_decide_eq_true (by first | (with_reducible assumption) | assumption)
                      have q141 : x5_1 < (l0.length : Int) := of_decide_eq_true (by first | (with_reducible assumption) | assumption)
                      obtain ⟨ad141, A141_2, c141_2, e141, hx141_0, hx141_1, hx141_2, hx141_3, hl141_2, hi141_2⟩ := at_T32 HR0.out x5_1 p141 q141
                      obtain rfl : ad137 = ad141 := (by injection e141)
                      have HR141_2 := Aside0.mk hi141_2
                      have HC141_2 := Aside0.mk hl141_2
                      clear hi141_2 hl141_2
                      replace p141 := eq_true p141
                      replace q141 := eq_true q141
                      have ea_ := Option.some.inj (hx137_2.symm.trans hx141_2)
                      injection ea_ with ea_ en_ ec_
                      subst ea_
                      subst ec_
                      clear en_
                      have p142 : 0 ≤ (x5_1 : Int) := of_decide_eq_true (by first | (with_reducible assumption) | assumption)
                      have q142 : x5_1 < (l1.length : Int) := of_decide_eq_true (by first | (with_reducible assumption) | assumption)
                      obtain ⟨ad142, A142_2, c142_2, e142, hx142_0, hx142_1, hx142_2, hx142_3, hl142_2, hi142_2⟩ := at_T32 HR1.out x5_1 p142 q142
                      obtain rfl : ad138 = ad142 := (by injection e142)
                      have HR142_2 := Aside0.mk hi142_2
                      have HC142_2 := Aside0.mk hl142_2
                      clear hi142_2 hl142_2
                      replace p142 := eq_true p142
                      replace q142 := eq_true q142
                      have ea_ := Option.some.inj (hx138_2.symm.trans hx142_2)
                      injection ea_ with ea_ en_ ec_
                      subst ea_
                      subst ec_
                      clear en_
                      have p143 : 0 ≤ (x5_1 : Int) := of_decide_eq_true (by first | (with_reducible assumption) | assumption)
                      have q143 : x5_1 < (l0.length : Int) := of_decide_eq_true (by first | (with_reducible assumption) | assumption)
                      obtain ⟨ad143, A143_2, c143_2, e143, hx143_0, hx143_1, hx143_2, hx143_3, hl143_2, hi143_2⟩ := at_T32 HR0.out x5_1 p143 q143
                      obtain rfl : ad137 = ad143 := (by injection e143)
                      have HR143_2 := Aside0.mk hi143_2
                      have HC143_2 := Aside0.mk hl143_2
                      clear hi143_2 hl143_2
                      replace p143 := eq_true p143
                      replace q143 := eq_true q143
                      have ea_ := Option.some.inj (hx137_2.symm.trans hx143_2)
                      injection ea_ with ea_ en_ ec_
                      subst ea_
                      subst ec_
                      clear en_
                      have hcv13 := Kd.C_string (P := Try.prog) (A := A137_2) (c := c137_2) Try.underlying22 Try.underlying5 Try.underlying9 HR143_2.out
                      have hcv13n := fun (m_ : Nat) => Kd.C_string (P := Try.prog) (A := A137_2) (c := c137_2) Try.underlying22 Try.underlying5 Try.underlying9 (Kd.C_drewN HR143_2.out m_)
                      have p144 : 0 ≤ (x5_1 : Int) := of_decide_eq_true (by first | (with_reducible assumption) | assumption)
                      have q144 : x5_1 < (l1.length : Int) := of_decide_eq_true (by first | (with_reducible assumption) | assumption)
                      obtain ⟨ad144, A144_2, c144_2, e144, hx144_0, hx144_1, hx144_2, hx144_3, hl144_2, hi144_2⟩ := at_T32 HR1.out x5_1 p144 q144
                      obtain rfl : ad138 = ad144 := (by injection e144)
                      have HR144_2 := Aside0.mk hi144_2
                      have HC144_2 := Aside0.mk hl144_2
                      clear hi144_2 hl144_2
                      replace p144 := eq_true p144
                      replace q144 := eq_true q144
                      have ea_ := Option.some.inj (hx138_2.symm.trans hx144_2)
                      injection ea_ with ea_ en_ ec_
                      subst ea_
                      subst ec_
                      clear en_
                      have hcv14 := Kd.C_string (P := Try.prog) (A := A138_2) (c := c138_2) Try.underlying22 Try.underlying5 Try.underlying9 HR144_2.out
                      have hcv14n := fun (m_ : Nat) => Kd.C_string (P := Try.prog) (A := A138_2) (c := c138_2) Try.underlying22 Try.underlying5 Try.underlying9 (Kd.C_drewN HR144_2.out m_)
                      go_wp2
                      repeat (go_quiet (fail); try go_wp2)
                      go_ret
                      exact ⟨by first | rfl | (simp; done) | (simp [*]; done), by repeat (first | exact Drawn0.refl _ | apply Drawn0.step)⟩
                  · rw [if_neg c9] at H
                    have c9b0 : (((rd_T32 l0 x5_1).f3) == ((rd_T32 l1 x5_1).f3)) = false := beq_eq_false_iff_ne.mpr c9
                    have c9b1 : (((rd_T32 l0 x5_1).f3) != ((rd_T32 l1 x5_1).f3)) = true := bne_iff_ne.mpr c9
                    obtain rfl := Option.some.inj H
                    have p137 : 0 ≤ (x5_1 : Int) := of_decide_eq_true (by first | (with_reducible assumption) | assumption)
                    have q137 : x5_1 < (l0.length : Int) := of_decide_eq_true (by first | (with_reducible assumption) | assumption)
                    obtain ⟨ad137, A137_2, c137_2, e137, hx137_0, hx137_1, hx137_2, hx137_3, hl137_2, hi137_2⟩ := at_T32 HR0.out x5_1 p137 q137
                    cases e137
                    have HR137_2 := Aside0.mk hi137_2
                    have HC137_2 := Aside0.mk hl137_2
                    clear hi137_2 hl137_2
                    replace p137 := eq_true p137
                    replace q137 := eq_true q137
                    have p138 : 0 ≤ (x5_1 : Int) := of_decide_eq_true (by first | (with_reducible assumption) | assumption)
                    have q138 : x5_1 < (l1.length : Int) := of_decide_eq_true (by first | (with_reducible assumption) | assumption)
                    obtain ⟨ad138, A138_2, c138_2, e138, hx138_0, hx138_1, hx138_2, hx138_3, hl138_2, hi138_2⟩ := at_T32 HR1.out x5_1 p138 q138
                    cases e138
                    have HR138_2 := Aside0.mk hi138_2
                    have HC138_2 := Aside0.mk hl138_2
                    clear hi138_2 hl138_2
                    replace p138 := eq_true p138
                    replace q138 := eq_true q138
                    have p139 : 0 ≤ (x5_1 : Int) := of_decide_eq_true (by first | (with_reducible assumption) | assumption)
                    have q139 : x5_1 < (l0.length : Int) := of_decide_eq_true (by first | (with_reducible assumption) | assumption)
                    obtain ⟨ad139, A139_2, c139_2, e139, hx139_0, hx139_1, hx139_2, hx139_3, hl139_2, hi139_2⟩ := at_T32 HR0.out x5_1 p139 q139
                    obtain rfl : ad137 = ad139 := (by injection e139)
                    have HR139_2 := Aside0.mk hi139_2
                    have HC139_2 := Aside0.mk hl139_2
                    clear hi139_2 hl139_2
                    replace p139 := eq_true p139
                    replace q139 := eq_true q139
                    have ea_ := Option.some.inj (hx137_2.symm.trans hx139_2)
                    injection ea_ with ea_ en_ ec_
                    subst ea_
                    subst ec_
                    clear en_
                    have p140 : 0 ≤ (x5_1 : Int) := of_decide_eq_true (by first | (with_reducible assumption) | assumption)
                    have q140 : x5_1 < (l1.length : Int) := of_decide_eq_true (by first | (with_reducible assumption) | assumption)
                    obtain ⟨ad140, A140_2, c140_2, e140, hx140_0, hx140_1, hx140_2, hx140_3, hl140_2, hi140_2⟩ := at_T32 HR1.out x5_1 p140 q140
                    obtain rfl : ad138 = ad140 := (by injection e140)
                    have HR140_2 := Aside0.mk hi140_2
                    have HC140_2 := Aside0.mk hl140_2
                    clear hi140_2 hl140_2
                    replace p140 := eq_true p140
                    replace q140 := eq_true q140
                    have ea_ := Option.some.inj (hx138_2.symm.trans hx140_2)
                    injection ea_ with ea_ en_ ec_
                    subst ea_
                    subst ec_
                    clear en_
                    have p141 : 0 ≤ (x5_1 : Int) := of_decide_eq_true (by first | (with_reducible assumption) | assumption)
                    have q141 : x5_1 < (l0.length : Int) := of_decide_eq_true (by first | (with_reducible assumption) | assumption)
                    obtain ⟨ad141, A141_2, c141_2, e141, hx141_0, hx141_1, hx141_2, hx141_3, hl141_2, hi141_2⟩ := at_T32 HR0.out x5_1 p141 q141
                    obtain rfl : ad137 = ad141 := (by injection e141)
                    have HR141_2 := Aside0.mk hi141_2
                    have HC141_2 := Aside0.mk hl141_2
                    clear hi141_2 hl141_2
                    replace p141 := eq_true p141
                    replace q141 := eq_true q141
                    have ea_ := Option.some.inj (hx137_2.symm.trans hx141_2)
                    injection ea_ with ea_ en_ ec_
                    subst ea_
                    subst ec_
                    clear en_
                    have p142 : 0 ≤ (x5_1 : Int) := of_decide_eq_true (by first | (with_reducible assumption) | assumption)
                    have q142 : x5_1 < (l1.length : Int) := of_decide_eq_true (by first | (with_reducible assumption) | assumption)
                    obtain ⟨ad142, A142_2, c142_2, e142, hx142_0, hx142_1, hx142_2, hx142_3, hl142_2, hi142_2⟩ := at_T32 HR1.out x5_1 p142 q142
                    obtain rfl : ad138 = ad142 := (by injection e142)
                    have HR142_2 := Aside0.mk hi142_2
                    have HC142_2 := Aside0.mk hl142_2
                    clear hi142_2 hl142_2
                    replace p142 := eq_true p142
                    replace q142 := eq_true q142
                    have ea_ := Option.some.inj (hx138_2.symm.trans hx142_2)
                    injection ea_ with ea_ en_ ec_
                    subst ea_
                    subst ec_
                    clear en_
                    go_wp2
                    repeat (go_quiet (fail); try go_wp2)
                    go_ret
                    exact ⟨by first | rfl | (simp; done) | (simp [*]; done), by repeat (first | exact Drawn0.refl _ | apply Drawn0.step)⟩
                · rw [if_neg c8] at H
                  have c8b0 : (((rd_T32 l0 x5_1).f1) == ((rd_T32 l1 x5_1).f1)) = false := beq_eq_false_iff_ne.mpr c8
                  have c8b1 : (((rd_T32 l0 x5_1).f1) != ((rd_T32 l1 x5_1).f1)) = true := bne_iff_ne.mpr c8
                  obtain rfl := Option.some.inj H
                  have p137 : 0 ≤ (x5_1 : Int) := of_decide_eq_true (by first | (with_reducible assumption) | assumption)
                  have q137 : x5_1 < (l0.length : Int) := of_decide_eq_true (by first | (with_reducible assumption) | assumption)
                  obtain ⟨ad137, A137_2, c137_2, e137, hx137_0, hx137_1, hx137_2, hx137_3, hl137_2, hi137_2⟩ := at_T32 HR0.out x5_1 p137 q137
                  cases e137
                  have HR137_2 := Aside0.mk hi137_2
                  have HC137_2 := Aside0.mk hl137_2
                  clear hi137_2 hl137_2
                  replace p137 := eq_true p137
                  replace q137 := eq_true q137
                  have p138 : 0 ≤ (x5_1 : Int) := of_decide_eq_true (by first | (with_reducible assumption) | assumption)
                  have q138 : x5_1 < (l1.length : Int) := of_decide_eq_true (by first | (with_reducible assumption) | assumption)
                  obtain ⟨ad138, A138_2, c138_2, e138, hx138_0, hx138_1, hx138_2, hx138_3, hl138_2, hi138_2⟩ := at_T32 HR1.out x5_1 p138 q138
                  cases e138
                  have HR138_2 := Aside0.mk hi138_2
                  have HC138_2 := Aside0.mk hl138_2
                  clear hi138_2 hl138_2
                  replace p138 := eq_true p138
                  replace q138 := eq_true q138
                  have p139 : 0 ≤ (x5_1 : Int) := of_decide_eq_true (by first | (with_reducible assumption) | assumption)
                  have q139 : x5_1 < (l0.length : Int) := of_decide_eq_true (by first | (with_reducible assumption) | assumption)
                  obtain ⟨ad139, A139_2, c139_2, e139, hx139_0, hx139_1, hx139_2, hx139_3, hl139_2, hi139_2⟩ := at_T32 HR0.out x5_1 p139 q139
                  obtain rfl : ad137 = ad139 := (by injection e139)
                  have HR139_2 := Aside0.mk hi139_2
                  have HC139_2 := Aside0.mk hl139_2
                  clear hi139_2 hl139_2
                  replace p139 := eq_true p139
                  replace q139 := eq_true q139
                  have ea_ := Option.some.inj (hx137_2.symm.trans hx139_2)
                  injection ea_ with ea_ en_ ec_
                  subst ea_
                  subst ec_
                  clear en_
                  have p140 : 0 ≤ (x5_1 : Int) := of_decide_eq_true (by first | (with_reducible assumption) | assumption)
                  have q140 : x5_1 < (l1.length : Int) := of_decide_eq_true (by first | (with_reducible assumption) | assumption)
                  obtain ⟨ad140, A140_2, c140_2, e140, hx140_0, hx140_1, hx140_2, hx140_3, hl140_2, hi140_2⟩ := at_T32 HR1.out x5_1 p140 q140
                  obtain rfl : ad138 = ad140 := (by injection e140)
                  have HR140_2 := Aside0.mk hi140_2
                  have HC140_2 := Aside0.mk hl140_2
                  clear hi140_2 hl140_2
                  replace p140 := eq_true p140
                  replace q140 := eq_true q140
                  have ea_ := Option.some.inj (hx138_2.symm.trans hx140_2)
                  injection ea_ with ea_ en_ ec_
                  subst ea_
                  subst ec_
                  clear en_
                  go_wp2
                  repeat (go_quiet (fail); try go_wp2)
                  go_ret
                  exact ⟨by first | rfl | (simp; done) | (simp [*]; done), by repeat (first | exact Drawn0.refl _ | apply Drawn0.step)⟩
              · rw [if_neg c7] at H
                have c7b0 : (((rd_T32 l0 x5_1).f0) == ((rd_T32 l1 x5_1).f0)) = false := beq_eq_false_iff_ne.mpr c7
                have c7b1 : (((rd_T32 l0 x5_1).f0) != ((rd_T32 l1 x5_1).f0)) = true := bne_iff_ne.mpr c7
                obtain rfl := Option.some.inj H
                have p137 : 0 ≤ (x5_1 : Int) := of_decide_eq_true (by first | (with_reducible assumption) | assumption)
                have q137 : x5_1 < (l0.length : Int) := of_decide_eq_true (by first | (with_reducible assumption) | assumption)
                obtain ⟨ad137, A137_2, c137_2, e137, hx137_0, hx137_1, hx137_2, hx137_3, hl137_2, hi137_2⟩ := at_T32 HR0.out x5_1 p137 q137
                cases e137
                have HR137_2 := Aside0.mk hi137_2
                have HC137_2 := Aside0.mk hl137_2
                clear hi137_2 hl137_2
                replace p137 := eq_true p137
                replace q137 := eq_true q137
                have p138 : 0 ≤ (x5_1 : Int) := of_decide_eq_true (by first | (with_reducible assumption) | assumption)
                have q138 : x5_1 < (l1.length : Int) := of_decide_eq_true (by first | (with_reducible assumption) | assumption)
                obtain ⟨ad138, A138_2, c138_2, e138, hx138_0, hx138_1, hx138_2, hx138_3, hl138_2, hi138_2⟩ := at_T32 HR1.out x5_1 p138 q138
                cases e138
                have HR138_2 := Aside0.mk hi138_2
                have HC138_2 := Aside0.mk hl138_2
                clear hi138_2 hl138_2
                replace p138 := eq_true p138
                replace q138 := eq_true q138
                go_wp2
                repeat (go_quiet (fail); try go_wp2)
                go_ret
                exact ⟨by first | rfl | (simp; done) | (simp [*]; done), by repeat (first | exact Drawn0.refl _ | apply Drawn0.step)⟩
            · rw [if_neg c6] at H
              exact absurd H (by simp)
          · rw [if_neg c5] at H
            exact absurd H (by simp)
        · rw [if_neg c4] at H
          have c4b0 : decide (x5_1 < (l0.length : Int)) = false := decide_eq_false c4
          clear c4
          obtain rfl := Option.some.inj H
          go_wp2
          repeat (go_quiet (fail); try go_wp2)
          go_ret
          exact ⟨by first | rfl | (simp; done) | (simp [*]; done), by repeat (first | exact Drawn0.refl _ | apply Drawn0.step)⟩
  · rw [if_neg c3] at H
    have c3b0 : ((l0.length : Int) == (l1.length : Int)) = false := beq_eq_false_iff_ne.mpr c3
    have c3b1 : ((l0.length : Int) != (l1.length : Int)) = true := bne_iff_ne.mpr c3
    have c3b2 : (l0.length == l1.length) = false := by first | simpa using c3 | (simp at c3 ⊢; omega)
    obtain rfl := Option.some.inj H
    go_enter Try.func12, Try.ntmps12
    go_wp2
    repeat (go_quiet (fail); try go_wp2)
    go_ret
    exact ⟨by first | rfl | (simp; done) | (simp [*]; done), by repeat (first | exact Drawn0.refl _ | apply Drawn0.step)⟩

-- NOT PRINTED: function 15 (dovetailref6_Env_Output)

-- NOT PRINTED: function 3 (dovetaillaw7_EnvPlays)

end Go.Proofs.Ytodgpncfjogdbaa.QEnvPlays
