/- Contracts of what a law reaches, each function as a plain Lean function: written by a program of this claim's repo (myprint.py); conditions: those of each theorem. -/
import Derived.Test.YtlpphlfbdicaaaaQInstNamesx0
namespace Go.Proofs.Ytlpphlfbdicaaaa.QInstNames
open Go.RowKit Go.Proofs.YtlpphlfbdicaaaaW.PrintWords Go.Proofs.YtlpphlfbdicaaaaW.PrintLast Go.Proofs.YtlpphlfbdicaaaaW.PrintMore
attribute [local go_sem] max2_int min2_int max_two min_two max_three min_three max_four min_four   -- for this text's walks alone
set_option linter.unusedVariables false
set_option linter.unusedSimpArgs false

/-! ### inst.rows: by hand -/
def inst_rows.f  : Option ((List (S42))) := some (([(⟨1, 4, (⟨#[108, 117, 105]⟩ : ByteArray), 55, 0, 0, false, false⟩ : S42), (⟨2, 4, (⟨#[97, 117, 105, 112, 99]⟩ : ByteArray), 23, 0, 0, false, false⟩ : S42), (⟨3, 5, (⟨#[106, 97, 108]⟩ : ByteArray), 111, 0, 0, false, false⟩ : S42), (⟨4, 1, (⟨#[106, 97, 108, 114]⟩ : ByteArray), 103, 0, 0, false, false⟩ : S42), (⟨5, 3, (⟨#[98, 101, 113]⟩ : ByteArray), 99, 0, 0, false, false⟩ : S42), (⟨6, 3, (⟨#[98, 110, 101]⟩ : ByteArray), 99, 1, 0, false, false⟩ : S42), (⟨7, 3, (⟨#[98, 108, 116]⟩ : ByteArray), 99, 4, 0, false, false⟩ : S42), (⟨8, 3, (⟨#[98, 103, 101]⟩ : ByteArray), 99, 5, 0, false, false⟩ : S42), (⟨9, 3, (⟨#[98, 108, 116, 117]⟩ : ByteArray), 99, 6, 0, false, false⟩ : S42), (⟨10, 3, (⟨#[98, 103, 101, 117]⟩ : ByteArray), 99, 7, 0, false, false⟩ : S42), (⟨11, 1, (⟨#[108, 98]⟩ : ByteArray), 3, 0, 0, false, false⟩ : S42), (⟨12, 1, (⟨#[108, 104]⟩ : ByteArray), 3, 1, 0, false, false⟩ : S42), (⟨13, 1, (⟨#[108, 119]⟩ : ByteArray), 3, 2, 0, false, false⟩ : S42), (⟨14, 1, (⟨#[108, 100]⟩ : ByteArray), 3, 3, 0, false, false⟩ : S42), (⟨15, 1, (⟨#[108, 98, 117]⟩ : ByteArray), 3, 4, 0, false, false⟩ : S42), (⟨16, 1, (⟨#[108, 104, 117]⟩ : ByteArray), 3, 5, 0, false, false⟩ : S42), (⟨17, 1, (⟨#[108, 119, 117]⟩ : ByteArray), 3, 6, 0, false, false⟩ : S42), (⟨18, 2, (⟨#[115, 98]⟩ : ByteArray), 35, 0, 0, false, false⟩ : S42), (⟨19, 2, (⟨#[115, 104]⟩ : ByteArray), 35, 1, 0, false, false⟩ : S42), (⟨20, 2, (⟨#[115, 119]⟩ : ByteArray), 35, 2, 0, false, false⟩ : S42), (⟨21, 2, (⟨#[115, 100]⟩ : ByteArray), 35, 3, 0, false, false⟩ : S42), (⟨22, 1, (⟨#[97, 100, 100, 105]⟩ : ByteArray), 19, 0, 0, false, false⟩ : S42), (⟨23, 1, (⟨#[115, 108, 116, 105]⟩ : ByteArray), 19, 2, 0, false, false⟩ : S42), (⟨24, 1, (⟨#[115, 108, 116, 105, 117]⟩ : ByteArray), 19, 3, 0, false, false⟩ : S42), (⟨25, 1, (⟨#[120, 111, 114, 105]⟩ : ByteArray), 19, 4, 0, false, false⟩ : S42), (⟨26, 1, (⟨#[111, 114, 105]⟩ : ByteArray), 19, 6, 0, false, false⟩ : S42), (⟨27, 1, (⟨#[97, 110, 100, 105]⟩ : ByteArray), 19, 7, 0, false, false⟩ : S42), (⟨28, 1, (⟨#[115, 108, 108, 105]⟩ : ByteArray), 19, 1, 0, true, true⟩ : S42), (⟨29, 1, (⟨#[115, 114, 108, 105]⟩ : ByteArray), 19, 5, 0, true, true⟩ : S42), (⟨30, 1, (⟨#[115, 114, 97, 105]⟩ : ByteArray), 19, 5, 32, true, true⟩ : S42), (⟨31, 0, (⟨#[97, 100, 100]⟩ : ByteArray), 51, 0, 0, false, false⟩ : S42), (⟨32, 0, (⟨#[115, 117, 98]⟩ : ByteArray), 51, 0, 32, false, false⟩ : S42), (⟨33, 0, (⟨#[115, 108, 108]⟩ : ByteArray), 51, 1, 0, false, false⟩ : S42), (⟨34, 0, (⟨#[115, 108, 116]⟩ : ByteArray), 51, 2, 0, false, false⟩ : S42), (⟨35, 0, (⟨#[115, 108, 116, 117]⟩ : ByteArray), 51, 3, 0, false, false⟩ : S42), (⟨36, 0, (⟨#[120, 111, 114]⟩ : ByteArray), 51, 4, 0, false, false⟩ : S42), (⟨37, 0, (⟨#[115, 114, 108]⟩ : ByteArray), 51, 5, 0, false, false⟩ : S42), (⟨38, 0, (⟨#[115, 114, 97]⟩ : ByteArray), 51, 5, 32, false, false⟩ : S42), (⟨39, 0, (⟨#[111, 114]⟩ : ByteArray), 51, 6, 0, false, false⟩ : S42), (⟨40, 0, (⟨#[97, 110, 100]⟩ : ByteArray), 51, 7, 0, false, false⟩ : S42), (⟨41, 1, (⟨#[97, 100, 100, 105, 119]⟩ : ByteArray), 27, 0, 0, false, false⟩ : S42), (⟨42, 1, (⟨#[115, 108, 108, 105, 119]⟩ : ByteArray), 27, 1, 0, true, false⟩ : S42), (⟨43, 1, (⟨#[115, 114, 108, 105, 119]⟩ : ByteArray), 27, 5, 0, true, false⟩ : S42), (⟨44, 1, (⟨#[115, 114, 97, 105, 119]⟩ : ByteArray), 27, 5, 32, true, false⟩ : S42), (⟨45, 0, (⟨#[97, 100, 100, 119]⟩ : ByteArray), 59, 0, 0, false, false⟩ : S42), (⟨46, 0, (⟨#[115, 117, 98, 119]⟩ : ByteArray), 59, 0, 32, false, false⟩ : S42), (⟨47, 0, (⟨#[115, 108, 108, 119]⟩ : ByteArray), 59, 1, 0, false, false⟩ : S42), (⟨48, 0, (⟨#[115, 114, 108, 119]⟩ : ByteArray), 59, 5, 0, false, false⟩ : S42), (⟨49, 0, (⟨#[115, 114, 97, 119]⟩ : ByteArray), 59, 5, 32, false, false⟩ : S42), (⟨50, 0, (⟨#[109, 117, 108]⟩ : ByteArray), 51, 0, 1, false, false⟩ : S42), (⟨51, 0, (⟨#[109, 117, 108, 104]⟩ : ByteArray), 51, 1, 1, false, false⟩ : S42), (⟨52, 0, (⟨#[109, 117, 108, 104, 115, 117]⟩ : ByteArray), 51, 2, 1, false, false⟩ : S42), (⟨53, 0, (⟨#[109, 117, 108, 104, 117]⟩ : ByteArray), 51, 3, 1, false, false⟩ : S42), (⟨54, 0, (⟨#[100, 105, 118]⟩ : ByteArray), 51, 4, 1, false, false⟩ : S42), (⟨55, 0, (⟨#[100, 105, 118, 117]⟩ : ByteArray), 51, 5, 1, false, false⟩ : S42), (⟨56, 0, (⟨#[114, 101, 109]⟩ : ByteArray), 51, 6, 1, false, false⟩ : S42), (⟨57, 0, (⟨#[114, 101, 109, 117]⟩ : ByteArray), 51, 7, 1, false, false⟩ : S42), (⟨58, 0, (⟨#[109, 117, 108, 119]⟩ : ByteArray), 59, 0, 1, false, false⟩ : S42), (⟨59, 0, (⟨#[100, 105, 118, 119]⟩ : ByteArray), 59, 4, 1, false, false⟩ : S42), (⟨60, 0, (⟨#[100, 105, 118, 117, 119]⟩ : ByteArray), 59, 5, 1, false, false⟩ : S42), (⟨61, 0, (⟨#[114, 101, 109, 119]⟩ : ByteArray), 59, 6, 1, false, false⟩ : S42), (⟨62, 0, (⟨#[114, 101, 109, 117, 119]⟩ : ByteArray), 59, 7, 1, false, false⟩ : S42), (⟨63, 6, (⟨#[102, 101, 110, 99, 101]⟩ : ByteArray), 15, 0, 0, false, false⟩ : S42), (⟨64, 6, (⟨#[101, 99, 97, 108, 108]⟩ : ByteArray), 115, 0, 0, false, false⟩ : S42), (⟨65, 6, (⟨#[101, 98, 114, 101, 97, 107]⟩ : ByteArray), 1048691, 0, 0, false, false⟩ : S42)] : List (S42)))
def rowsL : List S42 := inst_rows.f.getD []
def rowCells (r : S42) : List Value := [.int .i64 r.f0, .int .i64 r.f1, .string r.f2, .int .u32 r.f3, .int .u32 r.f4, .int .u32 r.f5, .bool r.f6, .bool r.f7]
/-- Operations that yield a value each, run in line. -/
def runB (P : Program) : List Oper → Act → World → Option (Act × World)
  | [], a, w => some (a, w)
  | o :: os, a, w => match o.guard, (execOp a.eval o).run P w with
    | none, .ok (.value v) w' => runB P os (a.put o.dst v) w'
    | _, _ => none
theorem runB_wp {P : Program} {ops : Array Oper} {Q : Exit → Act → World → Prop} : ∀ (l : List Oper) (a a' : Act) (w w' : World), runB P l a w = some (a', w') → Q .normal a' w' → wpList P ops Q l a w
  | [], a, a', w, w', h, hq => by
    simp only [runB, Option.some.injEq, Prod.mk.injEq] at h
    obtain ⟨rfl, rfl⟩ := h
    exact hq
  | o :: os, a, a', w, w', h, hq => by
    unfold runB at h
    split at h
    · rename_i v w1 hg hr
      refine wpList_plain hg fun K hK => ?_
      unfold Oper.wp
      rw [hr, Oper.upon_value]
      exact hK _ _ (runB_wp os _ a' w1 w' h hq)
    · cases h
theorem runB_region {P : Program} {id : Nat} {ops : Array Oper} {Q : Exit → Act → World → Prop} {a : Act} {w : World} (a' : Act) (w' : World) (h : runB P ops.toList a w = some (a', w')) (hq : Q .normal a' w') : (Code.region id ops false).wp P Q a w :=
  wp_region_list (runB_wp _ _ _ _ _ h hq)
set_option maxHeartbeats 8000000 in
set_option maxRecDepth 100000 in
theorem rows_walk (w : World) : Calls Try.prog 14 #[] w fun e w' => e = .returned (.slice (some ⟨w.heap.size, 0, none⟩) 65 65) ∧ w' = w.alloc (.cells (rowsL.flatMap rowCells).toArray 42) := by
  go_enter Try.func14, Try.ntmps14
  go_upto_region 1 with (fail)
  refine runB_region ⟨#[Value.slice (some ⟨w.heap.size, 0, none⟩) 65 65] ++ (rowsL.map fun r => Value.agg (rowCells r).toArray).toArray ++ #[Value.slice (some ⟨w.heap.size, 0, none⟩) 65 65], []⟩ (w.alloc (.cells (rowsL.flatMap rowCells).toArray 42)) (by kernel_rfl) ?_
  obtain ⟨tl, htl⟩ : ∃ tl : Array Value, #[Value.slice (some ⟨w.heap.size, 0, none⟩) 65 65] ++ (rowsL.map fun r => Value.agg (rowCells r).toArray).toArray ++ #[Value.slice (some ⟨w.heap.size, 0, none⟩) 65 65] = tl := ⟨_, rfl⟩
  have h0 : tl.getD 0 undef = .slice (some ⟨w.heap.size, 0, none⟩) 65 65 := by rw [← htl]; kernel_rfl
  rw [htl]
  clear htl
  go_wp2_with fail
  go_ret
  exact ⟨congrArg Ending.returned h0, rfl⟩
theorem reps_rows (w : World) (base : Nat) (ok : Nat → Prop) : ∀ l : List S42, Reps (k42.M w base ok) 8 l (l.flatMap rowCells)
  | [] => Reps.none _ _
  | r :: rs => Reps.c8 (k42_mkM w base ok r) (reps_rows w base ok rs)
theorem flat_len : ∀ l : List S42, (l.flatMap rowCells).length = l.length * 8
  | [] => rfl
  | r :: rs => by rw [List.flatMap_cons, List.length_append, flat_len rs, List.length_cons, Nat.succ_mul]; show 8 + _ = _; omega
theorem rows_len : rowsL.length = 65 := by kernel_rfl
theorem inst_rows.calls (r : List S42) (w : World) (h : inst_rows.f = some r) :
    Calls Try.prog 14 #[] w fun e w' => ∃ v0_ : Value, e = .returned (v0_) ∧ Kd.R k42 42 w' w.heap.size (fun _ => True) v0_ r ∧ Below w.heap.size w w' := by
  obtain rfl : rowsL = r := by unfold rowsL; rw [h]; rfl
  refine (rows_walk w).mono ?_
  rintro e w' ⟨rfl, rfl⟩
  have hh : (w.alloc (.cells (rowsL.flatMap rowCells).toArray 42)).heap[w.heap.size]? = some (.cells (rowsL.flatMap rowCells).toArray 42 (0, 0)) := by
    show (w.heap.push _)[w.heap.size]? = _
    simp
  refine ⟨_, rfl, ⟨fun _ _ => trivial, rowsL.flatMap rowCells, ⟨by rw [flat_len]; rfl, .inr ⟨w.heap.size, 65, _, by rw [rows_len], Nat.le_refl _, hh, by rw [rows_len]; exact Nat.le_refl _, by decide, by simp [flat_len, rows_len]; rfl, ?_⟩⟩, reps_rows _ _ _ rowsL⟩, below_alloc (Below.refl _ _) _⟩
  rw [List.toList_toArray, List.take_of_length_le (by rw [flat_len]; exact Nat.le_refl _)]

/-! ### inst_keyOf: function 15 -/
def inst_keyOf.j0 : Nat → Bool → Int → Int → ByteArray → Int → Int → Int → Bool → Bool → Int → Int → Int → Option (Int × Int × Int)
  | 0, _, _, _, _, _, _, _, _, _, _, _, _ => none
  | k + 1, x9, x102000, x102001, x102002, x102003, x102004, x102005, x102006, x102007, x104000, x104001, x104002 => if x9 = true then (some (x104000, x104001, x104002)) else (if x102001 = 0 then (some (x104000, x102004, x102005)) else (if x102006 = true then (some (x104000, x102004, x102005)) else (some (x104000, x102004, x104002))))
def inst_keyOf.f (k : Nat) (a0_0 : Int) (a0_1 : Int) (a0_2 : ByteArray) (a0_3 : Int) (a0_4 : Int) (a0_5 : Int) (a0_6 : Bool) (a0_7 : Bool) : Option (Int × Int × Int) := if a0_1 = 4 then (inst_keyOf.j0 k (a0_1 == 4) a0_0 a0_1 a0_2 a0_3 a0_4 a0_5 a0_6 a0_7 a0_3 0 0) else (if a0_1 = 5 then (inst_keyOf.j0 k (a0_1 == 5) a0_0 a0_1 a0_2 a0_3 a0_4 a0_5 a0_6 a0_7 a0_3 0 0) else (inst_keyOf.j0 k (a0_1 == 6) a0_0 a0_1 a0_2 a0_3 a0_4 a0_5 a0_6 a0_7 a0_3 0 0))
theorem inst_keyOf.mono_l : ∀ k, (∀ y0 y1 y2 y3 y4 y5 y6 y7 y8 y9 y10 y11, LeO (inst_keyOf.j0 k y0 y1 y2 y3 y4 y5 y6 y7 y8 y9 y10 y11) (inst_keyOf.j0 (k + 1) y0 y1 y2 y3 y4 y5 y6 y7 y8 y9 y10 y11))
  | 0 => fun _ _ _ _ _ _ _ _ _ _ _ _ r h => by simp [inst_keyOf.j0] at h
  | k + 1 => by
    have ih0 := inst_keyOf.mono_l k
    · intro y0 y1 y2 y3 y4 y5 y6 y7 y8 y9 y10 y11
      unfold inst_keyOf.j0
      repeat' first
      | (with_reducible exact ih0 _ _ _ _ _ _ _ _ _ _ _ _)
      | (with_reducible exact LeO.refl _)
      | (with_reducible exact LeO.none _)
      | (with_reducible refine LeO.ite ?_ ?_)
      | (with_reducible refine LeO.bind ?_ (fun _ => ?_))
      | exact ih0 _ _ _ _ _ _ _ _ _ _ _ _
      | exact LeO.none _
      | refine LeO.ite ?_ ?_
      | refine LeO.bind ?_ (fun _ => ?_)
theorem inst_keyOf.mono : ∀ a0 a1 a2 a3 a4 a5 a6 a7 k, LeO (inst_keyOf.f k a0 a1 a2 a3 a4 a5 a6 a7) (inst_keyOf.f (k + 1) a0 a1 a2 a3 a4 a5 a6 a7) := by
  intro a0 a1 a2 a3 a4 a5 a6 a7 k
  have ih0 := inst_keyOf.mono_l k
  unfold inst_keyOf.f
  repeat' first
      | (with_reducible exact ih0 _ _ _ _ _ _ _ _ _ _ _ _)
      | (with_reducible exact LeO.refl _)
      | (with_reducible exact LeO.none _)
      | (with_reducible refine LeO.ite ?_ ?_)
      | (with_reducible refine LeO.bind ?_ (fun _ => ?_))
      | exact ih0 _ _ _ _ _ _ _ _ _ _ _ _
      | exact LeO.none _
      | refine LeO.ite ?_ ?_
      | refine LeO.bind ?_ (fun _ => ?_)
set_option maxHeartbeats 8000000 in
set_option maxRecDepth 100000 in
theorem inst_keyOf.calls (k : Nat) (a0_0 : Int) (a0_1 : Int) (a0_2 : ByteArray) (a0_3 : Int) (a0_4 : Int) (a0_5 : Int) (a0_6 : Bool) (a0_7 : Bool) (r1 : Int) (r2 : Int) (r3 : Int) (w : World) (h : inst_keyOf.f k a0_0 a0_1 a0_2 a0_3 a0_4 a0_5 a0_6 a0_7 = some (r1, r2, r3)) :
    Calls Try.prog 15 #[.agg #[.int .i64 a0_0, .int .i64 a0_1, .string a0_2, .int .u32 a0_3, .int .u32 a0_4, .int .u32 a0_5, .bool a0_6, .bool a0_7]] w fun e w' => e = .returned (.agg #[.int .u32 r1, .int .u32 r2, .int .u32 r3]) ∧ Below w.heap.size w w' := by
  have hu42 := Try.underlying42
  have hu44 := Try.underlying44
  have HB := Aside0.mk (Below.refl w.heap.size w)
  have H : (if a0_1 = 4 then (inst_keyOf.j0 k (a0_1 == 4) a0_0 a0_1 a0_2 a0_3 a0_4 a0_5 a0_6 a0_7 a0_3 0 0) else (if a0_1 = 5 then (inst_keyOf.j0 k (a0_1 == 5) a0_0 a0_1 a0_2 a0_3 a0_4 a0_5 a0_6 a0_7 a0_3 0 0) else (inst_keyOf.j0 k (a0_1 == 6) a0_0 a0_1 a0_2 a0_3 a0_4 a0_5 a0_6 a0_7 a0_3 0 0))) = some (r1, r2, r3) := h
  clear h
  have HC2 := Aside0.mk H
  clear H
  go_enter Try.func15, Try.ntmps15
  go_upto_if 9 with (first | ((with_reducible refine gate_dst (N := 1) rfl ?_); refine box_event ?hg (N := 1) ?hd (cs := #[.int .i64 a0_0, .int .i64 a0_1, .string a0_2, .int .u32 a0_3, .int .u32 a0_4, .int .u32 a0_5, .bool a0_6, .bool a0_7]) (t := 42) ?hr ?_; (case hd => rfl); (case hg => rfl); (case hr => first | (go_simp; done) | (go_simp; rfl)); intro gb101 hg w3 hbox hb; have n0_ := Aside0.mk (below_step (by repeat (first | (with_reducible first | exact HB.out | apply below_alloc | apply pw_below_drewN | apply below_drew1) | exact HB.out)) hb); have n1_ := Aside0.mk (hbox); have n2_ := Aside0.mk ((by rw [hg]; exact (below_size (by repeat (first | (with_reducible first | exact HB.out | apply below_alloc | apply pw_below_drewN | apply below_drew1) | exact HB.out))) : w.heap.size ≤ gb101)); have n3_ := Aside0.mk ((by rw [hg]; exact (below_size (by repeat (first | (with_reducible first | exact HB.out | apply below_alloc | apply pw_below_drewN | apply below_drew1) | exact HB.out))) : w.heap.size ≤ gb101)); clear HB; have HB := n0_; have BK101 := n1_; have GW101 := n2_; have GE101 := n3_; clear n0_ n1_ n2_ n3_; clear hb hbox hg) | ((with_reducible refine gate_dst (N := 2) rfl ?_); refine box_event ?hg (N := 2) ?hd (cs := #[.int .u32 0, .int .u32 0, .int .u32 0]) (t := 44) ?hr ?_; (case hd => rfl); (case hg => rfl); (case hr => first | (go_simp; done) | (go_simp; rfl)); intro gb102 hg w4 hbox hb; have n0_ := Aside0.mk (blk_below (g := gb101) (o := .cells #[.int .i64 a0_0, .int .i64 a0_1, .string a0_2, .int .u32 a0_3, .int .u32 a0_4, .int .u32 a0_5, .bool a0_6, .bool a0_7] 42 (0, 0)) (by (with_reducible repeat (first | refine blk_drewN ?_ _ | refine blk_drew ?_ | refine blk_alloc ?_ _)); exact BK101.out) hb); have n1_ := Aside0.mk (below_step (by repeat (first | (with_reducible first | exact HB.out | apply below_alloc | apply pw_below_drewN | apply below_drew1 | refine below_set ?_ GE101.out) | exact HB.out)) hb); have n2_ := Aside0.mk (hbox); have n3_ := Aside0.mk ((by rw [hg]; exact (below_size (by repeat (first | (with_reducible first | exact HB.out | apply below_alloc | apply pw_below_drewN | apply below_drew1 | refine below_set ?_ GE101.out) | exact HB.out))) : w.heap.size ≤ gb102)); have n4_ := Aside0.mk ((by rw [hg]; exact (below_size (by repeat (first | (with_reducible first | exact HB.out | apply below_alloc | apply pw_below_drewN | apply below_drew1 | refine below_set ?_ GE101.out) | exact HB.out))) : w.heap.size ≤ gb102)); have n5_ := Aside0.mk ((by rw [hg]; exact Nat.ne_of_lt (blk_lt (g := gb101) (o := .cells #[.int .i64 a0_0, .int .i64 a0_1, .string a0_2, .int .u32 a0_3, .int .u32 a0_4, .int .u32 a0_5, .bool a0_6, .bool a0_7] 42 (0, 0)) (by (with_reducible repeat (first | refine blk_drewN ?_ _ | refine blk_drew ?_ | refine blk_alloc ?_ _)); exact BK101.out)) : gb101 ≠ gb102)); have n6_ := Aside0.mk ((by rw [hg]; exact Nat.ne_of_gt (blk_lt (g := gb101) (o := .cells #[.int .i64 a0_0, .int .i64 a0_1, .string a0_2, .int .u32 a0_3, .int .u32 a0_4, .int .u32 a0_5, .bool a0_6, .bool a0_7] 42 (0, 0)) (by (with_reducible repeat (first | refine blk_drewN ?_ _ | refine blk_drew ?_ | refine blk_alloc ?_ _)); exact BK101.out)) : gb102 ≠ gb101)); clear BK101; clear HB; have BK101 := n0_; have HB := n1_; have BK102 := n2_; have GW102 := n3_; have GE102 := n4_; have NB101_102 := n5_; have NB102_101 := n6_; clear n0_ n1_ n2_ n3_ n4_ n5_ n6_; clear hb hbox hg; have hnb5 := NB101_102.out; have hnc5 := NB102_101.out; have hcz6_0 : w4.cell? ⟨gb101, 0, none⟩ = some (.int .i64 a0_0) := (blk_cell BK101.out 0).trans rfl; have hcz6_1 : w4.cell? ⟨gb101, 1, none⟩ = some (.int .i64 a0_1) := (blk_cell BK101.out 1).trans rfl; have hcz6_2 : w4.cell? ⟨gb101, 2, none⟩ = some (.string a0_2) := (blk_cell BK101.out 2).trans rfl; have hcz6_3 : w4.cell? ⟨gb101, 3, none⟩ = some (.int .u32 a0_3) := (blk_cell BK101.out 3).trans rfl; have hcz6_4 : w4.cell? ⟨gb101, 4, none⟩ = some (.int .u32 a0_4) := (blk_cell BK101.out 4).trans rfl; have hcz6_5 : w4.cell? ⟨gb101, 5, none⟩ = some (.int .u32 a0_5) := (blk_cell BK101.out 5).trans rfl; have hcz6_6 : w4.cell? ⟨gb101, 6, none⟩ = some (.bool a0_6) := (blk_cell BK101.out 6).trans rfl; have hcz6_7 : w4.cell? ⟨gb101, 7, none⟩ = some (.bool a0_7) := (blk_cell BK101.out 7).trans rfl; have hfz6_0 := blk_frozen BK101.out 0; have hfz6_1 := blk_frozen BK101.out 1; have hfz6_2 := blk_frozen BK101.out 2; have hfz6_3 := blk_frozen BK101.out 3; have hfz6_4 := blk_frozen BK101.out 4; have hfz6_5 := blk_frozen BK101.out 5; have hfz6_6 := blk_frozen BK101.out 6; have hfz6_7 := blk_frozen BK101.out 7) | ((with_reducible refine gate_dst (N := 3) rfl ?_); refine box_event ?hg (N := 3) ?hd (cs := #[.int .u32 0, .int .u32 0, .int .u32 0]) (t := 44) ?hr ?_; (case hd => rfl); (case hg => rfl); (case hr => first | (go_simp; done) | (go_simp; rfl)); intro gb103 hg w7 hbox hb; have n0_ := Aside0.mk (blk_below (g := gb101) (o := .cells #[.int .i64 a0_0, .int .i64 a0_1, .string a0_2, .int .u32 a0_3, .int .u32 a0_4, .int .u32 a0_5, .bool a0_6, .bool a0_7] 42 (0, 0)) (by (with_reducible repeat (first | refine blk_drewN ?_ _ | refine blk_drew ?_ | refine blk_alloc ?_ _)); exact BK101.out) hb); have n1_ := Aside0.mk (blk_below (g := gb102) (o := .cells #[.int .u32 0, .int .u32 0, .int .u32 0] 44 (0, 0)) (by (with_reducible repeat (first | refine blk_drewN ?_ _ | refine blk_drew ?_ | refine blk_alloc ?_ _)); exact BK102.out) hb); have n2_ := Aside0.mk (below_step (by repeat (first | (with_reducible first | exact HB.out | apply below_alloc | apply pw_below_drewN | apply below_drew1 | refine below_set ?_ GE101.out | refine below_set ?_ GE102.out) | exact HB.out)) hb); have n3_ := Aside0.mk (hbox); have n4_ := Aside0.mk ((by rw [hg]; exact (below_size (by repeat (first | (with_reducible first | exact HB.out | apply below_alloc | apply pw_below_drewN | apply below_drew1 | refine below_set ?_ GE101.out | refine below_set ?_ GE102.out) | exact HB.out))) : w.heap.size ≤ gb103)); have n5_ := Aside0.mk ((by rw [hg]; exact (below_size (by repeat (first | (with_reducible first | exact HB.out | apply below_alloc | apply pw_below_drewN | apply below_drew1 | refine below_set ?_ GE101.out | refine below_set ?_ GE102.out) | exact HB.out))) : w.heap.size ≤ gb103)); have n6_ := Aside0.mk ((by rw [hg]; exact Nat.ne_of_lt (blk_lt (g := gb101) (o := .cells #[.int .i64 a0_0, .int .i64 a0_1, .string a0_2, .int .u32 a0_3, .int .u32 a0_4, .int .u32 a0_5, .bool a0_6, .bool a0_7] 42 (0, 0)) (by (with_reducible repeat (first | refine blk_drewN ?_ _ | refine blk_drew ?_ | refine blk_alloc ?_ _)); exact BK101.out)) : gb101 ≠ gb103)); have n7_ := Aside0.mk ((by rw [hg]; exact Nat.ne_of_gt (blk_lt (g := gb101) (o := .cells #[.int .i64 a0_0, .int .i64 a0_1, .string a0_2, .int .u32 a0_3, .int .u32 a0_4, .int .u32 a0_5, .bool a0_6, .bool a0_7] 42 (0, 0)) (by (with_reducible repeat (first | refine blk_drewN ?_ _ | refine blk_drew ?_ | refine blk_alloc ?_ _)); exact BK101.out)) : gb103 ≠ gb101)); have n8_ := Aside0.mk ((by rw [hg]; exact Nat.ne_of_lt (blk_lt (g := gb102) (o := .cells #[.int .u32 0, .int .u32 0, .int .u32 0] 44 (0, 0)) (by (with_reducible repeat (first | refine blk_drewN ?_ _ | refine blk_drew ?_ | refine blk_alloc ?_ _)); exact BK102.out)) : gb102 ≠ gb103)); have n9_ := Aside0.mk ((by rw [hg]; exact Nat.ne_of_gt (blk_lt (g := gb102) (o := .cells #[.int .u32 0, .int .u32 0, .int .u32 0] 44 (0, 0)) (by (with_reducible repeat (first | refine blk_drewN ?_ _ | refine blk_drew ?_ | refine blk_alloc ?_ _)); exact BK102.out)) : gb103 ≠ gb102)); clear BK101; clear BK102; clear HB; have BK101 := n0_; have BK102 := n1_; have HB := n2_; have BK103 := n3_; have GW103 := n4_; have GE103 := n5_; have NB101_103 := n6_; have NB103_101 := n7_; have NB102_103 := n8_; have NB103_102 := n9_; clear n0_ n1_ n2_ n3_ n4_ n5_ n6_ n7_ n8_ n9_; clear hb hbox hg; have hnb8 := NB103_101.out; have hnc8 := NB101_103.out; have hnb9 := NB103_102.out; have hnc9 := NB102_103.out; have hcz10_0 : w7.cell? ⟨gb103, 0, none⟩ = some (.int .u32 0) := (blk_cell BK103.out 0).trans rfl; have hcz10_1 : w7.cell? ⟨gb103, 1, none⟩ = some (.int .u32 0) := (blk_cell BK103.out 1).trans rfl; have hcz10_2 : w7.cell? ⟨gb103, 2, none⟩ = some (.int .u32 0) := (blk_cell BK103.out 2).trans rfl; have hfz10_0 := blk_frozen BK103.out 0; have hfz10_1 := blk_frozen BK103.out 1; have hfz10_2 := blk_frozen BK103.out 2; have hcz11_0 : w7.cell? ⟨gb101, 0, none⟩ = some (.int .i64 a0_0) := (blk_cell BK101.out 0).trans rfl; have hcz11_1 : w7.cell? ⟨gb101, 1, none⟩ = some (.int .i64 a0_1) := (blk_cell BK101.out 1).trans rfl; have hcz11_2 : w7.cell? ⟨gb101, 2, none⟩ = some (.string a0_2) := (blk_cell BK101.out 2).trans rfl; have hcz11_3 : w7.cell? ⟨gb101, 3, none⟩ = some (.int .u32 a0_3) := (blk_cell BK101.out 3).trans rfl; have hcz11_4 : w7.cell? ⟨gb101, 4, none⟩ = some (.int .u32 a0_4) := (blk_cell BK101.out 4).trans rfl; have hcz11_5 : w7.cell? ⟨gb101, 5, none⟩ = some (.int .u32 a0_5) := (blk_cell BK101.out 5).trans rfl; have hcz11_6 : w7.cell? ⟨gb101, 6, none⟩ = some (.bool a0_6) := (blk_cell BK101.out 6).trans rfl; have hcz11_7 : w7.cell? ⟨gb101, 7, none⟩ = some (.bool a0_7) := (blk_cell BK101.out 7).trans rfl; have hfz11_0 := blk_frozen BK101.out 0; have hfz11_1 := blk_frozen BK101.out 1; have hfz11_2 := blk_frozen BK101.out 2; have hfz11_3 := blk_frozen BK101.out 3; have hfz11_4 := blk_frozen BK101.out 4; have hfz11_5 := blk_frozen BK101.out 5; have hfz11_6 := blk_frozen BK101.out 6; have hfz11_7 := blk_frozen BK101.out 7))
  (try simp only [Act.put, List.setIfInBounds_toArray, List.set_cons_zero, List.set_cons_succ])
  go_cut [9] (fun v9 wc => ∃ (kq : Nat) (x9_1 : Bool), v9 = .bool x9_1 ∧ Aside0 (inst_keyOf.j0 kq x9_1 a0_0 a0_1 a0_2 a0_3 a0_4 a0_5 a0_6 a0_7 a0_3 0 0 = some (r1, r2, r3)) ∧ Aside0 (kq ≤ k) ∧ Aside0 (wc.heap[gb101]? = some (.cells #[.int .i64 a0_0, .int .i64 a0_1, .string a0_2, .int .u32 a0_3, .int .u32 a0_4, .int .u32 a0_5, .bool a0_6, .bool a0_7] 42 (0, 0))) ∧ Aside0 (wc.heap[gb102]? = some (.cells #[.int .u32 0, .int .u32 0, .int .u32 0] 44 (0, 0))) ∧ Aside0 (wc.heap[gb103]? = some (.cells #[.int .u32 a0_3, .int .u32 0, .int .u32 0] 44 (0, 0))) ∧ Aside0 (Below w.heap.size w wc))
  case first =>
    have H := HC2.out
    clear HC2
    by_cases c12 : a0_1 = 4
    · rw [if_pos c12] at H
      have c12b0 : (a0_1 == 4) = true := beq_iff_eq.mpr c12
      have c12b1 : (a0_1 != 4) = false := bne_eq_false_iff_eq.mpr c12
      clear c12
      (first | rw [c12b0] | (simp only [i64_w, i32_w]; rw [c12b0]) | skip)
      have H' := Aside0.mk H
      clear H
      go_wp2
      go_meet
      case rel => exact ⟨_, ((a0_1 == 4)), (by first | rfl | (simp; done) | (simp [*]; done)), H', ⟨by first | omega | exact Nat.le_refl _⟩, ⟨by (with_reducible repeat (first | refine blk_drewN ?_ _ | refine blk_drew ?_ | refine blk_alloc ?_ _)); refine blk_far ?_ NB101_103.out _; (with_reducible repeat (first | refine blk_drewN ?_ _ | refine blk_drew ?_ | refine blk_alloc ?_ _)); refine blk_far ?_ NB101_103.out _; (with_reducible repeat (first | refine blk_drewN ?_ _ | refine blk_drew ?_ | refine blk_alloc ?_ _)); refine blk_far ?_ NB101_103.out _; (with_reducible repeat (first | refine blk_drewN ?_ _ | refine blk_drew ?_ | refine blk_alloc ?_ _)); exact BK101.out⟩, ⟨by (with_reducible repeat (first | refine blk_drewN ?_ _ | refine blk_drew ?_ | refine blk_alloc ?_ _)); refine blk_far ?_ NB102_103.out _; (with_reducible repeat (first | refine blk_drewN ?_ _ | refine blk_drew ?_ | refine blk_alloc ?_ _)); refine blk_far ?_ NB102_103.out _; (with_reducible repeat (first | refine blk_drewN ?_ _ | refine blk_drew ?_ | refine blk_alloc ?_ _)); refine blk_far ?_ NB102_103.out _; (with_reducible repeat (first | refine blk_drewN ?_ _ | refine blk_drew ?_ | refine blk_alloc ?_ _)); exact BK102.out⟩, ⟨by (with_reducible repeat (first | refine blk_drewN ?_ _ | refine blk_drew ?_ | refine blk_alloc ?_ _)); refine blk_put (cs := #[.int .u32 a0_3, .int .u32 0, .int .u32 0]) ?_ 2 _ rfl; (with_reducible repeat (first | refine blk_drewN ?_ _ | refine blk_drew ?_ | refine blk_alloc ?_ _)); refine blk_put (cs := #[.int .u32 a0_3, .int .u32 0, .int .u32 0]) ?_ 1 _ rfl; (with_reducible repeat (first | refine blk_drewN ?_ _ | refine blk_drew ?_ | refine blk_alloc ?_ _)); refine blk_put (cs := #[.int .u32 0, .int .u32 0, .int .u32 0]) ?_ 0 _ rfl; (with_reducible repeat (first | refine blk_drewN ?_ _ | refine blk_drew ?_ | refine blk_alloc ?_ _)); exact BK103.out⟩, ⟨by repeat (first | (with_reducible first | exact HB.out | apply below_alloc | apply pw_below_drewN | apply below_drew1 | refine below_set ?_ GE101.out | refine below_set ?_ GE102.out | refine below_set ?_ GE103.out) | exact HB.out)⟩⟩
    · rw [if_neg c12] at H
      have c12b0 : (a0_1 == 4) = false := beq_eq_false_iff_ne.mpr c12
      have c12b1 : (a0_1 != 4) = true := bne_iff_ne.mpr c12
      (first | rw [c12b0] | (simp only [i64_w, i32_w]; rw [c12b0]) | skip)
      by_cases c13 : a0_1 = 5
      · rw [if_pos c13] at H
        have c13b0 : (a0_1 == 5) = true := beq_iff_eq.mpr c13
        have c13b1 : (a0_1 != 5) = false := bne_eq_false_iff_eq.mpr c13
        clear c13
        have H' := Aside0.mk H
        clear H
        go_wp2
        go_meet
        case rel => exact ⟨_, ((a0_1 == 5)), (by first | rfl | (simp; done) | (simp [*]; done)), H', ⟨by first | omega | exact Nat.le_refl _⟩, ⟨by (with_reducible repeat (first | refine blk_drewN ?_ _ | refine blk_drew ?_ | refine blk_alloc ?_ _)); refine blk_far ?_ NB101_103.out _; (with_reducible repeat (first | refine blk_drewN ?_ _ | refine blk_drew ?_ | refine blk_alloc ?_ _)); refine blk_far ?_ NB101_103.out _; (with_reducible repeat (first | refine blk_drewN ?_ _ | refine blk_drew ?_ | refine blk_alloc ?_ _)); refine blk_far ?_ NB101_103.out _; (with_reducible repeat (first | refine blk_drewN ?_ _ | refine blk_drew ?_ | refine blk_alloc ?_ _)); exact BK101.out⟩, ⟨by (with_reducible repeat (first | refine blk_drewN ?_ _ | refine blk_drew ?_ | refine blk_alloc ?_ _)); refine blk_far ?_ NB102_103.out _; (with_reducible repeat (first | refine blk_drewN ?_ _ | refine blk_drew ?_ | refine blk_alloc ?_ _)); refine blk_far ?_ NB102_103.out _; (with_reducible repeat (first | refine blk_drewN ?_ _ | refine blk_drew ?_ | refine blk_alloc ?_ _)); refine blk_far ?_ NB102_103.out _; (with_reducible repeat (first | refine blk_drewN ?_ _ | refine blk_drew ?_ | refine blk_alloc ?_ _)); exact BK102.out⟩, ⟨by (with_reducible repeat (first | refine blk_drewN ?_ _ | refine blk_drew ?_ | refine blk_alloc ?_ _)); refine blk_put (cs := #[.int .u32 a0_3, .int .u32 0, .int .u32 0]) ?_ 2 _ rfl; (with_reducible repeat (first | refine blk_drewN ?_ _ | refine blk_drew ?_ | refine blk_alloc ?_ _)); refine blk_put (cs := #[.int .u32 a0_3, .int .u32 0, .int .u32 0]) ?_ 1 _ rfl; (with_reducible repeat (first | refine blk_drewN ?_ _ | refine blk_drew ?_ | refine blk_alloc ?_ _)); refine blk_put (cs := #[.int .u32 0, .int .u32 0, .int .u32 0]) ?_ 0 _ rfl; (with_reducible repeat (first | refine blk_drewN ?_ _ | refine blk_drew ?_ | refine blk_alloc ?_ _)); exact BK103.out⟩, ⟨by repeat (first | (with_reducible first | exact HB.out | apply below_alloc | apply pw_below_drewN | apply below_drew1 | refine below_set ?_ GE101.out | refine below_set ?_ GE102.out | refine below_set ?_ GE103.out) | exact HB.out)⟩⟩
      · rw [if_neg c13] at H
        have c13b0 : (a0_1 == 5) = false := beq_eq_false_iff_ne.mpr c13
        have c13b1 : (a0_1 != 5) = true := bne_iff_ne.mpr c13
        have H' := Aside0.mk H
        clear H
        go_wp2
        go_meet
        case rel => exact ⟨_, ((a0_1 == 6)), (by first | rfl | (simp; done) | (simp [*]; done)), H', ⟨by first | omega | exact Nat.le_refl _⟩, ⟨by (with_reducible repeat (first | refine blk_drewN ?_ _ | refine blk_drew ?_ | refine blk_alloc ?_ _)); refine blk_far ?_ NB101_103.out _; (with_reducible repeat (first | refine blk_drewN ?_ _ | refine blk_drew ?_ | refine blk_alloc ?_ _)); refine blk_far ?_ NB101_103.out _; (with_reducible repeat (first | refine blk_drewN ?_ _ | refine blk_drew ?_ | refine blk_alloc ?_ _)); refine blk_far ?_ NB101_103.out _; (with_reducible repeat (first | refine blk_drewN ?_ _ | refine blk_drew ?_ | refine blk_alloc ?_ _)); exact BK101.out⟩, ⟨by (with_reducible repeat (first | refine blk_drewN ?_ _ | refine blk_drew ?_ | refine blk_alloc ?_ _)); refine blk_far ?_ NB102_103.out _; (with_reducible repeat (first | refine blk_drewN ?_ _ | refine blk_drew ?_ | refine blk_alloc ?_ _)); refine blk_far ?_ NB102_103.out _; (with_reducible repeat (first | refine blk_drewN ?_ _ | refine blk_drew ?_ | refine blk_alloc ?_ _)); refine blk_far ?_ NB102_103.out _; (with_reducible repeat (first | refine blk_drewN ?_ _ | refine blk_drew ?_ | refine blk_alloc ?_ _)); exact BK102.out⟩, ⟨by (with_reducible repeat (first | refine blk_drewN ?_ _ | refine blk_drew ?_ | refine blk_alloc ?_ _)); refine blk_put (cs := #[.int .u32 a0_3, .int .u32 0, .int .u32 0]) ?_ 2 _ rfl; (with_reducible repeat (first | refine blk_drewN ?_ _ | refine blk_drew ?_ | refine blk_alloc ?_ _)); refine blk_put (cs := #[.int .u32 a0_3, .int .u32 0, .int .u32 0]) ?_ 1 _ rfl; (with_reducible repeat (first | refine blk_drewN ?_ _ | refine blk_drew ?_ | refine blk_alloc ?_ _)); refine blk_put (cs := #[.int .u32 0, .int .u32 0, .int .u32 0]) ?_ 0 _ rfl; (with_reducible repeat (first | refine blk_drewN ?_ _ | refine blk_drew ?_ | refine blk_alloc ?_ _)); exact BK103.out⟩, ⟨by repeat (first | (with_reducible first | exact HB.out | apply below_alloc | apply pw_below_drewN | apply below_drew1 | refine below_set ?_ GE101.out | refine below_set ?_ GE102.out | refine below_set ?_ GE103.out) | exact HB.out)⟩⟩
  case rest =>
    clear HC2
    try clear c1
    try clear p2
    try clear c5
    try clear c8
    try clear c9
    try clear c12
    try clear c12b0
    try clear c12b1
    try clear c13
    try clear c13b0
    try clear c13b1
    try clear hcz10_0
    try clear hcz10_1
    try clear hcz10_2
    try clear hcz11_0
    try clear hcz11_1
    try clear hcz11_2
    try clear hcz11_3
    try clear hcz11_4
    try clear hcz11_5
    try clear hcz11_6
    try clear hcz11_7
    try clear hcz6_0
    try clear hcz6_1
    try clear hcz6_2
    try clear hcz6_3
    try clear hcz6_4
    try clear hcz6_5
    try clear hcz6_6
    try clear hcz6_7
    try clear hfz10_0
    try clear hfz10_1
    try clear hfz10_2
    try clear hfz11_0
    try clear hfz11_1
    try clear hfz11_2
    try clear hfz11_3
    try clear hfz11_4
    try clear hfz11_5
    try clear hfz11_6
    try clear hfz11_7
    try clear hfz6_0
    try clear hfz6_1
    try clear hfz6_2
    try clear hfz6_3
    try clear hfz6_4
    try clear hfz6_5
    try clear hfz6_6
    try clear hfz6_7
    obtain ⟨kq, x9_1, rfl, HA, HJ1, BK101, BK102, BK103, HB⟩ := hcut
    cases kq with
    | zero => exact absurd HA.out (by simp [inst_keyOf.j0])
    | succ kj1 =>
      have H := HA.out
      clear HA
      simp only [inst_keyOf.j0] at H
      by_cases c14 : x9_1 = true
      · subst c14
        have H1 : (some (a0_3, 0, 0)) = some (r1, r2, r3) := by rw [if_pos rfl] at H; exact H
        clear H
        have H := H1
        clear H1
        simp only [Option.some.injEq, Prod.mk.injEq] at H
        obtain ⟨rfl, rfl, rfl⟩ := H
        have hnb15 := NB103_101.out
        have hnc15 := NB101_103.out
        have hnb16 := NB103_102.out
        have hnc16 := NB102_103.out
        have hcz17_0 : wc.cell? ⟨gb103, 0, none⟩ = some (.int .u32 a0_3) := (blk_cell BK103.out 0).trans rfl
        have hcz17_1 : wc.cell? ⟨gb103, 1, none⟩ = some (.int .u32 0) := (blk_cell BK103.out 1).trans rfl
        have hcz17_2 : wc.cell? ⟨gb103, 2, none⟩ = some (.int .u32 0) := (blk_cell BK103.out 2).trans rfl
        have hfz17_0 := blk_frozen BK103.out 0
        have hfz17_1 := blk_frozen BK103.out 1
        have hfz17_2 := blk_frozen BK103.out 2
        have hnb18 := NB102_101.out
        have hnc18 := NB101_102.out
        have hcz19_0 : wc.cell? ⟨gb102, 0, none⟩ = some (.int .u32 0) := (blk_cell BK102.out 0).trans rfl
        have hcz19_1 : wc.cell? ⟨gb102, 1, none⟩ = some (.int .u32 0) := (blk_cell BK102.out 1).trans rfl
        have hcz19_2 : wc.cell? ⟨gb102, 2, none⟩ = some (.int .u32 0) := (blk_cell BK102.out 2).trans rfl
        have hfz19_0 := blk_frozen BK102.out 0
        have hfz19_1 := blk_frozen BK102.out 1
        have hfz19_2 := blk_frozen BK102.out 2
        go_wp2
        refine bodyPost_ret (results_cell_row rfl _ _ gb102 44 #[.int .u32 a0_3, .int .u32 0, .int .u32 0] (0, 0) _ rfl (by (with_reducible repeat (first | refine blk_drewN ?_ _ | refine blk_drew ?_ | refine blk_alloc ?_ _)); refine blk_put (cs := #[.int .u32 a0_3, .int .u32 0, .int .u32 0]) ?_ 2 _ rfl; (with_reducible repeat (first | refine blk_drewN ?_ _ | refine blk_drew ?_ | refine blk_alloc ?_ _)); refine blk_put (cs := #[.int .u32 a0_3, .int .u32 0, .int .u32 0]) ?_ 1 _ rfl; (with_reducible repeat (first | refine blk_drewN ?_ _ | refine blk_drew ?_ | refine blk_alloc ?_ _)); refine blk_put (cs := #[.int .u32 0, .int .u32 0, .int .u32 0]) ?_ 0 _ rfl; (with_reducible repeat (first | refine blk_drewN ?_ _ | refine blk_drew ?_ | refine blk_alloc ?_ _)); exact BK102.out) Try.underlying44 rfl (by kernel_rfl)) rfl ?_
        exact ⟨by first | rfl | (simp [errW_none, errW_some] <;> rfl) | (simp [*, errW_none, errW_some] <;> rfl), by repeat (first | (with_reducible first | exact HB.out | apply below_alloc | apply pw_below_drewN | apply below_drew1 | refine below_set ?_ GE101.out | refine below_set ?_ GE102.out | refine below_set ?_ GE103.out) | exact HB.out)⟩
      · replace c14 := Bool.eq_false_iff.mpr c14
        subst c14
        have H1 : (if a0_1 = 0 then (some (a0_3, a0_4, a0_5)) else (if a0_6 = true then (some (a0_3, a0_4, a0_5)) else (some (a0_3, a0_4, 0)))) = some (r1, r2, r3) := by rw [if_neg (show ¬ (false = true) by decide)] at H; exact H
        clear H
        have H := H1
        clear H1
        by_cases c20 : a0_1 = 0
        · rw [if_pos c20] at H
          have c20b0 : (a0_1 == 0) = true := beq_iff_eq.mpr c20
          have c20b1 : (a0_1 != 0) = false := bne_eq_false_iff_eq.mpr c20
          clear c20
          simp only [Option.some.injEq, Prod.mk.injEq] at H
          obtain ⟨rfl, rfl, rfl⟩ := H
          have hnb21 := NB101_102.out
          have hnc21 := NB102_101.out
          have hnb22 := NB101_103.out
          have hnc22 := NB103_101.out
          have hcz23_0 : wc.cell? ⟨gb101, 0, none⟩ = some (.int .i64 a0_0) := (blk_cell BK101.out 0).trans rfl
          have hcz23_1 : wc.cell? ⟨gb101, 1, none⟩ = some (.int .i64 a0_1) := (blk_cell BK101.out 1).trans rfl
          have hcz23_2 : wc.cell? ⟨gb101, 2, none⟩ = some (.string a0_2) := (blk_cell BK101.out 2).trans rfl
          have hcz23_3 : wc.cell? ⟨gb101, 3, none⟩ = some (.int .u32 a0_3) := (blk_cell BK101.out 3).trans rfl
          have hcz23_4 : wc.cell? ⟨gb101, 4, none⟩ = some (.int .u32 a0_4) := (blk_cell BK101.out 4).trans rfl
          have hcz23_5 : wc.cell? ⟨gb101, 5, none⟩ = some (.int .u32 a0_5) := (blk_cell BK101.out 5).trans rfl
          have hcz23_6 : wc.cell? ⟨gb101, 6, none⟩ = some (.bool a0_6) := (blk_cell BK101.out 6).trans rfl
          have hcz23_7 : wc.cell? ⟨gb101, 7, none⟩ = some (.bool a0_7) := (blk_cell BK101.out 7).trans rfl
          have hfz23_0 := blk_frozen BK101.out 0
          have hfz23_1 := blk_frozen BK101.out 1
          have hfz23_2 := blk_frozen BK101.out 2
          have hfz23_3 := blk_frozen BK101.out 3
          have hfz23_4 := blk_frozen BK101.out 4
          have hfz23_5 := blk_frozen BK101.out 5
          have hfz23_6 := blk_frozen BK101.out 6
          have hfz23_7 := blk_frozen BK101.out 7
          have hnb24 := NB103_102.out
          have hnc24 := NB102_103.out
          have hcz25_0 : wc.cell? ⟨gb103, 0, none⟩ = some (.int .u32 a0_3) := (blk_cell BK103.out 0).trans rfl
          have hcz25_1 : wc.cell? ⟨gb103, 1, none⟩ = some (.int .u32 0) := (blk_cell BK103.out 1).trans rfl
          have hcz25_2 : wc.cell? ⟨gb103, 2, none⟩ = some (.int .u32 0) := (blk_cell BK103.out 2).trans rfl
          have hfz25_0 := blk_frozen BK103.out 0
          have hfz25_1 := blk_frozen BK103.out 1
          have hfz25_2 := blk_frozen BK103.out 2
          have hcz26_0 : wc.cell? ⟨gb102, 0, none⟩ = some (.int .u32 0) := (blk_cell BK102.out 0).trans rfl
          have hcz26_1 : wc.cell? ⟨gb102, 1, none⟩ = some (.int .u32 0) := (blk_cell BK102.out 1).trans rfl
          have hcz26_2 : wc.cell? ⟨gb102, 2, none⟩ = some (.int .u32 0) := (blk_cell BK102.out 2).trans rfl
          have hfz26_0 := blk_frozen BK102.out 0
          have hfz26_1 := blk_frozen BK102.out 1
          have hfz26_2 := blk_frozen BK102.out 2
          go_wp2
          refine bodyPost_ret (results_cell_row rfl _ _ gb102 44 #[.int .u32 a0_3, .int .u32 a0_4, .int .u32 a0_5] (0, 0) _ rfl (by (with_reducible repeat (first | refine blk_drewN ?_ _ | refine blk_drew ?_ | refine blk_alloc ?_ _)); refine blk_put (cs := #[.int .u32 a0_3, .int .u32 a0_4, .int .u32 0]) ?_ 2 _ rfl; (with_reducible repeat (first | refine blk_drewN ?_ _ | refine blk_drew ?_ | refine blk_alloc ?_ _)); refine blk_put (cs := #[.int .u32 a0_3, .int .u32 0, .int .u32 0]) ?_ 1 _ rfl; (with_reducible repeat (first | refine blk_drewN ?_ _ | refine blk_drew ?_ | refine blk_alloc ?_ _)); refine blk_put (cs := #[.int .u32 0, .int .u32 0, .int .u32 0]) ?_ 0 _ rfl; (with_reducible repeat (first | refine blk_drewN ?_ _ | refine blk_drew ?_ | refine blk_alloc ?_ _)); refine blk_far ?_ NB102_103.out _; (with_reducible repeat (first | refine blk_drewN ?_ _ | refine blk_drew ?_ | refine blk_alloc ?_ _)); refine blk_far ?_ NB102_103.out _; (with_reducible repeat (first | refine blk_drewN ?_ _ | refine blk_drew ?_ | refine blk_alloc ?_ _)); exact BK102.out) Try.underlying44 rfl (by kernel_rfl)) rfl ?_
          exact ⟨by first | rfl | (simp [errW_none, errW_some] <;> rfl) | (simp [*, errW_none, errW_some] <;> rfl), by repeat (first | (with_reducible first | exact HB.out | apply below_alloc | apply pw_below_drewN | apply below_drew1 | refine below_set ?_ GE101.out | refine below_set ?_ GE102.out | refine below_set ?_ GE103.out) | exact HB.out)⟩
        · rw [if_neg c20] at H
          have c20b0 : (a0_1 == 0) = false := beq_eq_false_iff_ne.mpr c20
          have c20b1 : (a0_1 != 0) = true := bne_iff_ne.mpr c20
          by_cases c27 : a0_6 = true
          · subst c27
            have H1 : (some (a0_3, a0_4, a0_5)) = some (r1, r2, r3) := by rw [if_pos rfl] at H; exact H
            clear H
            have H := H1
            clear H1
            simp only [Option.some.injEq, Prod.mk.injEq] at H
            obtain ⟨rfl, rfl, rfl⟩ := H
            have hnb28 := NB101_102.out
            have hnc28 := NB102_101.out
            have hnb29 := NB101_103.out
            have hnc29 := NB103_101.out
            have hcz30_0 : wc.cell? ⟨gb101, 0, none⟩ = some (.int .i64 a0_0) := (blk_cell BK101.out 0).trans rfl
            have hcz30_1 : wc.cell? ⟨gb101, 1, none⟩ = some (.int .i64 a0_1) := (blk_cell BK101.out 1).trans rfl
            have hcz30_2 : wc.cell? ⟨gb101, 2, none⟩ = some (.string a0_2) := (blk_cell BK101.out 2).trans rfl
            have hcz30_3 : wc.cell? ⟨gb101, 3, none⟩ = some (.int .u32 a0_3) := (blk_cell BK101.out 3).trans rfl
            have hcz30_4 : wc.cell? ⟨gb101, 4, none⟩ = some (.int .u32 a0_4) := (blk_cell BK101.out 4).trans rfl
            have hcz30_5 : wc.cell? ⟨gb101, 5, none⟩ = some (.int .u32 a0_5) := (blk_cell BK101.out 5).trans rfl
            have hcz30_6 : wc.cell? ⟨gb101, 6, none⟩ = some (.bool true) := (blk_cell BK101.out 6).trans rfl
            have hcz30_7 : wc.cell? ⟨gb101, 7, none⟩ = some (.bool a0_7) := (blk_cell BK101.out 7).trans rfl
            have hfz30_0 := blk_frozen BK101.out 0
            have hfz30_1 := blk_frozen BK101.out 1
            have hfz30_2 := blk_frozen BK101.out 2
            have hfz30_3 := blk_frozen BK101.out 3
            have hfz30_4 := blk_frozen BK101.out 4
            have hfz30_5 := blk_frozen BK101.out 5
            have hfz30_6 := blk_frozen BK101.out 6
            have hfz30_7 := blk_frozen BK101.out 7
            have hnb31 := NB103_102.out
            have hnc31 := NB102_103.out
            have hcz32_0 : wc.cell? ⟨gb103, 0, none⟩ = some (.int .u32 a0_3) := (blk_cell BK103.out 0).trans rfl
            have hcz32_1 : wc.cell? ⟨gb103, 1, none⟩ = some (.int .u32 0) := (blk_cell BK103.out 1).trans rfl
            have hcz32_2 : wc.cell? ⟨gb103, 2, none⟩ = some (.int .u32 0) := (blk_cell BK103.out 2).trans rfl
            have hfz32_0 := blk_frozen BK103.out 0
            have hfz32_1 := blk_frozen BK103.out 1
            have hfz32_2 := blk_frozen BK103.out 2
            have hcz33_0 : wc.cell? ⟨gb102, 0, none⟩ = some (.int .u32 0) := (blk_cell BK102.out 0).trans rfl
            have hcz33_1 : wc.cell? ⟨gb102, 1, none⟩ = some (.int .u32 0) := (blk_cell BK102.out 1).trans rfl
            have hcz33_2 : wc.cell? ⟨gb102, 2, none⟩ = some (.int .u32 0) := (blk_cell BK102.out 2).trans rfl
            have hfz33_0 := blk_frozen BK102.out 0
            have hfz33_1 := blk_frozen BK102.out 1
            have hfz33_2 := blk_frozen BK102.out 2
            go_wp2
            refine bodyPost_ret (results_cell_row rfl _ _ gb102 44 #[.int .u32 a0_3, .int .u32 a0_4, .int .u32 a0_5] (0, 0) _ rfl (by (with_reducible repeat (first | refine blk_drewN ?_ _ | refine blk_drew ?_ | refine blk_alloc ?_ _)); refine blk_put (cs := #[.int .u32 a0_3, .int .u32 a0_4, .int .u32 0]) ?_ 2 _ rfl; (with_reducible repeat (first | refine blk_drewN ?_ _ | refine blk_drew ?_ | refine blk_alloc ?_ _)); refine blk_put (cs := #[.int .u32 a0_3, .int .u32 0, .int .u32 0]) ?_ 1 _ rfl; (with_reducible repeat (first | refine blk_drewN ?_ _ | refine blk_drew ?_ | refine blk_alloc ?_ _)); refine blk_put (cs := #[.int .u32 0, .int .u32 0, .int .u32 0]) ?_ 0 _ rfl; (with_reducible repeat (first | refine blk_drewN ?_ _ | refine blk_drew ?_ | refine blk_alloc ?_ _)); refine blk_far ?_ NB102_103.out _; (with_reducible repeat (first | refine blk_drewN ?_ _ | refine blk_drew ?_ | refine blk_alloc ?_ _)); refine blk_far ?_ NB102_103.out _; (with_reducible repeat (first | refine blk_drewN ?_ _ | refine blk_drew ?_ | refine blk_alloc ?_ _)); exact BK102.out) Try.underlying44 rfl (by kernel_rfl)) rfl ?_
            exact ⟨by first | rfl | (simp [errW_none, errW_some] <;> rfl) | (simp [*, errW_none, errW_some] <;> rfl), by repeat (first | (with_reducible first | exact HB.out | apply below_alloc | apply pw_below_drewN | apply below_drew1 | refine below_set ?_ GE101.out | refine below_set ?_ GE102.out | refine below_set ?_ GE103.out) | exact HB.out)⟩
          · replace c27 := Bool.eq_false_iff.mpr c27
            subst c27
            have H1 : (some (a0_3, a0_4, 0)) = some (r1, r2, r3) := by rw [if_neg (show ¬ (false = true) by decide)] at H; exact H
            clear H
            have H := H1
            clear H1
            simp only [Option.some.injEq, Prod.mk.injEq] at H
            obtain ⟨rfl, rfl, rfl⟩ := H
            have hnb34 := NB101_102.out
            have hnc34 := NB102_101.out
            have hnb35 := NB101_103.out
            have hnc35 := NB103_101.out
            have hcz36_0 : wc.cell? ⟨gb101, 0, none⟩ = some (.int .i64 a0_0) := (blk_cell BK101.out 0).trans rfl
            have hcz36_1 : wc.cell? ⟨gb101, 1, none⟩ = some (.int .i64 a0_1) := (blk_cell BK101.out 1).trans rfl
            have hcz36_2 : wc.cell? ⟨gb101, 2, none⟩ = some (.string a0_2) := (blk_cell BK101.out 2).trans rfl
            have hcz36_3 : wc.cell? ⟨gb101, 3, none⟩ = some (.int .u32 a0_3) := (blk_cell BK101.out 3).trans rfl
            have hcz36_4 : wc.cell? ⟨gb101, 4, none⟩ = some (.int .u32 a0_4) := (blk_cell BK101.out 4).trans rfl
            have hcz36_5 : wc.cell? ⟨gb101, 5, none⟩ = some (.int .u32 a0_5) := (blk_cell BK101.out 5).trans rfl
            have hcz36_6 : wc.cell? ⟨gb101, 6, none⟩ = some (.bool false) := (blk_cell BK101.out 6).trans rfl
            have hcz36_7 : wc.cell? ⟨gb101, 7, none⟩ = some (.bool a0_7) := (blk_cell BK101.out 7).trans rfl
            have hfz36_0 := blk_frozen BK101.out 0
            have hfz36_1 := blk_frozen BK101.out 1
            have hfz36_2 := blk_frozen BK101.out 2
            have hfz36_3 := blk_frozen BK101.out 3
            have hfz36_4 := blk_frozen BK101.out 4
            have hfz36_5 := blk_frozen BK101.out 5
            have hfz36_6 := blk_frozen BK101.out 6
            have hfz36_7 := blk_frozen BK101.out 7
            have hnb37 := NB103_102.out
            have hnc37 := NB102_103.out
            have hcz38_0 : wc.cell? ⟨gb103, 0, none⟩ = some (.int .u32 a0_3) := (blk_cell BK103.out 0).trans rfl
            have hcz38_1 : wc.cell? ⟨gb103, 1, none⟩ = some (.int .u32 0) := (blk_cell BK103.out 1).trans rfl
            have hcz38_2 : wc.cell? ⟨gb103, 2, none⟩ = some (.int .u32 0) := (blk_cell BK103.out 2).trans rfl
            have hfz38_0 := blk_frozen BK103.out 0
            have hfz38_1 := blk_frozen BK103.out 1
            have hfz38_2 := blk_frozen BK103.out 2
            have hcz39_0 : wc.cell? ⟨gb102, 0, none⟩ = some (.int .u32 0) := (blk_cell BK102.out 0).trans rfl
            have hcz39_1 : wc.cell? ⟨gb102, 1, none⟩ = some (.int .u32 0) := (blk_cell BK102.out 1).trans rfl
            have hcz39_2 : wc.cell? ⟨gb102, 2, none⟩ = some (.int .u32 0) := (blk_cell BK102.out 2).trans rfl
            have hfz39_0 := blk_frozen BK102.out 0
            have hfz39_1 := blk_frozen BK102.out 1
            have hfz39_2 := blk_frozen BK102.out 2
            go_wp2
            refine bodyPost_ret (results_cell_row rfl _ _ gb102 44 #[.int .u32 a0_3, .int .u32 a0_4, .int .u32 0] (0, 0) _ rfl (by (with_reducible repeat (first | refine blk_drewN ?_ _ | refine blk_drew ?_ | refine blk_alloc ?_ _)); refine blk_put (cs := #[.int .u32 a0_3, .int .u32 a0_4, .int .u32 0]) ?_ 2 _ rfl; (with_reducible repeat (first | refine blk_drewN ?_ _ | refine blk_drew ?_ | refine blk_alloc ?_ _)); refine blk_put (cs := #[.int .u32 a0_3, .int .u32 0, .int .u32 0]) ?_ 1 _ rfl; (with_reducible repeat (first | refine blk_drewN ?_ _ | refine blk_drew ?_ | refine blk_alloc ?_ _)); refine blk_put (cs := #[.int .u32 0, .int .u32 0, .int .u32 0]) ?_ 0 _ rfl; (with_reducible repeat (first | refine blk_drewN ?_ _ | refine blk_drew ?_ | refine blk_alloc ?_ _)); refine blk_far ?_ NB102_103.out _; (with_reducible repeat (first | refine blk_drewN ?_ _ | refine blk_drew ?_ | refine blk_alloc ?_ _)); exact BK102.out) Try.underlying44 rfl (by kernel_rfl)) rfl ?_
            exact ⟨by first | rfl | (simp [errW_none, errW_some] <;> rfl) | (simp [*, errW_none, errW_some] <;> rfl), by repeat (first | (with_reducible first | exact HB.out | apply below_alloc | apply pw_below_drewN | apply below_drew1 | refine below_set ?_ GE101.out | refine below_set ?_ GE102.out | refine below_set ?_ GE103.out) | exact HB.out)⟩

end Go.Proofs.Ytlpphlfbdicaaaa.QInstNames
