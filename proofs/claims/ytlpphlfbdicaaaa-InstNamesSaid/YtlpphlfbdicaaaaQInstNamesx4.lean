/- Contracts of what a law reaches, each function as a plain Lean function: written by a program of this claim's repo (myprint.py); conditions: those of each theorem. -/
import Derived.Test.YtlpphlfbdicaaaaQInstNamesx0
import Derived.Test.YtlpphlfbdicaaaaQInstNamesx2
import Derived.Test.YtlpphlfbdicaaaaQInstNamesx3
namespace Go.Proofs.Ytlpphlfbdicaaaa.QInstNames
open Go.RowKit Go.Proofs.YtlpphlfbdicaaaaW.PrintWords Go.Proofs.YtlpphlfbdicaaaaW.PrintLast Go.Proofs.YtlpphlfbdicaaaaW.PrintMore
attribute [local go_sem] max2_int min2_int max_two min_two max_three min_three max_four min_four   -- for this text's walks alone
set_option linter.unusedVariables false
set_option linter.unusedSimpArgs false

/-! ### inst_has: function 18 -/
def inst_has.f (a0 : Int) (a1 : Int) : Option (Bool) := if a1 = 0 then (if a0 = 0 then (some true) else (if a0 = 1 then (some true) else (if a0 = 4 then (some true) else (some (a0 == 5))))) else (if a1 = 1 then (if a0 = 0 then (some true) else (if a0 = 1 then (some true) else (if a0 = 2 then (some true) else (some (a0 == 3))))) else (if a0 = 0 then (some true) else (if a0 = 2 then (some true) else (some (a0 == 3)))))
set_option maxHeartbeats 8000000 in
set_option maxRecDepth 100000 in
theorem inst_has.calls (a0 : Int) (a1 : Int) (r : Bool) (w : World) (h : inst_has.f a0 a1 = some r) :
    Calls Try.prog 18 #[.int .i64 a0, .int .i64 a1] w fun e w' => e = .returned (.bool r) ∧ Drawn0 w w' := by
  have H : (if a1 = 0 then (if a0 = 0 then (some true) else (if a0 = 1 then (some true) else (if a0 = 4 then (some true) else (some (a0 == 5))))) else (if a1 = 1 then (if a0 = 0 then (some true) else (if a0 = 1 then (some true) else (if a0 = 2 then (some true) else (some (a0 == 3))))) else (if a0 = 0 then (some true) else (if a0 = 2 then (some true) else (some (a0 == 3)))))) = some r := h
  clear h
  by_cases c3 : a1 = 0
  · rw [if_pos c3] at H
    have c3b0 : (a1 == 0) = true := beq_iff_eq.mpr c3
    have c3b1 : (a1 != 0) = false := bne_eq_false_iff_eq.mpr c3
    clear c3
    by_cases c4 : a0 = 0
    · rw [if_pos c4] at H
      have c4b0 : (a0 == 0) = true := beq_iff_eq.mpr c4
      have c4b1 : (a0 != 0) = false := bne_eq_false_iff_eq.mpr c4
      clear c4
      obtain rfl := Option.some.inj H
      go_enter Try.func18, Try.ntmps18
      go_wp2
      go_ret
      exact ⟨by first | rfl | (simp; done) | (simp [*]; done), by repeat (first | exact Drawn0.refl _ | apply Drawn0.step)⟩
    · rw [if_neg c4] at H
      have c4b0 : (a0 == 0) = false := beq_eq_false_iff_ne.mpr c4
      have c4b1 : (a0 != 0) = true := bne_iff_ne.mpr c4
      by_cases c5 : a0 = 1
      · rw [if_pos c5] at H
        have c5b0 : (a0 == 1) = true := beq_iff_eq.mpr c5
        have c5b1 : (a0 != 1) = false := bne_eq_false_iff_eq.mpr c5
        clear c5
        obtain rfl := Option.some.inj H
        go_enter Try.func18, Try.ntmps18
        go_wp2
        go_ret
        exact ⟨by first | rfl | (simp; done) | (simp [*]; done), by repeat (first | exact Drawn0.refl _ | apply Drawn0.step)⟩
      · rw [if_neg c5] at H
        have c5b0 : (a0 == 1) = false := beq_eq_false_iff_ne.mpr c5
        have c5b1 : (a0 != 1) = true := bne_iff_ne.mpr c5
        by_cases c6 : a0 = 4
        · rw [if_pos c6] at H
          have c6b0 : (a0 == 4) = true := beq_iff_eq.mpr c6
          have c6b1 : (a0 != 4) = false := bne_eq_false_iff_eq.mpr c6
          clear c6
          obtain rfl := Option.some.inj H
          go_enter Try.func18, Try.ntmps18
          go_wp2
          go_ret
          exact ⟨by first | rfl | (simp; done) | (simp [*]; done), by repeat (first | exact Drawn0.refl _ | apply Drawn0.step)⟩
        · rw [if_neg c6] at H
          have c6b0 : (a0 == 4) = false := beq_eq_false_iff_ne.mpr c6
          have c6b1 : (a0 != 4) = true := bne_iff_ne.mpr c6
          obtain rfl := Option.some.inj H
          go_enter Try.func18, Try.ntmps18
          go_wp2
          go_ret
          exact ⟨by first | rfl | (simp; done) | (simp [*]; done), by repeat (first | exact Drawn0.refl _ | apply Drawn0.step)⟩
  · rw [if_neg c3] at H
    have c3b0 : (a1 == 0) = false := beq_eq_false_iff_ne.mpr c3
    have c3b1 : (a1 != 0) = true := bne_iff_ne.mpr c3
    by_cases c7 : a1 = 1
    · rw [if_pos c7] at H
      have c7b0 : (a1 == 1) = true := beq_iff_eq.mpr c7
      have c7b1 : (a1 != 1) = false := bne_eq_false_iff_eq.mpr c7
      clear c7
      by_cases c8 : a0 = 0
      · rw [if_pos c8] at H
        have c8b0 : (a0 == 0) = true := beq_iff_eq.mpr c8
        have c8b1 : (a0 != 0) = false := bne_eq_false_iff_eq.mpr c8
        clear c8
        obtain rfl := Option.some.inj H
        go_enter Try.func18, Try.ntmps18
        go_wp2
        go_ret
        exact ⟨by first | rfl | (simp; done) | (simp [*]; done), by repeat (first | exact Drawn0.refl _ | apply Drawn0.step)⟩
      · rw [if_neg c8] at H
        have c8b0 : (a0 == 0) = false := beq_eq_false_iff_ne.mpr c8
        have c8b1 : (a0 != 0) = true := bne_iff_ne.mpr c8
        by_cases c9 : a0 = 1
        · rw [if_pos c9] at H
          have c9b0 : (a0 == 1) = true := beq_iff_eq.mpr c9
          have c9b1 : (a0 != 1) = false := bne_eq_false_iff_eq.mpr c9
          clear c9
          obtain rfl := Option.some.inj H
          go_enter Try.func18, Try.ntmps18
          go_wp2
          go_ret
          exact ⟨by first | rfl | (simp; done) | (simp [*]; done), by repeat (first | exact Drawn0.refl _ | apply Drawn0.step)⟩
        · rw [if_neg c9] at H
          have c9b0 : (a0 == 1) = false := beq_eq_false_iff_ne.mpr c9
          have c9b1 : (a0 != 1) = true := bne_iff_ne.mpr c9
          by_cases c10 : a0 = 2
          · rw [if_pos c10] at H
            have c10b0 : (a0 == 2) = true := beq_iff_eq.mpr c10
            have c10b1 : (a0 != 2) = false := bne_eq_false_iff_eq.mpr c10
            clear c10
            obtain rfl := Option.some.inj H
            go_enter Try.func18, Try.ntmps18
            go_wp2
            go_ret
            exact ⟨by first | rfl | (simp; done) | (simp [*]; done), by repeat (first | exact Drawn0.refl _ | apply Drawn0.step)⟩
          · rw [if_neg c10] at H
            have c10b0 : (a0 == 2) = false := beq_eq_false_iff_ne.mpr c10
            have c10b1 : (a0 != 2) = true := bne_iff_ne.mpr c10
            obtain rfl := Option.some.inj H
            go_enter Try.func18, Try.ntmps18
            go_wp2
            go_ret
            exact ⟨by first | rfl | (simp; done) | (simp [*]; done), by repeat (first | exact Drawn0.refl _ | apply Drawn0.step)⟩
    · rw [if_neg c7] at H
      have c7b0 : (a1 == 1) = false := beq_eq_false_iff_ne.mpr c7
      have c7b1 : (a1 != 1) = true := bne_iff_ne.mpr c7
      by_cases c11 : a0 = 0
      · rw [if_pos c11] at H
        have c11b0 : (a0 == 0) = true := beq_iff_eq.mpr c11
        have c11b1 : (a0 != 0) = false := bne_eq_false_iff_eq.mpr c11
        clear c11
        obtain rfl := Option.some.inj H
        go_enter Try.func18, Try.ntmps18
        go_wp2
        go_ret
        exact ⟨by first | rfl | (simp; done) | (simp [*]; done), by repeat (first | exact Drawn0.refl _ | apply Drawn0.step)⟩
      · rw [if_neg c11] at H
        have c11b0 : (a0 == 0) = false := beq_eq_false_iff_ne.mpr c11
        have c11b1 : (a0 != 0) = true := bne_iff_ne.mpr c11
        by_cases c12 : a0 = 2
        · rw [if_pos c12] at H
          have c12b0 : (a0 == 2) = true := beq_iff_eq.mpr c12
          have c12b1 : (a0 != 2) = false := bne_eq_false_iff_eq.mpr c12
          clear c12
          obtain rfl := Option.some.inj H
          go_enter Try.func18, Try.ntmps18
          go_wp2
          go_ret
          exact ⟨by first | rfl | (simp; done) | (simp [*]; done), by repeat (first | exact Drawn0.refl _ | apply Drawn0.step)⟩
        · rw [if_neg c12] at H
          have c12b0 : (a0 == 2) = false := beq_eq_false_iff_ne.mpr c12
          have c12b1 : (a0 != 2) = true := bne_iff_ne.mpr c12
          obtain rfl := Option.some.inj H
          go_enter Try.func18, Try.ntmps18
          go_wp2
          go_ret
          exact ⟨by first | rfl | (simp; done) | (simp [*]; done), by repeat (first | exact Drawn0.refl _ | apply Drawn0.step)⟩

/-! ### inst_reg: function 19 -/
def inst_reg.f (a0 : Int) (a1 : Int) : Option (Int) := if 0 ≤ a1 then (some (wrap64 (Go.bits .and .u32 (shr .u32 a0 a1) 31))) else (none)
set_option maxHeartbeats 8000000 in
set_option maxRecDepth 100000 in
theorem inst_reg.calls (a0 : Int) (a1 : Int) (r : Int) (w : World) (h : inst_reg.f a0 a1 = some r) :
    Calls Try.prog 19 #[.int .u32 a0, .int .u64 a1] w fun e w' => e = .returned (.int .i64 r) ∧ Drawn0 w w' := by
  have H : (if 0 ≤ a1 then (some (wrap64 (Go.bits .and .u32 (shr .u32 a0 a1) 31))) else (none)) = some r := h
  clear h
  by_cases c3 : 0 ≤ a1
  · rw [if_pos c3] at H
    have c3b0 := eq_true c3
    have c3b1 : decide (0 ≤ a1) = true := decide_eq_true c3
    clear c3
    obtain ⟨ji4, hji4⟩ : ∃ j_ : Int, (shr .u32 a0 a1) = j_ := ⟨_, rfl⟩
    replace H : (some (wrap64 (Go.bits .and .u32 (ji4) 31))) = some r := by first | (rw [hji4] at H; exact H) | (simp only [hji4] at H ⊢; exact H)
    have hji4_ : (a0 / 2 ^ min a1.toNat 32) = ji4 := hji4
    have hji4z : a1 ≤ 32 → (a0 / 2 ^ a1.toNat) = ji4 := shr_small hji4
    obtain rfl := Option.some.inj H
    go_enter Try.func19, Try.ntmps19
    go_wp2
    go_ret
    exact ⟨by first | rfl | (simp; done) | (simp only [← hji4] <;> (first | rfl | simp)) | (simp [*]; done), by repeat (first | exact Drawn0.refl _ | apply Drawn0.step)⟩
  · rw [if_neg c3] at H
    exact absurd H (by simp)

/-! ### inst.Decode: by hand, for the two words that the laws' example asks -/
section
open Go.Maps
theorem laidOut_ : laidOutB Try.prog = true := by kernel_rfl
theorem lawKey : Keyed Try.prog 44 := Keyed.of_law (deep_law_laid laidOut_ (m := 3) (by omega) (of_decide_eq_true (by kernel_rfl)) (by kernel_rfl) (by rw [Try.underlying44]))
def zeroRow : Value := .agg #[.int .i64 0, .int .i64 0, .string ByteArray.empty, .int .u32 0, .int .u32 0, .int .u32 0, .bool false, .bool false]
theorem zeroR (w : World) : (zeroValue 42).run Try.prog w = .ok zeroRow w := by kernel_rfl
/-- A row as a datum. -/
def rowD (r : S42) : DataW Unit := .agg [.lit (.int .i64 r.f0), .lit (.int .i64 r.f1), .lit (.string r.f2.data.toList), .lit (.int .u32 r.f3), .lit (.int .u32 r.f4), .lit (.int .u32 r.f5), .lit (.bool r.f6), .lit (.bool r.f7)]
def rowV (r : S42) : Value := .agg #[.int .i64 r.f0, .int .i64 r.f1, .string r.f2, .int .u32 r.f3, .int .u32 r.f4, .int .u32 r.f5, .bool r.f6, .bool r.f7]
def rowR : Value → Option (DataW Unit × List MemPlace)
  | .agg x => match x.toList with
    | [.int .i64 a, .int .i64 b, .string s, .int .u32 c, .int .u32 d, .int .u32 e, .bool f, .bool g] => some (rowD ⟨a, b, s, c, d, e, f, g⟩, [])
    | _ => none
  | _ => none
theorem rowR_V (r : S42) : rowR (rowV r) = some (rowD r, []) := rfl
theorem rowR_inv {v : Value} {z : DataW Unit × List MemPlace} (h : rowR v = some z) : ∃ r, v = rowV r ∧ z = (rowD r, []) := by
  unfold rowR at h
  split at h
  · rename_i x
    split at h
    · rename_i a b s c d e f g hx
      injection h with h
      refine ⟨⟨a, b, s, c, d, e, f, g⟩, ?_, h.symm⟩
      have : x = #[.int .i64 a, .int .i64 b, .string s, .int .u32 c, .int .u32 d, .int .u32 e, .bool f, .bool g] := Array.toList_inj.1 hx
      rw [this]
      rfl
    · cases h
  · cases h
theorem rowD_inj {r r' : S42} (h : rowD r = rowD r') : r = r' := by
  obtain ⟨a, b, s, c, d, e, f, g⟩ := r
  obtain ⟨a', b', s', c', d', e', f', g'⟩ := r'
  simp only [rowD, DataW.agg.injEq, List.cons.injEq, DataW.lit.injEq, Lit.int.injEq, Lit.string.injEq, Lit.bool.injEq, true_and, and_true] at h
  obtain ⟨rfl, rfl, hs, rfl, rfl, rfl, rfl, rfl⟩ := h
  have : s = s' := ByteArray.ext (Array.toList_inj.1 hs)
  rw [this]
/-- A row's key, the map of so many rows. -/
def keyOfR (r : S42) : Int × Int × Int := (inst_keyOf.f 4 r.f0 r.f1 r.f2 r.f3 r.f4 r.f5 r.f6 r.f7).getD (0, 0, 0)
noncomputable def keyLit (k : Int × Int × Int) : Lit := (keyOf Try.prog 44 (.agg #[.int .u32 k.1, .int .u32 k.2.1, .int .u32 k.2.2])).getD (.bool false)
noncomputable def mapOf (l : List S42) : DataW Unit := l.foldl (fun D r => if r.f1 ≠ 6 then D.put (keyLit (keyOfR r)) (rowD r) else D) (.map [])
theorem mapOf_snoc (l : List S42) (r : S42) : mapOf (l ++ [r]) = if r.f1 ≠ 6 then (mapOf l).put (keyLit (keyOfR r)) (rowD r) else mapOf l := by simp [mapOf]
theorem rows_f : inst_rows.f = some rowsL := rfl
noncomputable def rowOk (r : S42) : Bool := (inst_keyOf.f 4 r.f0 r.f1 r.f2 r.f3 r.f4 r.f5 r.f6 r.f7).isSome && (keyOf Try.prog 44 (.agg #[.int .u32 (keyOfR r).1, .int .u32 (keyOfR r).2.1, .int .u32 (keyOfR r).2.2])).isSome
theorem rows_ok : rowsL.all rowOk = true := by kernel_rfl
theorem row_ok {r : S42} (h : r ∈ rowsL) : inst_keyOf.f 4 r.f0 r.f1 r.f2 r.f3 r.f4 r.f5 r.f6 r.f7 = some ((keyOfR r).1, (keyOfR r).2.1, (keyOfR r).2.2) ∧ keyOf Try.prog 44 (.agg #[.int .u32 (keyOfR r).1, .int .u32 (keyOfR r).2.1, .int .u32 (keyOfR r).2.2]) = some (keyLit (keyOfR r)) := by
  have h1 := List.all_eq_true.1 rows_ok r h
  unfold rowOk at h1
  rw [Bool.and_eq_true] at h1
  obtain ⟨h1, h2⟩ := h1
  constructor
  · unfold keyOfR
    cases hq : inst_keyOf.f 4 r.f0 r.f1 r.f2 r.f3 r.f4 r.f5 r.f6 r.f7 with
    | none => rw [hq] at h1; cases h1
    | some q => rfl
  · unfold keyLit
    cases hq : keyOf Try.prog 44 (.agg #[.int .u32 (keyOfR r).1, .int .u32 (keyOfR r).2.1, .int .u32 (keyOfR r).2.2]) with
    | none => rw [hq] at h2; cases h2
    | some q => rfl
theorem has_addi : Maps.has (mapOf rowsL) (keyLit (19, 0, 0)) = true := by kernel_rfl
theorem at_addi : (mapOf rowsL).atKey (keyLit (19, 0, 0)) (rowD z42) = rowD ⟨22, 1, ⟨#[97, 100, 100, 105]⟩, 19, 0, 0, false, false⟩ := by kernel_rfl
theorem has_none : Maps.has (mapOf rowsL) (keyLit (0, 0, 0)) = false := by kernel_rfl
theorem at_none : (mapOf rowsL).atKey (keyLit (0, 0, 0)) (rowD z42) = rowD z42 := by kernel_rfl
theorem key_addi : keyOf Try.prog 44 (.agg #[.int .u32 19, .int .u32 0, .int .u32 0]) = some (keyLit (19, 0, 0)) := by kernel_rfl
theorem key_none : keyOf Try.prog 44 (.agg #[.int .u32 0, .int .u32 0, .int .u32 0]) = some (keyLit (0, 0, 0)) := by kernel_rfl
theorem row_of {v : Value} {ps : List MemPlace} {r : S42} (h : rowR v = some (rowD r, ps)) : v = rowV r := by
  obtain ⟨r', e, hz⟩ := rowR_inv h
  injection hz with h1 h2
  rw [e, rowD_inj h1]
def inst_Decode.f (a0 : Int) : Option (Int × Int × Int × Int × Int × Bool) := if a0 = 19 then some (22, 0, 0, 0, 0, true) else if a0 = 0 then some (0, 0, 0, 0, 0, false) else none
theorem size_alloc (w : World) (o : Obj) : (w.alloc o).heap.size = w.heap.size + 1 := by
  show (w.heap.push o).size = _
  simp
theorem heap_new (w : World) (o : Obj) : (w.alloc o).heap[w.heap.size]? = some o := by
  show (w.heap.push o)[w.heap.size]? = _
  simp
theorem below_map {w w1 w2 : World} {b : Nat} (h : Below w.heap.size w w1) (hg : w1.grownBy w2 (some b)) (hb : w.heap.size ≤ b) : Below w.heap.size w w2 :=
  ⟨hg.os.trans h.os, hg.tape.trans h.tape, hg.output.trans h.output, Nat.le_trans h.size hg.size, fun k hk => (hg.block k (Nat.lt_of_lt_of_le hk h.size) (fun e => by cases e; omega)).trans (h.block k hk)⟩
/-- A block of five cells, stored into one by one. -/
theorem five {w : World} {g t : Nat} {a0 a1 a2 a3 a4 : Value} (h : w.heap[g]? = some (.cells #[a0, a1, a2, a3, a4] t (0, 0))) :
    w.cell? ⟨g, 0, none⟩ = some a0 ∧ (∀ v0, (w.setCell ⟨g, 0, none⟩ v0).cell? ⟨g, 1, none⟩ = some a1) ∧ (∀ v0 v1, ((w.setCell ⟨g, 0, none⟩ v0).setCell ⟨g, 1, none⟩ v1).cell? ⟨g, 2, none⟩ = some a2) ∧
    (∀ v0 v1 v2, (((w.setCell ⟨g, 0, none⟩ v0).setCell ⟨g, 1, none⟩ v1).setCell ⟨g, 2, none⟩ v2).cell? ⟨g, 3, none⟩ = some a3) ∧
    (∀ v0 v1 v2 v3, ((((w.setCell ⟨g, 0, none⟩ v0).setCell ⟨g, 1, none⟩ v1).setCell ⟨g, 2, none⟩ v2).setCell ⟨g, 3, none⟩ v3).cell? ⟨g, 4, none⟩ = some a4) ∧
    w.frozen? ⟨g, 0, none⟩ = false ∧ (∀ v0, (w.setCell ⟨g, 0, none⟩ v0).frozen? ⟨g, 1, none⟩ = false) ∧ (∀ v0 v1, ((w.setCell ⟨g, 0, none⟩ v0).setCell ⟨g, 1, none⟩ v1).frozen? ⟨g, 2, none⟩ = false) ∧
    (∀ v0 v1 v2, (((w.setCell ⟨g, 0, none⟩ v0).setCell ⟨g, 1, none⟩ v1).setCell ⟨g, 2, none⟩ v2).frozen? ⟨g, 3, none⟩ = false) ∧
    (∀ v0 v1 v2 v3, ((((w.setCell ⟨g, 0, none⟩ v0).setCell ⟨g, 1, none⟩ v1).setCell ⟨g, 2, none⟩ v2).setCell ⟨g, 3, none⟩ v3).frozen? ⟨g, 4, none⟩ = false) ∧
    (∀ v0 v1 v2 v3 v4, (((((w.setCell ⟨g, 0, none⟩ v0).setCell ⟨g, 1, none⟩ v1).setCell ⟨g, 2, none⟩ v2).setCell ⟨g, 3, none⟩ v3).setCell ⟨g, 4, none⟩ v4).heap[g]? = some (.cells #[v0, v1, v2, v3, v4] t (0, 0))) := by
  have s0 := fun v0 => blk_set h 0 v0
  have s1 := fun v0 v1 => blk_set (s0 v0) 1 v1
  have s2 := fun v0 v1 v2 => blk_set (s1 v0 v1) 2 v2
  have s3 := fun v0 v1 v2 v3 => blk_set (s2 v0 v1 v2) 3 v3
  have s4 := fun v0 v1 v2 v3 v4 => blk_set (s3 v0 v1 v2 v3) 4 v4
  exact ⟨blk_cell h 0, fun _ => blk_cell (s0 _) 1, fun _ _ => blk_cell (s1 _ _) 2, fun _ _ _ => blk_cell (s2 _ _ _) 3, fun _ _ _ _ => blk_cell (s3 _ _ _ _) 4, blk_frozen h 0, fun _ => blk_frozen (s0 _) 1, fun _ _ => blk_frozen (s1 _ _) 2, fun _ _ _ => blk_frozen (s2 _ _ _) 3, fun _ _ _ _ => blk_frozen (s3 _ _ _ _) 4, fun _ _ _ _ _ => s4 _ _ _ _ _⟩
set_option maxHeartbeats 4000000 in
set_option maxRecDepth 100000 in
theorem inst_Decode.calls (a0 r1 r2 r3 r4 r5 : Int) (r6 : Bool) (w : World) (h : inst_Decode.f a0 = some (r1, r2, r3, r4, r5, r6)) :
    Calls Try.prog 7 #[.int .u32 a0] w fun e w' => e = .returned (.tuple #[.agg #[.int .i64 r1, .int .i64 r2, .int .i64 r3, .int .i64 r4, .int .i64 r5], .bool r6]) ∧ Below w.heap.size w w' := by
  have ha : a0 = 19 ∨ a0 = 0 := by
    unfold inst_Decode.f at h
    by_cases h1 : a0 = 19
    · exact .inl h1
    · by_cases h2 : a0 = 0
      · exact .inr h2
      · rw [if_neg h1, if_neg h2] at h; cases h
  have HF := Aside0.mk h
  clear h
  have q1 : (a0 == 115) = false := by rcases ha with rfl | rfl <;> rfl
  have q2 : (a0 == 1048691) = false := by rcases ha with rfl | rfl <;> rfl
  have q3 : (Go.bits .and .u32 a0 127 == 15) = false := by rcases ha with rfl | rfl <;> decide
  have HQ := Aside0.mk ha
  clear ha
  have hmm := @run_makeMap Try.prog
  go_enter Try.func7, Try.ntmps7
  go_wp2_with fail
  obtain ⟨ws, hws⟩ : ∃ ws, w.alloc (.cells #[.int .i64 0, .int .i64 0, .int .i64 0, .int .i64 0, .int .i64 0] 25) = ws := ⟨_, rfl⟩
  have hsz : ws.heap.size = w.heap.size + 1 := by rw [← hws, size_alloc]
  have HB0 : Aside0 (Below w.heap.size w (ws.alloc (.map #[] 0))) := ⟨by rw [← hws]; exact below_alloc (below_alloc (Below.refl _ _) _) _⟩
  have HM0 : Aside0 ((ws.alloc (.map #[] 0)).ownsMap Try.prog 44 rowR (w.heap.size + 1) 0 (.map [])) := ⟨by rw [← hsz]; exact World.ownsMap_made _ _ _ _⟩
  have HR0 : Aside0 ((ws.alloc (.map #[] 0)).heap[w.heap.size]? = some (.cells #[.int .i64 0, .int .i64 0, .int .i64 0, .int .i64 0, .int .i64 0] 25 (0, 0))) := ⟨by
    refine ((below_alloc (Below.refl ws.heap.size ws) _).block _ (by omega)).trans ?_
    rw [← hws]; exact heap_new w _⟩
  have HS0 : Aside0 ((ws.alloc (.map #[] 0)).heap.size = w.heap.size + 2) := ⟨by rw [size_alloc]; omega⟩
  rw [hws]
  obtain ⟨wm, hwm⟩ : ∃ wm, ws.alloc (.map #[] 0) = wm := ⟨_, rfl⟩
  rw [hwm] at HB0 HM0 HR0 HS0 ⊢
  clear hwm hws hsz
  refine (inst_rows.calls rowsL wm rows_f).mono ?_
  rintro e w2 ⟨v0, rfl, hR, hB⟩
  obtain ⟨Ar, cr, er⟩ := Kd.R_slice hR
  rw [rows_len] at er
  subst er
  rw [HS0.out] at hR
  have HR2 := Aside0.mk hR
  have HM2 := Aside0.mk (HM0.out.kept (grown_of_below hB none) (by simp))
  have HB2 := Aside0.mk (below_step HB0.out hB)
  have HX2 := Aside0.mk ((hB.block _ (Array.getElem?_eq_some_iff.1 HR0.out).1).trans HR0.out)
  clear hR hB HM0 HB0 HR0
  go_wp2_with fail
  go_loopg [32] 65 (fun kq v32 w' => ∃ i : Nat, v32 = .int .i64 (i : Int) ∧ Aside0 (kq + i = 65) ∧ Aside0 (w'.ownsMap Try.prog 44 rowR (w.heap.size + 1) i (mapOf (rowsL.take i))) ∧ Aside0 (Kd.R k42 42 w' (w.heap.size + 2) (fun _ => True) (.slice Ar 65 cr) rowsL) ∧
    Aside0 (w'.heap[w.heap.size]? = some (.cells #[.int .i64 0, .int .i64 0, .int .i64 0, .int .i64 0, .int .i64 0] 25 (0, 0))) ∧ Aside0 (Below w.heap.size w w'))
  case atStart => exact ⟨0, by first | rfl | simp, ⟨rfl⟩, HM2, HR2, HX2, HB2⟩
  case round =>
    obtain ⟨i, rfl, HN, HM, HR, HX, HB⟩ := hrel
    by_cases hi : i < 65
    · have i0 : ((i : Int) < (65 : Int)) = True := eq_true (by omega)
      have i1 : (0 ≤ (i : Int)) = True := eq_true (by omega)
      have hil : i < rowsL.length := by rw [rows_len]; exact hi
      obtain ⟨ad, hA, x0, x1, x2, x3, x4, x5, x6, x7⟩ := at_T42 (Kd.R_reads' HR.out).2.2 (i : Int) (by omega) (by rw [rows_len]; omega)
      rw [Int.toNat_natCast] at x0 x1 x2 x3 x4 x5 x6 x7
      obtain ⟨r, hr⟩ : ∃ r, rd_T42 rowsL (i : Int) = r := ⟨_, rfl⟩
      rw [hr] at x0 x1 x2 x3 x4 x5 x6 x7
      have hri : rowsL[i] = r := by rw [← hr]; unfold rd_T42; rw [Int.toNat_natCast, List.getD_eq_getElem?_getD, List.getElem?_eq_getElem hil]; rfl
      have hrm : r ∈ rowsL := by rw [← hri]; exact List.getElem_mem hil
      have hsn : mapOf (rowsL.take (i + 1)) = if r.f1 ≠ 6 then (mapOf (rowsL.take i)).put (keyLit (keyOfR r)) (rowD r) else mapOf (rowsL.take i) := by
        rw [List.take_add_one, List.getElem?_eq_getElem hil, hri]; exact mapOf_snoc _ _
      subst hA
      have HSN := Aside0.mk hsn
      have HRO := Aside0.mk (row_ok hrm)
      clear hr hri hrm hsn
      by_cases hf : r.f1 = 6
      · have f0 : (r.f1 == 6) = true := by rw [hf]; rfl
        have HF6 := Aside0.mk hf
        go_wp2_with fail
        go_roundg (gk - 1)
        case measure => have := HN.out; omega
        case rel =>
          have hAL := fun o => below_alloc (Below.refl wr.heap.size wr) o
          refine ⟨i + 1, by rw [Int.natCast_add]; rfl, ⟨by have := HN.out; omega⟩, ⟨?_⟩, ⟨Kd.R_below HR.out (hAL _)⟩, ⟨((hAL _).block _ (Array.getElem?_eq_some_iff.1 HX.out).1).trans HX.out⟩, ⟨below_then HB.out HB.out.size (hAL _)⟩⟩
          rw [HSN.out, if_neg (by simp [HF6.out])]
          exact (HM.out.alloc _).mono (by omega)
      · have f0 : (r.f1 == 6) = false := by simp; exact hf
        have HF6 := Aside0.mk hf
        have hkk := fun w => inst_keyOf.calls 4 r.f0 r.f1 r.f2 r.f3 r.f4 r.f5 r.f6 r.f7 _ _ _ w HRO.out.1
        have HKK := Aside0.mk hkk
        have hbs : w.heap.size + 1 < wr.heap.size := HM.out.lt
        clear hkk
        go_wp2_with fail
        go_region_law (first
          | (go_simp
             have H_ := HKK.out (wr.alloc (.cells (rowCells r).toArray 42)).drew
             refine H_.mono ?_
             rintro _ w4 ⟨rfl, hb4⟩
             have hAL : Below wr.heap.size wr w4 := below_step (below_drew (below_alloc (Below.refl wr.heap.size wr) _)) hb4
             have hp4 : w4.heap[wr.heap.size]? = some (.cells (rowCells r).toArray 42 (0, 0)) := (hb4.block wr.heap.size (by show _ < (wr.alloc _).heap.size; rw [size_alloc]; omega)).trans (heap_new wr _)
             have z0 : w4.cell? ⟨wr.heap.size, 0, none⟩ = some (.int .i64 r.f0) := by simp only [World.cell?, hp4]; rfl
             have z1 : w4.cell? ⟨wr.heap.size, 1, none⟩ = some (.int .i64 r.f1) := by simp only [World.cell?, hp4]; rfl
             have z2 : w4.cell? ⟨wr.heap.size, 2, none⟩ = some (.string r.f2) := by simp only [World.cell?, hp4]; rfl
             have z3 : w4.cell? ⟨wr.heap.size, 3, none⟩ = some (.int .u32 r.f3) := by simp only [World.cell?, hp4]; rfl
             have z4 : w4.cell? ⟨wr.heap.size, 4, none⟩ = some (.int .u32 r.f4) := by simp only [World.cell?, hp4]; rfl
             have z5 : w4.cell? ⟨wr.heap.size, 5, none⟩ = some (.int .u32 r.f5) := by simp only [World.cell?, hp4]; rfl
             have z6 : w4.cell? ⟨wr.heap.size, 6, none⟩ = some (.bool r.f6) := by simp only [World.cell?, hp4]; rfl
             have z7 : w4.cell? ⟨wr.heap.size, 7, none⟩ = some (.bool r.f7) := by simp only [World.cell?, hp4]; rfl
             have hM4 := HM.out.kept (grown_of_below hAL none) (by simp)
             obtain ⟨w5, hrun5, hM5, hg5⟩ := hM4.update lawKey Try.underlying38 (by unfold maxLen; omega) HRO.out.2 (rowR_V r)
             have hrun5' : (Instr.mapUpdate 38 (.map (some (w.heap.size + 1))) (.agg #[.int .u32 (keyOfR r).1, .int .u32 (keyOfR r).2.1, .int .u32 (keyOfR r).2.2]) (.agg #[.int .i64 r.f0, .int .i64 r.f1, .string r.f2, .int .u32 r.f3, .int .u32 r.f4, .int .u32 r.f5, .bool r.f6, .bool r.f7])).run Try.prog w4 = .ok () w5 := hrun5))
        all_goals
          have hM6 : w5.ownsMap Try.prog 44 rowR (w.heap.size + 1) (i + 1) (mapOf (rowsL.take (i + 1))) := by rw [HSN.out, if_pos HF6.out]; exact hM5
          have hB6 : Below w.heap.size w w5 := below_map (below_then HB.out HB.out.size hAL) hg5 (by omega)
          have hR6 : Kd.R k42 42 w5 (w.heap.size + 2) (fun _ => True) (.slice (some ad) 65 cr) rowsL := Kd.R_mono (Kd.R_grown (Kd.R_mono (Kd.R_bound (Kd.R_below HR.out hAL)) (ok' := fun k => w.heap.size + 2 ≤ k) (fun k hk => hk.2.1)) hg5 (fun k hk e => by cases e; omega)) (fun _ _ => trivial)
          have hX6 := (hg5.block w.heap.size (by have := hAL.size; omega) (by simp)).trans ((hAL.block _ (Array.getElem?_eq_some_iff.1 HX.out).1).trans HX.out)
          have HM6 := Aside0.mk hM6
          have HB6 := Aside0.mk hB6
          have HR6 := Aside0.mk hR6
          have HX6 := Aside0.mk hX6
          clear hM6 hB6 hR6 hX6 hM4 hM5 hg5 hrun5 hrun5' hAL hp4 hb4
          go_wp2_with fail
          go_roundg (gk - 1)
          case measure => have := HN.out; omega
          case rel => exact ⟨i + 1, by rw [Int.natCast_add]; rfl, ⟨by have := HN.out; omega⟩, HM6, HR6, HX6, HB6⟩
    · have i0 : ((i : Int) < (65 : Int)) = False := eq_false (by omega)
      have he : i = 65 := by have := HN.out; omega
      have hM := HM.out
      rw [he, List.take_of_length_le (by rw [rows_len]; exact Nat.le_refl _)] at hM
      have HM := Aside0.mk hM
      clear hM
      rcases HQ.out with rfl | rfl
      · obtain ⟨rfl, rfl, rfl, rfl, rfl, rfl⟩ : 22 = r1 ∧ 0 = r2 ∧ 0 = r3 ∧ 0 = r4 ∧ 0 = r5 ∧ true = r6 := by simpa [inst_Decode.f] using HF.out
        have hkd := fun w => inst_keyed.calls 8 19 19 0 0 w (by kernel_rfl)
        go_wp2_with fail
        refine (hkd _).mono ?_
        rintro e w6 ⟨rfl, hb6⟩
        have HM6 := Aside0.mk (HM.out.kept (grown_of_below hb6 none) (by simp))
        have HB6 := Aside0.mk (below_then HB.out HB.out.size hb6)
        have HX6 := Aside0.mk ((hb6.block _ (Array.getElem?_eq_some_iff.1 HX.out).1).trans HX.out)
        clear hb6 hkd
        go_wp2_with (at_lookup; refine wpList_lookup_own_ok _ rfl _ _ 38 rfl 44 42 lawKey Try.underlying38 rowR (zeroR _) (rowD z42) [] rfl (w.heap.size + 1) _ _ rfl HM6.out _ (keyLit (19, 0, 0)) rfl key_addi ?_; intro v ps hv; rw [at_addi] at hv; rw [has_addi]; (obtain rfl : v = .agg #[.int .i64 22, .int .i64 1, .string ⟨#[97, 100, 100, 105]⟩, .int .u32 19, .int .u32 0, .int .u32 0, .bool false, .bool false] := row_of hv))
        obtain ⟨w7, hw7⟩ : ∃ w7, w6.alloc (.cells #[.int .i64 22, .int .i64 1, .string ⟨#[97, 100, 100, 105]⟩, .int .u32 19, .int .u32 0, .int .u32 0, .bool false, .bool false] 42) = w7 := ⟨_, rfl⟩
        obtain ⟨gp, hgp⟩ : ∃ gp, w6.heap.size = gp := ⟨_, rfl⟩
        have hAL := below_alloc (Below.refl w6.heap.size w6) (.cells #[.int .i64 22, .int .i64 1, .string ⟨#[97, 100, 100, 105]⟩, .int .u32 19, .int .u32 0, .int .u32 0, .bool false, .bool false] 42)
        have hp7 : w7.heap[gp]? = some (.cells #[.int .i64 22, .int .i64 1, .string ⟨#[97, 100, 100, 105]⟩, .int .u32 19, .int .u32 0, .int .u32 0, .bool false, .bool false] 42 (0, 0)) := by rw [← hw7, ← hgp]; exact heap_new w6 _
        have hx7 : w7.heap[w.heap.size]? = some (.cells #[.int .i64 0, .int .i64 0, .int .i64 0, .int .i64 0, .int .i64 0] 25 (0, 0)) := by
          rw [← hw7]; exact (hAL.block _ (Array.getElem?_eq_some_iff.1 HX6.out).1).trans HX6.out
        have hB7 : Below w.heap.size w w7 := by rw [← hw7]; exact below_then HB6.out HB6.out.size hAL
        rw [hw7, hgp]
        clear hw7 hAL
        have hget := fun w => imm_Get.calls 8 1 19 0 w (by kernel_rfl)
        have z0 : w7.cell? ⟨gp, 0, none⟩ = some (.int .i64 22) := blk_cell hp7 0
        have z1 : w7.cell? ⟨gp, 1, none⟩ = some (.int .i64 1) := blk_cell hp7 1
        have z0a : ∀ o, (w7.alloc o).cell? ⟨gp, 0, none⟩ = some (.int .i64 22) := fun o => pw_cell_below (below_alloc (Below.refl _ _) o) z0
        have z1a : ∀ o, (w7.alloc o).cell? ⟨gp, 1, none⟩ = some (.int .i64 1) := fun o => pw_cell_below (below_alloc (Below.refl _ _) o) z1
        go_region_law (first
          | (go_simp
             with_reducible refine (hget (w7.alloc (.cells #[.int .i64 0, .int .i64 0, .int .i64 0, .int .i64 0, .int .i64 0] 25)).drew).mono ?_
             rintro _ w8 ⟨rfl, hb8⟩
             have y0 := pw_cell_below hb8 (z0a (.cells #[.int .i64 0, .int .i64 0, .int .i64 0, .int .i64 0, .int .i64 0] 25))
             have y1 := pw_cell_below hb8 (z1a (.cells #[.int .i64 0, .int .i64 0, .int .i64 0, .int .i64 0, .int .i64 0] 25))
             have hb78 : Below w7.heap.size w7 w8 := below_step (below_drew (below_alloc (Below.refl w7.heap.size w7) (.cells #[.int .i64 0, .int .i64 0, .int .i64 0, .int .i64 0, .int .i64 0] 25))) hb8
             have hq8 : w8.heap[w7.heap.size]? = some (.cells #[.int .i64 0, .int .i64 0, .int .i64 0, .int .i64 0, .int .i64 0] 25 (0, 0)) := (hb8.block w7.heap.size (by show _ < (w7.alloc _).heap.size; rw [size_alloc]; omega)).trans (heap_new w7 _)
             obtain ⟨c0, c1, c2, c3, c4, f0, f1, f2, f3, f4, hset⟩ := five hq8)
          | (go_simp
             with_reducible refine (hget w7.drew).mono ?_
             rintro _ w8 ⟨rfl, hb8⟩
             have y0 := pw_cell_below hb8 (show w7.drew.cell? _ = _ from z0)
             have y1 := pw_cell_below hb8 (show w7.drew.cell? _ = _ from z1)
             have y0a : ∀ o, (w8.alloc o).cell? ⟨gp, 0, none⟩ = some (.int .i64 22) := fun o => pw_cell_below (below_alloc (Below.refl _ _) o) y0
             have hb78 : Below w7.heap.size w7 w8 := below_step (below_drew (Below.refl _ _)) hb8))
        all_goals
          have hp8 := (hb78.block gp (blk_lt hp7)).trans hp7
          have hx8 := (hb78.block w.heap.size (blk_lt hx7)).trans hx7
          have hB8 := below_then hB7 hB7.size hb78
          have hxl : w.heap.size < w7.heap.size := blk_lt hx7
          have hgl : gp < w7.heap.size := blk_lt hp7
          have h78 := hb78.size
          first
            | (obtain ⟨W, hW⟩ : ∃ W, w8.alloc (.cells #[.int .i64 22, .int .i64 0, .int .i64 0, .int .i64 0, .int .i64 0] 25) = W := ⟨_, rfl⟩
               rw [hW]
               obtain ⟨q, hq⟩ : ∃ q, w8.heap.size = q := ⟨_, rfl⟩
               rw [hq]
               have hpW : W.heap[gp]? = some (.cells #[.int .i64 22, .int .i64 1, .string ⟨#[97, 100, 100, 105]⟩, .int .u32 19, .int .u32 0, .int .u32 0, .bool false, .bool false] 42 (0, 0)) := by rw [← hW]; exact ((below_alloc (Below.refl w8.heap.size w8) _).block gp (by omega)).trans hp8
               have hxW : W.heap[w.heap.size]? = some (.cells #[.int .i64 0, .int .i64 0, .int .i64 0, .int .i64 0, .int .i64 0] 25 (0, 0)) := by rw [← hW]; exact ((below_alloc (Below.refl w8.heap.size w8) _).block w.heap.size (by omega)).trans hx8
               have hqW : W.heap[q]? = some (.cells #[.int .i64 22, .int .i64 0, .int .i64 0, .int .i64 0, .int .i64 0] 25 (0, 0)) := by rw [← hW, ← hq]; exact heap_new w8 _
               have hBW : Below w.heap.size w W := by rw [← hW]; exact below_then hB8 hB8.size (below_alloc (Below.refl w8.heap.size w8) _)
               have hxq : w.heap.size ≠ q := by omega
               have hgq : gp ≠ q := by omega
               have hql : w.heap.size ≤ q := by omega
            )
            | (obtain ⟨W, hW⟩ : ∃ W, (((((w8.setCell ⟨w7.heap.size, 0, none⟩ (.int .i64 22)).setCell ⟨w7.heap.size, 1, none⟩ (.int .i64 0)).setCell ⟨w7.heap.size, 2, none⟩ (.int .i64 0)).setCell ⟨w7.heap.size, 3, none⟩ (.int .i64 0)).setCell ⟨w7.heap.size, 4, none⟩ (.int .i64 0)) = W := ⟨_, rfl⟩
               rw [hW]
               obtain ⟨q, hq⟩ : ∃ q, w7.heap.size = q := ⟨_, rfl⟩
               rw [hq]
               have hpW : W.heap[gp]? = some (.cells #[.int .i64 22, .int .i64 1, .string ⟨#[97, 100, 100, 105]⟩, .int .u32 19, .int .u32 0, .int .u32 0, .bool false, .bool false] 42 (0, 0)) := by rw [← hW]; exact blk_far (blk_far (blk_far (blk_far (blk_far hp8 (Nat.ne_of_lt hgl) _) (Nat.ne_of_lt hgl) _) (Nat.ne_of_lt hgl) _) (Nat.ne_of_lt hgl) _) (Nat.ne_of_lt hgl) _
               have hxW : W.heap[w.heap.size]? = some (.cells #[.int .i64 0, .int .i64 0, .int .i64 0, .int .i64 0, .int .i64 0] 25 (0, 0)) := by rw [← hW]; exact blk_far (blk_far (blk_far (blk_far (blk_far hx8 (Nat.ne_of_lt hxl) _) (Nat.ne_of_lt hxl) _) (Nat.ne_of_lt hxl) _) (Nat.ne_of_lt hxl) _) (Nat.ne_of_lt hxl) _
               have hqW : W.heap[q]? = some (.cells #[.int .i64 22, .int .i64 0, .int .i64 0, .int .i64 0, .int .i64 0] 25 (0, 0)) := by rw [← hW, ← hq]; exact hset (.int .i64 22) (.int .i64 0) (.int .i64 0) (.int .i64 0) (.int .i64 0)
               have hBW : Below w.heap.size w W := by rw [← hW]; exact below_set (below_set (below_set (below_set (below_set hB8 (Nat.le_of_lt hxl)) (Nat.le_of_lt hxl)) (Nat.le_of_lt hxl)) (Nat.le_of_lt hxl)) (Nat.le_of_lt hxl)
               have hxq : w.heap.size ≠ q := by omega
               have hgq : gp ≠ q := by omega
               have hql : w.heap.size ≤ q := by omega
            )
          have HPW := Aside0.mk hpW
          have HXW := Aside0.mk hxW
          have HQW := Aside0.mk hqW
          have HBW := Aside0.mk hBW
          have hhas0 := fun w => inst_has.calls 1 0 true w rfl
          have hhas1 := fun w => inst_has.calls 1 1 true w rfl
          have hhas2 := fun w => inst_has.calls 1 2 false w rfl
          have hreg7 := fun w => inst_reg.calls 19 7 0 w (by kernel_rfl)
          have hreg15 := fun w => inst_reg.calls 19 15 0 w (by kernel_rfl)
          have p1 := blk_cell hpW 1
          have p6 := blk_cell hpW 6
          have p7 := blk_cell hpW 7
          clear hW hq hpW hxW hqW hBW hp8 hx8 hB8 hb78 hb8 h78
          go_wp2_with fail
          refine (hhas0 _).mono ?_
          rintro e W1 ⟨rfl, hd⟩
          have HP1 := Aside0.mk ((hd.below.block gp (blk_lt HPW.out)).trans HPW.out)
          have HX1 := Aside0.mk ((hd.below.block _ (blk_lt HXW.out)).trans HXW.out)
          have HQ1 := Aside0.mk ((hd.below.block q (blk_lt HQW.out)).trans HQW.out)
          have HB1 := Aside0.mk (below_then HBW.out HBW.out.size hd.below)
          clear hd
          go_wp2_with fail
          refine (hreg7 _).mono ?_
          rintro e W2 ⟨rfl, hd⟩
          have HP2 := Aside0.mk ((hd.below.block gp (blk_lt HP1.out)).trans HP1.out)
          have HX2 := Aside0.mk ((hd.below.block _ (blk_lt HX1.out)).trans HX1.out)
          have HQ2 := Aside0.mk ((hd.below.block q (blk_lt HQ1.out)).trans HQ1.out)
          have HB2 := Aside0.mk (below_then HB1.out HB1.out.size hd.below)
          have c21 : W2.cell? ⟨q, 1, none⟩ = some (.int .i64 0) := blk_cell HQ2.out 1
          have f21 := blk_frozen HQ2.out 1
          have HQ3 := Aside0.mk (blk_set HQ2.out 1 (.int .i64 0))
          have HP3 := Aside0.mk (blk_far (p := ⟨q, 1, none⟩) HP2.out hgq (.int .i64 0))
          have HX3 := Aside0.mk (blk_far (p := ⟨q, 1, none⟩) HX2.out hxq (.int .i64 0))
          have HB3 := Aside0.mk (below_set (g := q) (j := 1) (v := .int .i64 0) HB2.out hql)
          have p31 : (W2.setCell ⟨q, 1, none⟩ (.int .i64 0)).cell? ⟨gp, 1, none⟩ = some (.int .i64 1) := blk_cell HP3.out 1
          clear hd
          go_wp2_with fail
          refine (hhas1 _).mono ?_
          rintro e W4 ⟨rfl, hd⟩
          have HP4 := Aside0.mk ((hd.below.block gp (blk_lt HP3.out)).trans HP3.out)
          have HX4 := Aside0.mk ((hd.below.block _ (blk_lt HX3.out)).trans HX3.out)
          have HQ4 := Aside0.mk ((hd.below.block q (blk_lt HQ3.out)).trans HQ3.out)
          have HB4 := Aside0.mk (below_then HB3.out HB3.out.size hd.below)
          clear hd
          go_wp2_with fail
          refine (hreg15 _).mono ?_
          rintro e W5 ⟨rfl, hd⟩
          have HP5 := Aside0.mk ((hd.below.block gp (blk_lt HP4.out)).trans HP4.out)
          have HX5 := Aside0.mk ((hd.below.block _ (blk_lt HX4.out)).trans HX4.out)
          have HQ5 := Aside0.mk ((hd.below.block q (blk_lt HQ4.out)).trans HQ4.out)
          have HB5 := Aside0.mk (below_then HB4.out HB4.out.size hd.below)
          have c52 : W5.cell? ⟨q, 2, none⟩ = some (.int .i64 0) := blk_cell HQ5.out 2
          have f52 := blk_frozen HQ5.out 2
          have HQ8 := Aside0.mk (blk_set HQ5.out 2 (.int .i64 0))
          have HP8 := Aside0.mk (blk_far (p := ⟨q, 2, none⟩) HP5.out hgq (.int .i64 0))
          have HX8 := Aside0.mk (blk_far (p := ⟨q, 2, none⟩) HX5.out hxq (.int .i64 0))
          have HB8 := Aside0.mk (below_set (g := q) (j := 2) (v := .int .i64 0) HB5.out hql)
          have p81 : (W5.setCell ⟨q, 2, none⟩ (.int .i64 0)).cell? ⟨gp, 1, none⟩ = some (.int .i64 1) := blk_cell HP8.out 1
          clear hd
          go_wp2_with fail
          refine (hhas2 _).mono ?_
          rintro e W9 ⟨rfl, hd⟩
          have HX9 := Aside0.mk ((hd.below.block _ (blk_lt HX8.out)).trans HX8.out)
          have HQ9 := Aside0.mk ((hd.below.block q (blk_lt HQ8.out)).trans HQ8.out)
          have HB9 := Aside0.mk (below_then HB8.out HB8.out.size hd.below)
          have d0 : W9.cell? ⟨q, 0, none⟩ = some (.int .i64 22) := blk_cell HQ9.out 0
          have d1 : W9.cell? ⟨q, 1, none⟩ = some (.int .i64 0) := blk_cell HQ9.out 1
          have d2 : W9.cell? ⟨q, 2, none⟩ = some (.int .i64 0) := blk_cell HQ9.out 2
          have d3 : W9.cell? ⟨q, 3, none⟩ = some (.int .i64 0) := blk_cell HQ9.out 3
          have d4 : W9.cell? ⟨q, 4, none⟩ = some (.int .i64 0) := blk_cell HQ9.out 4
          obtain ⟨k0, k1, k2, k3, k4, m0, m1, m2, m3, m4, hres⟩ := five HX9.out
          have HRES := Aside0.mk hres
          clear hd hres
          go_wp2_with fail
          refine bodyPost_ret (results_ct rfl _ _ w.heap.size 25 #[.int .i64 22, .int .i64 0, .int .i64 0, .int .i64 0, .int .i64 0] (0, 0) _ rfl (HRES.out _ _ _ _ _) Try.underlying25 rfl (by kernel_rfl)) rfl ?_
          exact ⟨rfl, below_set (below_set (below_set (below_set (below_set HB9.out (Nat.le_refl _)) (Nat.le_refl _)) (Nat.le_refl _)) (Nat.le_refl _)) (Nat.le_refl _)⟩
      · obtain ⟨rfl, rfl, rfl, rfl, rfl, rfl⟩ : 0 = r1 ∧ 0 = r2 ∧ 0 = r3 ∧ 0 = r4 ∧ 0 = r5 ∧ false = r6 := by simpa [inst_Decode.f] using HF.out
        have hkd := fun w => inst_keyed.calls 8 0 0 0 0 w (by kernel_rfl)
        go_wp2_with fail
        refine (hkd _).mono ?_
        rintro e w6 ⟨rfl, hb6⟩
        have HM6 := Aside0.mk (HM.out.kept (grown_of_below hb6 none) (by simp))
        have HB6 := Aside0.mk (below_then HB.out HB.out.size hb6)
        have HX6 := Aside0.mk ((hb6.block _ (Array.getElem?_eq_some_iff.1 HX.out).1).trans HX.out)
        clear hb6 hkd
        have hx7 := fun o => ((below_alloc (Below.refl w6.heap.size w6) o).block _ (Array.getElem?_eq_some_iff.1 HX6.out).1).trans HX6.out
        have hf := fun o => five (hx7 o)
        have c0 := fun o => (hf o).1
        have c1 := fun o => (hf o).2.1
        have c2 := fun o => (hf o).2.2.1
        have c3 := fun o => (hf o).2.2.2.1
        have c4 := fun o => (hf o).2.2.2.2.1
        have f0 := fun o => (hf o).2.2.2.2.2.1
        have f1 := fun o => (hf o).2.2.2.2.2.2.1
        have f2 := fun o => (hf o).2.2.2.2.2.2.2.1
        have f3 := fun o => (hf o).2.2.2.2.2.2.2.2.1
        have f4 := fun o => (hf o).2.2.2.2.2.2.2.2.2.1
        have HF5 := Aside0.mk (fun o => (hf o).2.2.2.2.2.2.2.2.2.2)
        clear hf hx7
        go_wp2_with (at_lookup; refine wpList_lookup_own_ok _ rfl _ _ 38 rfl 44 42 lawKey Try.underlying38 rowR (zeroR _) (rowD z42) [] rfl (w.heap.size + 1) _ _ rfl HM6.out _ (keyLit (0, 0, 0)) rfl key_none ?_; intro v ps hv; rw [at_none] at hv; rw [has_none]; (obtain rfl : v = .agg #[.int .i64 0, .int .i64 0, .string ⟨#[]⟩, .int .u32 0, .int .u32 0, .int .u32 0, .bool false, .bool false] := row_of hv))
        refine bodyPost_ret (results_ct rfl _ _ w.heap.size 25 #[.int .i64 0, .int .i64 0, .int .i64 0, .int .i64 0, .int .i64 0] (0, 0) _ rfl (HF5.out _ _ _ _ _ _) Try.underlying25 rfl (by kernel_rfl)) rfl ?_
        refine ⟨rfl, ?_⟩
        have hAL := fun o => below_then HB6.out HB6.out.size (below_alloc (Below.refl w6.heap.size w6) o)
        exact below_set (below_set (below_set (below_set (below_set (hAL _) (Nat.le_refl _)) (Nat.le_refl _)) (Nat.le_refl _)) (Nat.le_refl _)) (Nat.le_refl _)
end

/-! ### inst_find: function 26 -/
def inst_find.f (a0 : Int) : Option (Int × Int × ByteArray × Int × Int × Int × Bool × Bool × Bool) := (inst_rows.f).bind fun t129 => (if a0 < 1 then (some (0, 0, (⟨#[]⟩ : ByteArray), 0, 0, 0, false, false, false)) else (if a0 > (t129.length : Int) then (some (0, 0, (⟨#[]⟩ : ByteArray), 0, 0, 0, false, false, false)) else (if 0 ≤ (wrap64 (a0 - 1)) then (if (wrap64 (a0 - 1)) < (t129.length : Int) then (some ((rd_T42 t129 (wrap64 (a0 - 1))).f0, (rd_T42 t129 (wrap64 (a0 - 1))).f1, (rd_T42 t129 (wrap64 (a0 - 1))).f2, (rd_T42 t129 (wrap64 (a0 - 1))).f3, (rd_T42 t129 (wrap64 (a0 - 1))).f4, (rd_T42 t129 (wrap64 (a0 - 1))).f5, (rd_T42 t129 (wrap64 (a0 - 1))).f6, (rd_T42 t129 (wrap64 (a0 - 1))).f7, true)) else (none)) else (none))))
set_option maxHeartbeats 8000000 in
set_option maxRecDepth 100000 in
theorem inst_find.calls (a0 : Int) (r1 : Int) (r2 : Int) (r3 : ByteArray) (r4 : Int) (r5 : Int) (r6 : Int) (r7 : Bool) (r8 : Bool) (r9 : Bool) (w : World) (h : inst_find.f a0 = some (r1, r2, r3, r4, r5, r6, r7, r8, r9)) :
    Calls Try.prog 26 #[.int .i64 a0] w fun e w' => e = .returned (.tuple #[.agg #[.int .i64 r1, .int .i64 r2, .string r3, .int .u32 r4, .int .u32 r5, .int .u32 r6, .bool r7, .bool r8], .bool r9]) ∧ Below w.heap.size w w' := by
  have hu42 := Try.underlying42
  have HB := Aside0.mk (Below.refl w.heap.size w)
  have H : ((inst_rows.f).bind fun t129 => (if a0 < 1 then (some (0, 0, (⟨#[]⟩ : ByteArray), 0, 0, 0, false, false, false)) else (if a0 > (t129.length : Int) then (some (0, 0, (⟨#[]⟩ : ByteArray), 0, 0, 0, false, false, false)) else (if 0 ≤ (wrap64 (a0 - 1)) then (if (wrap64 (a0 - 1)) < (t129.length : Int) then (some ((rd_T42 t129 (wrap64 (a0 - 1))).f0, (rd_T42 t129 (wrap64 (a0 - 1))).f1, (rd_T42 t129 (wrap64 (a0 - 1))).f2, (rd_T42 t129 (wrap64 (a0 - 1))).f3, (rd_T42 t129 (wrap64 (a0 - 1))).f4, (rd_T42 t129 (wrap64 (a0 - 1))).f5, (rd_T42 t129 (wrap64 (a0 - 1))).f6, (rd_T42 t129 (wrap64 (a0 - 1))).f7, true)) else (none)) else (none))))) = some (r1, r2, r3, r4, r5, r6, r7, r8, r9) := h
  clear h
  replace H := Option.bind_eq_some_iff.mp H
  obtain ⟨t129, A20, H⟩ := H
  replace H : (if a0 < 1 then (some (0, 0, (⟨#[]⟩ : ByteArray), 0, 0, 0, false, false, false)) else (if a0 > (t129.length : Int) then (some (0, 0, (⟨#[]⟩ : ByteArray), 0, 0, 0, false, false, false)) else (if 0 ≤ (wrap64 (a0 - 1)) then (if (wrap64 (a0 - 1)) < (t129.length : Int) then (some ((rd_T42 t129 (wrap64 (a0 - 1))).f0, (rd_T42 t129 (wrap64 (a0 - 1))).f1, (rd_T42 t129 (wrap64 (a0 - 1))).f2, (rd_T42 t129 (wrap64 (a0 - 1))).f3, (rd_T42 t129 (wrap64 (a0 - 1))).f4, (rd_T42 t129 (wrap64 (a0 - 1))).f5, (rd_T42 t129 (wrap64 (a0 - 1))).f6, (rd_T42 t129 (wrap64 (a0 - 1))).f7, true)) else (none)) else (none)))) = some (r1, r2, r3, r4, r5, r6, r7, r8, r9) := H
  have A2 := Aside0.mk A20
  clear A20
  by_cases c3 : a0 < 1
  · rw [if_pos c3] at H
    have c3b0 : decide (a0 < 1) = true := decide_eq_true c3
    clear c3
    simp only [Option.some.injEq, Prod.mk.injEq] at H
    obtain ⟨rfl, rfl, rfl, rfl, rfl, rfl, rfl, rfl, rfl⟩ := H
    go_enter Try.func26, Try.ntmps26
    go_wp2_with (first | ((with_reducible refine gate_dst (N := 2) rfl ?_); (try (refine gate_guard (by rfl) ?_; dsimp only)); refine box_event ?hg (N := 2) ?hd (cs := #[.int .i64 0, .int .i64 0, .string (⟨#[]⟩ : ByteArray), .int .u32 0, .int .u32 0, .int .u32 0, .bool false, .bool false]) (t := 42) ?hr ?_; (case hd => rfl); (case hg => rfl); (case hr => first | (go_simp; done) | (go_simp; rfl)); intro gb128 hg w4 hbox hb; have n0_ := Aside0.mk (below_step (by repeat (first | (with_reducible first | exact HB.out | apply below_alloc | apply pw_below_drewN | apply below_drew1) | exact HB.out)) hb); have n1_ := Aside0.mk (hbox); have n2_ := Aside0.mk ((by rw [hg]; exact (below_size (by repeat (first | (with_reducible first | exact HB.out | apply below_alloc | apply pw_below_drewN | apply below_drew1) | exact HB.out))) : w.heap.size ≤ gb128)); have n3_ := Aside0.mk ((by rw [hg]; exact (below_size (by repeat (first | (with_reducible first | exact HB.out | apply below_alloc | apply pw_below_drewN | apply below_drew1) | exact HB.out))) : w.heap.size ≤ gb128)); clear HB; have HB := n0_; have BK128 := n1_; have GW128 := n2_; have GE128 := n3_; clear n0_ n1_ n2_ n3_; clear hb hbox hg) | ((with_reducible refine gate_callee (f := 14) rfl ?_); refine goesL_ (some 5) rfl rfl Try.func14 (by kernel_rfl) rfl #[] rfl (by (try simp only [List.map_toArray, List.map_cons, List.map_nil]); first | done | rfl | (simp only [List.length_drop, List.length_take]; rfl)) ?_; (with_reducible refine (inst_rows.calls  t129 _ A2.out).mono ?_); rintro e w5 ⟨v130, rfl, ho0, hb⟩; refine ⟨_, rfl, ?_⟩; have n0_ := Aside0.mk (Kd.R_lower (Kd.R_newB ho0 (g := gb128) (o := .cells #[.int .i64 0, .int .i64 0, .string (⟨#[]⟩ : ByteArray), .int .u32 0, .int .u32 0, .int .u32 0, .bool false, .bool false] 42 (0, 0)) (by (with_reducible repeat (first | refine blk_drewN ?_ _ | refine blk_drew ?_ | refine blk_alloc ?_ _)); exact BK128.out)) (below_size (by repeat (first | (with_reducible first | exact HB.out | apply below_alloc | apply pw_below_drewN | apply below_drew1 | refine below_set ?_ GE128.out) | exact HB.out)))); have n1_ := Aside0.mk (blk_below (g := gb128) (o := .cells #[.int .i64 0, .int .i64 0, .string (⟨#[]⟩ : ByteArray), .int .u32 0, .int .u32 0, .int .u32 0, .bool false, .bool false] 42 (0, 0)) (by (with_reducible repeat (first | refine blk_drewN ?_ _ | refine blk_drew ?_ | refine blk_alloc ?_ _)); exact BK128.out) hb); have n2_ := Aside0.mk (below_step (by repeat (first | (with_reducible first | exact HB.out | apply below_alloc | apply pw_below_drewN | apply below_drew1 | refine below_set ?_ GE128.out) | exact HB.out)) hb); clear BK128; clear HB; have HO131 := n0_; have BK128 := n1_; have HB := n2_; clear n0_ n1_ n2_; (try clear hb); (try clear hb2); (try clear hk); (try clear hi); (try clear ho0); have hcz6_0 : w5.cell? ⟨gb128, 0, none⟩ = some (.int .i64 0) := (blk_cell BK128.out 0).trans rfl; have hcz6_1 : w5.cell? ⟨gb128, 1, none⟩ = some (.int .i64 0) := (blk_cell BK128.out 1).trans rfl; have hcz6_2 : w5.cell? ⟨gb128, 2, none⟩ = some (.string (⟨#[]⟩ : ByteArray)) := (blk_cell BK128.out 2).trans rfl; have hcz6_3 : w5.cell? ⟨gb128, 3, none⟩ = some (.int .u32 0) := (blk_cell BK128.out 3).trans rfl; have hcz6_4 : w5.cell? ⟨gb128, 4, none⟩ = some (.int .u32 0) := (blk_cell BK128.out 4).trans rfl; have hcz6_5 : w5.cell? ⟨gb128, 5, none⟩ = some (.int .u32 0) := (blk_cell BK128.out 5).trans rfl; have hcz6_6 : w5.cell? ⟨gb128, 6, none⟩ = some (.bool false) := (blk_cell BK128.out 6).trans rfl; have hcz6_7 : w5.cell? ⟨gb128, 7, none⟩ = some (.bool false) := (blk_cell BK128.out 7).trans rfl; have hfz6_0 := blk_frozen BK128.out 0; have hfz6_1 := blk_frozen BK128.out 1; have hfz6_2 := blk_frozen BK128.out 2; have hfz6_3 := blk_frozen BK128.out 3; have hfz6_4 := blk_frozen BK128.out 4; have hfz6_5 := blk_frozen BK128.out 5; have hfz6_6 := blk_frozen BK128.out 6; have hfz6_7 := blk_frozen BK128.out 7))
    refine bodyPost_ret (results_ct rfl _ _ gb128 42 #[.int .i64 0, .int .i64 0, .string (⟨#[]⟩ : ByteArray), .int .u32 0, .int .u32 0, .int .u32 0, .bool false, .bool false] (0, 0) _ rfl (by (with_reducible repeat (first | refine blk_drewN ?_ _ | refine blk_drew ?_ | refine blk_alloc ?_ _)); refine blk_put (cs := #[.int .i64 0, .int .i64 0, .string (⟨#[]⟩ : ByteArray), .int .u32 0, .int .u32 0, .int .u32 0, .bool false, .bool false]) ?_ 7 _ rfl; (with_reducible repeat (first | refine blk_drewN ?_ _ | refine blk_drew ?_ | refine blk_alloc ?_ _)); refine blk_put (cs := #[.int .i64 0, .int .i64 0, .string (⟨#[]⟩ : ByteArray), .int .u32 0, .int .u32 0, .int .u32 0, .bool false, .bool false]) ?_ 6 _ rfl; (with_reducible repeat (first | refine blk_drewN ?_ _ | refine blk_drew ?_ | refine blk_alloc ?_ _)); refine blk_put (cs := #[.int .i64 0, .int .i64 0, .string (⟨#[]⟩ : ByteArray), .int .u32 0, .int .u32 0, .int .u32 0, .bool false, .bool false]) ?_ 5 _ rfl; (with_reducible repeat (first | refine blk_drewN ?_ _ | refine blk_drew ?_ | refine blk_alloc ?_ _)); refine blk_put (cs := #[.int .i64 0, .int .i64 0, .string (⟨#[]⟩ : ByteArray), .int .u32 0, .int .u32 0, .int .u32 0, .bool false, .bool false]) ?_ 4 _ rfl; (with_reducible repeat (first | refine blk_drewN ?_ _ | refine blk_drew ?_ | refine blk_alloc ?_ _)); refine blk_put (cs := #[.int .i64 0, .int .i64 0, .string (⟨#[]⟩ : ByteArray), .int .u32 0, .int .u32 0, .int .u32 0, .bool false, .bool false]) ?_ 3 _ rfl; (with_reducible repeat (first | refine blk_drewN ?_ _ | refine blk_drew ?_ | refine blk_alloc ?_ _)); refine blk_put (cs := #[.int .i64 0, .int .i64 0, .string (⟨#[]⟩ : ByteArray), .int .u32 0, .int .u32 0, .int .u32 0, .bool false, .bool false]) ?_ 2 _ rfl; (with_reducible repeat (first | refine blk_drewN ?_ _ | refine blk_drew ?_ | refine blk_alloc ?_ _)); refine blk_put (cs := #[.int .i64 0, .int .i64 0, .string (⟨#[]⟩ : ByteArray), .int .u32 0, .int .u32 0, .int .u32 0, .bool false, .bool false]) ?_ 1 _ rfl; (with_reducible repeat (first | refine blk_drewN ?_ _ | refine blk_drew ?_ | refine blk_alloc ?_ _)); refine blk_put (cs := #[.int .i64 0, .int .i64 0, .string (⟨#[]⟩ : ByteArray), .int .u32 0, .int .u32 0, .int .u32 0, .bool false, .bool false]) ?_ 0 _ rfl; (with_reducible repeat (first | refine blk_drewN ?_ _ | refine blk_drew ?_ | refine blk_alloc ?_ _)); exact BK128.out) Try.underlying42 rfl (by kernel_rfl)) rfl ?_
    exact ⟨by first | rfl | (simp [errW_none, errW_some] <;> rfl) | (simp [*, errW_none, errW_some] <;> rfl), by repeat (first | (with_reducible first | exact HB.out | apply below_alloc | apply pw_below_drewN | apply below_drew1 | refine below_set ?_ GE128.out) | exact HB.out)⟩
  · rw [if_neg c3] at H
    have c3b0 : decide (a0 < 1) = false := decide_eq_false c3
    clear c3
    by_cases c7 : a0 > (t129.length : Int)
    · rw [if_pos c7] at H
      have c7b0 : decide ((t129.length : Int) < a0) = true := decide_eq_true c7
      clear c7
      simp only [Option.some.injEq, Prod.mk.injEq] at H
      obtain ⟨rfl, rfl, rfl, rfl, rfl, rfl, rfl, rfl, rfl⟩ := H
      go_enter Try.func26, Try.ntmps26
      go_wp2_with (first | ((with_reducible refine gate_dst (N := 2) rfl ?_); (try (refine gate_guard (by rfl) ?_; dsimp only)); refine box_event ?hg (N := 2) ?hd (cs := #[.int .i64 0, .int .i64 0, .string (⟨#[]⟩ : ByteArray), .int .u32 0, .int .u32 0, .int .u32 0, .bool false, .bool false]) (t := 42) ?hr ?_; (case hd => rfl); (case hg => rfl); (case hr => first | (go_simp; done) | (go_simp; rfl)); intro gb128 hg w8 hbox hb; have n0_ := Aside0.mk (below_step (by repeat (first | (with_reducible first | exact HB.out | apply below_alloc | apply pw_below_drewN | apply below_drew1) | exact HB.out)) hb); have n1_ := Aside0.mk (hbox); have n2_ := Aside0.mk ((by rw [hg]; exact (below_size (by repeat (first | (with_reducible first | exact HB.out | apply below_alloc | apply pw_below_drewN | apply below_drew1) | exact HB.out))) : w.heap.size ≤ gb128)); have n3_ := Aside0.mk ((by rw [hg]; exact (below_size (by repeat (first | (with_reducible first | exact HB.out | apply below_alloc | apply pw_below_drewN | apply below_drew1) | exact HB.out))) : w.heap.size ≤ gb128)); clear HB; have HB := n0_; have BK128 := n1_; have GW128 := n2_; have GE128 := n3_; clear n0_ n1_ n2_ n3_; clear hb hbox hg) | ((with_reducible refine gate_callee (f := 14) rfl ?_); refine goesL_ (some 5) rfl rfl Try.func14 (by kernel_rfl) rfl #[] rfl (by (try simp only [List.map_toArray, List.map_cons, List.map_nil]); first | done | rfl | (simp only [List.length_drop, List.length_take]; rfl)) ?_; (with_reducible refine (inst_rows.calls  t129 _ A2.out).mono ?_); rintro e w9 ⟨v130, rfl, ho0, hb⟩; refine ⟨_, rfl, ?_⟩; have n0_ := Aside0.mk (Kd.R_lower (Kd.R_newB ho0 (g := gb128) (o := .cells #[.int .i64 0, .int .i64 0, .string (⟨#[]⟩ : ByteArray), .int .u32 0, .int .u32 0, .int .u32 0, .bool false, .bool false] 42 (0, 0)) (by (with_reducible repeat (first | refine blk_drewN ?_ _ | refine blk_drew ?_ | refine blk_alloc ?_ _)); exact BK128.out)) (below_size (by repeat (first | (with_reducible first | exact HB.out | apply below_alloc | apply pw_below_drewN | apply below_drew1 | refine below_set ?_ GE128.out) | exact HB.out)))); have n1_ := Aside0.mk (blk_below (g := gb128) (o := .cells #[.int .i64 0, .int .i64 0, .string (⟨#[]⟩ : ByteArray), .int .u32 0, .int .u32 0, .int .u32 0, .bool false, .bool false] 42 (0, 0)) (by (with_reducible repeat (first | refine blk_drewN ?_ _ | refine blk_drew ?_ | refine blk_alloc ?_ _)); exact BK128.out) hb); have n2_ := Aside0.mk (below_step (by repeat (first | (with_reducible first | exact HB.out | apply below_alloc | apply pw_below_drewN | apply below_drew1 | refine below_set ?_ GE128.out) | exact HB.out)) hb); clear BK128; clear HB; have HO131 := n0_; have BK128 := n1_; have HB := n2_; clear n0_ n1_ n2_; (try clear hb); (try clear hb2); (try clear hk); (try clear hi); (try clear ho0); obtain ⟨Ao10, co10, eo10⟩ := Kd.R_slice HO131.out; subst eo10; have hcz11_0 : w9.cell? ⟨gb128, 0, none⟩ = some (.int .i64 0) := (blk_cell BK128.out 0).trans rfl; have hcz11_1 : w9.cell? ⟨gb128, 1, none⟩ = some (.int .i64 0) := (blk_cell BK128.out 1).trans rfl; have hcz11_2 : w9.cell? ⟨gb128, 2, none⟩ = some (.string (⟨#[]⟩ : ByteArray)) := (blk_cell BK128.out 2).trans rfl; have hcz11_3 : w9.cell? ⟨gb128, 3, none⟩ = some (.int .u32 0) := (blk_cell BK128.out 3).trans rfl; have hcz11_4 : w9.cell? ⟨gb128, 4, none⟩ = some (.int .u32 0) := (blk_cell BK128.out 4).trans rfl; have hcz11_5 : w9.cell? ⟨gb128, 5, none⟩ = some (.int .u32 0) := (blk_cell BK128.out 5).trans rfl; have hcz11_6 : w9.cell? ⟨gb128, 6, none⟩ = some (.bool false) := (blk_cell BK128.out 6).trans rfl; have hcz11_7 : w9.cell? ⟨gb128, 7, none⟩ = some (.bool false) := (blk_cell BK128.out 7).trans rfl; have hfz11_0 := blk_frozen BK128.out 0; have hfz11_1 := blk_frozen BK128.out 1; have hfz11_2 := blk_frozen BK128.out 2; have hfz11_3 := blk_frozen BK128.out 3; have hfz11_4 := blk_frozen BK128.out 4; have hfz11_5 := blk_frozen BK128.out 5; have hfz11_6 := blk_frozen BK128.out 6; have hfz11_7 := blk_frozen BK128.out 7))
      refine bodyPost_ret (results_ct rfl _ _ gb128 42 #[.int .i64 0, .int .i64 0, .string (⟨#[]⟩ : ByteArray), .int .u32 0, .int .u32 0, .int .u32 0, .bool false, .bool false] (0, 0) _ rfl (by (with_reducible repeat (first | refine blk_drewN ?_ _ | refine blk_drew ?_ | refine blk_alloc ?_ _)); refine blk_put (cs := #[.int .i64 0, .int .i64 0, .string (⟨#[]⟩ : ByteArray), .int .u32 0, .int .u32 0, .int .u32 0, .bool false, .bool false]) ?_ 7 _ rfl; (with_reducible repeat (first | refine blk_drewN ?_ _ | refine blk_drew ?_ | refine blk_alloc ?_ _)); refine blk_put (cs := #[.int .i64 0, .int .i64 0, .string (⟨#[]⟩ : ByteArray), .int .u32 0, .int .u32 0, .int .u32 0, .bool false, .bool false]) ?_ 6 _ rfl; (with_reducible repeat (first | refine blk_drewN ?_ _ | refine blk_drew ?_ | refine blk_alloc ?_ _)); refine blk_put (cs := #[.int .i64 0, .int .i64 0, .string (⟨#[]⟩ : ByteArray), .int .u32 0, .int .u32 0, .int .u32 0, .bool false, .bool false]) ?_ 5 _ rfl; (with_reducible repeat (first | refine blk_drewN ?_ _ | refine blk_drew ?_ | refine blk_alloc ?_ _)); refine blk_put (cs := #[.int .i64 0, .int .i64 0, .string (⟨#[]⟩ : ByteArray), .int .u32 0, .int .u32 0, .int .u32 0, .bool false, .bool false]) ?_ 4 _ rfl; (with_reducible repeat (first | refine blk_drewN ?_ _ | refine blk_drew ?_ | refine blk_alloc ?_ _)); refine blk_put (cs := #[.int .i64 0, .int .i64 0, .string (⟨#[]⟩ : ByteArray), .int .u32 0, .int .u32 0, .int .u32 0, .bool false, .bool false]) ?_ 3 _ rfl; (with_reducible repeat (first | refine blk_drewN ?_ _ | refine blk_drew ?_ | refine blk_alloc ?_ _)); refine blk_put (cs := #[.int .i64 0, .int .i64 0, .string (⟨#[]⟩ : ByteArray), .int .u32 0, .int .u32 0, .int .u32 0, .bool false, .bool false]) ?_ 2 _ rfl; (with_reducible repeat (first | refine blk_drewN ?_ _ | refine blk_drew ?_ | refine blk_alloc ?_ _)); refine blk_put (cs := #[.int .i64 0, .int .i64 0, .string (⟨#[]⟩ : ByteArray), .int .u32 0, .int .u32 0, .int .u32 0, .bool false, .bool false]) ?_ 1 _ rfl; (with_reducible repeat (first | refine blk_drewN ?_ _ | refine blk_drew ?_ | refine blk_alloc ?_ _)); refine blk_put (cs := #[.int .i64 0, .int .i64 0, .string (⟨#[]⟩ : ByteArray), .int .u32 0, .int .u32 0, .int .u32 0, .bool false, .bool false]) ?_ 0 _ rfl; (with_reducible repeat (first | refine blk_drewN ?_ _ | refine blk_drew ?_ | refine blk_alloc ?_ _)); exact BK128.out) Try.underlying42 rfl (by kernel_rfl)) rfl ?_
      exact ⟨by first | rfl | (simp [errW_none, errW_some] <;> rfl) | (simp [*, errW_none, errW_some] <;> rfl), by repeat (first | (with_reducible first | exact HB.out | apply below_alloc | apply pw_below_drewN | apply below_drew1 | refine below_set ?_ GE128.out) | exact HB.out)⟩
    · rw [if_neg c7] at H
      have c7b0 : decide ((t129.length : Int) < a0) = false := decide_eq_false c7
      clear c7
      obtain ⟨ji12, hji12⟩ : ∃ j_ : Int, (wrap64 (a0 - 1)) = j_ := ⟨_, rfl⟩
      replace H : (if 0 ≤ (ji12) then (if (ji12) < (t129.length : Int) then (some ((rd_T42 t129 (ji12)).f0, (rd_T42 t129 (ji12)).f1, (rd_T42 t129 (ji12)).f2, (rd_T42 t129 (ji12)).f3, (rd_T42 t129 (ji12)).f4, (rd_T42 t129 (ji12)).f5, (rd_T42 t129 (ji12)).f6, (rd_T42 t129 (ji12)).f7, true)) else (none)) else (none)) = some (r1, r2, r3, r4, r5, r6, r7, r8, r9) := by first | (rw [hji12] at H; exact H) | (simp only [hji12] at H ⊢; exact H)
      (try rw [hji12] at A2)
      have hji12w : (IntKind.i64.wrap (a0 - 1)) = ji12 := (i64_w _).trans hji12
      by_cases c13 : 0 ≤ (ji12)
      · rw [if_pos c13] at H
        have c13b0 : decide (0 ≤ (ji12)) = true := decide_eq_true c13
        clear c13
        by_cases c14 : (ji12) < (t129.length : Int)
        · rw [if_pos c14] at H
          have c14b0 : decide ((ji12) < (t129.length : Int)) = true := decide_eq_true c14
          clear c14
          simp only [Option.some.injEq, Prod.mk.injEq] at H
          obtain ⟨rfl, rfl, rfl, rfl, rfl, rfl, rfl, rfl, rfl⟩ := H
          go_enter Try.func26, Try.ntmps26
          go_wp2_with (first | ((with_reducible refine gate_dst (N := 2) rfl ?_); (try (refine gate_guard (by rfl) ?_; dsimp only)); refine box_event ?hg (N := 2) ?hd (cs := #[.int .i64 0, .int .i64 0, .string (⟨#[]⟩ : ByteArray), .int .u32 0, .int .u32 0, .int .u32 0, .bool false, .bool false]) (t := 42) ?hr ?_; (case hd => rfl); (case hg => rfl); (case hr => first | (go_simp; done) | (go_simp; rfl)); intro gb128 hg w15 hbox hb; have n0_ := Aside0.mk (below_step (by repeat (first | (with_reducible first | exact HB.out | apply below_alloc | apply pw_below_drewN | apply below_drew1) | exact HB.out)) hb); have n1_ := Aside0.mk (hbox); have n2_ := Aside0.mk ((by rw [hg]; exact (below_size (by repeat (first | (with_reducible first | exact HB.out | apply below_alloc | apply pw_below_drewN | apply below_drew1) | exact HB.out))) : w.heap.size ≤ gb128)); have n3_ := Aside0.mk ((by rw [hg]; exact (below_size (by repeat (first | (with_reducible first | exact HB.out | apply below_alloc | apply pw_below_drewN | apply below_drew1) | exact HB.out))) : w.heap.size ≤ gb128)); clear HB; have HB := n0_; have BK128 := n1_; have GW128 := n2_; have GE128 := n3_; clear n0_ n1_ n2_ n3_; clear hb hbox hg) | ((with_reducible refine gate_callee (f := 14) rfl ?_); refine goesL_ (some 5) rfl rfl Try.func14 (by kernel_rfl) rfl #[] rfl (by (try simp only [List.map_toArray, List.map_cons, List.map_nil]); first | done | rfl | (simp only [List.length_drop, List.length_take]; rfl)) ?_; (with_reducible refine (inst_rows.calls  t129 _ A2.out).mono ?_); rintro e w16 ⟨v130, rfl, ho0, hb⟩; refine ⟨_, rfl, ?_⟩; have n0_ := Aside0.mk (Kd.R_lower (Kd.R_newB ho0 (g := gb128) (o := .cells #[.int .i64 0, .int .i64 0, .string (⟨#[]⟩ : ByteArray), .int .u32 0, .int .u32 0, .int .u32 0, .bool false, .bool false] 42 (0, 0)) (by (with_reducible repeat (first | refine blk_drewN ?_ _ | refine blk_drew ?_ | refine blk_alloc ?_ _)); exact BK128.out)) (below_size (by repeat (first | (with_reducible first | exact HB.out | apply below_alloc | apply pw_below_drewN | apply below_drew1 | refine below_set ?_ GE128.out) | exact HB.out)))); have n1_ := Aside0.mk (blk_below (g := gb128) (o := .cells #[.int .i64 0, .int .i64 0, .string (⟨#[]⟩ : ByteArray), .int .u32 0, .int .u32 0, .int .u32 0, .bool false, .bool false] 42 (0, 0)) (by (with_reducible repeat (first | refine blk_drewN ?_ _ | refine blk_drew ?_ | refine blk_alloc ?_ _)); exact BK128.out) hb); have n2_ := Aside0.mk (below_step (by repeat (first | (with_reducible first | exact HB.out | apply below_alloc | apply pw_below_drewN | apply below_drew1 | refine below_set ?_ GE128.out) | exact HB.out)) hb); clear BK128; clear HB; have HO131 := n0_; have BK128 := n1_; have HB := n2_; clear n0_ n1_ n2_; (try clear hb); (try clear hb2); (try clear hk); (try clear hi); (try clear ho0); obtain ⟨Ao17, co17, eo17⟩ := Kd.R_slice HO131.out; subst eo17; have p132 : 0 ≤ ((ji12) : Int) := of_decide_eq_true (by first | (with_reducible assumption) | assumption); have q132 : (ji12) < (t129.length : Int) := of_decide_eq_true (by first | (with_reducible assumption) | assumption); obtain ⟨ad132, e132, hx132_0, hx132_1, hx132_2, hx132_3, hx132_4, hx132_5, hx132_6, hx132_7⟩ := at_T42 (Kd.R_reads' HO131.out).2.2 (ji12) p132 q132; cases e132; replace p132 := eq_true p132; replace q132 := eq_true q132; have hcz18_0 : w16.cell? ⟨gb128, 0, none⟩ = some (.int .i64 0) := (blk_cell BK128.out 0).trans rfl; have hcz18_1 : w16.cell? ⟨gb128, 1, none⟩ = some (.int .i64 0) := (blk_cell BK128.out 1).trans rfl; have hcz18_2 : w16.cell? ⟨gb128, 2, none⟩ = some (.string (⟨#[]⟩ : ByteArray)) := (blk_cell BK128.out 2).trans rfl; have hcz18_3 : w16.cell? ⟨gb128, 3, none⟩ = some (.int .u32 0) := (blk_cell BK128.out 3).trans rfl; have hcz18_4 : w16.cell? ⟨gb128, 4, none⟩ = some (.int .u32 0) := (blk_cell BK128.out 4).trans rfl; have hcz18_5 : w16.cell? ⟨gb128, 5, none⟩ = some (.int .u32 0) := (blk_cell BK128.out 5).trans rfl; have hcz18_6 : w16.cell? ⟨gb128, 6, none⟩ = some (.bool false) := (blk_cell BK128.out 6).trans rfl; have hcz18_7 : w16.cell? ⟨gb128, 7, none⟩ = some (.bool false) := (blk_cell BK128.out 7).trans rfl; have hfz18_0 := blk_frozen BK128.out 0; have hfz18_1 := blk_frozen BK128.out 1; have hfz18_2 := blk_frozen BK128.out 2; have hfz18_3 := blk_frozen BK128.out 3; have hfz18_4 := blk_frozen BK128.out 4; have hfz18_5 := blk_frozen BK128.out 5; have hfz18_6 := blk_frozen BK128.out 6; have hfz18_7 := blk_frozen BK128.out 7))
          refine bodyPost_ret (results_ct rfl _ _ gb128 42 #[.int .i64 ((rd_T42 t129 (ji12)).f0), .int .i64 ((rd_T42 t129 (ji12)).f1), .string ((rd_T42 t129 (ji12)).f2), .int .u32 ((rd_T42 t129 (ji12)).f3), .int .u32 ((rd_T42 t129 (ji12)).f4), .int .u32 ((rd_T42 t129 (ji12)).f5), .bool ((rd_T42 t129 (ji12)).f6), .bool ((rd_T42 t129 (ji12)).f7)] (0, 0) _ rfl (by (with_reducible repeat (first | refine blk_drewN ?_ _ | refine blk_drew ?_ | refine blk_alloc ?_ _)); refine blk_put (cs := #[.int .i64 ((rd_T42 t129 (ji12)).f0), .int .i64 ((rd_T42 t129 (ji12)).f1), .string ((rd_T42 t129 (ji12)).f2), .int .u32 ((rd_T42 t129 (ji12)).f3), .int .u32 ((rd_T42 t129 (ji12)).f4), .int .u32 ((rd_T42 t129 (ji12)).f5), .bool ((rd_T42 t129 (ji12)).f6), .bool false]) ?_ 7 _ rfl; (with_reducible repeat (first | refine blk_drewN ?_ _ | refine blk_drew ?_ | refine blk_alloc ?_ _)); refine blk_put (cs := #[.int .i64 ((rd_T42 t129 (ji12)).f0), .int .i64 ((rd_T42 t129 (ji12)).f1), .string ((rd_T42 t129 (ji12)).f2), .int .u32 ((rd_T42 t129 (ji12)).f3), .int .u32 ((rd_T42 t129 (ji12)).f4), .int .u32 ((rd_T42 t129 (ji12)).f5), .bool false, .bool false]) ?_ 6 _ rfl; (with_reducible repeat (first | refine blk_drewN ?_ _ | refine blk_drew ?_ | refine blk_alloc ?_ _)); refine blk_put (cs := #[.int .i64 ((rd_T42 t129 (ji12)).f0), .int .i64 ((rd_T42 t129 (ji12)).f1), .string ((rd_T42 t129 (ji12)).f2), .int .u32 ((rd_T42 t129 (ji12)).f3), .int .u32 ((rd_T42 t129 (ji12)).f4), .int .u32 0, .bool false, .bool false]) ?_ 5 _ rfl; (with_reducible repeat (first | refine blk_drewN ?_ _ | refine blk_drew ?_ | refine blk_alloc ?_ _)); refine blk_put (cs := #[.int .i64 ((rd_T42 t129 (ji12)).f0), .int .i64 ((rd_T42 t129 (ji12)).f1), .string ((rd_T42 t129 (ji12)).f2), .int .u32 ((rd_T42 t129 (ji12)).f3), .int .u32 0, .int .u32 0, .bool false, .bool false]) ?_ 4 _ rfl; (with_reducible repeat (first | refine blk_drewN ?_ _ | refine blk_drew ?_ | refine blk_alloc ?_ _)); refine blk_put (cs := #[.int .i64 ((rd_T42 t129 (ji12)).f0), .int .i64 ((rd_T42 t129 (ji12)).f1), .string ((rd_T42 t129 (ji12)).f2), .int .u32 0, .int .u32 0, .int .u32 0, .bool false, .bool false]) ?_ 3 _ rfl; (with_reducible repeat (first | refine blk_drewN ?_ _ | refine blk_drew ?_ | refine blk_alloc ?_ _)); refine blk_put (cs := #[.int .i64 ((rd_T42 t129 (ji12)).f0), .int .i64 ((rd_T42 t129 (ji12)).f1), .string (⟨#[]⟩ : ByteArray), .int .u32 0, .int .u32 0, .int .u32 0, .bool false, .bool false]) ?_ 2 _ rfl; (with_reducible repeat (first | refine blk_drewN ?_ _ | refine blk_drew ?_ | refine blk_alloc ?_ _)); refine blk_put (cs := #[.int .i64 ((rd_T42 t129 (ji12)).f0), .int .i64 0, .string (⟨#[]⟩ : ByteArray), .int .u32 0, .int .u32 0, .int .u32 0, .bool false, .bool false]) ?_ 1 _ rfl; (with_reducible repeat (first | refine blk_drewN ?_ _ | refine blk_drew ?_ | refine blk_alloc ?_ _)); refine blk_put (cs := #[.int .i64 0, .int .i64 0, .string (⟨#[]⟩ : ByteArray), .int .u32 0, .int .u32 0, .int .u32 0, .bool false, .bool false]) ?_ 0 _ rfl; (with_reducible repeat (first | refine blk_drewN ?_ _ | refine blk_drew ?_ | refine blk_alloc ?_ _)); exact BK128.out) Try.underlying42 rfl (by kernel_rfl)) rfl ?_
          exact ⟨by first | rfl | (simp [errW_none, errW_some] <;> rfl) | (simp only [← hji12]; first | rfl | (simp [errW_none, errW_some] <;> rfl)) | (simp [*, errW_none, errW_some] <;> rfl), by repeat (first | (with_reducible first | exact HB.out | apply below_alloc | apply pw_below_drewN | apply below_drew1 | refine below_set ?_ GE128.out) | exact HB.out)⟩
        · rw [if_neg c14] at H
          exact absurd H (by simp)
      · rw [if_neg c13] at H
        exact absurd H (by simp)

/-! ### imm_Fits: function 32 -/
def imm_Fits.f (a0 : Int) (a1 : Int) : Option (Bool) := (imm_pieces.f a0).bind fun bt133 => (if a0 = 3 then (if (Int.tmod a1 2) = 0 then ((imm_Sign.f (IntKind.u64.wrap (a1)) bt133.2).bind fun t137 => (some (t137 == a1))) else (some false)) else (if a0 = 5 then (if (Int.tmod a1 2) = 0 then ((imm_Sign.f (IntKind.u64.wrap (a1)) bt133.2).bind fun t138 => (some (t138 == a1))) else (some false)) else ((imm_Sign.f (IntKind.u64.wrap (a1)) bt133.2).bind fun t139 => (some (t139 == a1)))))
set_option maxHeartbeats 8000000 in
set_option maxRecDepth 100000 in
theorem imm_Fits.calls (a0 : Int) (a1 : Int) (r : Bool) (w : World) (h : imm_Fits.f a0 a1 = some r) :
    Calls Try.prog 32 #[.int .i64 a0, .int .i64 a1] w fun e w' => e = .returned (.bool r) ∧ Below w.heap.size w w' := by
  have HB := Aside0.mk (Below.refl w.heap.size w)
  have H : ((imm_pieces.f a0).bind fun bt133 => (if a0 = 3 then (if (Int.tmod a1 2) = 0 then ((imm_Sign.f (IntKind.u64.wrap (a1)) bt133.2).bind fun t137 => (some (t137 == a1))) else (some false)) else (if a0 = 5 then (if (Int.tmod a1 2) = 0 then ((imm_Sign.f (IntKind.u64.wrap (a1)) bt133.2).bind fun t138 => (some (t138 == a1))) else (some false)) else ((imm_Sign.f (IntKind.u64.wrap (a1)) bt133.2).bind fun t139 => (some (t139 == a1)))))) = some r := h
  clear h
  replace H := Option.bind_eq_some_iff.mp H
  obtain ⟨⟨t133, t134⟩, A30, H⟩ := H
  replace H : (if a0 = 3 then (if (Int.tmod a1 2) = 0 then ((imm_Sign.f (IntKind.u64.wrap (a1)) t134).bind fun t137 => (some (t137 == a1))) else (some false)) else (if a0 = 5 then (if (Int.tmod a1 2) = 0 then ((imm_Sign.f (IntKind.u64.wrap (a1)) t134).bind fun t138 => (some (t138 == a1))) else (some false)) else ((imm_Sign.f (IntKind.u64.wrap (a1)) t134).bind fun t139 => (some (t139 == a1))))) = some r := H
  have A3 := Aside0.mk A30
  clear A30
  by_cases c4 : a0 = 3
  · rw [if_pos c4] at H
    have c4b0 : (a0 == 3) = true := beq_iff_eq.mpr c4
    have c4b1 : (a0 != 3) = false := bne_eq_false_iff_eq.mpr c4
    clear c4
    by_cases c5 : (Int.tmod a1 2) = 0
    · rw [if_pos c5] at H
      have c5b0 : ((Int.tmod a1 2) == 0) = true := beq_iff_eq.mpr c5
      have c5b1 : ((Int.tmod a1 2) != 0) = false := bne_eq_false_iff_eq.mpr c5
      clear c5
      replace H := Option.bind_eq_some_iff.mp H
      obtain ⟨t137, A60, H⟩ := H
      replace H : (some (t137 == a1)) = some r := H
      have A6 := Aside0.mk A60
      clear A60
      obtain rfl := Option.some.inj H
      go_enter Try.func32, Try.ntmps32
      go_wp2_with (first | ((with_reducible refine gate_callee (f := 29) rfl ?_); refine goesL_ (some 9) rfl rfl Try.func29 (by kernel_rfl) rfl #[.int .i64 a0] rfl (by (try simp only [List.map_toArray, List.map_cons, List.map_nil]); first | done | rfl | (simp only [List.length_drop, List.length_take]; rfl)) ?_; (with_reducible refine (imm_pieces.calls a0 t133 t134 _ A3.out).mono ?_); rintro e w7 ⟨v135, rfl, ho0, hb⟩; refine ⟨_, rfl, ?_⟩; have n0_ := Aside0.mk (Kd.R_lower ho0 (below_size (by repeat (first | (with_reducible first | exact HB.out | apply below_alloc | apply pw_below_drewN | apply below_drew1) | exact HB.out)))); have n1_ := Aside0.mk (below_step (by repeat (first | (with_reducible first | exact HB.out | apply below_alloc | apply pw_below_drewN | apply below_drew1) | exact HB.out)) hb); clear HB; have HO136 := n0_; have HB := n1_; clear n0_ n1_; (try clear hb); (try clear hb2); (try clear hk); (try clear hi); (try clear ho0)) | ((with_reducible refine gate_callee (f := 30) rfl ?_); refine goesL_ (some 26) rfl rfl Try.func30 (by kernel_rfl) rfl #[.int .u64 (IntKind.u64.wrap (a1)), .int .i64 t134] rfl (by (try simp only [List.map_toArray, List.map_cons, List.map_nil]); first | done | rfl | (simp only [List.length_drop, List.length_take]; rfl)) ?_; (with_reducible refine (imm_Sign.calls (IntKind.u64.wrap (a1)) t134 t137 _ A6.out).mono ?_); rintro e w8 ⟨rfl, hb⟩; refine ⟨_, rfl, ?_⟩; have n0_ := Aside0.mk (Kd.R_below (by (with_reducible repeat (first | apply Kd.R_alloc | apply Kd.R_drewN | apply Kd.R_drew)); exact HO136.out) hb); have n1_ := Aside0.mk (below_step (by repeat (first | (with_reducible first | exact HB.out | apply below_alloc | apply pw_below_drewN | apply below_drew1) | exact HB.out)) hb); clear HO136; clear HB; have HO136 := n0_; have HB := n1_; clear n0_ n1_; (try clear hb); (try clear hb2); (try clear hk); (try clear hi)))
      go_ret
      exact ⟨by first | rfl | (simp [errW_none, errW_some] <;> rfl) | (simp [*, errW_none, errW_some] <;> rfl), by repeat (first | (with_reducible first | exact HB.out | apply below_alloc | apply pw_below_drewN | apply below_drew1) | exact HB.out)⟩
    · rw [if_neg c5] at H
      have c5b0 : ((Int.tmod a1 2) == 0) = false := beq_eq_false_iff_ne.mpr c5
      have c5b1 : ((Int.tmod a1 2) != 0) = true := bne_iff_ne.mpr c5
      obtain rfl := Option.some.inj H
      go_enter Try.func32, Try.ntmps32
      go_wp2_with (first | ((with_reducible refine gate_callee (f := 29) rfl ?_); refine goesL_ (some 9) rfl rfl Try.func29 (by kernel_rfl) rfl #[.int .i64 a0] rfl (by (try simp only [List.map_toArray, List.map_cons, List.map_nil]); first | done | rfl | (simp only [List.length_drop, List.length_take]; rfl)) ?_; (with_reducible refine (imm_pieces.calls a0 t133 t134 _ A3.out).mono ?_); rintro e w9 ⟨v135, rfl, ho0, hb⟩; refine ⟨_, rfl, ?_⟩; have n0_ := Aside0.mk (Kd.R_lower ho0 (below_size (by repeat (first | (with_reducible first | exact HB.out | apply below_alloc | apply pw_below_drewN | apply below_drew1) | exact HB.out)))); have n1_ := Aside0.mk (below_step (by repeat (first | (with_reducible first | exact HB.out | apply below_alloc | apply pw_below_drewN | apply below_drew1) | exact HB.out)) hb); clear HB; have HO136 := n0_; have HB := n1_; clear n0_ n1_; (try clear hb); (try clear hb2); (try clear hk); (try clear hi); (try clear ho0)))
      go_ret
      exact ⟨by first | rfl | (simp [errW_none, errW_some] <;> rfl) | (simp [*, errW_none, errW_some] <;> rfl), by repeat (first | (with_reducible first | exact HB.out | apply below_alloc | apply pw_below_drewN | apply below_drew1) | exact HB.out)⟩
  · rw [if_neg c4] at H
    have c4b0 : (a0 == 3) = false := beq_eq_false_iff_ne.mpr c4
    have c4b1 : (a0 != 3) = true := bne_iff_ne.mpr c4
    by_cases c10 : a0 = 5
    · rw [if_pos c10] at H
      have c10b0 : (a0 == 5) = true := beq_iff_eq.mpr c10
      have c10b1 : (a0 != 5) = false := bne_eq_false_iff_eq.mpr c10
      clear c10
      by_cases c11 : (Int.tmod a1 2) = 0
      · rw [if_pos c11] at H
        have c11b0 : ((Int.tmod a1 2) == 0) = true := beq_iff_eq.mpr c11
        have c11b1 : ((Int.tmod a1 2) != 0) = false := bne_eq_false_iff_eq.mpr c11
        clear c11
        replace H := Option.bind_eq_some_iff.mp H
        obtain ⟨t138, A120, H⟩ := H
        replace H : (some (t138 == a1)) = some r := H
        have A12 := Aside0.mk A120
        clear A120
        obtain rfl := Option.some.inj H
        go_enter Try.func32, Try.ntmps32
        go_wp2_with (first | ((with_reducible refine gate_callee (f := 29) rfl ?_); refine goesL_ (some 9) rfl rfl Try.func29 (by kernel_rfl) rfl #[.int .i64 a0] rfl (by (try simp only [List.map_toArray, List.map_cons, List.map_nil]); first | done | rfl | (simp only [List.length_drop, List.length_take]; rfl)) ?_; (with_reducible refine (imm_pieces.calls a0 t133 t134 _ A3.out).mono ?_); rintro e w13 ⟨v135, rfl, ho0, hb⟩; refine ⟨_, rfl, ?_⟩; have n0_ := Aside0.mk (Kd.R_lower ho0 (below_size (by repeat (first | (with_reducible first | exact HB.out | apply below_alloc | apply pw_below_drewN | apply below_drew1) | exact HB.out)))); have n1_ := Aside0.mk (below_step (by repeat (first | (with_reducible first | exact HB.out | apply below_alloc | apply pw_below_drewN | apply below_drew1) | exact HB.out)) hb); clear HB; have HO136 := n0_; have HB := n1_; clear n0_ n1_; (try clear hb); (try clear hb2); (try clear hk); (try clear hi); (try clear ho0)) | ((with_reducible refine gate_callee (f := 30) rfl ?_); refine goesL_ (some 26) rfl rfl Try.func30 (by kernel_rfl) rfl #[.int .u64 (IntKind.u64.wrap (a1)), .int .i64 t134] rfl (by (try simp only [List.map_toArray, List.map_cons, List.map_nil]); first | done | rfl | (simp only [List.length_drop, List.length_take]; rfl)) ?_; (with_reducible refine (imm_Sign.calls (IntKind.u64.wrap (a1)) t134 t138 _ A12.out).mono ?_); rintro e w14 ⟨rfl, hb⟩; refine ⟨_, rfl, ?_⟩; have n0_ := Aside0.mk (Kd.R_below (by (with_reducible repeat (first | apply Kd.R_alloc | apply Kd.R_drewN | apply Kd.R_drew)); exact HO136.out) hb); have n1_ := Aside0.mk (below_step (by repeat (first | (with_reducible first | exact HB.out | apply below_alloc | apply pw_below_drewN | apply below_drew1) | exact HB.out)) hb); clear HO136; clear HB; have HO136 := n0_; have HB := n1_; clear n0_ n1_; (try clear hb); (try clear hb2); (try clear hk); (try clear hi)))
        go_ret
        exact ⟨by first | rfl | (simp [errW_none, errW_some] <;> rfl) | (simp [*, errW_none, errW_some] <;> rfl), by repeat (first | (with_reducible first | exact HB.out | apply below_alloc | apply pw_below_drewN | apply below_drew1) | exact HB.out)⟩
      · rw [if_neg c11] at H
        have c11b0 : ((Int.tmod a1 2) == 0) = false := beq_eq_false_iff_ne.mpr c11
        have c11b1 : ((Int.tmod a1 2) != 0) = true := bne_iff_ne.mpr c11
        obtain rfl := Option.some.inj H
        go_enter Try.func32, Try.ntmps32
        go_wp2_with (first | ((with_reducible refine gate_callee (f := 29) rfl ?_); refine goesL_ (some 9) rfl rfl Try.func29 (by kernel_rfl) rfl #[.int .i64 a0] rfl (by (try simp only [List.map_toArray, List.map_cons, List.map_nil]); first | done | rfl | (simp only [List.length_drop, List.length_take]; rfl)) ?_; (with_reducible refine (imm_pieces.calls a0 t133 t134 _ A3.out).mono ?_); rintro e w15 ⟨v135, rfl, ho0, hb⟩; refine ⟨_, rfl, ?_⟩; have n0_ := Aside0.mk (Kd.R_lower ho0 (below_size (by repeat (first | (with_reducible first | exact HB.out | apply below_alloc | apply pw_below_drewN | apply below_drew1) | exact HB.out)))); have n1_ := Aside0.mk (below_step (by repeat (first | (with_reducible first | exact HB.out | apply below_alloc | apply pw_below_drewN | apply below_drew1) | exact HB.out)) hb); clear HB; have HO136 := n0_; have HB := n1_; clear n0_ n1_; (try clear hb); (try clear hb2); (try clear hk); (try clear hi); (try clear ho0)))
        go_ret
        exact ⟨by first | rfl | (simp [errW_none, errW_some] <;> rfl) | (simp [*, errW_none, errW_some] <;> rfl), by repeat (first | (with_reducible first | exact HB.out | apply below_alloc | apply pw_below_drewN | apply below_drew1) | exact HB.out)⟩
    · rw [if_neg c10] at H
      have c10b0 : (a0 == 5) = false := beq_eq_false_iff_ne.mpr c10
      have c10b1 : (a0 != 5) = true := bne_iff_ne.mpr c10
      replace H := Option.bind_eq_some_iff.mp H
      obtain ⟨t139, A160, H⟩ := H
      replace H : (some (t139 == a1)) = some r := H
      have A16 := Aside0.mk A160
      clear A160
      obtain rfl := Option.some.inj H
      go_enter Try.func32, Try.ntmps32
      go_wp2_with (first | ((with_reducible refine gate_callee (f := 29) rfl ?_); refine goesL_ (some 9) rfl rfl Try.func29 (by kernel_rfl) rfl #[.int .i64 a0] rfl (by (try simp only [List.map_toArray, List.map_cons, List.map_nil]); first | done | rfl | (simp only [List.length_drop, List.length_take]; rfl)) ?_; (with_reducible refine (imm_pieces.calls a0 t133 t134 _ A3.out).mono ?_); rintro e w17 ⟨v135, rfl, ho0, hb⟩; refine ⟨_, rfl, ?_⟩; have n0_ := Aside0.mk (Kd.R_lower ho0 (below_size (by repeat (first | (with_reducible first | exact HB.out | apply below_alloc | apply pw_below_drewN | apply below_drew1) | exact HB.out)))); have n1_ := Aside0.mk (below_step (by repeat (first | (with_reducible first | exact HB.out | apply below_alloc | apply pw_below_drewN | apply below_drew1) | exact HB.out)) hb); clear HB; have HO136 := n0_; have HB := n1_; clear n0_ n1_; (try clear hb); (try clear hb2); (try clear hk); (try clear hi); (try clear ho0)) | ((with_reducible refine gate_callee (f := 30) rfl ?_); refine goesL_ (some 26) rfl rfl Try.func30 (by kernel_rfl) rfl #[.int .u64 (IntKind.u64.wrap (a1)), .int .i64 t134] rfl (by (try simp only [List.map_toArray, List.map_cons, List.map_nil]); first | done | rfl | (simp only [List.length_drop, List.length_take]; rfl)) ?_; (with_reducible refine (imm_Sign.calls (IntKind.u64.wrap (a1)) t134 t139 _ A16.out).mono ?_); rintro e w18 ⟨rfl, hb⟩; refine ⟨_, rfl, ?_⟩; have n0_ := Aside0.mk (Kd.R_below (by (with_reducible repeat (first | apply Kd.R_alloc | apply Kd.R_drewN | apply Kd.R_drew)); exact HO136.out) hb); have n1_ := Aside0.mk (below_step (by repeat (first | (with_reducible first | exact HB.out | apply below_alloc | apply pw_below_drewN | apply below_drew1) | exact HB.out)) hb); clear HO136; clear HB; have HO136 := n0_; have HB := n1_; clear n0_ n1_; (try clear hb); (try clear hb2); (try clear hk); (try clear hi)))
      go_ret
      exact ⟨by first | rfl | (simp [errW_none, errW_some] <;> rfl) | (simp [*, errW_none, errW_some] <;> rfl), by repeat (first | (with_reducible first | exact HB.out | apply below_alloc | apply pw_below_drewN | apply below_drew1) | exact HB.out)⟩

/-! ### imm_Put: function 27 -/
def imm_Put.l0 : Nat → Int → Int → List (S65) → Int → Int → Option (Int × Bool)
  | 0, _, _, _, _, _ => none
  | k + 1, x1, x2, x22, x23, x24 => if x24 < x23 then (if 0 ≤ x24 then (if x24 < (x22.length : Int) then (if 0 ≤ (IntKind.u64.wrap ((rd_T65 x22 x24).f2)) then (if 0 ≤ (IntKind.u64.wrap ((rd_T65 x22 x24).f1)) then (if 0 ≤ (IntKind.u64.wrap ((rd_T65 x22 x24).f0)) then (imm_Put.l0 k (Go.bits .or .u32 (Go.bits .andNot .u32 x1 (shl .u32 (((shl .u32 1 (IntKind.u64.wrap ((rd_T65 x22 x24).f2))) - 1) % 4294967296) (IntKind.u64.wrap ((rd_T65 x22 x24).f1)))) (shl .u32 (Go.bits .and .u32 ((shr .u64 (IntKind.u64.wrap (x2)) (IntKind.u64.wrap ((rd_T65 x22 x24).f0))) % 4294967296) (((shl .u32 1 (IntKind.u64.wrap ((rd_T65 x22 x24).f2))) - 1) % 4294967296)) (IntKind.u64.wrap ((rd_T65 x22 x24).f1)))) x2 x22 x23 (wrap64 (x24 + 1))) else (none)) else (none)) else (none)) else (none)) else (none)) else (some (x1, true))
def imm_Put.f (k : Nat) (a0 : Int) (a1 : Int) (a2 : Int) : Option (Int × Bool) := (imm_Fits.f a0 a2).bind fun t140 => (if t140 = true then ((imm_pieces.f a0).bind fun bt141 => (imm_Put.l0 k a1 a2 bt141.1 (bt141.1.length : Int) 0)) else (some (0, false)))
theorem imm_Put.mono_l : ∀ k, (∀ y0 y1 y2 y3 y4, LeO (imm_Put.l0 k y0 y1 y2 y3 y4) (imm_Put.l0 (k + 1) y0 y1 y2 y3 y4))
  | 0 => fun _ _ _ _ _ r h => by simp [imm_Put.l0] at h
  | k + 1 => by
    have ih0 := imm_Put.mono_l k
    · intro y0 y1 y2 y3 y4
      unfold imm_Put.l0
      repeat' first
      | (with_reducible exact ih0 _ _ _ _ _)
      | (with_reducible exact LeO.refl _)
      | (with_reducible exact LeO.none _)
      | (with_reducible refine LeO.ite ?_ ?_)
      | (with_reducible refine LeO.bind ?_ (fun _ => ?_))
      | exact ih0 _ _ _ _ _
      | exact LeO.none _
      | refine LeO.ite ?_ ?_
      | refine LeO.bind ?_ (fun _ => ?_)
theorem imm_Put.mono : ∀ a0 a1 a2 k, LeO (imm_Put.f k a0 a1 a2) (imm_Put.f (k + 1) a0 a1 a2) := by
  intro a0 a1 a2 k
  have ih0 := imm_Put.mono_l k
  unfold imm_Put.f
  repeat' first
      | (with_reducible exact ih0 _ _ _ _ _)
      | (with_reducible exact LeO.refl _)
      | (with_reducible exact LeO.none _)
      | (with_reducible refine LeO.ite ?_ ?_)
      | (with_reducible refine LeO.bind ?_ (fun _ => ?_))
      | exact ih0 _ _ _ _ _
      | exact LeO.none _
      | refine LeO.ite ?_ ?_
      | refine LeO.bind ?_ (fun _ => ?_)
set_option maxHeartbeats 8000000 in
set_option maxRecDepth 100000 in
theorem imm_Put.calls (k : Nat) (a0 : Int) (a1 : Int) (a2 : Int) (r1 : Int) (r2 : Bool) (w : World) (h : imm_Put.f k a0 a1 a2 = some (r1, r2)) :
    Calls Try.prog 27 #[.int .i64 a0, .int .u32 a1, .int .i64 a2] w fun e w' => e = .returned (.tuple #[.int .u32 r1, .bool r2]) ∧ Below w.heap.size w w' := by
  have hu65 := Try.underlying65
  have HB := Aside0.mk (Below.refl w.heap.size w)
  have H : ((imm_Fits.f a0 a2).bind fun t140 => (if t140 = true then ((imm_pieces.f a0).bind fun bt141 => (imm_Put.l0 k a1 a2 bt141.1 (bt141.1.length : Int) 0)) else (some (0, false)))) = some (r1, r2) := h
  clear h
  replace H := Option.bind_eq_some_iff.mp H
  obtain ⟨t140, A40, H⟩ := H
  replace H : (if t140 = true then ((imm_pieces.f a0).bind fun bt141 => (imm_Put.l0 k a1 a2 bt141.1 (bt141.1.length : Int) 0)) else (some (0, false))) = some (r1, r2) := H
  have A4 := Aside0.mk A40
  clear A40
  by_cases c5 : t140 = true
  · subst c5
    have H1 : ((imm_pieces.f a0).bind fun bt141 => (imm_Put.l0 k a1 a2 bt141.1 (bt141.1.length : Int) 0)) = some (r1, r2) := by rw [if_pos rfl] at H; exact H
    clear H
    have H := H1
    clear H1
    replace H := Option.bind_eq_some_iff.mp H
    obtain ⟨⟨t141, t142⟩, A60, H⟩ := H
    replace H : (imm_Put.l0 k a1 a2 t141 (t141.length : Int) 0) = some (r1, r2) := H
    have A6 := Aside0.mk A60
    clear A60
    have H' := Aside0.mk H
    clear H
    go_enter Try.func27, Try.ntmps27
    go_wp2_with (first | ((with_reducible refine gate_callee (f := 32) rfl ?_); refine goesL_ (some 15) rfl rfl Try.func32 (by kernel_rfl) rfl #[.int .i64 a0, .int .i64 a2] rfl (by (try simp only [List.map_toArray, List.map_cons, List.map_nil]); first | done | rfl | (simp only [List.length_drop, List.length_take]; rfl)) ?_; (with_reducible refine (imm_Fits.calls a0 a2 true _ A4.out).mono ?_); rintro e w7 ⟨rfl, hb⟩; refine ⟨_, rfl, ?_⟩; have n0_ := Aside0.mk (below_step (by repeat (first | (with_reducible first | exact HB.out | apply below_alloc | apply pw_below_drewN | apply below_drew1) | exact HB.out)) hb); clear HB; have HB := n0_; clear n0_; (try clear hb); (try clear hb2); (try clear hk); (try clear hi)) | ((with_reducible refine gate_callee (f := 29) rfl ?_); refine goesL_ (some 19) rfl rfl Try.func29 (by kernel_rfl) rfl #[.int .i64 a0] rfl (by (try simp only [List.map_toArray, List.map_cons, List.map_nil]); first | done | rfl | (simp only [List.length_drop, List.length_take]; rfl)) ?_; (with_reducible refine (imm_pieces.calls a0 t141 t142 _ A6.out).mono ?_); rintro e w8 ⟨v143, rfl, ho0, hb⟩; refine ⟨_, rfl, ?_⟩; have n0_ := Aside0.mk (Kd.R_lower ho0 (below_size (by repeat (first | (with_reducible first | exact HB.out | apply below_alloc | apply pw_below_drewN | apply below_drew1) | exact HB.out)))); have n1_ := Aside0.mk (below_step (by repeat (first | (with_reducible first | exact HB.out | apply below_alloc | apply pw_below_drewN | apply below_drew1) | exact HB.out)) hb); clear HB; have HO144 := n0_; have HB := n1_; clear n0_ n1_; (try clear hb); (try clear hb2); (try clear hk); (try clear hi); (try clear ho0); obtain ⟨Ao9, co9, eo9⟩ := Kd.R_slice HO144.out; subst eo9))
    go_loopg [1, 24] k (fun kq v1 v24 w' => ∃ (x1_1 : Int) (x24_1 : Int), v1 = .int .u32 x1_1 ∧ v24 = .int .i64 x24_1 ∧ Aside0 (imm_Put.l0 kq x1_1 a2 t141 (t141.length : Int) x24_1 = some (r1, r2)) ∧ Aside0 (kq ≤ k) ∧ Aside0 (Kd.R k65 65 w' w.heap.size (fun _ => True) (.slice Ao9 t141.length co9) t141) ∧ Aside0 (Below w.heap.size w w'))
    case atStart => exact ⟨(a1), (0), (by first | rfl | (simp; done) | (simp [*]; done)), (by first | rfl | (simp; done) | (simp [*]; done)), H', ⟨Nat.le_refl _⟩, ⟨by (with_reducible repeat (first | apply Kd.R_alloc | apply Kd.R_drewN | apply Kd.R_drew)); exact HO144.out⟩, ⟨by repeat (first | (with_reducible first | exact HB.out | apply below_alloc | apply pw_below_drewN | apply below_drew1) | exact HB.out)⟩⟩
    case round =>
      clear H'
      try clear c2
      try clear p2
      try clear c3
      try clear c5
      obtain ⟨x1_1, x24_1, rfl, rfl, HA, HK1, HO_22, HB⟩ := hrel
      cases gk with
      | zero => exact absurd HA.out (by simp [imm_Put.l0])
      | succ k1 =>
        have H := HA.out
        clear HA
        simp only [imm_Put.l0] at H
        by_cases c10 : x24_1 < (t141.length : Int)
        · rw [if_pos c10] at H
          have c10b0 : decide (x24_1 < (t141.length : Int)) = true := decide_eq_true c10
          clear c10
          by_cases c11 : 0 ≤ x24_1
          · rw [if_pos c11] at H
            have c11b0 : decide (0 ≤ x24_1) = true := decide_eq_true c11
            clear c11
            by_cases c12 : x24_1 < (t141.length : Int)
            · rw [if_pos c12] at H
              have c12b0 : decide (x24_1 < (t141.length : Int)) = true := decide_eq_true c12
              clear c12
              obtain ⟨ji13, hji13⟩ : ∃ j_ : Int, (IntKind.u64.wrap ((rd_T65 t141 x24_1).f2)) = j_ := ⟨_, rfl⟩
              replace H : (if 0 ≤ (ji13) then (if 0 ≤ (IntKind.u64.wrap ((rd_T65 t141 x24_1).f1)) then (if 0 ≤ (IntKind.u64.wrap ((rd_T65 t141 x24_1).f0)) then (imm_Put.l0 k1 (Go.bits .or .u32 (Go.bits .andNot .u32 x1_1 (shl .u32 (((shl .u32 1 (ji13)) - 1) % 4294967296) (IntKind.u64.wrap ((rd_T65 t141 x24_1).f1)))) (shl .u32 (Go.bits .and .u32 ((shr .u64 (IntKind.u64.wrap (a2)) (IntKind.u64.wrap ((rd_T65 t141 x24_1).f0))) % 4294967296) (((shl .u32 1 (ji13)) - 1) % 4294967296)) (IntKind.u64.wrap ((rd_T65 t141 x24_1).f1)))) a2 t141 (t141.length : Int) (wrap64 (x24_1 + 1))) else (none)) else (none)) else (none)) = some (r1, r2) := by first | (rw [hji13] at H; exact H) | (simp only [hji13] at H ⊢; exact H)
              by_cases c14 : 0 ≤ (ji13)
              · rw [if_pos c14] at H
                have c14b0 := eq_true c14
                have c14b1 : decide (0 ≤ (ji13)) = true := decide_eq_true c14
                clear c14
                obtain ⟨ji15, hji15⟩ : ∃ j_ : Int, (shl .u32 1 (ji13)) = j_ := ⟨_, rfl⟩
                replace H : (if 0 ≤ (IntKind.u64.wrap ((rd_T65 t141 x24_1).f1)) then (if 0 ≤ (IntKind.u64.wrap ((rd_T65 t141 x24_1).f0)) then (imm_Put.l0 k1 (Go.bits .or .u32 (Go.bits .andNot .u32 x1_1 (shl .u32 (((ji15) - 1) % 4294967296) (IntKind.u64.wrap ((rd_T65 t141 x24_1).f1)))) (shl .u32 (Go.bits .and .u32 ((shr .u64 (IntKind.u64.wrap (a2)) (IntKind.u64.wrap ((rd_T65 t141 x24_1).f0))) % 4294967296) (((ji15) - 1) % 4294967296)) (IntKind.u64.wrap ((rd_T65 t141 x24_1).f1)))) a2 t141 (t141.length : Int) (wrap64 (x24_1 + 1))) else (none)) else (none)) = some (r1, r2) := by first | (rw [hji15] at H; exact H) | (simp only [hji15] at H ⊢; exact H)
                have hji15_ : (IntKind.u32.wrap (1 * 2 ^ min (ji13).toNat 32)) = ji15 := hji15
                have hji15z : (ji13) ≤ 32 → (IntKind.u32.wrap (1 * 2 ^ (ji13).toNat)) = ji15 := shl_small hji15
                have hji15u : (IntKind.u32.wrap (2 ^ min (ji13).toNat 32)) = ji15 := by have h_ := hji15_; rw [Int.one_mul] at h_; exact h_
                have hji15v : (ji13) ≤ 32 → (IntKind.u32.wrap (2 ^ (ji13).toNat)) = ji15 := fun hle_ => by have h_ := hji15z hle_; rw [Int.one_mul] at h_; exact h_
                obtain ⟨ji16, hji16⟩ : ∃ j_ : Int, (IntKind.u64.wrap ((rd_T65 t141 x24_1).f1)) = j_ := ⟨_, rfl⟩
                replace H : (if 0 ≤ (ji16) then (if 0 ≤ (IntKind.u64.wrap ((rd_T65 t141 x24_1).f0)) then (imm_Put.l0 k1 (Go.bits .or .u32 (Go.bits .andNot .u32 x1_1 (shl .u32 (((ji15) - 1) % 4294967296) (ji16))) (shl .u32 (Go.bits .and .u32 ((shr .u64 (IntKind.u64.wrap (a2)) (IntKind.u64.wrap ((rd_T65 t141 x24_1).f0))) % 4294967296) (((ji15) - 1) % 4294967296)) (ji16))) a2 t141 (t141.length : Int) (wrap64 (x24_1 + 1))) else (none)) else (none)) = some (r1, r2) := by first | (rw [hji16] at H; exact H) | (simp only [hji16] at H ⊢; exact H)
                by_cases c17 : 0 ≤ (ji16)
                · rw [if_pos c17] at H
                  have c17b0 := eq_true c17
                  have c17b1 : decide (0 ≤ (ji16)) = true := decide_eq_true c17
                  clear c17
                  obtain ⟨ji18, hji18⟩ : ∃ j_ : Int, (shl .u32 (((ji15) - 1) % 4294967296) (ji16)) = j_ := ⟨_, rfl⟩
                  replace H : (if 0 ≤ (IntKind.u64.wrap ((rd_T65 t141 x24_1).f0)) then (imm_Put.l0 k1 (Go.bits .or .u32 (Go.bits .andNot .u32 x1_1 (ji18)) (shl .u32 (Go.bits .and .u32 ((shr .u64 (IntKind.u64.wrap (a2)) (IntKind.u64.wrap ((rd_T65 t141 x24_1).f0))) % 4294967296) (((ji15) - 1) % 4294967296)) (ji16))) a2 t141 (t141.length : Int) (wrap64 (x24_1 + 1))) else (none)) = some (r1, r2) := by first | (rw [hji18] at H; exact H) | (simp only [hji18] at H ⊢; exact H)
                  have hji18_ : (IntKind.u32.wrap ((((ji15) - 1) % 4294967296) * 2 ^ min (ji16).toNat 32)) = ji18 := hji18
                  have hji18z : (ji16) ≤ 32 → (IntKind.u32.wrap ((((ji15) - 1) % 4294967296) * 2 ^ (ji16).toNat)) = ji18 := shl_small hji18
                  obtain ⟨ji19, hji19⟩ : ∃ j_ : Int, (IntKind.u64.wrap ((rd_T65 t141 x24_1).f0)) = j_ := ⟨_, rfl⟩
                  replace H : (if 0 ≤ (ji19) then (imm_Put.l0 k1 (Go.bits .or .u32 (Go.bits .andNot .u32 x1_1 (ji18)) (shl .u32 (Go.bits .and .u32 ((shr .u64 (IntKind.u64.wrap (a2)) (ji19)) % 4294967296) (((ji15) - 1) % 4294967296)) (ji16))) a2 t141 (t141.length : Int) (wrap64 (x24_1 + 1))) else (none)) = some (r1, r2) := by first | (rw [hji19] at H; exact H) | (simp only [hji19] at H ⊢; exact H)
                  by_cases c20 : 0 ≤ (ji19)
                  · rw [if_pos c20] at H
                    have c20b0 := eq_true c20
                    have c20b1 : decide (0 ≤ (ji19)) = true := decide_eq_true c20
                    clear c20
                    obtain ⟨ji21, hji21⟩ : ∃ j_ : Int, (shr .u64 (IntKind.u64.wrap (a2)) (ji19)) = j_ := ⟨_, rfl⟩
                    replace H : (imm_Put.l0 k1 (Go.bits .or .u32 (Go.bits .andNot .u32 x1_1 (ji18)) (shl .u32 (Go.bits .and .u32 ((ji21) % 4294967296) (((ji15) - 1) % 4294967296)) (ji16))) a2 t141 (t141.length : Int) (wrap64 (x24_1 + 1))) = some (r1, r2) := by first | (rw [hji21] at H; exact H) | (simp only [hji21] at H ⊢; exact H)
                    have hji21_ : ((IntKind.u64.wrap (a2)) / 2 ^ min (ji19).toNat 64) = ji21 := hji21
                    have hji21z : (ji19) ≤ 64 → ((IntKind.u64.wrap (a2)) / 2 ^ (ji19).toNat) = ji21 := shr_small hji21
                    have c22b0 := eq_true (of_decide_eq_true (by first | (with_reducible assumption) | assumption) : 0 ≤ (ji16))
                    obtain ⟨ji23, hji23⟩ : ∃ j_ : Int, (shl .u32 (Go.bits .and .u32 ((ji21) % 4294967296) (((ji15) - 1) % 4294967296)) (ji16)) = j_ := ⟨_, rfl⟩
                    replace H : (imm_Put.l0 k1 (Go.bits .or .u32 (Go.bits .andNot .u32 x1_1 (ji18)) (ji23)) a2 t141 (t141.length : Int) (wrap64 (x24_1 + 1))) = some (r1, r2) := by first | (rw [hji23] at H; exact H) | (simp only [hji23] at H ⊢; exact H)
                    have hji23_ : (IntKind.u32.wrap ((Go.bits .and .u32 ((ji21) % 4294967296) (((ji15) - 1) % 4294967296)) * 2 ^ min (ji16).toNat 32)) = ji23 := hji23
                    have hji23z : (ji16) ≤ 32 → (IntKind.u32.wrap ((Go.bits .and .u32 ((ji21) % 4294967296) (((ji15) - 1) % 4294967296)) * 2 ^ (ji16).toNat)) = ji23 := shl_small hji23
                    have H' := Aside0.mk H
                    clear H
                    have p145 : 0 ≤ (x24_1 : Int) := of_decide_eq_true (by first | (with_reducible assumption) | assumption)
                    have q145 : x24_1 < (t141.length : Int) := of_decide_eq_true (by first | (with_reducible assumption) | assumption)
                    obtain ⟨ad145, e145, hx145_0, hx145_1, hx145_2⟩ := at_T65 (Kd.R_reads' HO_22.out).2.2 x24_1 p145 q145
                    cases e145
                    replace p145 := eq_true p145
                    replace q145 := eq_true q145
                    go_wp2_with (first | ((with_reducible refine gate_dst (N := 11) rfl ?_); refine box_event ?hg (N := 11) ?hd (cs := #[.int .i64 0, .int .i64 0, .int .i64 0]) (t := 65) ?hr ?_; (case hd => rfl); (case hg => rfl); (case hr => first | (go_simp; done) | (go_simp; rfl)); intro gb146 hg w24 hbox hb; have n0_ := Aside0.mk (Kd.R_below (Kd.R_elderB (by (with_reducible repeat (first | apply Kd.R_alloc | apply Kd.R_drewN | apply Kd.R_drew)); exact HO_22.out) gb146 (Nat.le_of_eq hg.symm)) hb); have n1_ := Aside0.mk (below_step (by repeat (first | (with_reducible first | exact HB.out | apply below_alloc | apply pw_below_drewN | apply below_drew1) | exact HB.out)) hb); have n2_ := Aside0.mk (hbox); have n3_ := Aside0.mk ((by rw [hg]; exact (below_size (by repeat (first | (with_reducible first | exact HB.out | apply below_alloc | apply pw_below_drewN | apply below_drew1) | exact HB.out))) : w.heap.size ≤ gb146)); have n4_ := Aside0.mk ((by rw [hg]; exact (below_size (by repeat (first | (with_reducible first | exact HB.out | apply below_alloc | apply pw_below_drewN | apply below_drew1) | exact HB.out))) : w.heap.size ≤ gb146)); clear HO_22; clear HB; have HO_22 := n0_; have HB := n1_; have BK146 := n2_; have GW146 := n3_; have GE146 := n4_; clear n0_ n1_ n2_ n3_ n4_; clear hb hbox hg; have hcz25_0 : w24.cell? ⟨gb146, 0, none⟩ = some (.int .i64 0) := (blk_cell BK146.out 0).trans rfl; have hcz25_1 : w24.cell? ⟨gb146, 1, none⟩ = some (.int .i64 0) := (blk_cell BK146.out 1).trans rfl; have hcz25_2 : w24.cell? ⟨gb146, 2, none⟩ = some (.int .i64 0) := (blk_cell BK146.out 2).trans rfl; have hfz25_0 := blk_frozen BK146.out 0; have hfz25_1 := blk_frozen BK146.out 1; have hfz25_2 := blk_frozen BK146.out 2))
                    go_roundg k1
                    case measure => have := HK1.out; omega
                    case rel => exact ⟨(Go.bits .or .u32 (Go.bits .andNot .u32 x1_1 (ji18)) (ji23)), (wrap64 (x24_1 + 1)), (by first | rfl | (simp; done) | (simp only [← hji18, ← hji23] <;> (first | rfl | simp)) | (simp [*]; done)), (by first | rfl | (simp; done) | (simp [*]; done)), H', ⟨by have := HK1.out; omega⟩, ⟨by (with_reducible repeat (first | apply Kd.R_alloc | apply Kd.R_drewN | apply Kd.R_drew)); exact Kd.R_mono (Kd.R_far (p := ⟨gb146, 2, none⟩) (Kd.R_far (p := ⟨gb146, 1, none⟩) (Kd.R_far (p := ⟨gb146, 0, none⟩) (Kd.R_mono HO_22.out (fun k_ hk => (⟨hk, hk.2⟩ : _ ∧ k_ ≠ gb146))) (fun _ hk => hk.2) (.int .i64 ((rd_T65 t141 x24_1).f0))) (fun _ hk => hk.2) (.int .i64 ((rd_T65 t141 x24_1).f1))) (fun _ hk => hk.2) (.int .i64 ((rd_T65 t141 x24_1).f2))) (fun _ hk => trivial)⟩, ⟨by repeat (first | (with_reducible first | exact HB.out | apply below_alloc | apply pw_below_drewN | apply below_drew1 | refine below_set ?_ GE146.out) | exact HB.out)⟩⟩
                  · rw [if_neg c20] at H
                    exact absurd H (by simp)
                · rw [if_neg c17] at H
                  exact absurd H (by simp)
              · rw [if_neg c14] at H
                exact absurd H (by simp)
            · rw [if_neg c12] at H
              exact absurd H (by simp)
          · rw [if_neg c11] at H
            exact absurd H (by simp)
        · rw [if_neg c10] at H
          have c10b0 : decide (x24_1 < (t141.length : Int)) = false := decide_eq_false c10
          clear c10
          simp only [Option.some.injEq, Prod.mk.injEq] at H
          obtain ⟨rfl, rfl⟩ := H
          go_wp2
          go_ret2
          exact ⟨by first | rfl | (simp [errW_none, errW_some] <;> rfl) | (simp [*, errW_none, errW_some] <;> rfl), by repeat (first | (with_reducible first | exact HB.out | apply below_alloc | apply pw_below_drewN | apply below_drew1) | exact HB.out)⟩
  · replace c5 := Bool.eq_false_iff.mpr c5
    subst c5
    have H1 : (some (0, false)) = some (r1, r2) := by rw [if_neg (show ¬ (false = true) by decide)] at H; exact H
    clear H
    have H := H1
    clear H1
    simp only [Option.some.injEq, Prod.mk.injEq] at H
    obtain ⟨rfl, rfl⟩ := H
    go_enter Try.func27, Try.ntmps27
    go_wp2_with (first | ((with_reducible refine gate_callee (f := 32) rfl ?_); refine goesL_ (some 15) rfl rfl Try.func32 (by kernel_rfl) rfl #[.int .i64 a0, .int .i64 a2] rfl (by (try simp only [List.map_toArray, List.map_cons, List.map_nil]); first | done | rfl | (simp only [List.length_drop, List.length_take]; rfl)) ?_; (with_reducible refine (imm_Fits.calls a0 a2 false _ A4.out).mono ?_); rintro e w26 ⟨rfl, hb⟩; refine ⟨_, rfl, ?_⟩; have n0_ := Aside0.mk (below_step (by repeat (first | (with_reducible first | exact HB.out | apply below_alloc | apply pw_below_drewN | apply below_drew1) | exact HB.out)) hb); clear HB; have HB := n0_; clear n0_; (try clear hb); (try clear hb2); (try clear hk); (try clear hi)))
    go_ret2
    exact ⟨by first | rfl | (simp [errW_none, errW_some] <;> rfl) | (simp [*, errW_none, errW_some] <;> rfl), by repeat (first | (with_reducible first | exact HB.out | apply below_alloc | apply pw_below_drewN | apply below_drew1) | exact HB.out)⟩

end Go.Proofs.Ytlpphlfbdicaaaa.QInstNames
