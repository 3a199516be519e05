/- Contracts of what a law reaches, each function as a plain Lean function: written by a program of this claim's repo (myprint.py); conditions: those of each theorem. -/
import Derived.Test.YtpblhcmcldachaaQAddrApartx0
namespace Go.Proofs.Ytpblhcmcldachaa.QAddrApart
open Go.Proofs.Ytpblhcmcldachaa.Man
open Go.RowKit Go.Proofs.YtpblhcmcldachaaW.PrintWords Go.Proofs.YtpblhcmcldachaaW.PrintLast Go.Proofs.YtpblhcmcldachaaW.PrintMore
attribute [local go_sem] max2_int min2_int max_two min_two max_three min_three max_four min_four   -- for this text's walks alone
set_option linter.unusedVariables false
set_option linter.unusedSimpArgs false

/-! ### addr_kindOf: function 14 -/
def addr_kindOf.f (a0 : Int) : Option (Int) := if a0 = 0 then (some 5) else (if a0 = 1 then (some 4) else (some 6))
set_option maxHeartbeats 8000000 in
set_option maxRecDepth 100000 in
theorem addr_kindOf.calls (a0 : Int) (r : Int) (w : World) (h : addr_kindOf.f a0 = some r) :
    Calls Try.prog 14 #[.int .i64 a0] w fun e w' => e = .returned (.int .i64 r) ∧ Drawn0 w w' := by
  have H : (if a0 = 0 then (some 5) else (if a0 = 1 then (some 4) else (some 6))) = some r := h
  clear h
  by_cases c2 : a0 = 0
  · rw [if_pos c2] at H
    have c2b0 : (a0 == 0) = true := beq_iff_eq.mpr c2
    have c2b1 : (a0 != 0) = false := bne_eq_false_iff_eq.mpr c2
    clear c2
    obtain rfl := Option.some.inj H
    go_enter Try.func14, Try.ntmps14
    go_wp2
    go_ret
    exact ⟨by first | rfl | (simp; done) | (simp [*]; done), by repeat (first | exact Drawn0.refl _ | apply Drawn0.step)⟩
  · rw [if_neg c2] at H
    have c2b0 : (a0 == 0) = false := beq_eq_false_iff_ne.mpr c2
    have c2b1 : (a0 != 0) = true := bne_iff_ne.mpr c2
    by_cases c3 : a0 = 1
    · rw [if_pos c3] at H
      have c3b0 : (a0 == 1) = true := beq_iff_eq.mpr c3
      have c3b1 : (a0 != 1) = false := bne_eq_false_iff_eq.mpr c3
      clear c3
      obtain rfl := Option.some.inj H
      go_enter Try.func14, Try.ntmps14
      go_wp2
      go_ret
      exact ⟨by first | rfl | (simp; done) | (simp [*]; done), by repeat (first | exact Drawn0.refl _ | apply Drawn0.step)⟩
    · rw [if_neg c3] at H
      have c3b0 : (a0 == 1) = false := beq_eq_false_iff_ne.mpr c3
      have c3b1 : (a0 != 1) = true := bne_iff_ne.mpr c3
      obtain rfl := Option.some.inj H
      go_enter Try.func14, Try.ntmps14
      go_wp2
      go_ret
      exact ⟨by first | rfl | (simp; done) | (simp [*]; done), by repeat (first | exact Drawn0.refl _ | apply Drawn0.step)⟩

/-! ### span_Pow2: function 23 -/
def span_Pow2.f (a0 : Int) : Option (Bool) := if a0 = 0 then (some false) else (some ((Go.bits .and .u64 a0 (IntKind.u64.wrap (a0 - 1))) == 0))
set_option maxHeartbeats 8000000 in
set_option maxRecDepth 100000 in
theorem span_Pow2.calls (a0 : Int) (r : Bool) (w : World) (h : span_Pow2.f a0 = some r) :
    Calls Try.prog 23 #[.int .u64 a0] w fun e w' => e = .returned (.bool r) ∧ Drawn0 w w' := by
  have H : (if a0 = 0 then (some false) else (some ((Go.bits .and .u64 a0 (IntKind.u64.wrap (a0 - 1))) == 0))) = some r := h
  clear h
  by_cases c2 : a0 = 0
  · rw [if_pos c2] at H
    have c2b0 : (a0 == 0) = true := beq_iff_eq.mpr c2
    have c2b1 : (a0 != 0) = false := bne_eq_false_iff_eq.mpr c2
    clear c2
    obtain rfl := Option.some.inj H
    go_enter Try.func23, Try.ntmps23
    go_wp2
    go_ret
    exact ⟨by first | rfl | (simp; done) | (simp [*]; done), by repeat (first | exact Drawn0.refl _ | apply Drawn0.step)⟩
  · rw [if_neg c2] at H
    have c2b0 : (a0 == 0) = false := beq_eq_false_iff_ne.mpr c2
    have c2b1 : (a0 != 0) = true := bne_iff_ne.mpr c2
    obtain rfl := Option.some.inj H
    go_enter Try.func23, Try.ntmps23
    go_wp2
    go_ret
    exact ⟨by first | rfl | (simp; done) | (simp [*]; done), by repeat (first | exact Drawn0.refl _ | apply Drawn0.step)⟩

/-! ### span_Up: function 20 -/
def span_Up.f (a0 : Int) (a1 : Int) : Option (Int × Bool) := (span_Pow2.f a1).bind fun t101 => (if t101 = true then (if (Go.bits .andNot .u64 (IntKind.u64.wrap ((IntKind.u64.wrap (a0 + a1)) - 1)) (IntKind.u64.wrap (a1 - 1))) < a0 then (some (0, false)) else (some (Go.bits .andNot .u64 (IntKind.u64.wrap ((IntKind.u64.wrap (a0 + a1)) - 1)) (IntKind.u64.wrap (a1 - 1)), true))) else (some (0, false)))
set_option maxHeartbeats 8000000 in
set_option maxRecDepth 100000 in
theorem span_Up.calls (a0 : Int) (a1 : Int) (r1 : Int) (r2 : Bool) (w : World) (h : span_Up.f a0 a1 = some (r1, r2)) :
    Calls Try.prog 20 #[.int .u64 a0, .int .u64 a1] w fun e w' => e = .returned (.tuple #[.int .u64 r1, .bool r2]) ∧ Drawn0 w w' := by
  have H : ((span_Pow2.f a1).bind fun t101 => (if t101 = true then (if (Go.bits .andNot .u64 (IntKind.u64.wrap ((IntKind.u64.wrap (a0 + a1)) - 1)) (IntKind.u64.wrap (a1 - 1))) < a0 then (some (0, false)) else (some (Go.bits .andNot .u64 (IntKind.u64.wrap ((IntKind.u64.wrap (a0 + a1)) - 1)) (IntKind.u64.wrap (a1 - 1)), true))) else (some (0, false)))) = some (r1, r2) := h
  clear h
  replace H := Option.bind_eq_some_iff.mp H
  obtain ⟨t101, A30, H⟩ := H
  replace H : (if t101 = true then (if (Go.bits .andNot .u64 (IntKind.u64.wrap ((IntKind.u64.wrap (a0 + a1)) - 1)) (IntKind.u64.wrap (a1 - 1))) < a0 then (some (0, false)) else (some (Go.bits .andNot .u64 (IntKind.u64.wrap ((IntKind.u64.wrap (a0 + a1)) - 1)) (IntKind.u64.wrap (a1 - 1)), true))) else (some (0, false))) = some (r1, r2) := H
  have A3 := Aside0.mk A30
  clear A30
  by_cases c4 : t101 = true
  · subst c4
    have H1 : (if (Go.bits .andNot .u64 (IntKind.u64.wrap ((IntKind.u64.wrap (a0 + a1)) - 1)) (IntKind.u64.wrap (a1 - 1))) < a0 then (some (0, false)) else (some (Go.bits .andNot .u64 (IntKind.u64.wrap ((IntKind.u64.wrap (a0 + a1)) - 1)) (IntKind.u64.wrap (a1 - 1)), true))) = some (r1, r2) := by rw [if_pos rfl] at H; exact H
    clear H
    have H := H1
    clear H1
    by_cases c5 : (Go.bits .andNot .u64 (IntKind.u64.wrap ((IntKind.u64.wrap (a0 + a1)) - 1)) (IntKind.u64.wrap (a1 - 1))) < a0
    · rw [if_pos c5] at H
      have c5b0 : decide ((Go.bits .andNot .u64 (IntKind.u64.wrap ((IntKind.u64.wrap (a0 + a1)) - 1)) (IntKind.u64.wrap (a1 - 1))) < a0) = true := decide_eq_true c5
      clear c5
      simp only [Option.some.injEq, Prod.mk.injEq] at H
      obtain ⟨rfl, rfl⟩ := H
      go_enter Try.func20, Try.ntmps20
      go_wp2_with (first | ((with_reducible refine gate_callee (f := 23) rfl ?_); refine goesL_ (some 8) rfl rfl Try.func23 (by kernel_rfl) rfl #[.int .u64 a1] rfl (by (try simp only [List.map_toArray, List.map_cons, List.map_nil]); first | done | rfl | (simp only [List.length_drop, List.length_take]; rfl)) ?_; (with_reducible refine (span_Pow2.calls a1 true _ A3.out).mono ?_); rintro e w' ⟨rfl, ⟨nd, rfl⟩⟩; refine ⟨_, rfl, ?_⟩))
      go_ret2
      exact ⟨by first | rfl | (simp; done) | (simp [*]; done), by repeat (first | exact Drawn0.refl _ | apply Drawn0.step)⟩
    · rw [if_neg c5] at H
      have c5b0 : decide ((Go.bits .andNot .u64 (IntKind.u64.wrap ((IntKind.u64.wrap (a0 + a1)) - 1)) (IntKind.u64.wrap (a1 - 1))) < a0) = false := decide_eq_false c5
      clear c5
      simp only [Option.some.injEq, Prod.mk.injEq] at H
      obtain ⟨rfl, rfl⟩ := H
      go_enter Try.func20, Try.ntmps20
      go_wp2_with (first | ((with_reducible refine gate_callee (f := 23) rfl ?_); refine goesL_ (some 8) rfl rfl Try.func23 (by kernel_rfl) rfl #[.int .u64 a1] rfl (by (try simp only [List.map_toArray, List.map_cons, List.map_nil]); first | done | rfl | (simp only [List.length_drop, List.length_take]; rfl)) ?_; (with_reducible refine (span_Pow2.calls a1 true _ A3.out).mono ?_); rintro e w' ⟨rfl, ⟨nd, rfl⟩⟩; refine ⟨_, rfl, ?_⟩))
      go_ret2
      exact ⟨by first | rfl | (simp; done) | (simp [*]; done), by repeat (first | exact Drawn0.refl _ | apply Drawn0.step)⟩
  · replace c4 := Bool.eq_false_iff.mpr c4
    subst c4
    have H1 : (some (0, false)) = some (r1, r2) := by rw [if_neg (show ¬ (false = true) by decide)] at H; exact H
    clear H
    have H := H1
    clear H1
    simp only [Option.some.injEq, Prod.mk.injEq] at H
    obtain ⟨rfl, rfl⟩ := H
    go_enter Try.func20, Try.ntmps20
    go_wp2_with (first | ((with_reducible refine gate_callee (f := 23) rfl ?_); refine goesL_ (some 8) rfl rfl Try.func23 (by kernel_rfl) rfl #[.int .u64 a1] rfl (by (try simp only [List.map_toArray, List.map_cons, List.map_nil]); first | done | rfl | (simp only [List.length_drop, List.length_take]; rfl)) ?_; (with_reducible refine (span_Pow2.calls a1 false _ A3.out).mono ?_); rintro e w' ⟨rfl, ⟨nd, rfl⟩⟩; refine ⟨_, rfl, ?_⟩))
    go_ret2
    exact ⟨by first | rfl | (simp; done) | (simp [*]; done), by repeat (first | exact Drawn0.refl _ | apply Drawn0.step)⟩

/-! ### addr_up: function 19 -/
def addr_up.f (a0 : Int) (a1 : Int) : Option (Int × Bool) := if a0 ≥ 140737488355328 then (some (a0, false)) else ((span_Up.f a0 a1).bind fun bt102 => (if bt102.2 = true then (some (bt102.1, decide (bt102.1 ≤ 140737488355328))) else (some (bt102.1, false))))
set_option maxHeartbeats 8000000 in
set_option maxRecDepth 100000 in
theorem addr_up.calls (a0 : Int) (a1 : Int) (r1 : Int) (r2 : Bool) (w : World) (h : addr_up.f a0 a1 = some (r1, r2)) :
    Calls Try.prog 19 #[.int .u64 a0, .int .u64 a1] w fun e w' => e = .returned (.tuple #[.int .u64 r1, .bool r2]) ∧ Drawn0 w w' := by
  have H : (if a0 ≥ 140737488355328 then (some (a0, false)) else ((span_Up.f a0 a1).bind fun bt102 => (if bt102.2 = true then (some (bt102.1, decide (bt102.1 ≤ 140737488355328))) else (some (bt102.1, false))))) = some (r1, r2) := h
  clear h
  by_cases c3 : a0 ≥ 140737488355328
  · rw [if_pos c3] at H
    have c3b0 : decide (140737488355328 ≤ a0) = true := decide_eq_true c3
    clear c3
    simp only [Option.some.injEq, Prod.mk.injEq] at H
    obtain ⟨rfl, rfl⟩ := H
    go_enter Try.func19, Try.ntmps19
    go_wp2
    go_ret2
    exact ⟨by first | rfl | (simp; done) | (simp [*]; done), by repeat (first | exact Drawn0.refl _ | apply Drawn0.step)⟩
  · rw [if_neg c3] at H
    have c3b0 : decide (140737488355328 ≤ a0) = false := decide_eq_false c3
    clear c3
    replace H := Option.bind_eq_some_iff.mp H
    obtain ⟨⟨t102, t103⟩, A40, H⟩ := H
    replace H : (if t103 = true then (some (t102, decide (t102 ≤ 140737488355328))) else (some (t102, false))) = some (r1, r2) := H
    have A4 := Aside0.mk A40
    clear A40
    by_cases c5 : t103 = true
    · subst c5
      have H1 : (some (t102, decide (t102 ≤ 140737488355328))) = some (r1, r2) := by rw [if_pos rfl] at H; exact H
      clear H
      have H := H1
      clear H1
      simp only [Option.some.injEq, Prod.mk.injEq] at H
      obtain ⟨rfl, rfl⟩ := H
      go_enter Try.func19, Try.ntmps19
      go_wp2_with (first | ((with_reducible refine gate_callee (f := 20) rfl ?_); refine goesL_ (some 14) rfl rfl Try.func20 (by kernel_rfl) rfl #[.int .u64 a0, .int .u64 a1] rfl (by (try simp only [List.map_toArray, List.map_cons, List.map_nil]); first | done | rfl | (simp only [List.length_drop, List.length_take]; rfl)) ?_; (with_reducible refine (span_Up.calls a0 a1 t102 true _ A4.out).mono ?_); rintro e w' ⟨rfl, ⟨nd, rfl⟩⟩; refine ⟨_, rfl, ?_⟩))
      go_ret2
      exact ⟨by first | rfl | (simp; done) | (simp [*]; done), by repeat (first | exact Drawn0.refl _ | apply Drawn0.step)⟩
    · replace c5 := Bool.eq_false_iff.mpr c5
      subst c5
      have H1 : (some (t102, false)) = some (r1, r2) := by rw [if_neg (show ¬ (false = true) by decide)] at H; exact H
      clear H
      have H := H1
      clear H1
      simp only [Option.some.injEq, Prod.mk.injEq] at H
      obtain ⟨rfl, rfl⟩ := H
      go_enter Try.func19, Try.ntmps19
      go_wp2_with (first | ((with_reducible refine gate_callee (f := 20) rfl ?_); refine goesL_ (some 14) rfl rfl Try.func20 (by kernel_rfl) rfl #[.int .u64 a0, .int .u64 a1] rfl (by (try simp only [List.map_toArray, List.map_cons, List.map_nil]); first | done | rfl | (simp only [List.length_drop, List.length_take]; rfl)) ?_; (with_reducible refine (span_Up.calls a0 a1 t102 false _ A4.out).mono ?_); rintro e w' ⟨rfl, ⟨nd, rfl⟩⟩; refine ⟨_, rfl, ?_⟩))
      go_ret2
      exact ⟨by first | rfl | (simp; done) | (simp [*]; done), by repeat (first | exact Drawn0.refl _ | apply Drawn0.step)⟩

-- NOT PRINTED: function 24 (bits_Add64)

-- contract by hand: function 21 (span_Add)

/-! ### (*addr.layer).segment: by hand -/
theorem getD_pair {α β : Type} {o : Option (α × β)} (d : α × β) (h : o.isSome = true) : o = some ((o.getD d).1, (o.getD d).2) := by
  cases o with
  | none => cases h
  | some x => rfl
def upv (x a : Int) : Int × Bool := (span_Up.f x a).getD (0, false)
theorem upv_f (x a : Int) : span_Up.f x a = some ((upv x a).1, (upv x a).2) := by
  refine getD_pair _ ?_
  unfold span_Up.f span_Pow2.f
  split
  · rfl
  · simp only [Option.bind_some]
    split
    · split <;> rfl
    · rfl
def aupv (x a : Int) : Int × Bool := (addr_up.f x a).getD (0, false)
theorem aupv_f (x a : Int) : addr_up.f x a = some ((aupv x a).1, (aupv x a).2) := by
  refine getD_pair _ ?_
  unfold addr_up.f
  rw [upv_f]
  split
  · rfl
  · simp only [Option.bind_some]
    split <;> rfl
def kindv (c : Int) : Int := if c = 0 then 5 else if c = 1 then 4 else 6
theorem kindv_f (c : Int) : addr_kindOf.f c = some (kindv c) := by
  unfold kindv addr_kindOf.f
  repeat' (first | rfl | split)
def addv (a b : Int) : Int × Bool := (span_Add.f [a, b]).getD (0, false)
theorem addv_f (a b : Int) : span_Add.f [a, b] = some ((addv a b).1, (addv a b).2) := by
  refine getD_pair _ ?_
  unfold span_Add.f
  simp only [span_addl]
  repeat' (first | rfl | split)
/-- What one kind's pieces come to: the pieces, where the last one ends, was there one. -/
def segL (k : Int) : List S37 → Int → Bool → Option (List S37 × Int × Bool)
  | [], a, s => some ([], a, s)
  | p :: ps, a, s =>
    if kindv p.f2 = k then
      (if (upv a p.f4).2 = true then (if (addv (upv a p.f4).1 p.f5).2 = true then (if (addv (upv a p.f4).1 p.f5).1 ≤ 140737488355328 then
        (segL k ps (addv (upv a p.f4).1 p.f5).1 true).map fun r => (⟨p.f0, p.f1, p.f2, p.f3, p.f4, p.f5, (upv a p.f4).1⟩ :: r.1, r.2) else none) else none) else none)
    else (segL k ps a s).map fun r => (p :: r.1, r.2)
/-- A layer: pieces, segments, where the next one begins, how much all have. -/
structure Lay where
  l : List S37
  s : List S40
  at_ : Int
  all : Int
def segF (k : Int) (y : Lay) : Option Lay :=
  if (aupv y.at_ 4096).2 = true then
    (segL k y.l (aupv y.at_ 4096).1 false).bind fun r =>
      if r.2.2 = true then
        (if IntKind.u64.wrap (r.2.1 - (aupv y.at_ 4096).1) > 0 then
          (if IntKind.u64.wrap (y.all + IntKind.u64.wrap (r.2.1 - (aupv y.at_ 4096).1)) ≤ 134217728 then
            some ⟨r.1, y.s ++ [⟨(aupv y.at_ 4096).1, k, [], IntKind.u64.wrap (r.2.1 - (aupv y.at_ 4096).1)⟩], r.2.1, IntKind.u64.wrap (y.all + IntKind.u64.wrap (r.2.1 - (aupv y.at_ 4096).1))⟩ else none)
        else (if y.all ≤ 134217728 then some ⟨r.1, y.s, r.2.1, y.all⟩ else none))
      else some ⟨r.1, y.s, y.at_, y.all⟩
  else none
/-- A layer in memory. -/
structure LayC (w0 w : World) (g : Nat) (v vs : Value) (y : Lay) : Prop where
  cell : w.heap[g]? = some (.cells #[v, vs, .int .u64 y.at_, .int .u64 y.all] 50 (0, 0))
  ge : w0.heap.size ≤ g
  l : Kd.R k37 37 w w0.heap.size (fun _ => True) v y.l
  s : Kd.S k40 40 w w0.heap.size (fun _ => True) vs y.s
theorem LayC.lt {w0 w : World} {g : Nat} {v vs : Value} {y : Lay} (h : LayC w0 w g v vs y) : g < w.heap.size := (Array.getElem?_eq_some_iff.1 h.cell).1
theorem LayC.below {w0 w w1 : World} {g : Nat} {v vs : Value} {y : Lay} (h : LayC w0 w g v vs y) (hb : Below w.heap.size w w1) : LayC w0 w1 g v vs y :=
  ⟨(hb.block g h.lt).trans h.cell, h.ge, Kd.R_below h.l hb, Kd.S_below h.s hb⟩
/-- What is neither a piece's, nor a segment's, nor a layer's block is as it was. -/
def Tfr (w w' : World) : Prop := ∀ (b : Nat) (cells : Array Value) (t : Nat) (fr : Nat × Nat), t ≠ 37 → t ≠ 40 → t ≠ 50 → w.heap[b]? = some (.cells cells t fr) → w'.heap[b]? = some (.cells cells t fr)
theorem Tfr.refl (w : World) : Tfr w w := fun _ _ _ _ _ _ _ h => h
theorem Tfr.trans {w w1 w2 : World} (h : Tfr w w1) (h2 : Tfr w1 w2) : Tfr w w2 := fun b cells t fr a b' c hb => h2 b cells t fr a b' c (h b cells t fr a b' c hb)
theorem Tfr.below {w w1 : World} (h : Below w.heap.size w w1) : Tfr w w1 := fun b cells t fr _ _ _ hb => (h.block b (Array.getElem?_eq_some_iff.1 hb).1).trans hb
theorem cell_of_blk {w : World} {g : Nat} {cs : Array Value} {t : Nat} {fr : Nat × Nat} (h : w.heap[g]? = some (.cells cs t fr)) (i : Nat) (hi : i < cs.size) : w.cell? ⟨g, i, none⟩ = some cs[i] := by
  simp [World.cell?, h, hi]
theorem wrap_succ (i : Nat) (h : i + 1 ≤ 1000000) : wrap64 ((i : Int) + 1) = ((i + 1 : Nat) : Int) := by unfold wrap64; omega
theorem info_seg : (Try.prog.info? 40).map (fun i => (i.zero, i.size, i.bytes)) = some (some (.agg #[.int .u64 0, .int .i64 0, .slice none 0 0, .int .u64 0]), 4, 48) := by kernel_rfl
theorem below_then_ {w w1 w2 : World} (h : Below w.heap.size w w1) (h2 : Below w1.heap.size w1 w2) : Below w.heap.size w w2 := below_step h h2

/-- What a segment leaves. -/
structure SegPost (w0 w : World) (g : Nat) (v : Value) (y : Lay) (k : Int) (e : Ending) (w' : World) : Prop where
  mk :: (out : ∃ b : Bool, e = .returned (.bool b) ∧ Below w0.heap.size w0 w' ∧ Tfr w w' ∧ (b = (segF k y).isSome) ∧ ∀ z, segF k y = some z → ∃ vs', LayC w0 w' g v vs' z)
theorem Lib_size (w : World) (o : Obj) : (w.alloc o).heap.size = w.heap.size + 1 := by
  show (w.heap.push o).size = _
  simp
theorem ite_true_ {α : Type} {a b : α} : (if True then a else b) = a := if_pos trivial
theorem ite_false_ {α : Type} {a b : α} : (if False then a else b) = b := if_neg id
theorem blk_ne {w : World} {a b : Nat} {c1 c2 : Array Value} {t1 t2 : Nat} {f1 f2 : Nat × Nat} (h1 : w.heap[a]? = some (.cells c1 t1 f1)) (h2 : w.heap[b]? = some (.cells c2 t2 f2)) (hne : t1 ≠ t2) : a ≠ b := by
  intro e; subst e; rw [h1] at h2; injection h2 with h2; injection h2 with _ h3; exact hne h3
theorem lay_put {w0 w : World} {g go n cap : Nat} {vs : Value} {y : Lay} {i : Nat} {x : S37} {ua : Int} (h : LayC w0 w g (.slice (some ⟨go, 0, none⟩) n cap) vs y) (hi : i < y.l.length) (hx : y.l.getD i z37 = x) :
    LayC w0 (w.setCell ⟨go, i * 7 + 6, none⟩ (.int .u64 ua)) g (.slice (some ⟨go, 0, none⟩) n cap) vs ⟨y.l.set i ⟨x.f0, x.f1, x.f2, x.f3, x.f4, x.f5, ua⟩, y.s, y.at_, y.all⟩ ∧ Tfr w (w.setCell ⟨go, i * 7 + 6, none⟩ (.int .u64 ua)) ∧
      (Below w0.heap.size w0 w → Below w0.heap.size w0 (w.setCell ⟨go, i * 7 + 6, none⟩ (.int .u64 ua))) ∧ w.frozen? ⟨go, i * 7 + 6, none⟩ = false ∧ w.cell? ⟨go, i * 7 + 6, none⟩ = some (.int .u64 x.f6) := by
  have hl := h.l
  obtain ⟨go', cap', e, hgb, hgl, cells, hG⟩ := Kd.R_form hl (by omega)
  obtain ⟨hn, _, _⟩ := Kd.R_reads' hl
  injection e with e1 e2 e3
  injection e1 with e1
  injection e1 with e1
  subst e1
  obtain ⟨ce, hcel, hM, hcc, hfr⟩ := Kd.R_elem hl z37 (i : Int) (by omega) (by omega)
  obtain rfl := k37_openM hM
  rw [Int.toNat_natCast, hx] at hM hcc hcel
  rw [Int.toNat_natCast] at hfr
  have x6 := hcc 6 _ rfl
  have HP := Kd.R_seg hl (i : Int) (by omega) (by omega) (seg := [.int .u64 ua]) (j := 6) hcel (by rw [Int.toNat_natCast]; exact hcc) (show 7 ≤ 7 from by decide) (x' := (⟨x.f0, x.f1, x.f2, x.f3, x.f4, x.f5, ua⟩ : S37)) (k37_mkM _ _ _ (⟨x.f0, x.f1, x.f2, x.f3, x.f4, x.f5, ua⟩ : S37)) (fun _ hk => hk)
  rw [Int.toNat_natCast] at HP
  have hgne : g ≠ go := blk_ne h.cell hG (by decide)
  have hS := Kd.S_mono (Kd.S_grown (Kd.S_types h.s hG (by decide)) HP.2 (fun k hk e => hk.2 (by injection e))) (ok' := fun _ => True) (fun _ _ => trivial)
  refine ⟨⟨(Below.heap_setCell w ⟨go, i * 7 + 6, none⟩ _ g hgne).trans h.cell, h.ge, HP.1, hS⟩, ?_, fun hb => below_set hb hgb, hfr 6, x6⟩
  intro b cs t fr ht _ _ hb
  exact (Below.heap_setCell w ⟨go, i * 7 + 6, none⟩ _ b (fun e => ht (by rw [show b = go from e, hG] at hb; injection hb with hb; injection hb with _ h3; exact h3.symm))).trans hb
theorem lay_at {w0 w : World} {g : Nat} {v vs : Value} {y : Lay} (h : LayC w0 w g v vs y) (a : Int) :
    LayC w0 (w.setCell ⟨g, 2, none⟩ (.int .u64 a)) g v vs ⟨y.l, y.s, a, y.all⟩ ∧ Tfr w (w.setCell ⟨g, 2, none⟩ (.int .u64 a)) ∧ (Below w0.heap.size w0 w → Below w0.heap.size w0 (w.setCell ⟨g, 2, none⟩ (.int .u64 a))) := by
  refine ⟨⟨blk_set h.cell 2 _, h.ge, Kd.R_set h.l h.cell (by decide) 2 _, Kd.S_set h.s h.cell (by decide) 2 _⟩, ?_, fun hb => below_set hb h.ge⟩
  intro b cs t fr _ _ ht hb
  exact (Below.heap_setCell w ⟨g, 2, none⟩ _ b (blk_ne hb h.cell ht)).trans hb
theorem lay_all {w0 w : World} {g : Nat} {v vs : Value} {y : Lay} (h : LayC w0 w g v vs y) (a : Int) :
    LayC w0 (w.setCell ⟨g, 3, none⟩ (.int .u64 a)) g v vs ⟨y.l, y.s, y.at_, a⟩ ∧ Tfr w (w.setCell ⟨g, 3, none⟩ (.int .u64 a)) ∧ (Below w0.heap.size w0 w → Below w0.heap.size w0 (w.setCell ⟨g, 3, none⟩ (.int .u64 a))) := by
  refine ⟨⟨blk_set h.cell 3 _, h.ge, Kd.R_set h.l h.cell (by decide) 3 _, Kd.S_set h.s h.cell (by decide) 3 _⟩, ?_, fun hb => below_set hb h.ge⟩
  intro b cs t fr _ _ ht hb
  exact (Below.heap_setCell w ⟨g, 3, none⟩ _ b (blk_ne hb h.cell ht)).trans hb
/-- .. an appended segment, stored. -/
theorem lay_seg {w0 w w1 : World} {g : Nat} {v vs vs1 : Value} {y : Lay} {s1 : List S40} (h : LayC w0 w g v vs y) (hS : Kd.S k40 40 w1 w0.heap.size (fun _ => True) vs1 s1) (hg : w.grownBy w1 vs.ownBlock) :
    LayC w0 (w1.setCell ⟨g, 1, none⟩ vs1) g v vs1 ⟨y.l, s1, y.at_, y.all⟩ ∧ Tfr w (w1.setCell ⟨g, 1, none⟩ vs1) ∧ (Below w0.heap.size w0 w1 → Below w0.heap.size w0 (w1.setCell ⟨g, 1, none⟩ vs1)) := by
  have hne := Kd.S_ne h.s h.cell (by decide)
  have hc1 := (hg.block g h.lt hne).trans h.cell
  have hty : ∀ k, vs.ownBlock = some k → ∃ cells, w.heap[k]? = some (.cells cells 40 (0, 0)) := by
    obtain ⟨inner, ho⟩ := Kd.S_own h.s
    exact own_typed ho
  have hl : Kd.R k37 37 w1 w0.heap.size (fun _ => True) v y.l := by
    cases hv : vs.ownBlock with
    | none => rw [hv] at hg; exact Kd.R_grown h.l hg (fun _ _ => by simp)
    | some k =>
      obtain ⟨cells, hk⟩ := hty k hv
      rw [hv] at hg
      exact Kd.R_mono (Kd.R_grown (Kd.R_types h.l hk (by decide)) hg (fun j hj e => hj.2 (by injection e))) (fun _ _ => trivial)
  refine ⟨⟨blk_set hc1 1 _, h.ge, Kd.R_set hl hc1 (by decide) 1 _, Kd.S_set hS hc1 (by decide) 1 _⟩, ?_, fun hb => below_set hb h.ge⟩
  intro b cs t fr _ ht2 ht3 hb
  have hbl := (Array.getElem?_eq_some_iff.1 hb).1
  have hb1 : w1.heap[b]? = some (.cells cs t fr) := (hg.block b hbl (fun e => by
    obtain ⟨cells, hk⟩ := hty b e.symm
    rw [hb] at hk
    injection hk with hk
    injection hk with _ h3
    exact ht2 h3)).trans hb
  exact (Below.heap_setCell w1 ⟨g, 1, none⟩ _ b (blk_ne hb1 hc1 ht3)).trans hb1
theorem C_two {w : World} {b : Nat} {x y : Int} {t : Nat} (h : w.heap[b]? = some (.cells #[.int .u64 x, .int .u64 y] t (0, 0))) : Kd.C (Kd.int .u64) w (some ⟨b, 0, none⟩) 2 [x, y] := by
  refine Kd.C_of_reads (d := (0 : Int)) (h1 := fun _ => rfl) ⟨rfl, by simp, fun _ => ⟨_, rfl, fun j hj => ?_⟩⟩
  have hj : j = 0 ∨ j = 1 := by omega
  rcases hj with rfl | rfl <;> simp [World.cell?, Addr.add, h]
theorem heap_new (w : World) (o : Obj) : (w.alloc o).heap[w.heap.size]? = some o := by
  show (w.heap.push o)[w.heap.size]? = _
  simp

set_option maxHeartbeats 4000000 in
set_option maxRecDepth 100000 in
theorem addr_segment.calls (g : Nat) (v vs : Value) (y : Lay) (k : Int) (w0 w : World) (hL : LayC w0 w g v vs y) (hB : Below w0.heap.size w0 w) (hn : y.l.length ≤ 1000000) (hs : y.s.length ≤ 1000) :
    Calls Try.prog 15 #[.pointer (some ⟨g, 0, none⟩), .int .i64 k] w fun e w' =>
      SegPost w0 w g v y k e w' := by
  obtain ⟨Av, cv, rfl⟩ := Kd.R_slice hL.l
  have HL := Aside0.mk hL
  have HB := Aside0.mk hB
  have c0 : w.cell? ⟨g, 0, none⟩ = some (.slice Av y.l.length cv) := by simp [World.cell?, hL.cell]
  have c2 : w.cell? ⟨g, 2, none⟩ = some (.int .u64 y.at_) := by simp [World.cell?, hL.cell]
  have hup := fun w => addr_up.calls y.at_ 4096 _ _ w (aupv_f y.at_ 4096)
  obtain ⟨bg, hbg⟩ : ∃ bg, aupv y.at_ 4096 = bg := ⟨_, rfl⟩
  rw [hbg] at hup
  obtain ⟨begin_, ok_⟩ := bg
  simp only at hup
  clear hL hB
  have HBG := Aside0.mk hbg
  have hF : segF k y = if ok_ = true then (segL k y.l begin_ false).bind fun r =>
      if r.2.2 = true then
        (if IntKind.u64.wrap (r.2.1 - begin_) > 0 then
          (if IntKind.u64.wrap (y.all + IntKind.u64.wrap (r.2.1 - begin_)) ≤ 134217728 then
            some ⟨r.1, y.s ++ [⟨begin_, k, [], IntKind.u64.wrap (r.2.1 - begin_)⟩], r.2.1, IntKind.u64.wrap (y.all + IntKind.u64.wrap (r.2.1 - begin_))⟩ else none)
        else (if y.all ≤ 134217728 then some ⟨r.1, y.s, r.2.1, y.all⟩ else none))
      else some ⟨r.1, y.s, y.at_, y.all⟩ else none := by unfold segF; rw [hbg]
  have HF := Aside0.mk hF
  clear hF hbg
  cases ok_ with
  | false =>
    have hF := HF.out
    rw [if_neg (by decide)] at hF
    go_enter Try.func15, Try.ntmps15
    go_wp2_with fail
    refine (hup _).mono ?_
    rintro e w1 ⟨rfl, hd⟩
    go_wp2_with fail
    go_ret
    exact ⟨⟨false, rfl, below_step HB.out hd.below, Tfr.below hd.below, by rw [hF]; rfl, fun z hz => by rw [hF] at hz; cases hz⟩⟩
  | true =>
  have hF := HF.out
  rw [if_pos rfl] at hF
  have HF := Aside0.mk hF
  clear hF
  go_enter Try.func15, Try.ntmps15
  go_wp2_with fail
  refine (hup _).mono ?_
  rintro e w1 ⟨rfl, hd⟩
  have HL1 := Aside0.mk (HL.out.below hd.below)
  have HB1 := Aside0.mk (below_step HB.out hd.below)
  have HT1 := Aside0.mk (Tfr.below hd.below)
  have c01 : w1.cell? ⟨g, 0, none⟩ = some (.slice Av y.l.length cv) := by simp [World.cell?, HL1.out.cell]
  clear hd hup
  go_wp2_with fail
  go_loopg [7, 8, 32] y.l.length (fun kq v7 v8 v32 w' => ∃ (i : Nat) (at_ : Int) (s : Bool) (cur : List S37), v7 = .int .u64 at_ ∧ v8 = .bool s ∧ v32 = .int .i64 (i : Int) ∧ Aside0 (kq + i = y.l.length) ∧ Aside0 (cur.length = y.l.length) ∧ Aside0 (segL k y.l begin_ false = (segL k (cur.drop i) at_ s).map fun r => (cur.take i ++ r.1, r.2)) ∧ Aside0 (LayC w0 w' g (.slice Av y.l.length cv) vs ⟨cur, y.s, y.at_, y.all⟩) ∧ Aside0 (Below w0.heap.size w0 w') ∧ Aside0 (Tfr w w'))
  case atStart => exact ⟨0, begin_, false, y.l, by first | rfl | simp, by first | rfl | simp, by first | rfl | simp, ⟨by omega⟩, ⟨rfl⟩, ⟨by simp⟩, HL1, HB1, HT1⟩
  case round =>
    obtain ⟨i, at_, s, cur, rfl, rfl, rfl, HN, HK, HS, HLr, HBr, HTr⟩ := hrel
    have hcl := HK.out
    by_cases hi : i < y.l.length
    · have i0 : ((i : Int) < (y.l.length : Int)) = True := eq_true (by omega)
      have i1 : (0 ≤ (i : Int)) = True := eq_true (by omega)
      have hlr := HLr.out.l
      simp only at hlr
      rw [← hcl] at hlr
      obtain ⟨go, cap, e, hgb, hgl, cells, hG⟩ := Kd.R_form hlr (by omega)
      injection e with e1 e2 e3
      subst e1
      subst e3
      obtain ⟨ce, hcel, hM, hcc, hfr⟩ := Kd.R_elem hlr z37 (i : Int) (by omega) (by omega)
      obtain rfl := k37_openM hM
      obtain ⟨x, hx⟩ : ∃ x, cur.getD ((i : Int)).toNat z37 = x := ⟨_, rfl⟩
      rw [hx] at hM hcc hcel
      have x0 := hcc 0 _ rfl
      have x1 := hcc 1 _ rfl
      have x2 := hcc 2 _ rfl
      have x3 := hcc 3 _ rfl
      have x4 := hcc 4 _ rfl
      have x5 := hcc 5 _ rfl
      have x6 := hcc 6 _ rfl
      simp only [show (k37).sz = 7 from rfl, Int.toNat_natCast, Nat.add_zero] at x0 x1 x2 x3 x4 x5 x6
      have hxi : cur[i]'(by omega) = x := by rw [← hx, Int.toNat_natCast, List.getD_eq_getElem?_getD, List.getElem?_eq_getElem (by omega)]; rfl
      have hdr : cur.drop i = x :: cur.drop (i + 1) := by rw [← hxi]; exact List.drop_eq_getElem_cons (by omega)
      have htk : cur.take (i + 1) = cur.take i ++ [x] := by rw [List.take_add_one, List.getElem?_eq_getElem (by omega), hxi]; rfl
      have HDR := Aside0.mk (⟨hdr, htk⟩ : _ ∧ _)
      have HX := Aside0.mk hx
      clear hxi hdr htk
      clear hcc hfr hcel hM hx hlr
      have hkd := fun w => addr_kindOf.calls x.f2 _ w (kindv_f x.f2)
      obtain ⟨kd, hkd1⟩ : ∃ kd, kindv x.f2 = kd := ⟨_, rfl⟩
      rw [hkd1] at hkd
      have HKD := Aside0.mk hkd1
      have HKDC := Aside0.mk hkd
      clear hkd1 hkd
      by_cases hk : kd = k
      · have e0 : (kd == k) = true := by simp; exact hk
        have hup2 := fun w => span_Up.calls at_ x.f4 _ _ w (upv_f at_ x.f4)
        obtain ⟨up, hup3⟩ : ∃ up, upv at_ x.f4 = up := ⟨_, rfl⟩
        rw [hup3] at hup2
        have hadd := fun A0 w hr => span_Add.calls A0 2 [up.1, x.f5] _ _ w hr (by simp) (addv_f up.1 x.f5)
        obtain ⟨sm, hsm⟩ : ∃ sm, addv up.1 x.f5 = sm := ⟨_, rfl⟩
        rw [hsm] at hadd
        obtain ⟨ua, uo⟩ := up
        obtain ⟨sa, so⟩ := sm
        simp only at hup2 hadd hsm
        have HUP := Aside0.mk hup3
        have HSM := Aside0.mk hsm
        have HUP2 := Aside0.mk hup2
        have HADD := Aside0.mk hadd
        clear hup3 hsm hup2 hadd
        have hsegc : segL k (cur.drop i) at_ s = if uo = true then (if so = true then (if sa ≤ 140737488355328 then (segL k (cur.drop (i + 1)) sa true).map fun r => (⟨x.f0, x.f1, x.f2, x.f3, x.f4, x.f5, ua⟩ :: r.1, r.2) else none) else none) else none := by
          rw [HDR.out.1, segL, if_pos (by rw [HKD.out]; exact hk), HUP.out]
          simp only
          rw [HSM.out]
        have HSC := Aside0.mk hsegc
        clear hsegc
        go_wp2_with fail
        refine (HKDC.out _).mono ?_
        rintro e w4 ⟨rfl, hd⟩
        have HB4 := Aside0.mk hd.below
        have hp4 : ∀ (j : Nat) (u : Value), (#[.int .i64 x.f0, .int .i64 x.f1, .int .i64 x.f2, .string x.f3, .int .u64 x.f4, .int .u64 x.f5, .int .u64 x.f6] : Array Value)[j]? = some u → w4.cell? ⟨wr.heap.size, j, none⟩ = some u := by
          intro j u hj
          have hb := (hd.below.block wr.heap.size (by rw [Lib_size]; omega)).trans (heap_new wr _)
          simp only [World.cell?, hb]
          simpa using hj
        have HBw4 := Aside0.mk (below_step (below_alloc (Below.refl wr.heap.size wr) (.cells #[.int .i64 x.f0, .int .i64 x.f1, .int .i64 x.f2, .string x.f3, .int .u64 x.f4, .int .u64 x.f5, .int .u64 x.f6] 37)) hd.below)
        clear hd
        go_wp2_with fail
        refine (HUP2.out _).mono ?_
        rintro e w5 ⟨rfl, hd⟩
        have hp5 : w5.cell? ⟨wr.heap.size, 5, none⟩ = some (.int .u64 x.f5) := pw_cell_below hd.below (hp4 5 _ rfl)
        have HBw5 := Aside0.mk (below_step HBw4.out hd.below)
        clear hd
        go_wp2_with fail
        refine (HADD.out (some ⟨w5.heap.size, 0, none⟩) _ (C_two (heap_new w5 _))).mono ?_
        rintro e w6 ⟨rfl, hd⟩
        have HBw6 := Aside0.mk (below_step (below_step HBw5.out (below_alloc (Below.refl w5.heap.size w5) _)) hd.below)
        have HL6 := Aside0.mk (HLr.out.below HBw6.out)
        have HB6 := Aside0.mk (below_then HBr.out HBr.out.size HBw6.out)
        have HT6 := Aside0.mk (HTr.out.trans (Tfr.below HBw6.out))
        have c06 : w6.cell? ⟨g, 0, none⟩ = some (.slice (some ⟨go, 0, none⟩) y.l.length cv) := by simp [World.cell?, HL6.out.cell]
        have hfail : ∀ (h : segL k (cur.drop i) at_ s = none), (false = (segF k y).isSome) ∧ ∀ z, segF k y = some z → ∃ vs', LayC w0 w6 g (.slice (some ⟨go, 0, none⟩) y.l.length cv) vs' z := by
          intro h
          have h1 := HS.out
          rw [h] at h1
          have h2 := HF.out
          rw [h1] at h2
          exact ⟨by rw [h2]; rfl, fun z hz => by rw [h2] at hz; cases hz⟩
        have HFA := Aside0.mk hfail
        clear hd hfail
        cases uo with
        | false =>
          go_wp2_with fail
          go_ret
          exact ⟨⟨false, rfl, HB6.out, HT6.out, (HFA.out (by rw [HSC.out]; rfl)).1, (HFA.out (by rw [HSC.out]; rfl)).2⟩⟩
        | true =>
        cases so with
        | false =>
          go_wp2_with fail
          go_ret
          exact ⟨⟨false, rfl, HB6.out, HT6.out, (HFA.out (by rw [HSC.out]; rfl)).1, (HFA.out (by rw [HSC.out]; rfl)).2⟩⟩
        | true =>
        by_cases hsa : sa ≤ 140737488355328
        case neg =>
          have d0 : decide (sa > 140737488355328) = true := by simp; omega
          have HSA := Aside0.mk hsa
          go_wp2_with fail
          go_ret
          exact ⟨⟨false, rfl, HB6.out, HT6.out, (HFA.out (by rw [HSC.out, ite_true_, ite_true_, if_neg (by have := HSA.out; omega)])).1, (HFA.out (by rw [HSC.out, ite_true_, ite_true_, if_neg (by have := HSA.out; omega)])).2⟩⟩
        have d0 : decide (sa > 140737488355328) = false := by simp; omega
        have HSA := Aside0.mk hsa
        have hput := lay_put (ua := ua) (i := i) (x := x) HL6.out (by simp only; omega) (by rw [← HX.out, Int.toNat_natCast])
        obtain ⟨q1, q2, q3, hf6, hx6⟩ := hput
        have HQ1 := Aside0.mk q1
        have HQ2 := Aside0.mk q2
        have HQ3 := Aside0.mk q3
        clear q1 q2 q3 hsa
        go_wp2_with fail
        go_roundg (gk - 1)
        case measure => have := HN.out; omega
        case rel =>
          refine ⟨i + 1, sa, true, cur.set i ⟨x.f0, x.f1, x.f2, x.f3, x.f4, x.f5, ua⟩, rfl, rfl, by rw [Int.natCast_add]; rfl, ⟨by have := HN.out; omega⟩, ⟨by rw [List.length_set]; exact HK.out⟩, ⟨?_⟩, HQ1, ⟨HQ3.out HB6.out⟩, ⟨HT6.out.trans HQ2.out⟩⟩
          have h := HS.out
          rw [HSC.out, ite_true_, ite_true_, if_pos HSA.out, Option.map_map] at h
          rw [h]
          have hdd : (cur.set i ⟨x.f0, x.f1, x.f2, x.f3, x.f4, x.f5, ua⟩).drop (i + 1) = cur.drop (i + 1) := by rw [List.drop_set, if_pos (by omega)]
          have htt : (cur.set i ⟨x.f0, x.f1, x.f2, x.f3, x.f4, x.f5, ua⟩).take (i + 1) = cur.take i ++ [⟨x.f0, x.f1, x.f2, x.f3, x.f4, x.f5, ua⟩] := by
            rw [List.take_add_one, List.take_set, List.set_eq_of_length_le (by rw [List.length_take]; omega), List.getElem?_set_self (by omega)]; rfl
          rw [hdd, htt]
          congr 1
          funext r
          simp
      · have e0 : (kd == k) = false := by simp; exact hk
        go_wp2_with fail
        refine (HKDC.out _).mono ?_
        rintro e w4 ⟨rfl, hd⟩
        have HB4 := Aside0.mk hd.below
        clear hd
        go_wp2_with fail
        go_roundg (gk - 1)
        case measure => have := HN.out; omega
        case rel =>
          refine ⟨i + 1, at_, s, cur, rfl, rfl, by rw [Int.natCast_add]; rfl, ⟨by have := HN.out; omega⟩, HK, ⟨?_⟩, ⟨?_⟩, ⟨?_⟩, ⟨?_⟩⟩
          · have h := HS.out
            rw [HDR.out.1, segL, if_neg (by rw [HKD.out]; exact hk)] at h
            rw [h, HDR.out.2, Option.map_map]
            congr 1
            funext r
            simp
          · exact HLr.out.below (below_step (below_alloc (Below.refl _ _) _) HB4.out)
          · exact below_then HBr.out HBr.out.size (below_step (below_alloc (Below.refl _ _) _) HB4.out)
          · exact HTr.out.trans (Tfr.below (below_step (below_alloc (Below.refl _ _) _) HB4.out))
    · have i0 : ((i : Int) < (y.l.length : Int)) = False := eq_false (by omega)
      have he : i = y.l.length := by have := HN.out; omega
      have hSg : segL k y.l begin_ false = some (cur, at_, s) := by
        have h := HS.out
        rw [he, List.drop_of_length_le (by omega), List.take_of_length_le (by omega)] at h
        rw [h, segL]
        simp
      have hF := HF.out
      rw [hSg, Option.bind_some] at hF
      simp only at hF
      have c3 : wr.cell? ⟨g, 3, none⟩ = some (.int .u64 y.all) := by simp [World.cell?, HLr.out.cell]
      have hfz : ∀ j, wr.frozen? ⟨g, j, none⟩ = false := fun j => by simp [World.frozen?, HLr.out.cell]
      cases s with
      | false =>
        replace hF : segF k y = some ⟨cur, y.s, y.at_, y.all⟩ := by rw [hF]; simp
        have HF := Aside0.mk hF
        clear hF hSg
        go_wp2_with fail
        go_ret
        exact ⟨⟨true, rfl, HBr.out, HTr.out, by rw [HF.out]; rfl, fun z hz => by rw [HF.out] at hz; cases hz; exact ⟨vs, HLr.out⟩⟩⟩
      | true =>
      replace hF : segF k y = if IntKind.u64.wrap (at_ - begin_) > 0 then
          (if IntKind.u64.wrap (y.all + IntKind.u64.wrap (at_ - begin_)) ≤ 134217728 then
            some ⟨cur, y.s ++ [⟨begin_, k, [], IntKind.u64.wrap (at_ - begin_)⟩], at_, IntKind.u64.wrap (y.all + IntKind.u64.wrap (at_ - begin_))⟩ else none)
        else (if y.all ≤ 134217728 then some ⟨cur, y.s, at_, y.all⟩ else none) := by rw [hF]; simp
      obtain ⟨size, hsize⟩ : ∃ size, IntKind.u64.wrap (at_ - begin_) = size := ⟨_, rfl⟩
      rw [hsize] at hF
      obtain ⟨q1, q2, q3⟩ := lay_at HLr.out at_
      have f2 := hfz 2
      have c32 : (wr.setCell ⟨g, 2, none⟩ (.int .u64 at_)).cell? ⟨g, 3, none⟩ = some (.int .u64 y.all) := by simp [World.cell?, q1.cell]
      have hf3 : (wr.setCell ⟨g, 2, none⟩ (.int .u64 at_)).frozen? ⟨g, 3, none⟩ = false := by simp [World.frozen?, q1.cell]
      have HQ1 := Aside0.mk q1
      have HQ2 := Aside0.mk (HTr.out.trans q2)
      have HQ3 := Aside0.mk (q3 HBr.out)
      have hc2 : wr.cell? ⟨g, 2, none⟩ = some (.int .u64 y.at_) := by simp [World.cell?, HLr.out.cell]
      clear q1 q2 q3 hSg hfz
      by_cases hsz : size > 0
      case neg =>
        rw [if_neg hsz] at hF
        have d1 : decide (size > 0) = false := by simp; omega
        by_cases hall : y.all ≤ 134217728
        · rw [if_pos hall] at hF
          have d2 : decide (y.all ≤ 134217728) = true := by simp; omega
          have HF := Aside0.mk hF
          clear hF hsz hall
          go_wp2_with fail
          go_ret
          exact ⟨⟨true, rfl, HQ3.out, HQ2.out, by rw [HF.out]; rfl, fun z hz => by rw [HF.out] at hz; cases hz; exact ⟨vs, HQ1.out⟩⟩⟩
        · rw [if_neg hall] at hF
          have d2 : decide (y.all ≤ 134217728) = false := by simp; omega
          have HF := Aside0.mk hF
          clear hF hsz hall
          go_wp2_with fail
          go_ret
          exact ⟨⟨false, rfl, HQ3.out, HQ2.out, by rw [HF.out]; rfl, fun z hz => by rw [HF.out] at hz; cases hz⟩⟩
      rw [if_pos hsz] at hF
      have d1 : decide (size > 0) = true := by simp; omega
      obtain ⟨all2, hall2⟩ : ∃ all2, IntKind.u64.wrap (y.all + size) = all2 := ⟨_, rfl⟩
      rw [hall2] at hF
      obtain ⟨q4, q5, q6⟩ := lay_all HQ1.out all2
      simp only at q4
      obtain ⟨As, cs, evs⟩ := Kd.S_slice q4.s
      subst evs
      obtain ⟨w8, hw8⟩ : ∃ w8, (wr.setCell ⟨g, 2, none⟩ (.int .u64 at_)).setCell ⟨g, 3, none⟩ (.int .u64 all2) = w8 := ⟨_, rfl⟩
      rw [hw8] at q4 q5 q6
      have c13 : w8.cell? ⟨g, 1, none⟩ = some (.slice As y.s.length cs) := by simp [World.cell?, q4.cell]
      have HQ4 := Aside0.mk q4
      have HQ5 := Aside0.mk (HQ2.out.trans q5)
      have HQ6 := Aside0.mk (q6 HQ3.out)
      have HF := Aside0.mk hF
      clear q4 q5 q6 hF hsz
      have hls : (y.s.length + 1) * 48 ≤ 140737488355328 := by omega
      by_cases hall : all2 ≤ 134217728
      · have d2 : decide (all2 ≤ 134217728) = true := by simp; omega
        have HALL := Aside0.mk hall
        clear hall
        go_wp2_with (at_builtin; refine Kd.S_append k40 (w0 := w0) w0.heap.size rfl (.tmp 100) (.tmp 105) 25 40 (.agg #[.int .u64 0, .int .i64 0, .slice none 0 0, .int .u64 0]) 48 rfl Try.underlying25 info_seg rfl (by decide) (by omega) (.slice As y.s.length cs) y.s (⟨begin_, k, [], size⟩ : S40) [.int .u64 begin_, .int .i64 k, .slice none 0 0, .int .u64 size] (fun _ => True) (fun _ => False) rfl rfl ?aM (fun _ h => h.elim) ?aF ?aO ?aB ?aS hls ?_; (case aM => exact k40_mkM _ _ _ (⟨begin_, k, [], size⟩ : S40) (Kd.R_nil _ _ _ _ _)); (case aF => exact fun _ _ => trivial); (case aO => exact Kd.S_mono HQ4.out.s (fun _ _ => ⟨trivial, id⟩)); (case aB => exact HQ6.out); (case aS => exact HQ6.out.size); intro v5 w5 hR5 hb5 hg5 hat5; obtain ⟨A5, c5, e5⟩ := Kd.S_slice hR5; obtain ⟨ns, hns⟩ : ∃ ns, (y.s ++ [(⟨begin_, k, [], size⟩ : S40)]).length = ns := ⟨_, rfl⟩; rw [hns] at e5; clear hns; subst e5; obtain ⟨r1, r2, r3⟩ := lay_seg HQ4.out hR5 hg5; have hc1 := (hg5.block g HQ4.out.lt (Kd.S_ne HQ4.out.s HQ4.out.cell (by decide))).trans HQ4.out.cell; have c19 : w5.cell? ⟨g, 1, none⟩ = some (.slice As y.s.length cs) := (by simp [World.cell?, hc1]); have f19 : w5.frozen? ⟨g, 1, none⟩ = false := (by simp [World.frozen?, hc1]); have c39 := (show (w5.setCell ⟨g, 1, none⟩ (.slice A5 ns c5)).cell? ⟨g, 3, none⟩ = some (.int .u64 all2) from (by simp only [World.cell?, r1.cell]; rfl)); have R1 := Aside0.mk r1; have R2 := Aside0.mk (HQ5.out.trans r2); have R3 := Aside0.mk (r3 hb5); clear r1 r2 r3 hc1 hR5 hb5 hg5 hat5)
        go_ret
        refine ⟨⟨true, rfl, R3.out, R2.out, by rw [HF.out, if_pos HALL.out]; rfl, fun z hz => ?_⟩⟩
        rw [HF.out, if_pos HALL.out] at hz
        cases hz
        exact ⟨_, R1.out⟩
      · have d2 : decide (all2 ≤ 134217728) = false := by simp; omega
        have HALL := Aside0.mk hall
        clear hall
        go_wp2_with (at_builtin; refine Kd.S_append k40 (w0 := w0) w0.heap.size rfl (.tmp 100) (.tmp 105) 25 40 (.agg #[.int .u64 0, .int .i64 0, .slice none 0 0, .int .u64 0]) 48 rfl Try.underlying25 info_seg rfl (by decide) (by omega) (.slice As y.s.length cs) y.s (⟨begin_, k, [], size⟩ : S40) [.int .u64 begin_, .int .i64 k, .slice none 0 0, .int .u64 size] (fun _ => True) (fun _ => False) rfl rfl ?aM (fun _ h => h.elim) ?aF ?aO ?aB ?aS hls ?_; (case aM => exact k40_mkM _ _ _ (⟨begin_, k, [], size⟩ : S40) (Kd.R_nil _ _ _ _ _)); (case aF => exact fun _ _ => trivial); (case aO => exact Kd.S_mono HQ4.out.s (fun _ _ => ⟨trivial, id⟩)); (case aB => exact HQ6.out); (case aS => exact HQ6.out.size); intro v5 w5 hR5 hb5 hg5 hat5; obtain ⟨A5, c5, e5⟩ := Kd.S_slice hR5; obtain ⟨ns, hns⟩ : ∃ ns, (y.s ++ [(⟨begin_, k, [], size⟩ : S40)]).length = ns := ⟨_, rfl⟩; rw [hns] at e5; clear hns; subst e5; obtain ⟨r1, r2, r3⟩ := lay_seg HQ4.out hR5 hg5; have hc1 := (hg5.block g HQ4.out.lt (Kd.S_ne HQ4.out.s HQ4.out.cell (by decide))).trans HQ4.out.cell; have c19 : w5.cell? ⟨g, 1, none⟩ = some (.slice As y.s.length cs) := (by simp [World.cell?, hc1]); have f19 : w5.frozen? ⟨g, 1, none⟩ = false := (by simp [World.frozen?, hc1]); have c39 := (show (w5.setCell ⟨g, 1, none⟩ (.slice A5 ns c5)).cell? ⟨g, 3, none⟩ = some (.int .u64 all2) from (by simp only [World.cell?, r1.cell]; rfl)); have R1 := Aside0.mk r1; have R2 := Aside0.mk (HQ5.out.trans r2); have R3 := Aside0.mk (r3 hb5); clear r1 r2 r3 hc1 hR5 hb5 hg5 hat5)
        go_ret
        refine ⟨⟨false, rfl, R3.out, R2.out, by rw [HF.out, if_neg (by have := HALL.out; omega)]; rfl, fun z hz => ?_⟩⟩
        rw [HF.out, if_neg (by have := HALL.out; omega)] at hz
        cases hz


/-! ### addr.Assign: by hand -/
theorem segL_length (k : Int) : ∀ (l : List S37) (a : Int) (s : Bool) (r : List S37 × Int × Bool), segL k l a s = some r → r.1.length = l.length
  | [], a, s, r, h => by simp only [segL, Option.some.injEq] at h; subst h; rfl
  | p :: ps, a, s, r, h => by
    simp only [segL] at h
    by_cases h1 : kindv p.f2 = k
    · rw [if_pos h1] at h
      by_cases h2 : (upv a p.f4).2 = true
      · rw [if_pos h2] at h
        by_cases h3 : (addv (upv a p.f4).1 p.f5).2 = true
        · rw [if_pos h3] at h
          by_cases h4 : (addv (upv a p.f4).1 p.f5).1 ≤ 140737488355328
          · rw [if_pos h4, Option.map_eq_some_iff] at h
            obtain ⟨q, hq, rfl⟩ := h
            simp [segL_length k ps _ _ q hq]
          · rw [if_neg h4] at h; cases h
        · rw [if_neg h3] at h; cases h
      · rw [if_neg h2] at h; cases h
    · rw [if_neg h1, Option.map_eq_some_iff] at h
      obtain ⟨q, hq, rfl⟩ := h
      simp [segL_length k ps _ _ q hq]
theorem segF_length (k : Int) (y z : Lay) (h : segF k y = some z) : z.l.length = y.l.length ∧ z.s.length ≤ y.s.length + 1 := by
  unfold segF at h
  by_cases h1 : (aupv y.at_ 4096).2 = true
  · rw [if_pos h1, Option.bind_eq_some_iff] at h
    obtain ⟨r, hr, h⟩ := h
    have hl := segL_length k _ _ _ r hr
    split at h
    · split at h
      · split at h
        · cases h; simp [hl]
        · cases h
      · split at h
        · cases h; exact ⟨hl, by simp⟩
        · cases h
    · cases h; exact ⟨hl, by simp⟩
  · rw [if_neg h1] at h; cases h
def asgL : List Int → Lay → Option Lay
  | [], y => some y
  | k :: ks, y => (segF k y).bind (asgL ks)
def addr_Assign.f (l0 : List S37) : Option (List S37 × List S40 × Int) :=
  if l0.length ≤ 1000 then (match asgL [5, 4, 6] ⟨l0, [], 65536, 0⟩ with | none => some ([], [], 55) | some y => some (y.l, y.s, 0)) else none
theorem info_piece : (Try.prog.info? 37).map (fun i => (i.zero, i.size, i.bytes)) = some (some (.agg #[(.int .i64 0), (.int .i64 0), (.int .i64 0), (.string ⟨#[]⟩), (.int .u64 0), (.int .u64 0), (.int .u64 0)]), 7, 64) := by kernel_rfl
set_option maxHeartbeats 4000000 in
set_option maxRecDepth 100000 in
theorem addr_Assign.calls (A0 : Option Addr) (c0 : Nat) (l0 : List S37) (r1 : List S37) (r2 : List S40) (r3 : Int) (w : World) (hr0 : Kd.C k37 w A0 l0.length l0) (hc0 : l0.length ≤ c0) (h : addr_Assign.f l0 = some (r1, r2, r3)) :
    Calls Try.prog 8 #[.slice A0 l0.length c0] w fun e w' => ∃ v0_ v1_ : Value, e = .returned (.tuple #[v0_, v1_, .int .i64 r3]) ∧ Kd.R k37 37 w' w.heap.size (fun _ => True) v0_ r1 ∧ Kd.S k40 40 w' w.heap.size (fun _ => True) v1_ r2 ∧ Below w.heap.size w w' := by
  unfold addr_Assign.f at h
  by_cases hn : l0.length ≤ 1000
  case neg => rw [if_neg hn] at h; cases h
  rw [if_pos hn] at h
  have HH := Aside0.mk h
  have HR0 := Aside0.mk hr0
  have HB := Aside0.mk (Below.refl w.heap.size w)
  have hk0 := fun w => addr_kindOf.calls 0 5 w rfl
  have hk1 := fun w => addr_kindOf.calls 1 4 w rfl
  have hk2 := fun w => addr_kindOf.calls 2 6 w rfl
  have HK0 := Aside0.mk hk0
  have HK1 := Aside0.mk hk1
  have HK2 := Aside0.mk hk2
  clear h hr0 hk0 hk1 hk2
  go_enter Try.func8, Try.ntmps8
  go_wp2_with (at_builtin; refine Kd.R_append_rows k37 (w0 := w) w.heap.size rfl (.const (.slice none 0 0)) (.tmp 8) 24 37 (.agg #[(.int .i64 0), (.int .i64 0), (.int .i64 0), (.string ⟨#[]⟩), (.int .u64 0), (.int .u64 0), (.int .u64 0)]) 64 rfl Try.underlying24 info_piece rfl (by decide) (by omega) (.slice none 0 0) ([] : List S37) l0 _ _ _ (fun _ => True) (fun _ => False) rfl rfl (Kd.R_nil _ _ _ _ (fun _ => True)) HR0.out (fun _ _ h => h) (fun _ h => h.elim) (fun _ _ => trivial) HB.out (Nat.le_refl _) (by simp; omega) ?_; intro v1 w1 hR1 hb1 hg1 hat1; obtain ⟨A1, c1, e1⟩ := Kd.R_slice hR1; rw [List.nil_append] at hR1 e1; subst e1; have HR1 := Aside0.mk hR1; have HB1 := Aside0.mk hb1; clear hR1 hb1 hg1 hat1)
  have hAL := below_alloc (Below.refl w1.heap.size w1) (.cells #[.slice A1 l0.length c1, .slice none 0 0, .int .u64 65536, .int .u64 0] 50)
  obtain ⟨w2, hw2⟩ : ∃ w2, w1.alloc (.cells #[.slice A1 l0.length c1, .slice none 0 0, .int .u64 65536, .int .u64 0] 50) = w2 := ⟨_, rfl⟩
  obtain ⟨g, hg⟩ : ∃ g, w1.heap.size = g := ⟨_, rfl⟩
  have HL2 : Aside0 (LayC w w2 g (.slice A1 l0.length c1) (.slice none 0 0) ⟨l0, [], 65536, 0⟩) := ⟨by
    rw [← hw2, ← hg]
    exact ⟨heap_new w1 _, HB1.out.size, Kd.R_below HR1.out hAL, Kd.S_nil _ _ _ _ _⟩⟩
  have HB2 : Aside0 (Below w.heap.size w w2) := ⟨by rw [← hw2]; exact below_step HB1.out hAL⟩
  rw [hg]
  rw [hw2]
  clear hw2 hg hAL
  refine (HK0.out _).mono ?_
  rintro e w3 ⟨rfl, hd⟩
  have HL3 := Aside0.mk (HL2.out.below hd.below)
  have HB3 := Aside0.mk (below_step HB2.out hd.below)
  clear hd
  go_wp2_with fail
  refine (HK1.out _).mono ?_
  rintro e w4 ⟨rfl, hd⟩
  have HL4 := Aside0.mk (HL3.out.below hd.below)
  have HB4 := Aside0.mk (below_step HB3.out hd.below)
  clear hd
  go_wp2_with fail
  refine (HK2.out _).mono ?_
  rintro e w5 ⟨rfl, hd⟩
  have HL5 := Aside0.mk (HL4.out.below hd.below)
  have HB5 := Aside0.mk (below_step HB4.out hd.below)
  clear hd
  go_wp2_with fail
  have hal (o : Obj) := below_alloc (Below.refl w5.heap.size w5) o
  have HAL := Aside0.mk hal
  clear hal
  go_loopg [17] 3 (fun kq v17 w' => ∃ (i : Nat) (y : Lay) (vs : Value), v17 = .int .i64 (i : Int) ∧ Aside0 (kq + i = 3) ∧ Aside0 (asgL [5, 4, 6] ⟨l0, [], 65536, 0⟩ = asgL (([5, 4, 6] : List Int).drop i) y) ∧ Aside0 (LayC w w' g (.slice A1 l0.length c1) vs y) ∧ Aside0 (Below w.heap.size w w') ∧ Aside0 (w'.heap[w5.heap.size]? = some (.cells #[.int .i64 5, .int .i64 4, .int .i64 6] 51 (0, 0))) ∧ Aside0 (y.s.length ≤ i ∧ y.l.length = l0.length))
  case atStart => exact ⟨0, _, _, by first | rfl | simp, ⟨rfl⟩, ⟨rfl⟩, ⟨HL5.out.below (HAL.out _)⟩, ⟨below_step HB5.out (HAL.out _)⟩, ⟨heap_new w5 _⟩, ⟨Nat.le_refl _, rfl⟩⟩
  case round =>
    obtain ⟨i, y, vs, rfl, HN, HS, HLr, HBr, HA, HZ⟩ := hrel
    by_cases hi : i < 3
    · have i0 : ((i : Int) < (3 : Int)) = True := eq_true (by omega)
      have i1 : (0 ≤ (i : Int)) = True := eq_true (by omega)
      obtain ⟨kk, hkk, hst⟩ : ∃ kk : Int, wr.cell? ⟨w5.heap.size, i, none⟩ = some (.int .i64 kk) ∧ asgL (([5, 4, 6] : List Int).drop i) y = (segF kk y).bind (asgL (([5, 4, 6] : List Int).drop (i + 1))) := by
        have h3 : i = 0 ∨ i = 1 ∨ i = 2 := by omega
        rcases h3 with rfl | rfl | rfl
        · exact ⟨5, by simp [World.cell?, HA.out], rfl⟩
        · exact ⟨4, by simp [World.cell?, HA.out], rfl⟩
        · exact ⟨6, by simp [World.cell?, HA.out], rfl⟩
      have HST := Aside0.mk hst
      clear hst
      go_wp2_with fail
      refine (addr_segment.calls g _ vs y kk w wr HLr.out HBr.out (by have := HZ.out.2; omega) (by have := HZ.out.1; omega)).mono ?_
      rintro e w6 ⟨⟨b, rfl, hB6, hT6, hb, hz⟩⟩
      have HB6 := Aside0.mk hB6
      have HT6 := Aside0.mk hT6
      have HZ6 := Aside0.mk hz
      have HBB := Aside0.mk hb
      clear hB6 hT6 hz hb
      cases b with
      | false =>
        go_wp2_with fail
        go_ret3
        have hnone : segF kk y = none := by have h := HBB.out; cases hq : segF kk y with | none => rfl | some z => rw [hq] at h; cases h
        have h := HH.out
        rw [HS.out, HST.out, hnone] at h
        simp at h
        obtain ⟨rfl, rfl, rfl⟩ := h
        exact ⟨_, _, by first | rfl | simp, Kd.R_nil _ _ _ _ _, Kd.S_nil _ _ _ _ _, HB6.out⟩
      | true =>
        obtain ⟨z, hz⟩ : ∃ z, segF kk y = some z := by have h := HBB.out; cases hq : segF kk y with | none => rw [hq] at h; cases h | some z => exact ⟨z, rfl⟩
        obtain ⟨vs', hL'⟩ := HZ6.out z hz
        have HSZ := Aside0.mk hz
        have HL' := Aside0.mk hL'
        clear hz hL'
        go_wp2_with fail
        go_roundg (gk - 1)
        case measure => have := HN.out; omega
        case rel =>
          obtain ⟨hl1, hl2⟩ := segF_length kk y z HSZ.out
          refine ⟨i + 1, z, vs', by rw [Int.natCast_add]; rfl, ⟨by have := HN.out; omega⟩, ⟨?_⟩, HL', HB6, ⟨HT6.out _ _ _ _ (by decide) (by decide) (by decide) HA.out⟩, ⟨?_, ?_⟩⟩
          · rw [HS.out, HST.out, HSZ.out]; rfl
          · have := HZ.out.1; omega
          · rw [hl1]; exact HZ.out.2
    · have i0 : ((i : Int) < (3 : Int)) = False := eq_false (by omega)
      have he : i = 3 := by have := HN.out; omega
      subst he
      have h := HH.out
      rw [HS.out] at h
      simp only [List.drop, asgL] at h
      simp at h
      obtain ⟨rfl, rfl, rfl⟩ := h
      have hc0 := fun m => show (wr.drewN m).cell? ⟨g, 0, none⟩ = some (.slice A1 l0.length c1) from by show wr.cell? _ = _; simp [World.cell?, HLr.out.cell]
      have hc1 := fun m => show (wr.drewN m).cell? ⟨g, 1, none⟩ = some vs from by show wr.cell? _ = _; simp [World.cell?, HLr.out.cell]
      obtain ⟨As, cs, e⟩ := Kd.S_slice HLr.out.s
      subst e
      go_wp2_with fail
      go_quiet (fail)
      go_wp2_with fail
      go_ret3
      exact ⟨_, _, by first | rfl | simp, Kd.R_drewN HLr.out.l _, Kd.S_drewN HLr.out.s _, below_then HBr.out HBr.out.size (pw_below_drewN (Below.refl _ _) _)⟩


section
open Go.Maps
/-! ### addr.Value: by hand, for the one call that the laws make -/
theorem laidOut_ : laidOutB Try.prog = true := by kernel_rfl
theorem lawKey : Keyed Try.prog 62 := Keyed.of_law (deep_law_laid laidOut_ (m := 3) (by omega) (of_decide_eq_true (by kernel_rfl)) (by kernel_rfl) (by rw [Try.underlying62]))
theorem key_some (a b : Int) (h : (keyOf Try.prog 62 (.agg #[.int .i64 a, .int .i64 b])).isSome = true) : ∃ kl, keyOf Try.prog 62 (.agg #[.int .i64 a, .int .i64 b]) = some kl := Option.isSome_iff_exists.1 h
theorem zeroU (w : World) : (zeroValue 35).run Try.prog w = .ok (.int .u64 0) w := by kernel_rfl
def addr_Value.f (l0 : List S37) (a1_0 : ByteArray) (a1_1 a1_2 a1_3 a1_4 a1_5 a1_6 : Int) (a2 : Int) : Option (Int × Bool) :=
  match l0 with
  | [x, y] => if a1_1 = 1 ∧ a1_2 = 0 ∧ a1_3 = 1 ∧ x.f0 = 0 ∧ x.f1 = 0 ∧ y.f0 = 0 ∧ y.f1 = 1 ∧ (0 ≤ x.f6 ∧ x.f6 < 18446744073709551616) ∧ (0 ≤ y.f6 ∧ y.f6 < 18446744073709551616) then some (IntKind.u64.wrap (y.f6 + a1_4), true) else none
  | _ => none
theorem wf_u64 {a : Int} (h0 : 0 ≤ a) (h1 : a < 18446744073709551616) : (Lit.int .u64 a).wf = true := by
  simp only [Lit.wf, IntKind.min, IntKind.max, IntKind.signed, IntKind.bits, Bool.and_eq_true]
  simp
  omega
set_option maxHeartbeats 4000000 in
set_option maxRecDepth 100000 in
theorem addr_Value.calls (A0 : Option Addr) (c0 : Nat) (l0 : List S37) (a1_0 : ByteArray) (a1_1 a1_2 a1_3 a1_4 a1_5 a1_6 : Int) (a2 : Int) (r1 : Int) (r2 : Bool) (w : World) (hr0 : Kd.C k37 w A0 l0.length l0) (hc0 : l0.length ≤ c0) (h : addr_Value.f l0 a1_0 a1_1 a1_2 a1_3 a1_4 a1_5 a1_6 a2 = some (r1, r2)) :
    Calls Try.prog 13 #[.slice A0 l0.length c0, .agg #[.string a1_0, .int .i64 a1_1, .int .i64 a1_2, .int .i64 a1_3, .int .u64 a1_4, .int .u64 a1_5, .int .u64 a1_6], .int .i64 a2] w fun e w' => e = .returned (.tuple #[.int .u64 r1, .bool r2]) ∧ Below w.heap.size w w' := by
  obtain ⟨x, y, rfl⟩ : ∃ x y, l0 = [x, y] := by
    match l0, h with
    | [x, y], _ => exact ⟨x, y, rfl⟩
    | [], h => cases h
    | [x], h => cases h
    | x :: y :: z :: t, h => cases h
  simp only [addr_Value.f] at h
  split at h
  case isFalse => cases h
  rename_i hc
  obtain ⟨rfl, rfl, rfl, hx0, hx1, hy0, hy1, hxw, hyw⟩ := hc
  obtain ⟨rfl, rfl⟩ : IntKind.u64.wrap (y.f6 + a1_4) = r1 ∧ true = r2 := by simpa using h
  clear h
  have HR0 := Aside0.mk hr0
  have HXW := Aside0.mk hxw
  have HYW := Aside0.mk hyw
  have hlen : ((([x, y] : List S37).length : Nat) : Int) = 2 := rfl
  obtain ⟨kl0, hkl0⟩ := key_some 0 0 (by kernel_rfl)
  obtain ⟨kl1, hkl1⟩ := key_some 0 1 (by kernel_rfl)
  have HK0 := Aside0.mk hkl0
  have HK1 := Aside0.mk hkl1
  have hmm := @run_makeMap Try.prog
  clear hr0 hxw hyw hkl0 hkl1
  go_enter Try.func13, Try.ntmps13
  go_wp2_with fail
  obtain ⟨wb, hwb⟩ : ∃ wb, w.alloc (.cells #[.string a1_0, .int .i64 1, .int .i64 0, .int .i64 1, .int .u64 a1_4, .int .u64 a1_5, .int .u64 a1_6] 47) = wb := ⟨_, rfl⟩
  have HBX : Aside0 (wb.heap[w.heap.size]? = some (.cells #[.string a1_0, .int .i64 1, .int .i64 0, .int .i64 1, .int .u64 a1_4, .int .u64 a1_5, .int .u64 a1_6] 47 (0, 0))) := ⟨by rw [← hwb]; exact heap_new w _⟩
  have HBB : Aside0 (Below w.heap.size w wb) := ⟨by rw [← hwb]; exact below_alloc (Below.refl _ _) _⟩
  have HBS : Aside0 (wb.heap.size = w.heap.size + 1) := ⟨by rw [← hwb, Lib_size]⟩
  rw [hwb]
  clear hwb
  go_loopg [25] 2 (fun kq v25 w' => ∃ (i : Nat) (D : DataW Unit), v25 = .int .i64 (i : Int) ∧ Aside0 (kq + i = 2) ∧ Aside0 (w'.ownsMap Try.prog 62 (plainElem Try.prog 35) (w.heap.size + 1) i D) ∧ Aside0 (IsMap D) ∧ Aside0 (i = 2 → ∃ D' : DataW Unit, IsMap D' ∧ D = D'.put kl1 (.lit (.int .u64 y.f6))) ∧ Aside0 (w'.heap[w.heap.size]? = some (.cells #[.string a1_0, .int .i64 1, .int .i64 0, .int .i64 1, .int .u64 a1_4, .int .u64 a1_5, .int .u64 a1_6] 47 (0, 0))) ∧ Aside0 (Below w.heap.size w w'))
  case atStart => exact ⟨0, .map [], by first | rfl | simp, ⟨rfl⟩, ⟨by rw [← HBS.out]; exact World.ownsMap_made _ _ _ _⟩, ⟨isMap_empty⟩, ⟨fun h => by cases h⟩, ⟨((below_alloc (Below.refl wb.heap.size wb) _).block _ (by rw [HBS.out]; omega)).trans HBX.out⟩, ⟨below_step HBB.out (below_alloc (Below.refl _ _) _)⟩⟩
  case round =>
    obtain ⟨i, D, rfl, HN, HM, HI, HD, HX, HB⟩ := hrel
    by_cases hi : i < 2
    · have i0 : ((i : Int) < (2 : Int)) = True := eq_true (by omega)
      have i1 : (0 ≤ (i : Int)) = True := eq_true (by omega)
      obtain ⟨ad, hA, k0, k1, k2, k3, k4, k5, k6⟩ := at_T37 HR0.out (i : Int) (by omega) (by simp; omega)
      rw [Int.toNat_natCast] at k0 k1 k2 k3 k4 k5 k6
      obtain ⟨p, hp⟩ : ∃ p, rd_T37 [x, y] (i : Int) = p := ⟨_, rfl⟩
      rw [hp] at k0 k1 k2 k3 k4 k5 k6
      subst hA
      have h0 := pw_cell_below HB.out k0
      have h1 := pw_cell_below HB.out k1
      have h2 := pw_cell_below HB.out k2
      have h3 := pw_cell_below HB.out k3
      have h4 := pw_cell_below HB.out k4
      have h5 := pw_cell_below HB.out k5
      have h6 := pw_cell_below HB.out k6
      have hpw : 0 ≤ p.f6 ∧ p.f6 < 18446744073709551616 := by
        have h3 : i = 0 ∨ i = 1 := by omega
        rcases h3 with rfl | rfl
        · rw [← hp]; exact HXW.out
        · rw [← hp]; exact HYW.out
      obtain ⟨kl, hkl, hkl2⟩ : ∃ kl, keyOf Try.prog 62 (.agg #[.int .i64 p.f0, .int .i64 p.f1]) = some kl ∧ (i = 1 → kl = kl1 ∧ p = y) := by
        have h3 : i = 0 ∨ i = 1 := by omega
        rcases h3 with rfl | rfl
        · have e : p = x := by rw [← hp]; rfl
          exact ⟨kl0, by rw [e, hx0, hx1]; exact HK0.out, fun h => by cases h⟩
        · have e : p = y := by rw [← hp]; rfl
          exact ⟨kl1, by rw [e, hy0, hy1]; exact HK1.out, fun _ => ⟨rfl, e⟩⟩
      have HKL := Aside0.mk hkl
      have HKL2 := Aside0.mk hkl2
      have HPW := Aside0.mk hpw
      clear k0 k1 k2 k3 k4 k5 k6 hp hkl hkl2 hpw
      go_wp2_with (at_mapUpdate; refine wpList_mapUpdate_own _ rfl _ _ _ 60 rfl 62 35 lawKey Try.underlying60 _ (w.heap.size + 1) i D rfl (HM.out.alloc _) (by unfold maxLen; omega) _ _ _ rfl rfl HKL.out _ [] (plainElem_int Try.underlying35 (wf_u64 HPW.out.1 HPW.out.2)) ?_; intro w1 hown1 hgrow1; have HM1 := Aside0.mk hown1; have HG1 := Aside0.mk hgrow1; clear hown1 hgrow1)
      go_roundg (gk - 1)
      case measure => have := HN.out; omega
      case rel =>
        have hAL := below_alloc (Below.refl wr.heap.size wr) (.cells #[.int .i64 p.f0, .int .i64 p.f1, .int .i64 p.f2, .string p.f3, .int .u64 p.f4, .int .u64 p.f5, .int .u64 p.f6] 37)
        have hbl := (Array.getElem?_eq_some_iff.1 HX.out).1
        have hX1 := (HG1.out.block w.heap.size (Nat.lt_of_lt_of_le hbl hAL.size) (by simp)).trans ((hAL.block _ hbl).trans HX.out)
        have hB1 : Below w.heap.size w w1 := by
          have hb2 := below_then HB.out HB.out.size hAL
          exact ⟨HG1.out.os.trans hb2.os, HG1.out.tape.trans hb2.tape, HG1.out.output.trans hb2.output, Nat.le_trans hb2.size HG1.out.size, fun k hk => (HG1.out.block k (Nat.lt_of_lt_of_le hk hb2.size) (by simp; omega)).trans (hb2.block k hk)⟩
        refine ⟨i + 1, _, by rw [Int.natCast_add]; rfl, ⟨by have := HN.out; omega⟩, HM1, ⟨HI.out.put _ _⟩, ⟨fun h2 => ?_⟩, ⟨hX1⟩, ⟨hB1⟩⟩
        obtain ⟨e1, e2⟩ := HKL2.out (by omega)
        subst e1
        subst e2
        exact ⟨D, HI.out, rfl⟩
    · have i0 : ((i : Int) < (2 : Int)) = False := eq_false (by omega)
      have he : i = 2 := by have := HN.out; omega
      obtain ⟨D', hI', rfl⟩ := HD.out he
      have x1 : wr.cell? ⟨w.heap.size, 1, none⟩ = some (.int .i64 1) := by simp [World.cell?, HX.out]
      have x2 : wr.cell? ⟨w.heap.size, 2, none⟩ = some (.int .i64 0) := by simp [World.cell?, HX.out]
      have x3 : wr.cell? ⟨w.heap.size, 3, none⟩ = some (.int .i64 1) := by simp [World.cell?, HX.out]
      have x4 : wr.cell? ⟨w.heap.size, 4, none⟩ = some (.int .u64 a1_4) := by simp [World.cell?, HX.out]
      have y1 : ∀ o, (wr.alloc o).cell? ⟨w.heap.size, 1, none⟩ = some (.int .i64 1) := fun o => pw_cell_below (below_alloc (Below.refl _ _) o) x1
      have y2 : ∀ o, (wr.alloc o).cell? ⟨w.heap.size, 2, none⟩ = some (.int .i64 0) := fun o => pw_cell_below (below_alloc (Below.refl _ _) o) x2
      have y3 : ∀ o, (wr.alloc o).cell? ⟨w.heap.size, 3, none⟩ = some (.int .i64 1) := fun o => pw_cell_below (below_alloc (Below.refl _ _) o) x3
      have y4 : ∀ o, (wr.alloc o).cell? ⟨w.heap.size, 4, none⟩ = some (.int .u64 a1_4) := fun o => pw_cell_below (below_alloc (Below.refl _ _) o) x4
      have HIK : Aside0 (WideAt.IsKeyLit kl1) := ⟨lawKey.key HK1.out⟩
      go_wp2_with (at_lookup; refine wpList_lookup_own_ok_int _ rfl _ _ 60 rfl 62 35 .u64 lawKey Try.underlying60 Try.underlying35 (zeroU _) (w.heap.size + 1) _ _ rfl (HM.out.alloc _) _ kl1 rfl HK1.out ?_; intro c hat hwc; rw [atKey_put_same hI' HIK.out] at hat; rw [has_put_same hI' HIK.out]; (obtain rfl : y.f6 = c := by injection hat with hat; injection hat))
      go_ret2
      exact ⟨by first | rfl | simp, below_then HB.out HB.out.size (below_alloc (Below.refl _ _) _)⟩

end

end Go.Proofs.Ytpblhcmcldachaa.QAddrApart
