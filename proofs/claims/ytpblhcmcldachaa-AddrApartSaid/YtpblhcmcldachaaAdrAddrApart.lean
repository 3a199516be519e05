/- Plain facts on what package addr's layers come to, and on the pieces that a law makes. Conditions: those of each theorem. -/
import Derived.Test.YtpblhcmcldachaaQAddrApartx4
import Derived.Test.YtpblhcmcldachaaSpan
import Derived.Test.YtpblhcmcldachaaOpen
namespace Go.Proofs.Ytpblhcmcldachaa.AdrAddrApart
open Go.Proofs.Ytpblhcmcldachaa.Man
open Go.RowKit Go.Proofs.Ytpblhcmcldachaa.QAddrApart Go.Proofs.YtpblhcmcldachaaW.PrintWords Go.Proofs.YtpblhcmcldachaaW.PrintLast Go.Proofs.YtpblhcmcldachaaW.PrintMore Go.Proofs.Ytpblhcmcldachaa.Bv Go.Proofs.Ytpblhcmcldachaa.Spn
set_option linter.unusedSimpArgs false
set_option linter.unusedVariables false

theorem pow2_yes (n : Nat) (hn : n < 64) : span_Pow2.f ((2 ^ n : Nat) : Int) = some true := by
  have hp : 0 < 2 ^ n := Nat.two_pow_pos n
  have hq : (2 : Nat) ^ n ≤ 2 ^ 63 := Nat.pow_le_pow_right (by decide) (by omega)
  have h63 : (2 : Nat) ^ 63 = 9223372036854775808 := rfl
  have e : IntKind.u64.wrap (((2 ^ n : Nat) : Int) - 1) = ((2 ^ n - 1 : Nat) : Int) := by rw [uw64 (by omega) (by omega)]; omega
  unfold span_Pow2.f
  rw [if_neg (by omega), e, bits_and _ _ (by omega) (by omega), and_mask, Nat.mod_self]; rfl
theorem pow2_no (a : Nat) (ha : a < 18446744073709551616) (h : ¬ ∃ n, n < 64 ∧ a = 2 ^ n) : span_Pow2.f (a : Int) = some false := by
  unfold span_Pow2.f
  by_cases h0 : a = 0
  · subst h0; rfl
  · have e : IntKind.u64.wrap ((a : Int) - 1) = ((a - 1 : Nat) : Int) := by rw [uw64 (by omega) (by omega)]; omega
    rw [if_neg (by omega), e, bits_and _ _ ha (by omega)]
    have hne : a &&& (a - 1) ≠ 0 := fun hz => h (pow_of_and a h0 ha hz)
    rw [Option.some.injEq, beq_eq_false_iff_ne]
    omega
theorem up_tells (x n : Nat) (hx : x < 18446744073709551616) (hn : n < 64) :
    span_Up.f (x : Int) ((2 ^ n : Nat) : Int) = some (if x % 2 ^ n = 0 then ((x : Int), true) else if (x / 2 ^ n + 1) * 2 ^ n < 18446744073709551616 then ((((x / 2 ^ n + 1) * 2 ^ n : Nat) : Int), true) else (0, false)) := by
  have hp : 0 < 2 ^ n := Nat.two_pow_pos n
  have hq : (2 : Nat) ^ n ≤ 2 ^ 63 := Nat.pow_le_pow_right (by decide) (by omega)
  have h63 : (2 : Nat) ^ 63 = 9223372036854775808 := rfl
  have e : IntKind.u64.wrap (((2 ^ n : Nat) : Int) - 1) = ((2 ^ n - 1 : Nat) : Int) := by rw [uw64 (by omega) (by omega)]; omega
  have e2 : IntKind.u64.wrap (IntKind.u64.wrap ((x : Int) + ((2 ^ n : Nat) : Int)) - 1) = (((x + 2 ^ n - 1) % 18446744073709551616 : Nat) : Int) := by
    simp only [IntKind.wrap, IntKind.bits, IntKind.signed]
    simp only [Bool.false_and, Bool.false_eq_true, if_false]
    omega
  have ha := up_arith x n hx hn
  simp only at ha
  have hr : x % 2 ^ n < 2 ^ n := Nat.mod_lt _ hp
  have hxe := Nat.div_add_mod x (2 ^ n)
  have hxm : (x / 2 ^ n + 1) * 2 ^ n = 2 ^ n * (x / 2 ^ n) + 2 ^ n := by rw [Nat.succ_mul, Nat.mul_comm]
  unfold span_Up.f
  rw [pow2_yes n hn]
  simp only [Option.bind_some, if_true]
  rw [e, e2, bits_andNot_mask _ n (Nat.mod_lt _ (by decide)) hn, ha]
  by_cases h0 : x % 2 ^ n = 0
  · rw [if_pos h0, if_pos h0, if_neg (by omega)]
  · rw [if_neg h0, if_neg h0]
    by_cases h1 : (x / 2 ^ n + 1) * 2 ^ n < 18446744073709551616
    · rw [if_pos h1, if_pos h1, if_neg (by omega)]
    · rw [if_neg h1, if_neg h1, if_pos (by omega)]

/-- What a number goes up to. -/
theorem upv_tells (x : Int) (n : Nat) (hn : n ≤ 12) (h0 : 0 ≤ x) (h1 : x ≤ 140737488400000) :
    ∃ u : Int, upv x ((2 ^ n : Nat) : Int) = (u, true) ∧ x ≤ u ∧ u < x + ((2 ^ n : Nat) : Int) ∧ u % ((2 ^ n : Nat) : Int) = 0 := by
  obtain ⟨y, rfl⟩ : ∃ y : Nat, x = (y : Int) := ⟨x.toNat, by omega⟩
  have hp : 0 < 2 ^ n := Nat.two_pow_pos n
  have hq : (2 : Nat) ^ n ≤ 2 ^ 12 := Nat.pow_le_pow_right (by decide) hn
  have h12 : (2 : Nat) ^ 12 = 4096 := rfl
  have h := up_tells y n (by omega) (by omega)
  have hr : y % 2 ^ n < 2 ^ n := Nat.mod_lt _ hp
  have hxe := Nat.div_add_mod y (2 ^ n)
  have hxm : (y / 2 ^ n + 1) * 2 ^ n = 2 ^ n * (y / 2 ^ n) + 2 ^ n := by rw [Nat.succ_mul, Nat.mul_comm]
  by_cases h0 : y % 2 ^ n = 0
  · rw [if_pos h0] at h
    refine ⟨y, by unfold upv; rw [h]; rfl, Int.le_refl _, by omega, by rw [← Int.natCast_emod, h0]; rfl⟩
  · rw [if_neg h0, if_pos (by omega)] at h
    refine ⟨((y / 2 ^ n + 1) * 2 ^ n : Nat), by unfold upv; rw [h]; rfl, by omega, by omega, ?_⟩
    rw [← Int.natCast_emod, Nat.mul_mod_left]; rfl
theorem aupv_tells (x : Int) (h0 : 0 ≤ x) (h1 : x ≤ 140737488350000) : ∃ u : Int, upv x 4096 = (u, true) ∧ aupv x 4096 = (u, true) ∧ x ≤ u ∧ u < x + 4096 ∧ u % 4096 = 0 := by
  obtain ⟨u, hu, h2, h3, h4⟩ := upv_tells x 12 (by omega) h0 (by omega)
  rw [show ((2 ^ 12 : Nat) : Int) = 4096 from rfl] at hu h3 h4
  refine ⟨u, hu, ?_, h2, h3, h4⟩
  unfold aupv addr_up.f
  rw [if_neg (by omega), upv_f, hu]
  simp only [Option.bind_some, if_true, Option.getD_some]
  rw [decide_eq_true (by omega)]
theorem addv_tells (a b : Int) (ha : 0 ≤ a ∧ a < 18446744073709551616) (hb : 0 ≤ b ∧ b < 18446744073709551616) : addv a b = if a + b < 18446744073709551616 then (a + b, true) else (0, false) := by
  unfold addv
  rw [add2_tells a b ha hb]
  split <;> rfl
/-- A piece as the laws make it. -/
def GoodP (p : S37) : Prop := (0 ≤ p.f2 ∧ p.f2 < 4) ∧ (∃ n : Nat, n ≤ 12 ∧ p.f4 = ((2 ^ n : Nat) : Int)) ∧ (0 ≤ p.f5 ∧ p.f5 < 18446744073709551616)
/-- A piece with an address. -/
def setA (p : S37) (a : Int) : S37 := ⟨p.f0, p.f1, p.f2, p.f3, p.f4, p.f5, a⟩
/-- Where a piece goes. -/
theorem place_at {p : S37} (hg : GoodP p) {a : Int} (h0 : 0 ≤ a) (h1 : a ≤ 140737488355328) :
    ∃ u, upv a p.f4 = (u, true) ∧ a ≤ u ∧ u < a + p.f4 ∧ u % p.f4 = 0 ∧ p.f4 ≤ 4096 ∧ 0 < p.f4 ∧ 4096 % p.f4 = 0 := by
  obtain ⟨_, ⟨n, hn, e⟩, _⟩ := hg
  obtain ⟨u, hu, h2, h3, h4⟩ := upv_tells a n hn h0 (by omega)
  have hp : 0 < 2 ^ n := Nat.two_pow_pos n
  have hq : (2 : Nat) ^ n ≤ 2 ^ 12 := Nat.pow_le_pow_right (by decide) hn
  have h12 : (2 : Nat) ^ 12 = 4096 := rfl
  rw [e]
  refine ⟨u, hu, h2, h3, h4, by omega, by omega, ?_⟩
  have hd : (2 : Nat) ^ 12 % 2 ^ n = 0 := Nat.mod_eq_zero_of_dvd (Nat.pow_dvd_pow 2 hn)
  rw [show (4096 : Int) = ((2 ^ 12 : Nat) : Int) from rfl, ← Int.natCast_emod, hd]; rfl
theorem segL_pos {k : Int} {p : S37} {ps : List S37} {a u : Int} {s : Bool} (hg : GoodP p) (h0 : 0 ≤ a) (h1 : a ≤ 140737488355328) (hk : kindv p.f2 = k) (hu : upv a p.f4 = (u, true)) (hu2 : a ≤ u ∧ u < a + p.f4 ∧ p.f4 ≤ 4096) :
    segL k (p :: ps) a s = if u + p.f5 ≤ 140737488355328 then (segL k ps (u + p.f5) true).map fun r => (setA p u :: r.1, r.2) else none := by
  obtain ⟨_, _, hs⟩ := hg
  rw [segL, if_pos hk, hu, if_pos rfl]
  simp only
  rw [addv_tells u p.f5 (by omega) hs]
  by_cases h : u + p.f5 ≤ 140737488355328
  · rw [if_pos (show u + p.f5 < 18446744073709551616 by omega), if_pos rfl, if_pos h]
    simp only
    rw [if_pos h]
    rfl
  · rw [if_neg h]
    by_cases h2 : u + p.f5 < 18446744073709551616
    · rw [if_pos h2, if_pos rfl]
      simp only
      rw [if_neg h]
    · rw [if_neg h2, if_neg (by decide)]
theorem segL_neg {k : Int} {p : S37} {ps : List S37} {a : Int} {s : Bool} (hk : kindv p.f2 ≠ k) : segL k (p :: ps) a s = (segL k ps a s).map fun r => (p :: r.1, r.2) := by
  rw [segL, if_neg hk]
theorem good_setA {p : S37} (hg : GoodP p) (u : Int) : GoodP (setA p u) := hg
/-! ### The pieces that a law makes -/
theorem wrap_bd (x : Int) : 0 ≤ IntKind.u64.wrap x ∧ IntKind.u64.wrap x < 18446744073709551616 := by
  simp only [IntKind.wrap, IntKind.bits, IntKind.signed, Bool.false_and, Bool.false_eq_true, if_false]
  omega
theorem shl_bd (x y : Int) : 0 ≤ shl .u64 x y ∧ shl .u64 x y < 18446744073709551616 := wrap_bd _
theorem shl_one (y : Int) (h0 : 0 ≤ y) (h1 : y < 13) : ∃ n : Nat, n ≤ 12 ∧ shl .u64 1 y = ((2 ^ n : Nat) : Int) := by
  refine ⟨y.toNat, by omega, ?_⟩
  have h : y = 0 ∨ y = 1 ∨ y = 2 ∨ y = 3 ∨ y = 4 ∨ y = 5 ∨ y = 6 ∨ y = 7 ∨ y = 8 ∨ y = 9 ∨ y = 10 ∨ y = 11 ∨ y = 12 := by omega
  rcases h with rfl | rfl | rfl | rfl | rfl | rfl | rfl | rfl | rfl | rfl | rfl | rfl | rfl <;> decide
/-- A part as it comes in. -/
def PartOk (x : S57) : Prop := (0 ≤ x.f0 ∧ x.f0 < 256) ∧ (0 ≤ x.f1 ∧ x.f1 < 256) ∧ (0 ≤ x.f2 ∧ x.f2 < 4294967296)
theorem pieces_l1 (l : List S57) (hl : l.length ≤ 20) (hok : ∀ x ∈ l, PartOk x) (c : Int) (hc : 0 ≤ c ∧ c < 4) (k : Nat) : ∀ (m i : Nat) (x3 : List S37), i + m = l.length → x3.length + m ≤ 1000 →
    ∃ ys : List S37, (∀ y ∈ ys, GoodP y ∧ y.f2 = c) ∧ ys.length ≤ m ∧ dovetaillaw23_pieces.l1 (k + m + 1) l x3 c (i : Int) = dovetaillaw23_pieces.l0 k l (x3 ++ ys) (wrap64 (c + 1)) := by
  intro m
  induction m with
  | zero =>
    intro i x3 hi _
    refine ⟨[], by simp, by simp, ?_⟩
    rw [dovetaillaw23_pieces.l1, if_neg (by omega), List.append_nil]
  | succ m ih =>
    intro i x3 hi hx
    have hil : i < l.length := by omega
    obtain ⟨x, hxx⟩ : ∃ x, rd_T57 l (i : Int) = x := ⟨_, rfl⟩
    have hxm : x ∈ l := by
      rw [← hxx]; unfold rd_T57
      rw [Int.toNat_natCast, List.getD_eq_getElem?_getD, List.getElem?_eq_getElem hil]
      exact List.getElem_mem hil
    obtain ⟨b0, b1, b2⟩ := hok x hxm
    have hw : wrap64 ((i : Int) + 1) = ((i + 1 : Nat) : Int) := by unfold wrap64; omega
    have t13 : 0 ≤ Int.tmod x.f1 13 ∧ Int.tmod x.f1 13 < 13 := ⟨Int.tmod_nonneg _ b1.1, Int.tmod_lt_of_pos _ (by decide)⟩
    have t32 : 0 ≤ Int.tmod x.f1 32 := Int.tmod_nonneg _ b1.1
    rw [show k + (m + 1) + 1 = (k + m + 1) + 1 from by omega, dovetaillaw23_pieces.l1, if_pos (by omega), if_pos (by omega), hxx, hw]
    by_cases h1 : wrap64 (Int.tmod x.f0 4) = c
    · rw [if_pos h1, if_pos t13.1]
      have fin : ∀ q : S37, GoodP q ∧ q.f2 = c → ∃ ys : List S37, (∀ y ∈ ys, GoodP y ∧ y.f2 = c) ∧ ys.length ≤ m + 1 ∧ dovetaillaw23_pieces.l1 (k + m + 1) l (x3 ++ [q]) c ((i + 1 : Nat) : Int) = dovetaillaw23_pieces.l0 k l (x3 ++ ys) (wrap64 (c + 1)) := by
        intro q hq
        obtain ⟨ys, h1, h2, h3⟩ := ih (i + 1) (x3 ++ [q]) (by omega) (by simp; omega)
        refine ⟨q :: ys, ?_, by simp; omega, by rw [h3]; simp⟩
        intro y hy
        rcases List.mem_cons.1 hy with rfl | hy
        · exact hq
        · exact h1 y hy
      by_cases h2 : x.f3 = true
      · rw [if_pos h2, if_pos t32, if_pos (by omega)]
        exact fin _ ⟨⟨hc, shl_one _ t13.1 t13.2, shl_bd _ _⟩, rfl⟩
      · rw [if_neg h2, if_pos (by omega)]
        exact fin _ ⟨⟨hc, shl_one _ t13.1 t13.2, wrap_bd _⟩, rfl⟩
    · rw [if_neg h1]
      obtain ⟨ys, h1, h2, h3⟩ := ih (i + 1) x3 (by omega) (by omega)
      exact ⟨ys, h1, by omega, h3⟩
theorem pieces_l0 (l : List S57) (hl : l.length ≤ 20) (hok : ∀ x ∈ l, PartOk x) (k : Nat) (c : Int) (hc : 0 ≤ c ∧ c < 4) (x3 : List S37) (hx : x3.length ≤ 900) :
    ∃ ys : List S37, (∀ y ∈ ys, GoodP y ∧ y.f2 = c) ∧ ys.length ≤ l.length ∧ dovetaillaw23_pieces.l0 (k + l.length + 2) l x3 c = dovetaillaw23_pieces.l0 k l (x3 ++ ys) (c + 1) := by
  obtain ⟨ys, h1, h2, h3⟩ := pieces_l1 l hl hok c hc k l.length 0 x3 (by omega) (by omega)
  refine ⟨ys, h1, h2, ?_⟩
  rw [show k + l.length + 2 = (k + l.length + 1) + 1 from rfl, dovetaillaw23_pieces.l0, if_pos hc.2]
  rw [show ((0 : Int)) = ((0 : Nat) : Int) from rfl, h3, show wrap64 (c + 1) = c + 1 from by unfold wrap64; omega]
/-- What a law's pieces are: each as it should be, by their classes. -/
theorem pieces_tell (l : List S57) (hl : l.length ≤ 20) (hok : ∀ x ∈ l, PartOk x) (k : Nat) (hk : 100 ≤ k) :
    ∃ p0 p1 p2 p3 : List S37, dovetaillaw23_pieces.f k l = some (p0 ++ (p1 ++ (p2 ++ p3))) ∧ (∀ y ∈ p0, GoodP y ∧ y.f2 = 0) ∧ (∀ y ∈ p1, GoodP y ∧ y.f2 = 1) ∧ (∀ y ∈ p2, GoodP y ∧ y.f2 = 2) ∧ (∀ y ∈ p3, GoodP y ∧ y.f2 = 3) ∧ (p0 ++ (p1 ++ (p2 ++ p3))).length ≤ 80 := by
  obtain ⟨j, rfl⟩ : ∃ j, k = (((j + 1 + l.length + 2) + l.length + 2) + l.length + 2) + l.length + 2 := ⟨k - (4 * l.length + 9), by omega⟩
  obtain ⟨p0, g0, n0, e0⟩ := pieces_l0 l hl hok (((j + 1 + l.length + 2) + l.length + 2) + l.length + 2) 0 (by omega) [] (by simp)
  obtain ⟨p1, g1, n1, e1⟩ := pieces_l0 l hl hok ((j + 1 + l.length + 2) + l.length + 2) 1 (by omega) ([] ++ p0) (by simp; omega)
  obtain ⟨p2, g2, n2, e2⟩ := pieces_l0 l hl hok (j + 1 + l.length + 2) 2 (by omega) ([] ++ p0 ++ p1) (by simp; omega)
  obtain ⟨p3, g3, n3, e3⟩ := pieces_l0 l hl hok (j + 1) 3 (by omega) ([] ++ p0 ++ p1 ++ p2) (by simp; omega)
  refine ⟨p0, p1, p2, p3, ?_, g0, g1, g2, g3, by simp; omega⟩
  unfold dovetaillaw23_pieces.f
  rw [e0, show (0 : Int) + 1 = 1 from rfl, e1, show (1 : Int) + 1 = 2 from rfl, e2, show (2 : Int) + 1 = 3 from rfl, e3, dovetaillaw23_pieces.l0, if_neg (by omega)]
  simp
/-- What a slice of parts, read as an argument, holds. -/
theorem opn_part : Opn.Opn Try.prog k57 57 PartOk := by
  have h := Opn.Opn.iso (P := Try.prog) (f := fun x : S57 => (x.f0, x.f1, x.f2, x.f3)) (fun y => ⟨y.1, y.2.1, y.2.2.1, y.2.2.2⟩) (fun _ => rfl)
    (Opn.Opn.struct (t := 57) Try.underlying57 rfl (by kernel_rfl) (by kernel_rfl)
      (Opn.OpnAt.pair (Opn.OpnAt.one (Opn.Opn.int (k := .u8) (by kernel_rfl) (by kernel_rfl))) (Opn.OpnAt.pair (Opn.OpnAt.one (Opn.Opn.int (k := .u8) (by kernel_rfl) (by kernel_rfl)))
        (Opn.OpnAt.pair (Opn.OpnAt.one (Opn.Opn.int (k := .u32) (by kernel_rfl) (by kernel_rfl))) (Opn.OpnAt.one (Opn.Opn.bool (by kernel_rfl) (by kernel_rfl)))))))
  refine Opn.Opn.imp h fun x hx => ?_
  obtain ⟨h0, h1, h2, _⟩ := hx
  exact ⟨bd_u8 h0, bd_u8 h1, bd_u32 h2⟩

end Go.Proofs.Ytpblhcmcldachaa.AdrAddrApart
