/- AddrAssigns: any pieces stand just where the document says, in just its segments, or are too great. No condition beside the statement's own. -/
import Derived.Test.YtpblhcmcldachaaAdrAddrAssigns
namespace Go.Proofs.Ytpblhcmcldachaa.Pure
open Go.Proofs.Ytpblhcmcldachaa.Man
open Go.RowKit Go.Proofs.Ytpblhcmcldachaa.QAddrAssigns Go.Proofs.YtpblhcmcldachaaW.PrintWords Go.Proofs.YtpblhcmcldachaaW.PrintLast Go.Proofs.YtpblhcmcldachaaW.PrintMore Go.Proofs.Ytpblhcmcldachaa.Bv Go.Proofs.Ytpblhcmcldachaa.Spn Go.Proofs.Ytpblhcmcldachaa.AdrAddrAssigns
set_option linter.unusedSimpArgs false
set_option linter.unusedVariables false

theorem ref_up (x n : Nat) (hx : x < 18446744073709551616) (hn : n < 64) :
    dovetailref1_Up.f (x : Int) ((2 ^ n : Nat) : Int) = some (if x % 2 ^ n = 0 then ((x : Int), true) else if (x / 2 ^ n + 1) * 2 ^ n < 18446744073709551616 then ((((x / 2 ^ n + 1) * 2 ^ n : Nat) : Int), true) else (0, false)) := by
  have hp : 0 < 2 ^ n := Nat.two_pow_pos n
  have hq : (2 : Nat) ^ n ≤ 2 ^ 63 := Nat.pow_le_pow_right (by decide) (by omega)
  have h63 : (2 : Nat) ^ 63 = 9223372036854775808 := rfl
  have e : IntKind.u64.wrap (((2 ^ n : Nat) : Int) - 1) = ((2 ^ n - 1 : Nat) : Int) := by rw [uw64 (by omega) (by omega)]; omega
  have hr : x % 2 ^ n < 2 ^ n := Nat.mod_lt _ hp
  have hxe := Nat.div_add_mod x (2 ^ n)
  have hxm : (x / 2 ^ n + 1) * 2 ^ n = 2 ^ n * (x / 2 ^ n) + 2 ^ n := by rw [Nat.succ_mul, Nat.mul_comm]
  have hd : (18446744073709551616 : Nat) = 2 ^ (64 - n) * 2 ^ n := by rw [← Nat.pow_add, show 64 - n + n = 64 by omega]
  have hqm : x / 2 ^ n < 2 ^ (64 - n) := by
    apply Nat.lt_of_mul_lt_mul_right (a := 2 ^ n)
    rw [← hd]
    have : x / 2 ^ n * 2 ^ n ≤ x := Nat.div_mul_le_self _ _
    omega
  have hle : (x / 2 ^ n + 1) * 2 ^ n ≤ 18446744073709551616 := by rw [hd]; exact Nat.mul_le_mul_right _ hqm
  unfold dovetailref1_Up.f
  rw [show dovetailref1_Pow2.f ((2 ^ n : Nat) : Int) = some true from pow2_yes n hn, Option.bind_some, if_pos rfl, e, bits_and _ _ hx (by omega), and_mask]
  by_cases h0 : x % 2 ^ n = 0
  · rw [if_pos (by omega), if_pos h0]
  · rw [if_neg (by omega), if_neg h0, uw64 (x := ((2 ^ n : Nat) : Int) - ((x % 2 ^ n : Nat) : Int)) (by omega) (by omega)]
    by_cases h1 : (x / 2 ^ n + 1) * 2 ^ n < 18446744073709551616
    · rw [if_pos h1, uw64 (by omega) (by omega), if_neg (by omega), Option.some.injEq, Prod.mk.injEq]
      exact ⟨by omega, rfl⟩
    · rw [if_neg h1]
      have hw : IntKind.u64.wrap ((x : Int) + (((2 ^ n : Nat) : Int) - ((x % 2 ^ n : Nat) : Int))) = 0 := by
        simp only [IntKind.wrap, IntKind.bits, IntKind.signed, Bool.false_and, Bool.false_eq_true, if_false]
        omega
      rw [hw, if_pos (by omega)]

theorem ref_upv {p : S37} (hg : GoodP p) {a : Int} (h0 : 0 ≤ a) (h1 : a ≤ 140737488355328) : dovetailref1_Up.f a p.f4 = some (upv a p.f4) := by
  obtain ⟨_, ⟨n, hn, e⟩, _⟩ := hg
  obtain ⟨y, rfl⟩ : ∃ y : Nat, a = (y : Int) := ⟨a.toNat, by omega⟩
  have h := up_tells y n (by omega) (by omega)
  rw [e, ref_up y n (by omega) (by omega)]
  unfold upv
  rw [h]
  rfl
theorem ref_up4096 {a : Int} (h0 : 0 ≤ a) (h1 : a ≤ 140737488355328) : dovetailref1_Up.f a 4096 = some (upv a 4096) := by
  obtain ⟨y, rfl⟩ : ∃ y : Nat, a = (y : Int) := ⟨a.toNat, by omega⟩
  have h := up_tells y 12 (by omega) (by omega)
  have h2 := ref_up y 12 (by omega) (by omega)
  rw [show ((2 ^ 12 : Nat) : Int) = 4096 from rfl] at h h2
  rw [h2]
  unfold upv
  rw [h]
  rfl
/-- A segment's number, its permissions. -/
def kOf (g : Int) : Int := if g = 0 then 5 else if g = 1 then 4 else 6
def segOf (c : Int) : Int := if c = 0 then 0 else if c = 1 then 1 else 2
theorem ref_segment (c : Int) (h : 0 ≤ c ∧ c < 4) : dovetailref20_segment.f c = some (segOf c) := by
  have h : c = 0 ∨ c = 1 ∨ c = 2 ∨ c = 3 := by omega
  rcases h with rfl | rfl | rfl | rfl <;> rfl
theorem ref_perm (g : Int) (h : 0 ≤ g ∧ g < 3) : dovetailref20_Perm.f g = some (kOf g) := by
  have h : g = 0 ∨ g = 1 ∨ g = 2 := by omega
  rcases h with rfl | rfl | rfl <;> rfl
theorem kind_seg (c g : Int) (h : 0 ≤ c ∧ c < 4) (hg : 0 ≤ g ∧ g < 3) : kindv c = kOf g ↔ segOf c = g := by
  have h : c = 0 ∨ c = 1 ∨ c = 2 ∨ c = 3 := by omega
  have hg : g = 0 ∨ g = 1 ∨ g = 2 := by omega
  rcases h with rfl | rfl | rfl | rfl <;> rcases hg with rfl | rfl | rfl <;> decide
theorem rd_mid (pre : List S37) (p : S37) (ps : List S37) : rd_T37 (pre ++ p :: ps) ((pre.length : Nat) : Int) = p := by
  unfold rd_T37
  rw [Int.toNat_natCast, List.getD_eq_getElem?_getD, List.getElem?_append_right (Nat.le_refl _)]
  simp
theorem set_mid (pre : List S37) (p q : S37) (ps : List S37) : (pre ++ p :: ps).set pre.length q = pre ++ q :: ps := by
  rw [List.set_append_right _ _ (Nat.le_refl _)]
  simp
/-- One kind's pieces, as the reference goes through them. -/
theorem ref_loop (x6 : List S40) (x7 x8 g b : Int) (hg : 0 ≤ g ∧ g < 3) (k : Nat) : ∀ (ps pre : List S37) (a : Int) (s : Bool), (∀ p ∈ ps, GoodP p) → (pre.length + ps.length ≤ 1000) → 0 ≤ a → a ≤ 140737488355328 →
    dovetailref20_Assign.l1 (k + 2 * ps.length + 1) (pre ++ ps) x6 x7 x8 g b a s ((pre.length : Nat) : Int) =
      match segL (kOf g) ps a s with
      | none => some ([], [], 55)
      | some r => dovetailref20_Assign.l1 (k + 1) (pre ++ r.1) x6 x7 x8 g b r.2.1 r.2.2 (((pre ++ r.1).length : Nat) : Int)
  | [], pre, a, s, _, _, _, _ => by simp [segL]
  | p :: ps, pre, a, s, hp, hl, h0, h1 => by
    have hgp := hp p (List.mem_cons_self ..)
    have hps : ∀ q ∈ ps, GoodP q := fun q hq => hp q (List.mem_cons_of_mem _ hq)
    have hw : wrap64 ((pre.length : Int) + 1) = (((pre ++ [p]).length : Nat) : Int) := by simp at hl; unfold wrap64; simp; omega
    have hlen : ((pre.length : Nat) : Int) < ((pre ++ p :: ps).length : Int) := by simp; omega
    simp only [List.length_cons] at hl
    rw [show k + 2 * (p :: ps).length + 1 = (k + 2 * ps.length + 1) + 1 + 1 from by simp; omega, dovetailref20_Assign.l1, if_pos hlen, if_pos (by omega), rd_mid, if_neg (by have := hgp.1; omega), if_neg (by have := hgp.1; omega), ref_segment _ hgp.1, Option.bind_some, dovetailref20_Assign.j4]
    by_cases hk : segOf p.f2 = g
    · rw [if_neg (by simp [hk]), if_pos (by omega), if_pos hlen, rd_mid, ref_upv hgp h0 h1, Option.bind_some]
      obtain ⟨u, hu, u1, u2, u3, u4, u5, u6⟩ := place_at hgp h0 h1
      rw [hu, segL_pos hgp h0 h1 ((kind_seg _ _ hgp.1 hg).2 hk) hu ⟨u1, u2, u4⟩]
      simp only [if_true]
      by_cases hf : u + p.f5 ≤ 140737488355328
      · have hs := hgp.2.2
        rw [if_pos hf, if_neg (by omega), uw64 (by omega) (by omega), if_neg (by omega), Option.bind_some, Int.toNat_natCast, set_mid, rd_mid]
        simp only
        rw [uw64 (by omega) (by omega), hw]
        have ih := ref_loop x6 x7 x8 g b hg k ps (pre ++ [setA p u]) (u + p.f5) true hps (by simp; omega) (by omega) hf
        have e1 : pre ++ ⟨p.f0, p.f1, p.f2, p.f3, p.f4, p.f5, u⟩ :: ps = (pre ++ [setA p u]) ++ ps := by simp [setA]
        have e2 : (((pre ++ [p]).length : Nat) : Int) = (((pre ++ [setA p u]).length : Nat) : Int) := by simp
        rw [e1, e2, ih]
        cases segL (kOf g) ps (u + p.f5) true with
        | none => rfl
        | some r => simp
      · rw [if_neg hf]
        simp only [Option.map_none]
        by_cases h2 : u > 140737488355328
        · rw [if_pos h2]
        · rw [if_neg h2, uw64 (by omega) (by omega), if_pos (by omega)]
    · rw [if_pos (by simp [hk]), segL_neg (fun h => hk ((kind_seg _ _ hgp.1 hg).1 h)), hw]
      have ih := ref_loop x6 x7 x8 g b hg k ps (pre ++ [p]) a s hps (by simp; omega) h0 h1
      rw [show pre ++ p :: ps = (pre ++ [p]) ++ ps from by simp, ih]
      cases segL (kOf g) ps a s with
      | none => rfl
      | some r => simp
theorem segL_good (k : Int) : ∀ (ps : List S37) (a : Int) (s : Bool) (r : List S37 × Int × Bool), (∀ p ∈ ps, GoodP p) → 0 ≤ a → a ≤ 140737488355328 → segL k ps a s = some r → (∀ p ∈ r.1, GoodP p) ∧ a ≤ r.2.1 ∧ r.2.1 ≤ 140737488355328 ∧ (r.2.2 = false → s = false ∧ r.2.1 = a) ∧ r.1.length = ps.length
  | [], a, s, r, _, h0, h1, h => by
    simp only [segL, Option.some.injEq] at h
    subst h
    exact ⟨by simp, Int.le_refl _, h1, fun h => ⟨h, rfl⟩, rfl⟩
  | p :: ps, a, s, r, hp, h0, h1, h => by
    have hgp := hp p (List.mem_cons_self ..)
    have hps : ∀ q ∈ ps, GoodP q := fun q hq => hp q (List.mem_cons_of_mem _ hq)
    by_cases hk : kindv p.f2 = k
    · obtain ⟨u, hu, u1, u2, u3, u4, u5, u6⟩ := place_at hgp h0 h1
      rw [segL_pos hgp h0 h1 hk hu ⟨u1, u2, u4⟩] at h
      split at h
      · rename_i hf
        rw [Option.map_eq_some_iff] at h
        obtain ⟨q, hq, rfl⟩ := h
        have hs := hgp.2.2
        obtain ⟨i1, i2, i3, i4, i5⟩ := segL_good k ps _ _ q hps (by omega) hf hq
        refine ⟨?_, by simp only; omega, i3, fun h => ?_, by simp [i5]⟩
        · intro y hy
          rcases List.mem_cons.1 hy with rfl | hy
          · exact good_setA hgp u
          · exact i1 y hy
        · exact absurd (i4 h).1 (by decide)
      · cases h
    · rw [segL_neg hk, Option.map_eq_some_iff] at h
      obtain ⟨q, hq, rfl⟩ := h
      obtain ⟨i1, i2, i3, i4, i5⟩ := segL_good k ps _ _ q hps h0 h1 hq
      refine ⟨?_, i2, i3, i4, by simp [i5]⟩
      intro y hy
      rcases List.mem_cons.1 hy with rfl | hy
      · exact hgp
      · exact i1 y hy
/-- A layer as it may be, behind so many segments. -/
structure LayOk (y : Lay) (n j : Nat) : Prop where
  good : ∀ p ∈ y.l, GoodP p
  len : y.l.length = n
  at0 : 65536 ≤ y.at_
  at1 : y.at_ ≤ 65536 + y.all + 4096 * j
  all0 : 0 ≤ y.all
  all1 : y.all ≤ 134217728
  segs : y.s.length ≤ j
theorem LayOk.top {y : Lay} {n j : Nat} (h : LayOk y n j) (hj : j ≤ 3) : 0 ≤ y.at_ ∧ y.at_ ≤ 140000000 := by
  have := h.at0; have := h.at1; have := h.all1; omega
theorem seg_ref (y : Lay) (n j : Nat) (hy : LayOk y n j) (hj : j < 3) (hn : n ≤ 1000) (k : Nat) :
    (dovetailref20_Assign.l0 (k + 2 * n + 4) y.l y.s y.at_ y.all (j : Int) = match segF (kOf (j : Int)) y with | none => some ([], [], 55) | some z => dovetailref20_Assign.l0 k z.l z.s z.at_ z.all ((j + 1 : Nat) : Int)) ∧
      ∀ z, segF (kOf (j : Int)) y = some z → LayOk z n (j + 1) := by
  obtain ⟨t0, t1⟩ := hy.top (by omega)
  obtain ⟨b, hb, hb2, b1, b2, b3⟩ := aupv_tells y.at_ t0 (by omega)
  have hw : wrap64 ((j : Int) + 1) = ((j + 1 : Nat) : Int) := by unfold wrap64; omega
  have hlp := ref_loop y.s y.at_ y.all (j : Int) b (by omega) k y.l [] b false hy.good (by have := hy.len; simp; omega) (by omega) (by omega)
  simp only [List.nil_append, List.length_nil] at hlp
  have hstep : dovetailref20_Assign.l0 (k + 2 * n + 4) y.l y.s y.at_ y.all (j : Int) = dovetailref20_Assign.l1 (k + 2 * n + 1) y.l y.s y.at_ y.all (j : Int) b b false ((0 : Nat) : Int) := by
    rw [show k + 2 * n + 4 = (k + 2 * n + 1) + 1 + 1 + 1 from by omega, dovetailref20_Assign.l0, if_pos (by omega), ref_up4096 t0 (by omega), Option.bind_some, hb]
    simp only [if_true]
    rw [dovetailref20_Assign.j1, decide_eq_false (by omega), if_neg (by decide), dovetailref20_Assign.j2]
    rfl
  rw [hstep, ← hy.len, hlp]
  unfold segF
  rw [hb2, if_pos rfl]
  simp only
  have hA0 := hy.all0
  have hA1 := hy.all1
  have hAT := hy.at1
  cases hs : segL (kOf (j : Int)) y.l b false with
  | none => exact ⟨rfl, fun z hz => by cases hz⟩
  | some r =>
    obtain ⟨r1, a2, s2⟩ := r
    obtain ⟨g1, g2, g3, g4, g5⟩ := segL_good _ _ _ _ _ hy.good (by omega) (by omega) hs
    simp only at g1 g2 g3 g4 g5
    simp only [Option.bind_some]
    rw [dovetailref20_Assign.l1, if_neg (by omega)]
    have hsz : IntKind.u64.wrap (a2 - b) = a2 - b := uw64 (by omega) (by omega)
    cases s2 with
    | false =>
      simp only [Bool.false_eq_true, if_false]
      rw [hw]
      refine ⟨rfl, fun z hz => ?_⟩
      cases hz
      exact ⟨g1, by rw [g5], hy.at0, by show y.at_ ≤ 65536 + y.all + 4096 * ((j + 1 : Nat) : Int); omega, hA0, hA1, by have := hy.segs; show y.s.length ≤ j + 1; omega⟩
    | true =>
      simp only [if_true]
      rw [hsz]
      by_cases hgt : a2 > b
      · rw [if_pos hgt, if_pos (by omega), ref_perm _ (by omega), Option.bind_some, if_pos (by have := hy.segs; omega)]
        have hal : IntKind.u64.wrap (y.all + (a2 - b)) = y.all + (a2 - b) := uw64 (by omega) (by omega)
        rw [hal]
        by_cases hle : y.all + (a2 - b) ≤ 134217728
        · rw [if_neg (by omega), if_pos hle, hw]
          refine ⟨rfl, fun z hz => ?_⟩
          cases hz
          exact ⟨g1, by rw [g5], by show 65536 ≤ a2; have := hy.at0; omega, by show a2 ≤ 65536 + (y.all + (a2 - b)) + 4096 * ((j + 1 : Nat) : Int); omega, by show 0 ≤ y.all + (a2 - b); omega, hle, by have := hy.segs; simp; omega⟩
        · rw [if_pos (by omega), if_neg hle]
          exact ⟨rfl, fun z hz => by cases hz⟩
      · rw [if_neg hgt, if_neg (by omega), if_neg (by omega), if_pos hA1, hw]
        refine ⟨rfl, fun z hz => ?_⟩
        cases hz
        exact ⟨g1, by rw [g5], by show 65536 ≤ a2; have := hy.at0; omega, by show a2 ≤ 65536 + y.all + 4096 * ((j + 1 : Nat) : Int); omega, hA0, hA1, by have := hy.segs; show y.s.length ≤ j + 1; omega⟩
theorem asg_ref (l : List S37) (hg : ∀ p ∈ l, GoodP p) (hl : l.length ≤ 80) (k : Nat) (hk : 600 ≤ k) : ∃ r, addr_Assign.f l = some r ∧ dovetailref20_Assign.f k l = some r ∧ (r.2.1.length ≤ 3 ∧ r.1.length ≤ 80) := by
  obtain ⟨j, rfl⟩ : ∃ j, k = (((j + 1) + 2 * l.length + 4) + 2 * l.length + 4) + 2 * l.length + 4 := ⟨k - (6 * l.length + 13), by omega⟩
  have y0 : LayOk ⟨l, [], 65536, 0⟩ l.length 0 := ⟨hg, rfl, Int.le_refl _, by simp, Int.le_refl _, by simp, by simp⟩
  obtain ⟨e0, n0⟩ := seg_ref _ _ 0 y0 (by omega) (by omega) (((j + 1) + 2 * l.length + 4) + 2 * l.length + 4)
  unfold addr_Assign.f dovetailref20_Assign.f
  rw [if_pos (by omega), if_pos (by simp; omega), List.nil_append]
  simp only [asgL]
  rw [show ((0 : Nat) : Int) = 0 from rfl, show ((0 + 1 : Nat) : Int) = 1 from rfl, show kOf 0 = 5 from rfl] at e0
  rw [show ((0 : Nat) : Int) = 0 from rfl, show kOf 0 = 5 from rfl] at n0
  simp only at e0
  rw [e0]
  cases h0 : segF 5 ⟨l, [], 65536, 0⟩ with
  | none => exact ⟨_, rfl, rfl, by simp⟩
  | some z0 =>
  have y1 := n0 z0 h0
  obtain ⟨e1, n1⟩ := seg_ref _ _ 1 y1 (by omega) (by omega) ((j + 1) + 2 * l.length + 4)
  rw [show ((1 : Nat) : Int) = 1 from rfl, show ((1 + 1 : Nat) : Int) = 2 from rfl, show kOf 1 = 4 from rfl] at e1
  rw [show ((1 : Nat) : Int) = 1 from rfl, show kOf 1 = 4 from rfl] at n1
  simp only [Option.bind_some]
  rw [e1]
  cases h1 : segF 4 z0 with
  | none => exact ⟨_, rfl, rfl, by simp⟩
  | some z1 =>
  have y2 := n1 z1 h1
  obtain ⟨e2, n2⟩ := seg_ref _ _ 2 y2 (by omega) (by omega) (j + 1)
  rw [show ((2 : Nat) : Int) = 2 from rfl, show ((2 + 1 : Nat) : Int) = 3 from rfl, show kOf 2 = 6 from rfl] at e2
  rw [show ((2 : Nat) : Int) = 2 from rfl, show kOf 2 = 6 from rfl] at n2
  simp only [Option.bind_some]
  rw [e2]
  cases h2 : segF 6 z1 with
  | none => exact ⟨_, rfl, rfl, by simp⟩
  | some z2 =>
  have y3 := n2 z2 h2
  refine ⟨_, rfl, ?_, y3.segs, by simp only; rw [y3.len]; exact hl⟩
  simp only
  rw [dovetailref20_Assign.l0, if_neg (by omega)]
theorem pieces_same (l : List S37) (hl : l.length ≤ 80) (k : Nat) : ∀ (m i : Nat), i + m = l.length → dovetailhelp_Pieces.l0 (k + m + 1) l l (i : Int) = some true := by
  intro m
  induction m with
  | zero =>
    intro i hi
    rw [dovetailhelp_Pieces.l0, if_neg (by omega)]
  | succ m ih =>
    intro i hi
    rw [show k + (m + 1) + 1 = (k + m + 1) + 1 from by omega, dovetailhelp_Pieces.l0, if_pos (by omega), if_pos (by omega), if_pos (by omega), if_neg (by simp), show wrap64 ((i : Int) + 1) = ((i + 1 : Nat) : Int) from by unfold wrap64; omega]
    exact ih (i + 1) (by omega)
theorem segs_same (l : List S40) (hl : l.length ≤ 80) (k : Nat) : ∀ (m i : Nat), i + m = l.length → dovetailhelp_Segs.l0 (k + m + 1) l l (i : Int) = some true := by
  intro m
  induction m with
  | zero =>
    intro i hi
    rw [dovetailhelp_Segs.l0, if_neg (by omega)]
  | succ m ih =>
    intro i hi
    rw [show k + (m + 1) + 1 = (k + m + 1) + 1 from by omega, dovetailhelp_Segs.l0, if_pos (by omega), if_pos (by omega), if_pos (by omega), if_pos rfl, if_pos rfl, if_pos rfl, if_pos rfl, show wrap64 ((i : Int) + 1) = ((i + 1 : Nat) : Int) from by unfold wrap64; omega]
    exact ih (i + 1) (by omega)
theorem known_true : dovetaillaw23_known.f = some true := by kernel_rfl
theorem AddrAssigns (l : List S57) (hok : ∀ x ∈ l, PartOk x) : dovetaillaw23_AddrAssigns.f 1000 l = some true := by
  unfold dovetaillaw23_AddrAssigns.f
  rw [known_true, Option.bind_some, if_pos rfl]
  by_cases hl : (l.length : Int) > 20
  · rw [if_pos hl]
  rw [if_neg hl]
  obtain ⟨p0, p1, p2, p3, hp, g0, g1, g2, g3, hlen⟩ := pieces_tell l (by omega) hok 1000 (by omega)
  have hg : ∀ p ∈ p0 ++ (p1 ++ (p2 ++ p3)), GoodP p := by
    intro p hp
    simp only [List.mem_append] at hp
    rcases hp with h | h | h | h
    · exact (g0 p h).1
    · exact (g1 p h).1
    · exact (g2 p h).1
    · exact (g3 p h).1
  obtain ⟨r, h1, h2, h3, h4⟩ := asg_ref _ hg hlen 1000 (by omega)
  rw [hp, Option.bind_some, h1, Option.bind_some, Option.bind_some, h2, Option.bind_some, if_pos rfl]
  have e1 : dovetailhelp_Pieces.f 1000 r.1 r.1 = some true := by
    unfold dovetailhelp_Pieces.f
    rw [if_pos rfl]
    obtain ⟨j, hj⟩ : ∃ j, 1000 = j + r.1.length + 1 := ⟨999 - r.1.length, by omega⟩
    rw [hj]
    exact pieces_same r.1 h4 j r.1.length 0 (by omega)
  have e2 : dovetailhelp_Segs.f 1000 r.2.1 r.2.1 = some true := by
    unfold dovetailhelp_Segs.f
    rw [if_pos rfl]
    obtain ⟨j, hj⟩ : ∃ j, 1000 = j + r.2.1.length + 1 := ⟨999 - r.2.1.length, by omega⟩
    rw [hj]
    exact segs_same r.2.1 (by omega) j r.2.1.length 0 (by omega)
  rw [e1, Option.bind_some, if_pos rfl, e2]
  rfl

end Go.Proofs.Ytpblhcmcldachaa.Pure
