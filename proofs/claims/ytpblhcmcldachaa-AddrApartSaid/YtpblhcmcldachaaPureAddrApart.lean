/- AddrApart: no two pieces overlap, each stands at a multiple of its alignment, in its own segment, and no two segments share a page. No condition beside the statement's own. -/
import Derived.Test.YtpblhcmcldachaaAdrLayAddrApart
namespace Go.Proofs.Ytpblhcmcldachaa.Pure
open Go.Proofs.Ytpblhcmcldachaa.Man
open Go.RowKit Go.Proofs.Ytpblhcmcldachaa.QAddrApart Go.Proofs.YtpblhcmcldachaaW.PrintWords Go.Proofs.YtpblhcmcldachaaW.PrintLast Go.Proofs.YtpblhcmcldachaaW.PrintMore Go.Proofs.Ytpblhcmcldachaa.Bv Go.Proofs.Ytpblhcmcldachaa.Spn Go.Proofs.Ytpblhcmcldachaa.AdrAddrApart
set_option linter.unusedSimpArgs false
set_option linter.unusedVariables false

theorem rd_at (L : List S37) (i : Nat) (h : i < L.length) : rd_T37 L (i : Int) = L[i] := by
  unfold rd_T37
  rw [Int.toNat_natCast, List.getD_eq_getElem?_getD, List.getElem?_eq_getElem h]; rfl
theorem rds_at (L : List S40) (i : Nat) (h : i < L.length) : rd_T40 L (i : Int) = L[i] := by
  unfold rd_T40
  rw [Int.toNat_natCast, List.getD_eq_getElem?_getD, List.getElem?_eq_getElem h]; rfl
theorem w_succ (i : Nat) (h : i ≤ 1000) : wrap64 ((i : Int) + 1) = ((i + 1 : Nat) : Int) := by unfold wrap64; omega
/-- A piece as it stands. -/
structure Stands (p : S37) : Prop where
  good : GoodP p
  lo : 65536 ≤ p.f6
  hi : p.f6 + p.f5 ≤ 140000000
  al : p.f6 % p.f4 = 0
/-- A segment as it stands. -/
structure SegOk (q : S40) : Prop where
  lo : 65536 ≤ q.f0
  hi : q.f0 + q.f3 ≤ 140000000
  page : q.f0 % 4096 = 0
  size : 0 < q.f3
  perm : q.f1 = 5 ∨ q.f1 = 4 ∨ q.f1 = 6
/-- A piece lies in a segment of its own kind. -/
def Within (p : S37) (q : S40) : Prop := q.f0 ≤ p.f6 ∧ p.f6 + p.f5 ≤ q.f0 + q.f3 ∧ (q.f1 = 5 ∧ p.f2 = 0 ∨ q.f1 = 4 ∧ p.f2 = 1 ∨ q.f1 = 6 ∧ (p.f2 = 2 ∨ p.f2 = 3))
section
variable (L : List S37) (S : List S40) (hL : L.length ≤ 100) (hS : S.length ≤ 3) (hst : ∀ p ∈ L, Stands p) (hsg : ∀ q ∈ S, SegOk q)
include hL hst in
/-- No piece overlaps one ahead of it. -/
theorem apart_l1 (hord : ∀ (i j : Nat) (hi : i < j) (hj : j < L.length), (L[i]'(by omega)).f6 + (L[i]'(by omega)).f5 ≤ (L[j]'hj).f6) (i : Nat) (hi : i < L.length) (k : Nat) : ∀ (m j : Nat), j + m = i →
    dovetaillaw23_AddrApart.l1 (k + m + 1) L S (i : Int) (j : Int) = dovetaillaw23_AddrApart.l2 k L S (i : Int) ((L[i]'hi).f5 == 0) 0 := by
  intro m
  have hp := hst _ (List.getElem_mem hi)
  induction m with
  | zero =>
    intro j hj
    rw [dovetaillaw23_AddrApart.l1, if_neg (by omega), if_pos (by omega), if_pos (by omega), rd_at L i hi]
  | succ m ih =>
    intro j hj
    have hq := hst _ (List.getElem_mem (show j < L.length by omega))
    have ho := hord j i (by omega) hi
    have hp5 := hp.good.2.2
    have hq5 := hq.good.2.2
    have hpl := hp.lo
    have hql := hq.lo
    have hph := hp.hi
    have hqh := hq.hi
    rw [show k + (m + 1) + 1 = (k + m + 1) + 1 from by omega, dovetaillaw23_AddrApart.l1, if_pos (by omega), if_pos (by omega), if_pos (by omega), rd_at L i hi, rd_at L j (by omega), w_succ j (by omega), ih (j + 1) (by omega)]
    rw [uw64 (x := (L[j]'(by omega)).f6 + (L[j]'(by omega)).f5) (by omega) (by omega)]
    repeat' split
    all_goals first | rfl | (exfalso; omega)
theorem perm_x (f : Int) (h : f = 5 ∨ f = 4 ∨ f = 6) : (Go.bits .and .i64 f 1 != 0) = decide (f = 5) ∧ (Go.bits .and .i64 f 2 != 0) = decide (f = 6) := by
  rcases h with rfl | rfl | rfl <;> decide
include hL hS hst hsg in
/-- Each piece lies in a segment. -/
theorem apart_l2 (i : Nat) (hi : i < L.length) (k : Nat) : ∀ (m j : Nat) (x : Bool), j + m = S.length → (x = true ∨ ∃ q ∈ S.drop j, Within (L[i]'hi) q) →
    dovetaillaw23_AddrApart.l2 (k + m + 1) L S (i : Int) x (j : Int) = dovetaillaw23_AddrApart.l0 k L S ((i + 1 : Nat) : Int) := by
  intro m
  have hp := hst _ (List.getElem_mem hi)
  induction m with
  | zero =>
    intro j x hj hx
    have hx : x = true := by
      rcases hx with h | ⟨q, hq, _⟩
      · exact h
      · rw [List.drop_of_length_le (by omega)] at hq; simp at hq
    rw [dovetaillaw23_AddrApart.l2, if_neg (by omega), if_pos hx, w_succ i (by omega)]
  | succ m ih =>
    intro j x hj hx
    rw [show k + (m + 1) + 1 = (k + m + 1) + 1 from by omega, dovetaillaw23_AddrApart.l2, if_pos (by omega), w_succ j (by omega)]
    by_cases hxt : x = true
    · rw [if_pos hxt]
      exact ih (j + 1) true (by omega) (.inl rfl)
    · rw [if_neg hxt, if_pos (by omega), if_pos (by omega), if_pos (by omega), rd_at L i hi, rds_at S j (by omega)]
      have hq := hsg _ (List.getElem_mem (show j < S.length by omega))
      have hp5 := hp.good.2.2
      have hp2 := hp.good.1
      have hpl := hp.lo
      have hph := hp.hi
      have hql := hq.lo
      have hqh := hq.hi
      have hqs := hq.size
      obtain ⟨b1, b2⟩ := perm_x _ hq.perm
      rw [uw64 (x := (L[i]'hi).f6 + (L[i]'hi).f5) (by omega) (by omega), uw64 (x := (S[j]'(by omega)).f0 + (S[j]'(by omega)).f3) (by omega) (by omega), b1, b2]
      have hnext : ¬ Within (L[i]'hi) (S[j]'(by omega)) → ∃ q ∈ S.drop (j + 1), Within (L[i]'hi) q := by
        intro hn
        rcases hx with h | ⟨q, hq, hw⟩
        · exact absurd h hxt
        · rw [List.drop_eq_getElem_cons (by omega)] at hq
          rcases List.mem_cons.1 hq with e | hq
          · rw [e] at hw; exact absurd hw hn
          · exact ⟨q, hq, hw⟩
      by_cases hw : Within (L[i]'hi) (S[j]'(by omega))
      · obtain ⟨w1, w2, w3⟩ := hw
        rw [if_pos w1, if_pos w2]
        have e1 : (decide ((S[j]'(by omega)).f1 = 5) == ((L[i]'hi).f2 == 0)) = true := by
          rcases w3 with ⟨h1, h2⟩ | ⟨h1, h2⟩ | ⟨h1, h2 | h2⟩ <;> rw [h1, h2] <;> decide
        have e2 : (decide ((S[j]'(by omega)).f1 = 6) == (decide ((L[i]'hi).f2 ≥ 2))) = true := by
          rcases w3 with ⟨h1, h2⟩ | ⟨h1, h2⟩ | ⟨h1, h2 | h2⟩ <;> rw [h1, h2] <;> decide
        rw [if_pos e1, e2]
        exact ih (j + 1) true (by omega) (.inl rfl)
      · have hn := hnext hw
        repeat' split
        all_goals exact ih (j + 1) _ (by omega) (.inr hn)
include hS hsg in
/-- No two segments share a page. -/
theorem apart_l3 (hord : ∀ (i : Nat) (hi : i + 1 < S.length), (S[i]'(by omega)).f0 + (S[i]'(by omega)).f3 ≤ (S[i + 1]'hi).f0) : ∀ (m j k : Nat), j + m = S.length → dovetaillaw23_AddrApart.l3 (k + m + 1) S (j : Int) = some true := by
  intro m
  induction m with
  | zero =>
    intro j k hj
    rw [dovetaillaw23_AddrApart.l3, if_neg (by omega)]
  | succ m ih =>
    intro j k hj
    have hq := hsg _ (List.getElem_mem (show j < S.length by omega))
    have hql := hq.lo
    have hqh := hq.hi
    have hqs := hq.size
    have hqp := hq.page
    rw [show k + (m + 1) + 1 = (k + m + 1) + 1 from by omega, dovetaillaw23_AddrApart.l3, if_pos (by omega), if_pos (by omega), rds_at S j (by omega), Int.tmod_eq_emod_of_nonneg (by omega), if_pos hqp, if_neg (by omega), w_succ j (by omega), ih (j + 1) k (by omega)]
    have hprev : (if (j : Int) > 0 then (if 0 ≤ (wrap64 ((j : Int) - 1)) then (if (wrap64 ((j : Int) - 1)) < (S.length : Int) then (if (IntKind.u64.wrap (Int.tdiv ((S[j]'(by omega)).f0) 4096)) ≤ (IntKind.u64.wrap (Int.tdiv (IntKind.u64.wrap ((IntKind.u64.wrap (((rd_T40 S (wrap64 ((j : Int) - 1))).f0) + ((rd_T40 S (wrap64 ((j : Int) - 1))).f3))) - 1)) 4096)) then (some false) else (some true)) else (none)) else (none)) else (some true)) = some true := by
      by_cases h0 : (j : Int) > 0
      · obtain ⟨i, rfl⟩ : ∃ i, j = i + 1 := ⟨j - 1, by omega⟩
        have hw : wrap64 (((i + 1 : Nat) : Int) - 1) = (i : Int) := by unfold wrap64; omega
        have hq0 := hsg _ (List.getElem_mem (show i < S.length by omega))
        have hl0 := hq0.lo
        have hh0 := hq0.hi
        have hs0 := hq0.size
        have ho := hord i (by omega)
        rw [if_pos h0, hw, if_pos (by omega), if_pos (by omega), rds_at S i (by omega), uw64 (x := (S[i]'(by omega)).f0 + (S[i]'(by omega)).f3) (by omega) (by omega), uw64 (x := (S[i]'(by omega)).f0 + (S[i]'(by omega)).f3 - 1) (by omega) (by omega), Int.tdiv_eq_ediv_of_nonneg (by omega), Int.tdiv_eq_ediv_of_nonneg (by omega), uw64 (by omega) (by omega), uw64 (by omega) (by omega), if_neg (by omega)]
      · rw [if_neg h0]
    rcases hq.perm with h | h | h
    · rw [if_pos (by rw [h]; decide)]; exact hprev
    · rw [if_pos (by rw [h]; decide)]; exact hprev
    · rw [if_neg (by rw [h]; decide), if_pos (by rw [h]; decide)]; exact hprev
include hL hS hst hsg in
theorem apart_l0 (hord : ∀ (i j : Nat) (hi : i < j) (hj : j < L.length), (L[i]'(by omega)).f6 + (L[i]'(by omega)).f5 ≤ (L[j]'hj).f6) (hin : ∀ p ∈ L, p.f5 = 0 ∨ ∃ q ∈ S, Within p q)
    (hso : ∀ (i : Nat) (hi : i + 1 < S.length), (S[i]'(by omega)).f0 + (S[i]'(by omega)).f3 ≤ (S[i + 1]'hi).f0) : ∀ (m i k : Nat), i + m = L.length → m * 200 + 10 ≤ k → dovetaillaw23_AddrApart.l0 k L S (i : Int) = some true := by
  intro m
  induction m with
  | zero =>
    intro i k hi hk
    obtain ⟨k', rfl⟩ : ∃ k', k = (k' + S.length + 1) + 1 := ⟨k - (S.length + 2), by omega⟩
    rw [dovetaillaw23_AddrApart.l0, if_neg (by omega)]
    exact apart_l3 L S hS hsg hso S.length 0 k' (by omega)
  | succ m ih =>
    intro i k hi hk
    have hil : i < L.length := by omega
    have hp := hst _ (List.getElem_mem hil)
    have hal := good_al hp.good
    have hm : (m + 1) * 200 = m * 200 + 200 := by omega
    obtain ⟨k', rfl⟩ : ∃ k', k = ((k' + S.length + 1) + i + 1) + 1 := ⟨k - (S.length + i + 3), by omega⟩
    rw [dovetaillaw23_AddrApart.l0, if_pos (by omega), if_pos (by omega), rd_at L i hil, if_neg (by omega), Int.tmod_eq_emod_of_nonneg (by have := hp.lo; omega), if_pos hp.al]
    have h1 := apart_l1 L S hL hst hord i hil (k' + S.length + 1) i 0 (by omega)
    rw [show ((0 : Nat) : Int) = 0 from rfl] at h1
    rw [h1]
    have h2 := apart_l2 L S hL hS hst hsg i hil k' S.length 0 ((L[i]'hil).f5 == 0) (by omega) (by
      rcases hin _ (List.getElem_mem hil) with h | ⟨q, hq, hw⟩
      · left; rw [h]; rfl
      · exact .inr ⟨q, by simpa using hq, hw⟩)
    rw [show ((0 : Nat) : Int) = 0 from rfl] at h2
    rw [h2]
    exact ih (i + 1) k' (by omega) (by omega)
end
/-- A chain's pieces: where they stand, one behind another. -/
theorem chain_tells {a e : Int} : ∀ {l : List S37}, (∀ p ∈ l, GoodP p) → Chain a l e → a ≤ e ∧ (∀ p ∈ l, a ≤ p.f6 ∧ p.f6 + p.f5 ≤ e ∧ p.f6 % p.f4 = 0) ∧ l.Pairwise (fun p q => p.f6 + p.f5 ≤ q.f6)
  | [], _, h => by rw [show e = a from h]; exact ⟨Int.le_refl _, by simp, List.Pairwise.nil⟩
  | p :: ps, hg, h => by
    obtain ⟨h1, h2, h3, h4, h5⟩ := h
    obtain ⟨i1, i2, i3⟩ := chain_tells (fun q hq => hg q (List.mem_cons_of_mem _ hq)) h5
    have hs := (hg p (List.mem_cons_self ..)).2.2
    refine ⟨by omega, fun q hq => ?_, List.Pairwise.cons (fun q hq => (i2 q hq).1) i3⟩
    rcases List.mem_cons.1 hq with rfl | hq
    · exact ⟨h1, i1, h3⟩
    · obtain ⟨j1, j2, j3⟩ := i2 q hq
      exact ⟨by omega, j2, j3⟩
/-- One kind's pieces and its segment. -/
theorem part_tells {kk a e : Int} {A : List S37} {s : List S40} (hk : kk = 5 ∨ kk = 4 ∨ kk = 6) (hg : ∀ p ∈ A, GoodP p) (hc : ∀ p ∈ A, kk = 5 ∧ p.f2 = 0 ∨ kk = 4 ∧ p.f2 = 1 ∨ kk = 6 ∧ (p.f2 = 2 ∨ p.f2 = 3)) (h : PartL kk a A s e) (h0 : 65536 ≤ a) (h1 : e ≤ 140000000) :
    (∀ p ∈ A, Stands p ∧ a ≤ p.f6 ∧ p.f6 + p.f5 ≤ e) ∧ A.Pairwise (fun p q => p.f6 + p.f5 ≤ q.f6) ∧ (∀ q ∈ s, SegOk q ∧ a ≤ q.f0 ∧ q.f0 + q.f3 ≤ e) ∧ s.length ≤ 1 ∧ (∀ p ∈ A, p.f5 = 0 ∨ ∃ q ∈ s, Within p q) := by
  rcases h with ⟨rfl, rfl, rfl⟩ | ⟨hne, b, hb, hch, hbe, rfl⟩
  · simp
  · obtain ⟨i1, i2, i3⟩ := chain_tells hg hch
    obtain ⟨b1, b2, b3⟩ := hb
    refine ⟨fun p hp => ?_, i3, ?_, ?_, fun p hp => ?_⟩
    · obtain ⟨j1, j2, j3⟩ := i2 p hp
      exact ⟨⟨hg p hp, by omega, by omega, j3⟩, by omega, j2⟩
    · intro q hq
      split at hq
      · simp only [List.mem_singleton] at hq
        subst hq
        exact ⟨⟨by show 65536 ≤ b; omega, by show b + (e - b) ≤ _; omega, b3, by show 0 < e - b; omega, hk⟩, b1, by show b + (e - b) ≤ e; omega⟩
      · simp at hq
    · split <;> simp
    · obtain ⟨j1, j2, j3⟩ := i2 p hp
      by_cases h5 : p.f5 = 0
      · exact .inl h5
      · have hs := (hg p hp).2.2
        rw [if_pos (by omega)]
        exact .inr ⟨_, List.mem_singleton.2 rfl, j1, by show p.f6 + p.f5 ≤ b + (e - b); omega, hc p hp⟩
theorem known_true : dovetaillaw23_known.f = some true := by kernel_rfl
theorem AddrApart (l : List S57) (hok : ∀ x ∈ l, PartOk x) : dovetaillaw23_AddrApart.f 20000 l = some true := by
  unfold dovetaillaw23_AddrApart.f
  rw [known_true, Option.bind_some, if_pos rfl]
  by_cases hl : (l.length : Int) > 20
  · rw [if_pos hl]
  rw [if_neg hl]
  obtain ⟨p0, p1, p2, p3, hp, g0, g1, g2, g3, hlen⟩ := pieces_tell l (by omega) hok 20000 (by omega)
  have o0 : OfClass 0 0 p0 := fun p hp => ⟨(g0 p hp).1, .inl (g0 p hp).2⟩
  have o1 : OfClass 1 1 p1 := fun p hp => ⟨(g1 p hp).1, .inl (g1 p hp).2⟩
  have o2 : OfClass 2 3 (p2 ++ p3) := fun p hp => by
    rcases List.mem_append.1 hp with h | h
    · exact ⟨(g2 p h).1, .inl (g2 p h).2⟩
    · exact ⟨(g3 p h).1, .inr (g3 p h).2⟩
  obtain ⟨r, hr⟩ : ∃ r, addr_Assign.f (p0 ++ (p1 ++ (p2 ++ p3))) = some r := by
    unfold addr_Assign.f
    rw [if_pos (by omega)]
    split <;> exact ⟨_, rfl⟩
  rw [hp, Option.bind_some, hr, Option.bind_some]
  rcases layout p0 p1 (p2 ++ p3) o0 o1 o2 r hr with rfl | ⟨hz, A0, A1, A2, s0, s1, s2, e0, e1, e2, hr1, hr2, q0, q1, q2, l0, l1, l2, m0, m1, m2, m3, hll⟩
  · rfl
  · rw [if_pos hz, hr1, hr2]
    have hL : (A0 ++ (A1 ++ A2)).length ≤ 80 := by rw [hll]; omega
    obtain ⟨a0, b0, c0, d0, f0⟩ := part_tells (.inl rfl) (fun p hp => (q0 p hp).1) (fun p hp => .inl ⟨rfl, by have := (q0 p hp).2; omega⟩) l0 (by decide) (by omega)
    obtain ⟨a1, b1, c1, d1, f1⟩ := part_tells (.inr (.inl rfl)) (fun p hp => (q1 p hp).1) (fun p hp => .inr (.inl ⟨rfl, by have := (q1 p hp).2; omega⟩)) l1 (by omega) (by omega)
    obtain ⟨a2, b2, c2, d2, f2⟩ := part_tells (.inr (.inr rfl)) (fun p hp => (q2 p hp).1) (fun p hp => .inr (.inr ⟨rfl, (q2 p hp).2⟩)) l2 (by omega) m3
    have hpw : (A0 ++ (A1 ++ A2)).Pairwise (fun p q => p.f6 + p.f5 ≤ q.f6) := by
      rw [List.pairwise_append, List.pairwise_append]
      refine ⟨b0, ⟨b1, b2, fun p hp q hq => ?_⟩, fun p hp q hq => ?_⟩
      · have := (a1 p hp).2.2; have := (a2 q hq).2.1; omega
      · rcases List.mem_append.1 hq with hq | hq
        · have := (a0 p hp).2.2; have := (a1 q hq).2.1; omega
        · have := (a0 p hp).2.2; have := (a2 q hq).2.1; omega
    have hone : ∀ s : List S40, s.length ≤ 1 → s.Pairwise (fun p q => p.f0 + p.f3 ≤ q.f0) := by
      intro s hs
      match s, hs with
      | [], _ => exact List.Pairwise.nil
      | [x], _ => exact List.pairwise_singleton ..
    have hsw : (s0 ++ (s1 ++ s2)).Pairwise (fun p q => p.f0 + p.f3 ≤ q.f0) := by
      rw [List.pairwise_append, List.pairwise_append]
      refine ⟨hone s0 d0, ⟨hone s1 d1, hone s2 d2, fun p hp q hq => ?_⟩, fun p hp q hq => ?_⟩
      · have := (c1 p hp).2.2; have := (c2 q hq).2.1; omega
      · rcases List.mem_append.1 hq with hq | hq
        · have := (c0 p hp).2.2; have := (c1 q hq).2.1; omega
        · have := (c0 p hp).2.2; have := (c2 q hq).2.1; omega
    rw [List.pairwise_iff_getElem] at hpw hsw
    refine apart_l0 _ _ (by omega) (by simp; omega) ?_ ?_ (fun i j hi hj => hpw i j (by omega) hj hi) ?_ (fun i hi => hsw i (i + 1) (by omega) hi (by omega)) (A0 ++ (A1 ++ A2)).length 0 20000 (by simp) (by omega)
    · intro p hp
      simp only [List.mem_append] at hp
      rcases hp with h | h | h
      · exact (a0 p h).1
      · exact (a1 p h).1
      · exact (a2 p h).1
    · intro q hq
      simp only [List.mem_append] at hq
      rcases hq with h | h | h
      · exact (c0 q h).1
      · exact (c1 q h).1
      · exact (c2 q h).1
    · intro p hp
      simp only [List.mem_append] at hp
      rcases hp with h | h | h
      · rcases f0 p h with h | ⟨q, hq, hw⟩
        · exact .inl h
        · exact .inr ⟨q, by simp [hq], hw⟩
      · rcases f1 p h with h | ⟨q, hq, hw⟩
        · exact .inl h
        · exact .inr ⟨q, by simp [hq], hw⟩
      · rcases f2 p h with h | ⟨q, hq, hw⟩
        · exact .inl h
        · exact .inr ⟨q, by simp [hq], hw⟩

end Go.Proofs.Ytpblhcmcldachaa.Pure
