/- AddrGaps: between pieces of a segment there is no more than their alignment asks for, and a segment begins with its first piece. No condition beside the statement's own. -/
import Derived.Test.YtpblhcmcldachaaAdrLayAddrGaps
namespace Go.Proofs.Ytpblhcmcldachaa.Pure
open Go.Proofs.Ytpblhcmcldachaa.Man
open Go.RowKit Go.Proofs.Ytpblhcmcldachaa.QAddrGaps Go.Proofs.YtpblhcmcldachaaW.PrintWords Go.Proofs.YtpblhcmcldachaaW.PrintLast Go.Proofs.YtpblhcmcldachaaW.PrintMore Go.Proofs.Ytpblhcmcldachaa.Bv Go.Proofs.Ytpblhcmcldachaa.Spn Go.Proofs.Ytpblhcmcldachaa.AdrAddrGaps
set_option linter.unusedSimpArgs false
set_option linter.unusedVariables false

def segOf (c : Int) : Int := if c = 0 then 0 else if c = 1 then 1 else 2
theorem rd_seg (c : Int) (h : 0 ≤ c ∧ c < 4) : rd [0, 1, 2, 2] c = segOf c := by
  have h : c = 0 ∨ c = 1 ∨ c = 2 ∨ c = 3 := by omega
  rcases h with rfl | rfl | rfl | rfl <;> rfl
theorem page_up (a b : Int) (h0 : 0 ≤ a) (h1 : a ≤ 140000000) (h : PageUp a b) : IntKind.u64.wrap ((IntKind.u64.wrap (Int.tdiv (IntKind.u64.wrap ((IntKind.u64.wrap (a + 4096)) - 1)) 4096)) * 4096) = b := by
  obtain ⟨p1, p2, p3⟩ := h
  rw [uw64 (x := a + 4096) (by omega) (by omega), uw64 (x := a + 4096 - 1) (by omega) (by omega), Int.tdiv_eq_ediv_of_nonneg (by omega), uw64 (x := (a + 4096 - 1) / 4096) (by omega) (by omega), uw64 (x := (a + 4096 - 1) / 4096 * 4096) (by omega) (by omega)]
  omega
theorem chain_top {a e : Int} : ∀ {l : List S37}, (∀ p ∈ l, GoodP p) → Chain a l e → a ≤ e
  | [], _, h => by rw [show e = a from h]; exact Int.le_refl _
  | p :: ps, hg, h => by
    obtain ⟨h1, h2, h3, h4, h5⟩ := h
    have := chain_top (fun q hq => hg q (List.mem_cons_of_mem _ hq)) h5
    have := (hg p (List.mem_cons_self ..)).2.2
    omega
/-- The pieces of one segment, gone through. -/
theorem gaps_run (L : List S37) (S : List S40) (hL : L.length ≤ 100) (g : Int) (k : Nat) : ∀ (A pre post : List S37) (a e : Int), L = pre ++ (A ++ post) → (∀ p ∈ A, GoodP p ∧ segOf p.f2 = g) → Chain a A e → 0 ≤ a → e ≤ 140000000 →
    dovetaillaw23_AddrGaps.l0 (k + A.length) L S a g ((pre.length : Nat) : Int) = dovetaillaw23_AddrGaps.l0 k L S e g (((pre ++ A).length : Nat) : Int)
  | [], pre, post, a, e, _, _, h, _, _ => by
    rw [show e = a from h]; simp
  | p :: ps, pre, post, a, e, hLe, hA, h, h0, he => by
    obtain ⟨hgp, hsg⟩ := hA p (List.mem_cons_self ..)
    obtain ⟨h1, h2, h3, h4, h5⟩ := h
    have hgs : ∀ q ∈ ps, GoodP q ∧ segOf q.f2 = g := fun q hq => hA q (List.mem_cons_of_mem _ hq)
    have htop := chain_top (fun q hq => (hgs q hq).1) h5
    have hs := hgp.2.2
    have hal := good_al hgp
    have hlen : ((pre.length : Nat) : Int) < (L.length : Int) := by rw [hLe]; simp; omega
    have hrd : rd_T37 L ((pre.length : Nat) : Int) = p := by rw [hLe]; exact rd_mid pre p (ps ++ post)
    have hw : wrap64 ((pre.length : Int) + 1) = (((pre ++ [p]).length : Nat) : Int) := by unfold wrap64; simp; omega
    rw [show k + (p :: ps).length = (k + ps.length) + 1 from by simp; omega, dovetaillaw23_AddrGaps.l0, if_pos hlen, Option.bind_some, if_pos (by omega), hrd, if_pos hgp.1.1, if_pos (by have := hgp.1.2; simp; omega), rd_seg _ hgp.1, if_pos hsg, if_neg (by omega), uw64 (by omega) (by omega), if_neg (by omega), uw64 (by omega) (by omega), hw]
    have ih := gaps_run L S hL g k ps (pre ++ [p]) post (p.f6 + p.f5) e (by rw [hLe]; simp) hgs h5 (by omega) he
    rw [ih]
    simp
/-- One kind's pieces, from where the last segment ended. -/
theorem gaps_part (L : List S37) (S : List S40) (hL : L.length ≤ 100) (g g0 kk : Int) (hg : g0 ≠ g) (k : Nat) (A pre post : List S37) (s : List S40) (a e : Int) (hLe : L = pre ++ (A ++ post)) (hA : ∀ p ∈ A, GoodP p ∧ segOf p.f2 = g) (h : PartL kk a A s e) (h0 : 0 ≤ a) (h1 : a ≤ 140000000) (he : e ≤ 140000000) :
    dovetaillaw23_AddrGaps.l0 (k + A.length) L S a g0 ((pre.length : Nat) : Int) = dovetaillaw23_AddrGaps.l0 k L S e (if A = [] then g0 else g) (((pre ++ A).length : Nat) : Int) := by
  rcases h with ⟨rfl, _, rfl⟩ | ⟨hne, b, hb, hc, hbe, _⟩
  · simp
  · cases A with
    | nil => exact absurd rfl hne
    | cons p ps =>
      obtain ⟨hgp, hsg⟩ := hA p (List.mem_cons_self ..)
      have hpg := page_up a b h0 h1 hb
      obtain ⟨b1, b2, b3⟩ := hb
      obtain ⟨h1', h2, h3, h4, h5⟩ := hc
      have hgs : ∀ q ∈ ps, GoodP q ∧ segOf q.f2 = g := fun q hq => hA q (List.mem_cons_of_mem _ hq)
      have htop := chain_top (fun q hq => (hgs q hq).1) h5
      have hs := hgp.2.2
      have hal := good_al hgp
      have hlen : ((pre.length : Nat) : Int) < (L.length : Int) := by rw [hLe]; simp; omega
      have hrd : rd_T37 L ((pre.length : Nat) : Int) = p := by rw [hLe]; exact rd_mid pre p (ps ++ post)
      have hw : wrap64 ((pre.length : Int) + 1) = (((pre ++ [p]).length : Nat) : Int) := by unfold wrap64; simp; omega
      rw [show k + (p :: ps).length = (k + ps.length) + 1 from by simp; omega, dovetaillaw23_AddrGaps.l0, if_pos hlen, Option.bind_some, if_pos (by omega), hrd, if_pos hgp.1.1, if_pos (by have := hgp.1.2; simp; omega), rd_seg _ hgp.1, if_neg (by rw [hsg]; exact fun h => hg h.symm), hpg, if_neg (by omega), uw64 (x := p.f6 - b) (by omega) (by omega), if_neg (by omega), uw64 (by omega) (by omega), hw, hsg]
      have ih := gaps_run L S hL g k ps (pre ++ [p]) post (p.f6 + p.f5) e (by rw [hLe]; simp) hgs h5 (by omega) he
      rw [ih, if_neg (by simp)]
      simp
/-- A segment's begin is found among the pieces. -/
theorem gaps_l2 (L : List S37) (S : List S40) (hL : L.length ≤ 100) (j : Nat) (hj : j < S.length) (k : Nat) : ∀ (m i : Nat) (x : Bool), i + m = L.length → (x = true ∨ ∃ q ∈ L.drop i, q.f6 = (rd_T40 S (j : Int)).f0) →
    dovetaillaw23_AddrGaps.l2 (k + m + 1) L S (j : Int) x (i : Int) = dovetaillaw23_AddrGaps.l1 k L S (wrap64 ((j : Int) + 1)) := by
  intro m
  induction m with
  | zero =>
    intro i x hi hx
    have hx : x = true := by
      rcases hx with h | ⟨q, hq, _⟩
      · exact h
      · rw [List.drop_of_length_le (by omega)] at hq; simp at hq
    rw [dovetaillaw23_AddrGaps.l2, if_neg (by omega), if_pos hx]
  | succ m ih =>
    intro i x hi hx
    have hw : wrap64 ((i : Int) + 1) = ((i + 1 : Nat) : Int) := by unfold wrap64; omega
    rw [show k + (m + 1) + 1 = (k + m + 1) + 1 from by omega, dovetaillaw23_AddrGaps.l2, if_pos (by omega), hw]
    by_cases hxt : x = true
    · rw [if_pos hxt]
      exact ih (i + 1) true (by omega) (.inl rfl)
    · rw [if_neg hxt, if_pos (by omega), if_pos (by omega), if_pos (by omega)]
      refine ih (i + 1) _ (by omega) ?_
      rcases hx with h | ⟨q, hq, hqe⟩
      · exact absurd h hxt
      · rw [List.drop_eq_getElem_cons (by omega)] at hq
        rcases List.mem_cons.1 hq with e | hq
        · left
          have : rd_T37 L (i : Int) = L[i]'(by omega) := by
            unfold rd_T37
            rw [Int.toNat_natCast, List.getD_eq_getElem?_getD, List.getElem?_eq_getElem (by omega)]; rfl
          rw [this, ← e, hqe]; simp
        · exact .inr ⟨q, hq, hqe⟩
theorem gaps_l1 (L : List S37) (S : List S40) (hL : L.length ≤ 100) (hS : S.length ≤ 10) (hf : ∀ q ∈ S, ∃ p ∈ L, p.f6 = q.f0) : ∀ (m j k : Nat), j + m = S.length → m * (L.length + 2) + 1 ≤ k → dovetaillaw23_AddrGaps.l1 k L S (j : Int) = some true := by
  intro m
  induction m with
  | zero =>
    intro j k hj hk
    obtain ⟨k, rfl⟩ : ∃ k', k = k' + 1 := ⟨k - 1, by omega⟩
    rw [dovetaillaw23_AddrGaps.l1, if_neg (by omega)]
  | succ m ih =>
    intro j k hj hk
    have hm : (m + 1) * (L.length + 2) = m * (L.length + 2) + (L.length + 2) := by rw [Nat.succ_mul]
    obtain ⟨k', rfl⟩ : ∃ k', k = (k' + L.length + 1) + 1 := ⟨k - (L.length + 2), by omega⟩
    rw [dovetaillaw23_AddrGaps.l1, if_pos (by omega)]
    have h2 := gaps_l2 L S hL j (by omega) k' L.length 0 false (by omega) (.inr (by
      have hmem : rd_T40 S (j : Int) ∈ S := by
        unfold rd_T40
        rw [Int.toNat_natCast, List.getD_eq_getElem?_getD, List.getElem?_eq_getElem (by omega)]
        exact List.getElem_mem _
      obtain ⟨p, hp, he⟩ := hf _ hmem
      exact ⟨p, by simpa using hp, he⟩))
    rw [show ((0 : Nat) : Int) = 0 from rfl] at h2
    rw [h2, show wrap64 ((j : Int) + 1) = ((j + 1 : Nat) : Int) from by unfold wrap64; omega]
    exact ih (j + 1) k' (by omega) (by omega)
theorem part_first {kk a e : Int} {A : List S37} {s : List S40} (hg : ∀ p ∈ A, GoodP p) (h : PartL kk a A s e) : s.length ≤ 1 ∧ ∀ q ∈ s, ∃ p ∈ A, p.f6 = q.f0 := by
  rcases h with ⟨rfl, rfl, rfl⟩ | ⟨hne, b, hb, hc, hbe, rfl⟩
  · simp
  · cases A with
    | nil => exact absurd rfl hne
    | cons p ps =>
      split
      · refine ⟨by simp, fun q hq => ?_⟩
        simp only [List.mem_singleton] at hq
        subst hq
        exact ⟨p, List.mem_cons_self .., first_at (hg p (List.mem_cons_self ..)) hb hc⟩
      · simp
theorem known_true : dovetaillaw23_known.f = some true := by kernel_rfl
theorem AddrGaps (l : List S57) (hok : ∀ x ∈ l, PartOk x) : dovetaillaw23_AddrGaps.f 1000 l = some true := by
  unfold dovetaillaw23_AddrGaps.f
  rw [known_true, Option.bind_some, if_pos rfl]
  by_cases hl : (l.length : Int) > 20
  · rw [if_pos hl]
  rw [if_neg hl]
  obtain ⟨p0, p1, p2, p3, hp, g0, g1, g2, g3, hlen⟩ := pieces_tell l (by omega) hok 1000 (by omega)
  have o0 : OfClass 0 0 p0 := fun p hp => ⟨(g0 p hp).1, .inl (g0 p hp).2⟩
  have o1 : OfClass 1 1 p1 := fun p hp => ⟨(g1 p hp).1, .inl (g1 p hp).2⟩
  have o2 : OfClass 2 3 (p2 ++ p3) := fun p hp => by
    rcases List.mem_append.1 hp with h | h
    · exact ⟨(g2 p h).1, .inl (g2 p h).2⟩
    · exact ⟨(g3 p h).1, .inr (g3 p h).2⟩
  obtain ⟨r, hr⟩ : ∃ r, addr_Assign.f (p0 ++ (p1 ++ (p2 ++ p3))) = some r := by
    unfold addr_Assign.f
    rw [if_pos (by omega)]
    split <;> exact ⟨_, rfl⟩
  rw [hp, Option.bind_some, hr, Option.bind_some]
  rcases layout p0 p1 (p2 ++ p3) o0 o1 o2 r hr with rfl | ⟨hz, A0, A1, A2, s0, s1, s2, e0, e1, e2, hr1, hr2, q0, q1, q2, l0, l1, l2, m0, m1, m2, m3, hll⟩
  · rw [if_neg (by decide)]
  · rw [if_pos hz, hr1, hr2]
    have hL : (A0 ++ (A1 ++ A2)).length ≤ 100 := by rw [hll]; omega
    have c0 : ∀ p ∈ A0, GoodP p ∧ segOf p.f2 = 0 := fun p hp => ⟨(q0 p hp).1, by rw [show p.f2 = 0 from by have := (q0 p hp).2; omega]; rfl⟩
    have c1 : ∀ p ∈ A1, GoodP p ∧ segOf p.f2 = 1 := fun p hp => ⟨(q1 p hp).1, by rw [show p.f2 = 1 from by have := (q1 p hp).2; omega]; rfl⟩
    have c2 : ∀ p ∈ A2, GoodP p ∧ segOf p.f2 = 2 := fun p hp => ⟨(q2 p hp).1, by rcases (q2 p hp).2 with h | h <;> rw [h] <;> rfl⟩
    obtain ⟨n0, f0⟩ := part_first (fun p hp => (q0 p hp).1) l0
    obtain ⟨n1, f1⟩ := part_first (fun p hp => (q1 p hp).1) l1
    obtain ⟨n2, f2⟩ := part_first (fun p hp => (q2 p hp).1) l2
    have hsum : (A0 ++ (A1 ++ A2)).length = A0.length + A1.length + A2.length := by simp; omega
    obtain ⟨j, hj⟩ : ∃ j, 1000 = ((((j + 1) + A2.length) + A1.length) + A0.length) := ⟨999 - (A0.length + A1.length + A2.length), by omega⟩
    have hjb : 800 ≤ j := by omega
    have t0 := gaps_part (A0 ++ (A1 ++ A2)) (s0 ++ (s1 ++ s2)) hL 0 (-1) 5 (by decide) (((j + 1) + A2.length) + A1.length) A0 [] (A1 ++ A2) s0 65536 e0 (by simp) c0 l0 (by decide) (by decide) (by omega)
    have t1 := gaps_part (A0 ++ (A1 ++ A2)) (s0 ++ (s1 ++ s2)) hL 1 (if A0 = [] then -1 else 0) 4 (by split <;> decide) ((j + 1) + A2.length) A1 A0 A2 s1 e0 e1 rfl c1 l1 (by omega) (by omega) (by omega)
    have t2 := gaps_part (A0 ++ (A1 ++ A2)) (s0 ++ (s1 ++ s2)) hL 2 (if A1 = [] then (if A0 = [] then -1 else 0) else 1) 6 (by by_cases h1 : A1 = [] <;> by_cases h2 : A0 = [] <;> simp [h1, h2]) (j + 1) A2 (A0 ++ A1) [] s2 e1 e2 (by simp) c2 l2 (by omega) (by omega) (by omega)
    simp only [List.length_nil, List.nil_append] at t0
    rw [show ((0 : Nat) : Int) = 0 from rfl] at t0
    rw [hj, t0, t1, t2, dovetaillaw23_AddrGaps.l0, if_neg (by simp)]
    refine gaps_l1 _ _ hL (by simp; omega) ?_ (s0 ++ (s1 ++ s2)).length 0 j (by simp) ?_
    · intro q hq
      simp only [List.mem_append] at hq
      rcases hq with h | h | h
      · obtain ⟨p, hp, e⟩ := f0 q h; exact ⟨p, by simp [hp], e⟩
      · obtain ⟨p, hp, e⟩ := f1 q h; exact ⟨p, by simp [hp], e⟩
      · obtain ⟨p, hp, e⟩ := f2 q h; exact ⟨p, by simp [hp], e⟩
    · have h3 : (s0 ++ (s1 ++ s2)).length ≤ 3 := by simp; omega
      have h4 : (s0 ++ (s1 ++ s2)).length * ((A0 ++ (A1 ++ A2)).length + 2) ≤ 3 * 102 := Nat.mul_le_mul h3 (by omega)
      omega

end Go.Proofs.Ytpblhcmcldachaa.Pure
