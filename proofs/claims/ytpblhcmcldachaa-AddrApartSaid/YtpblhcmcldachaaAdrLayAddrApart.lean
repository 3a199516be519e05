/- Where a law's pieces come to lie: chains of pieces, a page's begin, segments. Conditions: those of each theorem. -/
import Derived.Test.YtpblhcmcldachaaAdrAddrApart
namespace Go.Proofs.Ytpblhcmcldachaa.AdrAddrApart
open Go.Proofs.Ytpblhcmcldachaa.Man
open Go.RowKit Go.Proofs.Ytpblhcmcldachaa.QAddrApart Go.Proofs.YtpblhcmcldachaaW.PrintWords Go.Proofs.YtpblhcmcldachaaW.PrintLast Go.Proofs.YtpblhcmcldachaaW.PrintMore Go.Proofs.Ytpblhcmcldachaa.Bv Go.Proofs.Ytpblhcmcldachaa.Spn
set_option linter.unusedSimpArgs false
set_option linter.unusedVariables false

/-- Pieces one behind another, from a on to e. -/
def Chain : Int → List S37 → Int → Prop
  | a, [], e => e = a
  | a, p :: ps, e => a ≤ p.f6 ∧ p.f6 < a + p.f4 ∧ p.f6 % p.f4 = 0 ∧ p.f6 + p.f5 ≤ 140737488355328 ∧ Chain (p.f6 + p.f5) ps e
def Same (l l' : List S37) : Prop := l'.length = l.length ∧ ∀ p' ∈ l', ∃ p ∈ l, p'.f2 = p.f2 ∧ p'.f4 = p.f4 ∧ p'.f5 = p.f5
theorem segL_skip (k : Int) : ∀ (l : List S37) (a : Int) (s : Bool), (∀ p ∈ l, kindv p.f2 ≠ k) → segL k l a s = some (l, a, s)
  | [], a, s, _ => rfl
  | p :: ps, a, s, h => by rw [segL_neg (h p (List.mem_cons_self ..)), segL_skip k ps a s (fun q hq => h q (List.mem_cons_of_mem _ hq))]; rfl
theorem segL_pre (k : Int) (r : List S37) : ∀ (l : List S37) (a : Int) (s : Bool), (∀ p ∈ l, kindv p.f2 ≠ k) → segL k (l ++ r) a s = (segL k r a s).map fun q => (l ++ q.1, q.2)
  | [], a, s, _ => by simp
  | p :: ps, a, s, h => by
    rw [List.cons_append, segL_neg (h p (List.mem_cons_self ..)), segL_pre k r ps a s (fun q hq => h q (List.mem_cons_of_mem _ hq)), Option.map_map]
    rfl
theorem segL_run (k : Int) (post : List S37) (hpost : ∀ p ∈ post, kindv p.f2 ≠ k) : ∀ (l : List S37) (a : Int) (s : Bool) (r : List S37 × Int × Bool), (∀ p ∈ l, GoodP p ∧ kindv p.f2 = k) → 0 ≤ a → a ≤ 140737488355328 → segL k (l ++ post) a s = some r →
    ∃ l', r.1 = l' ++ post ∧ Chain a l' r.2.1 ∧ Same l l' ∧ a ≤ r.2.1 ∧ r.2.1 ≤ 140737488355328 ∧ r.2.2 = (s || !l.isEmpty)
  | [], a, s, r, _, h0, h1, h => by
    rw [List.nil_append, segL_skip k post a s hpost] at h
    cases h
    exact ⟨[], rfl, rfl, ⟨rfl, by simp⟩, Int.le_refl _, h1, by simp⟩
  | p :: ps, a, s, r, hp, h0, h1, h => by
    obtain ⟨hgp, hk⟩ := hp p (List.mem_cons_self ..)
    obtain ⟨u, hu, u1, u2, u3, u4, u5, u6⟩ := place_at hgp h0 h1
    rw [List.cons_append, segL_pos hgp h0 h1 hk hu ⟨u1, u2, u4⟩] at h
    split at h
    case isFalse => cases h
    rename_i hf
    rw [Option.map_eq_some_iff] at h
    obtain ⟨q, hq, rfl⟩ := h
    have hs := hgp.2.2
    obtain ⟨l', e1, e2, ⟨e3, e4⟩, e5, e6, e7⟩ := segL_run k post hpost ps (u + p.f5) true q (fun q hq => hp q (List.mem_cons_of_mem _ hq)) (by omega) hf hq
    refine ⟨setA p u :: l', by simp [e1], ⟨u1, u2, u3, hf, e2⟩, ⟨by simp [e3], fun p' hp' => ?_⟩, by show a ≤ q.2.1; omega, e6, by show q.2.2 = _; rw [e7]; simp⟩
    rcases List.mem_cons.1 hp' with rfl | hp'
    · exact ⟨p, List.mem_cons_self .., rfl, rfl, rfl⟩
    · obtain ⟨x, hx, h⟩ := e4 p' hp'
      exact ⟨x, List.mem_cons_of_mem _ hx, h⟩
def PageUp (a b : Int) : Prop := a ≤ b ∧ b < a + 4096 ∧ b % 4096 = 0
/-- One kind's pieces, its segment, where the next one begins. -/
def PartL (k a : Int) (A : List S37) (s : List S40) (e : Int) : Prop :=
  (A = [] ∧ s = [] ∧ e = a) ∨ (A ≠ [] ∧ ∃ b, PageUp a b ∧ Chain b A e ∧ b ≤ e ∧ s = if e > b then [⟨b, k, [], e - b⟩] else [])
theorem seg_lay (k : Int) (pre A post : List S37) (y z : Lay) (hl : y.l = pre ++ (A ++ post)) (h0 : ∀ p ∈ pre, kindv p.f2 ≠ k) (hA : ∀ p ∈ A, GoodP p ∧ kindv p.f2 = k) (h1 : ∀ p ∈ post, kindv p.f2 ≠ k) (t0 : 0 ≤ y.at_) (t1 : y.at_ ≤ 140000000) (ha : 0 ≤ y.all ∧ y.all ≤ 134217728)
    (h : segF k y = some z) : ∃ A' s, z.l = pre ++ (A' ++ post) ∧ Same A A' ∧ PartL k y.at_ A' s z.at_ ∧ z.s = y.s ++ s ∧ y.at_ ≤ z.at_ ∧ z.at_ ≤ y.at_ + 4096 + (z.all - y.all) ∧ (0 ≤ z.all ∧ z.all ≤ 134217728) ∧ y.all ≤ z.all := by
  obtain ⟨b, hb, hb2, b1, b2, b3⟩ := aupv_tells y.at_ t0 (by omega)
  unfold segF at h
  rw [hb2, if_pos rfl] at h
  simp only at h
  rw [hl, segL_pre k (A ++ post) pre b false h0, Option.bind_eq_some_iff] at h
  obtain ⟨r, hr, h⟩ := h
  rw [Option.map_eq_some_iff] at hr
  obtain ⟨q, hq, rfl⟩ := hr
  obtain ⟨A', e1, e2, e3, e4, e5, e6⟩ := segL_run k post h1 A b false q hA (by omega) (by omega) hq
  obtain ⟨q1, a2, s2⟩ := q
  simp only at e1 e2 e4 e5 e6 h
  subst e1
  have hsz : IntKind.u64.wrap (a2 - b) = a2 - b := uw64 (by omega) (by omega)
  rw [hsz] at h
  cases hem : A with
  | nil =>
    subst hem
    have hA' : A' = [] := by have := e3.1; simp at this; exact this
    subst hA'
    rw [show s2 = false from by rw [e6]; rfl] at h
    simp only [Bool.false_eq_true, if_false, Option.some.injEq] at h
    subst h
    exact ⟨[], [], rfl, ⟨rfl, by simp⟩, .inl ⟨rfl, rfl, rfl⟩, by simp, Int.le_refl _, by simp only; omega, ha, Int.le_refl _⟩
  | cons x xs =>
    have hA' : A' ≠ [] := by intro e; have := e3.1; rw [e, hem] at this; simp at this
    rw [show s2 = true from by rw [e6, hem]; rfl] at h
    simp only [if_true] at h
    by_cases hgt : a2 > b
    · rw [if_pos (by omega)] at h
      have hal : IntKind.u64.wrap (y.all + (a2 - b)) = y.all + (a2 - b) := uw64 (by omega) (by omega)
      rw [hal] at h
      split at h
      case isFalse => cases h
      rename_i hle
      cases h
      refine ⟨A', [⟨b, k, [], a2 - b⟩], rfl, hem ▸ e3, .inr ⟨hA', b, ⟨b1, b2, b3⟩, e2, e4, by rw [if_pos hgt]⟩, rfl, by show y.at_ ≤ a2; omega, by show a2 ≤ y.at_ + 4096 + (y.all + (a2 - b) - y.all); omega, ⟨by show 0 ≤ y.all + (a2 - b); omega, hle⟩, by show y.all ≤ y.all + (a2 - b); omega⟩
    · rw [if_neg (by omega), if_pos ha.2] at h
      cases h
      exact ⟨A', [], rfl, hem ▸ e3, .inr ⟨hA', b, ⟨b1, b2, b3⟩, e2, e4, by rw [if_neg hgt]⟩, by simp, by show y.at_ ≤ a2; omega, by show a2 ≤ y.at_ + 4096 + (y.all - y.all); omega, ha, Int.le_refl _⟩
/-- A piece of one of these classes. -/
def OfClass (c c' : Int) (l : List S37) : Prop := ∀ p ∈ l, GoodP p ∧ (p.f2 = c ∨ p.f2 = c')
theorem OfClass.same {c c' : Int} {l l' : List S37} (h : OfClass c c' l) (hs : Same l l') : OfClass c c' l' := by
  intro p' hp'
  obtain ⟨p, hp, e1, e2, e3⟩ := hs.2 p' hp'
  obtain ⟨⟨g1, ⟨n, hn, g2⟩, g3⟩, h2⟩ := h p hp
  exact ⟨⟨by rw [e1]; exact g1, ⟨n, hn, by rw [e2]; exact g2⟩, by rw [e3]; exact g3⟩, by rw [e1]; exact h2⟩
/-- What is assigned: three kinds' pieces, their segments. -/
theorem layout (p0 p1 p2 : List S37) (g0 : OfClass 0 0 p0) (g1 : OfClass 1 1 p1) (g2 : OfClass 2 3 p2) (r : List S37 × List S40 × Int) (h : addr_Assign.f (p0 ++ (p1 ++ p2)) = some r) :
    r = ([], [], 55) ∨ (r.2.2 = 0 ∧ ∃ A0 A1 A2 s0 s1 s2 e0 e1 e2, r.1 = A0 ++ (A1 ++ A2) ∧ r.2.1 = s0 ++ (s1 ++ s2) ∧ OfClass 0 0 A0 ∧ OfClass 1 1 A1 ∧ OfClass 2 3 A2 ∧ PartL 5 65536 A0 s0 e0 ∧ PartL 4 e0 A1 s1 e1 ∧ PartL 6 e1 A2 s2 e2 ∧ 65536 ≤ e0 ∧ e0 ≤ e1 ∧ e1 ≤ e2 ∧ e2 ≤ 140000000 ∧ (A0 ++ (A1 ++ A2)).length = (p0 ++ (p1 ++ p2)).length) := by
  unfold addr_Assign.f at h
  split at h
  case isFalse => cases h
  rename_i hn
  simp only [asgL] at h
  have k0 : ∀ {p : S37}, p.f2 = 0 → kindv p.f2 = 5 := fun h => by rw [h]; rfl
  have k1 : ∀ {p : S37}, p.f2 = 1 → kindv p.f2 = 4 := fun h => by rw [h]; rfl
  have k2 : ∀ {p : S37}, p.f2 = 2 ∨ p.f2 = 3 → kindv p.f2 = 6 := fun h => by rcases h with h | h <;> rw [h] <;> rfl
  have c0 : ∀ {l : List S37}, OfClass 0 0 l → ∀ p ∈ l, kindv p.f2 = 5 := fun h p hp => k0 (by have := (h p hp).2; omega)
  have c1 : ∀ {l : List S37}, OfClass 1 1 l → ∀ p ∈ l, kindv p.f2 = 4 := fun h p hp => k1 (by have := (h p hp).2; omega)
  have c2 : ∀ {l : List S37}, OfClass 2 3 l → ∀ p ∈ l, kindv p.f2 = 6 := fun h p hp => k2 (h p hp).2
  cases h0 : segF 5 ⟨p0 ++ (p1 ++ p2), [], 65536, 0⟩ with
  | none => rw [h0] at h; cases h; exact .inl rfl
  | some z0 =>
  rw [h0] at h
  simp only [Option.bind_some] at h
  obtain ⟨A0, s0, l0, same0, q0, z0s, a0, a0', all0, all0'⟩ := seg_lay 5 [] p0 (p1 ++ p2) _ z0 rfl (by simp) (fun p hp => ⟨(g0 p hp).1, c0 g0 p hp⟩) (fun p hp => by
    rcases List.mem_append.1 hp with hp | hp
    · rw [c1 g1 p hp]; decide
    · rw [c2 g2 p hp]; decide) (by simp) (by simp) (by simp) h0
  simp only [List.nil_append] at l0 z0s q0 a0 a0' all0'
  cases h1 : segF 4 z0 with
  | none => rw [h1] at h; cases h; exact .inl rfl
  | some z1 =>
  rw [h1] at h
  simp only [Option.bind_some] at h
  have G0 := g0.same same0
  obtain ⟨A1, s1, l1, same1, q1, z1s, a1, a1', all1, all1'⟩ := seg_lay 4 A0 p1 p2 z0 z1 l0 (fun p hp => by rw [c0 G0 p hp]; decide) (fun p hp => ⟨(g1 p hp).1, c1 g1 p hp⟩) (fun p hp => by rw [c2 g2 p hp]; decide) (by omega) (by omega) all0 h1
  cases h2 : segF 6 z1 with
  | none => rw [h2] at h; cases h; exact .inl rfl
  | some z2 =>
  rw [h2] at h
  simp only [Option.bind_some] at h
  have G1 := g1.same same1
  obtain ⟨A2, s2, l2, same2, q2, z2s, a2, a2', all2, all2'⟩ := seg_lay 6 (A0 ++ A1) p2 [] z1 z2 (by rw [l1]; simp) (fun p hp => by
    rcases List.mem_append.1 hp with hp | hp
    · rw [c0 G0 p hp]; decide
    · rw [c1 G1 p hp]; decide) (fun p hp => ⟨(g2 p hp).1, c2 g2 p hp⟩) (by simp) (by omega) (by omega) all1 h2
  have G2 := g2.same same2
  cases h
  refine .inr ⟨rfl, A0, A1, A2, s0, s1, s2, z0.at_, z1.at_, z2.at_, by rw [l2]; simp, by rw [z2s, z1s, z0s]; simp, G0, G1, G2, q0, q1, q2, a0, a1, a2, by omega, ?_⟩
  simp [same0.1, same1.1, same2.1]
theorem rd_mid (pre : List S37) (p : S37) (ps : List S37) : rd_T37 (pre ++ p :: ps) ((pre.length : Nat) : Int) = p := by
  unfold rd_T37
  rw [Int.toNat_natCast, List.getD_eq_getElem?_getD, List.getElem?_append_right (Nat.le_refl _)]
  simp
theorem rds_mid (pre : List S40) (p : S40) (ps : List S40) : rd_T40 (pre ++ p :: ps) ((pre.length : Nat) : Int) = p := by
  unfold rd_T40
  rw [Int.toNat_natCast, List.getD_eq_getElem?_getD, List.getElem?_append_right (Nat.le_refl _)]
  simp
theorem good_al {p : S37} (h : GoodP p) : 0 < p.f4 ∧ p.f4 ≤ 4096 ∧ p.f4 ∣ 4096 := by
  obtain ⟨_, ⟨n, hn, e⟩, _⟩ := h
  have hp : 0 < 2 ^ n := Nat.two_pow_pos n
  have hq : (2 : Nat) ^ n ≤ 2 ^ 12 := Nat.pow_le_pow_right (by decide) hn
  have h12 : (2 : Nat) ^ 12 = 4096 := rfl
  refine ⟨by omega, by omega, ?_⟩
  rw [e, show (4096 : Int) = ((2 ^ 12 : Nat) : Int) from rfl]
  exact Int.natCast_dvd_natCast.2 (Nat.pow_dvd_pow 2 hn)
/-- A segment begins with its first piece. -/
theorem first_at {a b e : Int} {p : S37} {ps : List S37} (hg : GoodP p) (hb : PageUp a b) (h : Chain b (p :: ps) e) : p.f6 = b := by
  obtain ⟨g1, g2, g3⟩ := good_al hg
  obtain ⟨h1, h2, h3, _⟩ := h
  have d1 : p.f4 ∣ p.f6 := Int.dvd_of_emod_eq_zero h3
  have d2 : p.f4 ∣ b := Int.dvd_trans g3 (Int.dvd_of_emod_eq_zero hb.2.2)
  have d3 : p.f4 ∣ p.f6 - b := Int.dvd_sub d1 d2
  have e1 : (p.f6 - b) % p.f4 = 0 := Int.emod_eq_zero_of_dvd d3
  rw [Int.emod_eq_of_lt (by omega) (by omega)] at e1
  omega

end Go.Proofs.Ytpblhcmcldachaa.AdrAddrApart
