/- SpanSums: it says nothing in which order numbers are summed, nor in which parts, where the sum is one. No condition beside the statement's own. -/
import Derived.Test.YtoghodnpfacjeaaQSpanSumsx2
import Derived.Test.YtoghodnpfacjeaaSpanKSpanSums
namespace Go.Proofs.Ytoghodnpfacjeaa.Pure
open Go.Proofs.Ytoghodnpfacjeaa.Man
open Go.RowKit Go.Proofs.Ytoghodnpfacjeaa.QSpanSums Go.Proofs.YtoghodnpfacjeaaW.PrintWords Go.Proofs.YtoghodnpfacjeaaW.PrintLast Go.Proofs.YtoghodnpfacjeaaW.PrintMore Go.Proofs.Ytoghodnpfacjeaa.Bv Go.Proofs.Ytoghodnpfacjeaa.Spn Go.Proofs.Ytoghodnpfacjeaa.SpnSpanSums
set_option linter.unusedSimpArgs false
set_option linter.unusedVariables false

abbrev M : Int := 18446744073709551616
theorem back_sums (l : List Int) (a1 s : Int) (ok : Bool) (hl : l.length ≤ 12) : ∀ (d : Nat) (k : Nat) (acc : List Int), d ≤ l.length → d < k → acc = (l.drop d).reverse →
    dovetaillaw2_SpanSums.l0 (k + 1) l a1 s ok acc ((d : Int) - 1) = dovetaillaw2_SpanSums.l0 (k + 1 - d) l a1 s ok l.reverse (-1) := by
  intro d
  induction d with
  | zero => intro k acc _ _ h; rw [h]; rfl
  | succ d ih =>
    intro k acc hd hk h
    obtain ⟨k, rfl⟩ : ∃ m, k = m + 1 := ⟨k - 1, by omega⟩
    have hacc : acc.length ≤ 12 := by rw [h]; simp; omega
    rw [dovetaillaw2_SpanSums.l0]
    rw [if_pos (by omega), if_pos (by omega), if_pos (by omega), if_pos (by omega), w64 (by omega) (by omega), show ((d + 1 : Nat) : Int) - 1 - 1 = (d : Int) - 1 by omega, show k + 1 + 1 - (d + 1) = k + 1 - d by omega]
    refine ih k _ (by omega) (by omega) ?_
    have hr : rd l (((d + 1 : Nat) : Int) - 1) = l[d]'(by omega) := by
      unfold rd
      rw [show ((((d + 1 : Nat) : Int) - 1)).toNat = d by omega]
      simp [List.getD, show d < l.length by omega]
    rw [hr, h, List.drop_eq_getElem_cons (show d < l.length by omega), List.reverse_cons]

theorem join_sums (l : List Int) (a1 : Int) (hlen : l.length ≤ 12) (b1 : 0 ≤ a1 ∧ a1 < 256) (hb : ∀ x ∈ l, 0 ≤ x ∧ x < 18446744073709551616) (m : Nat) (s : Int) (ok : Bool) (hso : (s, ok) = (if l.sum < 18446744073709551616 then (l.sum, true) else ((0 : Int), false))) :
    dovetaillaw2_SpanSums.j1 (m + 1) l a1 s ok false = some true := by
  have hm : Int.tmod a1 ((l.length : Int) + 1) = a1 % ((l.length : Int) + 1) := Int.tmod_eq_emod_of_nonneg b1.1
  have hlt : a1 % ((l.length : Int) + 1) < (l.length : Int) + 1 := Int.emod_lt_of_pos _ (by omega)
  have hge : 0 ≤ a1 % ((l.length : Int) + 1) := Int.emod_nonneg _ (by omega)
  obtain ⟨q, hq⟩ : ∃ q : Nat, a1 % ((l.length : Int) + 1) = q := ⟨_, (Int.toNat_of_nonneg hge).symm⟩
  have ht : ∀ x ∈ l.take q, 0 ≤ x ∧ x < 18446744073709551616 := fun x hx => hb x (List.mem_of_mem_take hx)
  have hd : ∀ x ∈ l.drop q, 0 ≤ x ∧ x < 18446744073709551616 := fun x hx => hb x (List.mem_of_mem_drop hx)
  have hsum : (l.take q).sum + (l.drop q).sum = l.sum := by rw [← List.sum_append, List.take_append_drop]
  have n1 := sum_nonneg (l.take q) (fun x hx => (ht x hx).1)
  have n2 := sum_nonneg (l.drop q) (fun x hx => (hd x hx).1)
  rw [dovetaillaw2_SpanSums.j1]
  simp only [Bool.false_eq_true, if_false]
  rw [w64 (x := (l.length : Int) + 1) (by omega) (by omega), w64 (x := a1) (by omega) (by omega), if_neg (by omega), hm, hq, if_pos (by omega), if_pos (by omega), Int.toNat_natCast, add_tells _ ht, add_tells _ hd]
  by_cases h1 : (l.take q).sum < 18446744073709551616
  · rw [if_pos h1]
    by_cases h2 : (l.drop q).sum < 18446744073709551616
    · rw [if_pos h2]
      simp only [Option.bind_some, if_true]
      rw [add2_tells _ _ ⟨n1, h1⟩ ⟨n2, h2⟩, hsum]
      by_cases h3 : l.sum < 18446744073709551616
      · rw [if_pos h3] at hso ⊢
        obtain ⟨rfl, rfl⟩ := Prod.mk.inj hso
        simp
      · rw [if_neg h3] at hso ⊢
        obtain ⟨rfl, rfl⟩ := Prod.mk.inj hso
        simp
    · rw [if_neg h2]
      rw [if_neg (by omega)] at hso
      obtain ⟨rfl, rfl⟩ := Prod.mk.inj hso
      simp only [Option.bind_some, if_true, Bool.false_eq_true, if_false]
      rw [add2_tells _ _ ⟨n1, h1⟩ (by omega)]
      split <;> simp
  · rw [if_neg h1]
    rw [if_neg (by omega)] at hso
    obtain ⟨rfl, rfl⟩ := Prod.mk.inj hso
    simp only [Option.bind_some, Bool.false_eq_true, if_false]
    by_cases h2 : (l.drop q).sum < 18446744073709551616
    · rw [if_pos h2]
      simp only [Option.bind_some]
      rw [add2_tells _ _ (by omega) ⟨n2, h2⟩]
      split <;> simp
    · rw [if_neg h2]
      simp only [Option.bind_some]
      rw [add2_tells _ _ (by omega) (by omega)]
      split <;> simp
theorem end_sums (l : List Int) (a1 : Int) (hlen : l.length ≤ 12) (b1 : 0 ≤ a1 ∧ a1 < 256) (hb : ∀ x ∈ l, 0 ≤ x ∧ x < 18446744073709551616) (hrev : ∀ x ∈ l.reverse, 0 ≤ x ∧ x < 18446744073709551616) (hsr : l.reverse.sum = l.sum) (m : Nat) (s : Int) (ok : Bool) (hso : (s, ok) = (if l.sum < 18446744073709551616 then (l.sum, true) else ((0 : Int), false))) :
    dovetaillaw2_SpanSums.l0 (m + 1 + 1) l a1 s ok l.reverse (-1) = some true := by
  have j1 := join_sums l a1 hlen b1 hb m s ok hso
  rw [dovetaillaw2_SpanSums.l0, if_neg (by omega), add_tells _ hrev, hsr]
  by_cases h3 : l.sum < 18446744073709551616
  · rw [if_pos h3] at hso ⊢
    obtain ⟨rfl, rfl⟩ := Prod.mk.inj hso
    rw [Option.bind_some, if_pos rfl]
    exact j1
  · rw [if_neg h3] at hso ⊢
    obtain ⟨rfl, rfl⟩ := Prod.mk.inj hso
    rw [Option.bind_some, if_pos rfl]
    exact j1
theorem SpanSums : dovetaillaw2_SpanSums.Pure := by
  intro l a1 _ _ hw w1
  have b1 := bd_u8 w1
  have hb : ∀ x ∈ l, 0 ≤ x ∧ x < 18446744073709551616 := fun x hx => bd_u64 (hw x hx)
  obtain ⟨K, hK⟩ : ∃ K : Nat, K = 30 := ⟨_, rfl⟩
  have hk : dovetaillaw2_known.f K = some true := by rw [hK]; decide +kernel
  refine ⟨K, ?_⟩
  unfold dovetaillaw2_SpanSums.f
  rw [hk]
  simp only [Option.bind_some, if_true]
  by_cases hlen : (l.length : Int) > 12
  · rw [if_pos hlen]
  · rw [if_neg hlen, w64 (by omega) (by omega)]
    have hrev : ∀ x ∈ l.reverse, 0 ≤ x ∧ x < 18446744073709551616 := fun x hx => hb x (by simpa using hx)
    have hsr : l.reverse.sum = l.sum := by
      have : ∀ l : List Int, l.reverse.sum = l.sum := by
        intro l
        induction l with
        | nil => rfl
        | cons a l ih => rw [List.reverse_cons, List.sum_append, ih]; simp [Int.add_comm]
      exact this l
    have hL : ∀ (s : Int) (ok : Bool), dovetaillaw2_SpanSums.l0 K l a1 s ok [] ((l.length : Int) - 1) = dovetaillaw2_SpanSums.l0 (K - l.length) l a1 s ok l.reverse (-1) := by
      intro s ok
      obtain ⟨k, rfl⟩ : ∃ k, K = k + 1 := ⟨K - 1, by omega⟩
      exact back_sums l a1 s ok (by omega) l.length k [] (Nat.le_refl _) (by omega) (by simp)
    rw [add_tells l hb]
    have hlm : ((l.length : Int) + 1) = ((l.length + 1 : Nat) : Int) := by omega
    obtain ⟨m, hm⟩ : ∃ m, K - l.length = m + 1 + 1 := ⟨K - 2 - l.length, by omega⟩
    by_cases h3 : l.sum < 18446744073709551616
    · rw [if_pos h3]
      simp only [Option.bind_some]
      rw [hL, hm]
      exact end_sums l a1 (by omega) b1 hb hrev hsr m _ _ (by rw [if_pos h3])
    · rw [if_neg h3]
      simp only [Option.bind_some]
      rw [hL, hm]
      exact end_sums l a1 (by omega) b1 hb hrev hsr m _ _ (by rw [if_neg h3])

end Go.Proofs.Ytoghodnpfacjeaa.Pure
