/- The pure law of AddrGreat: just how much there may be in all, and how far up. No condition. -/
import Derived.Test.YtpblhcmcldachaaQAddrGreatx2
namespace Go.Proofs.Ytpblhcmcldachaa.Pure
open Go.RowKit Go.Proofs.Ytpblhcmcldachaa.QAddrGreat Go.Proofs.YtpblhcmcldachaaW.PrintWords Go.Proofs.YtpblhcmcldachaaW.PrintLast

theorem great_at (q r : Int) (b : Bool) (hq : q = -3 ∨ q = -2 ∨ q = -1 ∨ q = 0 ∨ q = 1 ∨ q = 2 ∨ q = 3) (hr : r = 0 ∨ r = 1 ∨ r = 2 ∨ r = 3) : dovetaillaw23_AddrGreat.f q r b = some true := by
  rcases hq with rfl | rfl | rfl | rfl | rfl | rfl | rfl <;> rcases hr with rfl | rfl | rfl | rfl <;> cases b <;> kernel_rfl
theorem great_mod (a0 a1 : Int) (b : Bool) : dovetaillaw23_AddrGreat.f a0 a1 b = dovetaillaw23_AddrGreat.f (Int.tmod a0 4) (Int.tmod a1 4) b := by
  unfold dovetaillaw23_AddrGreat.f
  rw [Int.tmod_tmod_of_dvd a0 (show (4 : Int) ∣ 4 from ⟨1, rfl⟩), Int.tmod_tmod_of_dvd a1 (show (4 : Int) ∣ 4 from ⟨1, rfl⟩)]
theorem AddrGreat : dovetaillaw23_AddrGreat.Pure := by
  intro a0 a1 a2 h0 h1
  simp only [Lit.wf, IntKind.min, IntKind.max, IntKind.signed, IntKind.bits, Bool.and_eq_true] at h0 h1
  simp at h0 h1
  rw [great_mod]
  have e0 := Int.tmod_lt_of_pos a0 (show (0 : Int) < 4 by decide)
  have e1 : -4 < Int.tmod a0 4 := by have := Int.lt_tmod_of_pos a0 (show (0 : Int) < 4 by decide); omega
  have e2 := Int.tmod_lt_of_pos a1 (show (0 : Int) < 4 by decide)
  have e3 : 0 ≤ Int.tmod a1 4 := Int.tmod_nonneg _ (by omega)
  refine great_at _ _ _ (by omega) (by omega)

end Go.Proofs.Ytpblhcmcldachaa.Pure
