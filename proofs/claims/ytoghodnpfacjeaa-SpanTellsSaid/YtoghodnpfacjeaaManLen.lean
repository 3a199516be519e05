/- The contract of math/bits.Len64: how many bits a number has. No condition. -/
import Derived.Test.YtoghodnpfacjeaaManLenCore
import Derived.Test.YtoghodnpfacjeaaWMore
namespace Go.Proofs.Ytoghodnpfacjeaa.Man
open Go.RowKit Go.Proofs.YtoghodnpfacjeaaW.PrintWords Go.Proofs.YtoghodnpfacjeaaW.PrintLast Go.Proofs.YtoghodnpfacjeaaW.PrintMore

def bits_Len64.f (x : Int) : Option Int := if 0 ≤ x ∧ x ≤ 18446744073709551615 then some ((Lib.bitLen x.toNat : Nat) : Int) else none
theorem bits_Len64.calls (x : Int) (r : Int) (w : World) (h : bits_Len64.f x = some r) :
    Calls Try.prog 22 #[.int .u64 x] w fun e w' => e = .returned (.int .i64 r) ∧ Drawn0 w w' := by
  unfold bits_Len64.f at h
  by_cases hx : 0 ≤ x ∧ x ≤ 18446744073709551615
  · rw [if_pos hx] at h
    obtain rfl := Option.some.inj h
    exact (len64_core x w hx.1 hx.2).mono fun e w' ⟨he, hw⟩ => ⟨he, hw ▸ Drawn0.refl _⟩
  · rw [if_neg hx] at h; exact absurd h (by simp)

end Go.Proofs.Ytoghodnpfacjeaa.Man
