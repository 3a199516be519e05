/- ImmSplits: an upper and a lower part make a number again, and the lower one is small. No condition beside the statement's own. -/
import Derived.Test.YtpjjgipomjenlaaPImmSplitsx1
import Derived.Test.YtpjjgipomjenlaaBv
namespace Go.Proofs.Ytpjjgipomjenlaa.Pure
open Go.RowKit Go.Proofs.Ytpjjgipomjenlaa.PImmSplits Go.Proofs.YtpjjgipomjenlaaW.PrintWords Go.Proofs.YtpjjgipomjenlaaW.PrintLast Go.Proofs.YtpjjgipomjenlaaW.PrintMore Go.Proofs.Ytpjjgipomjenlaa.Bv
set_option linter.unusedSimpArgs false
set_option linter.unusedVariables false

theorem ImmSplits : dovetaillaw3_ImmSplits.Pure := by
  intro v hv
  have b := bd_i64 hv
  refine ⟨10, ?_⟩
  have hk : dovetaillaw3_known.f 10 = some true := by decide +kernel
  have hl : imm_Lo.f v = some ((v + 2048) % 4096 - 2048) := by
    unfold imm_Lo.f imm_Sign.f
    simp [w64, uw64, mn]
    simp [shr, shl, wrap64, IntKind.bits, IntKind.wrap, IntKind.signed]
    omega
  have hh : imm_Hi.f v = some (wrap64 (v + 2048) / 4096) := by
    unfold imm_Hi.f
    simp [wrap64, IntKind.wrap, IntKind.bits, IntKind.signed]
  unfold dovetaillaw3_ImmSplits.f
  rw [hk, hl, hh]
  simp only [Option.bind_some, if_true]
  rw [if_pos (by unfold wrap64; omega), if_pos (by omega), decide_eq_true (by omega)]

end Go.Proofs.Ytpjjgipomjenlaa.Pure
