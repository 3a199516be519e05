/- The walk of AddrApart and its pure law, joined. Conditions: those of the statement's arguments. -/
import Derived.Test.YtpblhcmcldachaaPureAddrApart
namespace Go.Proofs.Ytpblhcmcldachaa.Man
open Go.RowKit Go.Proofs.Ytpblhcmcldachaa.QAddrApart Go.Proofs.YtpblhcmcldachaaW.PrintWords Go.Proofs.Ytpblhcmcldachaa.AdrAddrApart
set_option linter.unusedVariables false

theorem opn57 : Opn.Opn Try.prog k57 57 PartOk := opn_part
theorem addrWalk (a0 : Option Addr) (cap0 : Nat) (z0 : List S57) (w : World) (hc : z0.length ≤ cap0) (hC : Kd.C k57 w a0 z0.length z0) (_hB : z0.length * Try.prog.bytesOf 57 ≤ 140737488351232)
    (hE : ∀ x ∈ z0, PartOk x) :
    Calls Try.prog 4 #[.slice a0 z0.length cap0] w fun e w' => e = .returned (.bool true) ∧ Below w.heap.size w w' :=
  dovetaillaw23_AddrApart.calls 20000 a0 cap0 z0 true w hC hc (Pure.AddrApart z0 hE)

end Go.Proofs.Ytpblhcmcldachaa.Man
