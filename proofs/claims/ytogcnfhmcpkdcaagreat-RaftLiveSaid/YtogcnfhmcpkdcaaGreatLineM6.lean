/-
Contracts of the reference's Right, fits, Last, At of a line.
-/
import Derived.Test.YtogcnfhmcpkdcaaGreatLineM9
import Derived.Test.YtogcnfhmcpkdcaaGreatLineLaw
namespace Go.Proofs.YtogcnfhmcpkdcaaGreat
open Go.RowKit
set_option linter.unusedVariables false
set_option linter.unusedSimpArgs false
abbrev rv (x:ae) (a:Option Addr) (n c:Nat):Value:= .agg #[.int .i64 x.base, .int .i64 x.term, .slice a n c]
end Go.Proofs.YtogcnfhmcpkdcaaGreat
namespace Go.Proofs.YtogcnfhmcpkdcaaGreat
set_option linter.unusedVariables false
set_option linter.unusedSimpArgs false
end Go.Proofs.YtogcnfhmcpkdcaaGreat
