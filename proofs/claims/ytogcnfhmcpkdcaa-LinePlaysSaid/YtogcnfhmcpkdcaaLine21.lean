/-
  Contract of layer 17's 'is', any index.
-/
import Derived.Test.YtogcnfhmcpkdcaaLine17
import Derived.Test.YtogcnfhmcpkdcaaLine18
import Derived.Test.YtogcnfhmcpkdcaaLine19
import Derived.Test.YtogcnfhmcpkdcaaLine20
namespace Go.Proofs.Ytogcnfhmcpkdcaa
open Go.RowKit

theorem l17is (base p : Nat) (x : PLine) (hg : x.Good) (la : Option Addr) (lc : Nat) (ms : List MItem) (ra : Option Addr) (rc : Nat) (rs : List MItem) (i : Int) (w : World) (h : LnAt w base p x la lc ms) (hr : RAt w w.heap.size x ra rc rs) :
    Calls Try.prog 59 #[.pointer (some ⟨p, 0, none⟩), rv x ra rs.length rc, .int .i64 i] w fun e w' => e = .returned (.bool true) ∧ Below w.heap.size w w' := by
  by_cases h1 : i < x.base
  · exact l17is_low base p x hg la lc ms ra rc rs i w h hr h1
  · by_cases h2 : i = x.base
    · exact l17is_base base p x hg la lc ms ra rc rs i w h hr h2
    · by_cases h3 : x.last < i
      · exact l17is_high base p x hg la lc ms ra rc rs i w h hr h3
      · exact l17is_in base p x hg la lc ms ra rc rs i w h hr ⟨by omega, by omega⟩
end Go.Proofs.Ytogcnfhmcpkdcaa
