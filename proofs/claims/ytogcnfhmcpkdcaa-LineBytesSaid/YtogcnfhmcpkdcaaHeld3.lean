/-
  A region that draws its order: three operations are ready at once. No program in sight.
-/
import Derived.Test.YtogcnfhmcpkdcaaHeld
namespace Go.Proofs.Ytogcnfhmcpkdcaa
open Go.RowKit
theorem wpAnyH_three {P : Program} {md : Region.Mode} {ops : Array Oper} {Q : Exit → Act → World → Prop} {S : World → Prop} {i j k : Nat} {fuel : Nat} {listed : Array Bool} {a : Act} {w : World} (hr : Region.ready md ops listed = [i, j, k])
    (h : wpOp P ops Q i (fun a' w' => S w' ∧ wpAnyH P md ops Q S fuel (listed.setIfInBounds i true) a' w') a w)
    (h' : wpOp P ops Q j (fun a' w' => S w' ∧ wpAnyH P md ops Q S fuel (listed.setIfInBounds j true) a' w') a w)
    (h'' : wpOp P ops Q k (fun a' w' => S w' ∧ wpAnyH P md ops Q S fuel (listed.setIfInBounds k true) a' w') a w) : wpAnyH P md ops Q S (fuel + 1) listed a w :=
  wpAnyH_all hr (by simp) (fun m hm => by simp at hm; rcases hm with rfl | rfl | rfl <;> assumption)
end Go.Proofs.Ytogcnfhmcpkdcaa
