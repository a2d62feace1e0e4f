/-
  A region that draws its order, walked by hand in one order: what is held by the world's cells is taken first. No program in sight.
-/
import Derived.Test.YtogcnfhmcpkdcaaGreatWideIn
import Derived.Test.YtogcnfhmcpkdcaaGreatFieldW
namespace Go.Proofs.YtogcnfhmcpkdcaaGreat
open Go.RowKit
set_option linter.unusedVariables false

section
variable {P : Program} {md : Region.Mode} {ops : Array Oper} {Q : Exit → Act → World → Prop} {S : World → Prop} {fuel : Nat} {listed : Array Bool} {w : World} {ts : List Value} {ds : List Deferred}

theorem heldTake (i d : Nat) {oi : Oper} {v : Value} (hi : ops[i]? = some oi) (hd : oi.dst = some d)
    (hs : Region.noSelect ops = true) (hf : Region.free md ops listed i = true) (hr : (Region.ready md ops listed).contains i = true)
    (hQ : ∀ c a w, Q (.panic c) (a.put oi.dst v) w → Q (.panic c) a w) (hS : S w) (hy : YieldsIf P ops S oi v ⟨ts.toArray, ds⟩)
    (h : wpAnyH P md ops Q S fuel (listed.setIfInBounds i true) ⟨(ts.set d v).toArray, ds⟩ w) : wpAnyH P md ops Q S (fuel + 1) listed ⟨ts.toArray, ds⟩ w :=
  wpAnyH_take hi hs hf hr hQ hy hS (by
    have e : Act.put ⟨ts.toArray, ds⟩ oi.dst v = ⟨(ts.set d v).toArray, ds⟩ := by simp [Act.put, hd]
    rw [e]; exact h)

theorem heldOne (j : Nat) {o : Oper} {a : Act} (hr : Region.ready md ops listed = [j]) (hj : ops[j]? = some o) (hw : Region.wanted o (yielded ops a.tmps) = true)
    (h : o.wp P a w (fun a' w' => S w' ∧ wpAnyH P md ops Q S fuel (listed.setIfInBounds j true) a' w') Q) : wpAnyH P md ops Q S (fuel + 1) listed a w :=
  wpAnyH_one hr (wpOp_wp hj hw h)

/-- a value laid into a temporary, the frame's slots as a list -/
theorem put_list (d : Nat) (v : Value) : Act.put ⟨ts.toArray, ds⟩ (some d) v = ⟨(ts.set d v).toArray, ds⟩ := by simp [Act.put]
theorem put_none (a : Act) (v : Value) : a.put none v = a := rfl
end
end Go.Proofs.YtogcnfhmcpkdcaaGreat
