/-
  A region that draws its order, inside a round of a range over a function, where the fence is the wide one: it is walked as outside. No program in sight.
-/
import Derived.RangeFuncWrites
import Derived.RangeFuncCalls
import Derived.OrdersIn
import Derived.OrdersHeld
import Derived.StillTail
namespace Go.Proofs.YtogcnfhmcpkdcaaGreat
open Go.RowKit
set_option linter.unusedVariables false

/-- no deferred call is laid -/
def calmB (o : Oper) : Bool := match o.op with | .defer _ => false | _ => true
def calm (o : Oper) : Prop := ∀ c, o.op ≠ .defer c

theorem calm_of {ops : Array Oper} (h : ops.all calmB = true) (i : Nat) (o : Oper) (ho : ops[i]? = some o) : calm o := by
  intro c hc
  obtain ⟨hi, he⟩ := Array.getElem?_eq_some_iff.1 ho
  have := (Array.all_eq_true.1 h) i hi
  rw [he] at this
  simp [calmB, hc] at this

theorem rowsIn_of_rows {P : Program} {row : String} {args : Array Value} {w : World} {R : Value → World → Prop} {l n : Nat} (h : Rows P row args w R) : RowsIn (Fence.wide.inRound l) n P row args w R :=
  fun c cs _ => let ⟨v, w', r, s⟩ := h c cs; ⟨v, w', r, stepsIn_wide.2 s⟩

theorem wpIn_of_wp {P : Program} {o : Oper} {a : Act} {w : World} {K : Act → World → Prop} {Q : Exit → Act → World → Prop} {l n : Nat} (hc : calm o) (h : o.wp P a w K Q) : o.wpIn (Fence.wide.inRound l) n P a w K Q := by
  refine ⟨fun f _ => trivial, ?_⟩
  rw [Oper.semAt_eq _ _ _ hc]
  unfold Oper.wp at h
  generalize (execOp a.eval o).run P w = r at *
  cases r with
  | ok x w' =>
    cases x <;> simp only [Oper.upon, Oper.uponIn] at h ⊢
    all_goals first
      | exact h
      | exact h.elim
      | exact ⟨fun hd => (by cases hd), rowsIn_of_rows h⟩
      | exact ⟨fun hd => (by cases hd), CallsIn.inRound l (callsIn_wide.2 h)⟩
  | halt x w' => cases x <;> simp only [Oper.upon, Oper.uponIn] at h ⊢ <;> exact h

theorem wpAnyIn_of_wpAny {P : Program} {md : Region.Mode} {ops : Array Oper} {Q : Exit → Act → World → Prop} {l n : Nat} (hc : ∀ (i : Nat) (o : Oper), ops[i]? = some o → calm o) (hQ : ¬ LetsOut Q) :
    ∀ (fuel : Nat) (listed : Array Bool) (a : Act) (w : World), wpAny P md ops Q fuel listed a w → wpAnyIn (Fence.wide.inRound l) n P md ops Q fuel listed a w
  | 0, _, _, _, h => h
  | fuel + 1, listed, a, w, h => ⟨h.1, fun i hi => by
      have h2 := h.2 i hi
      unfold wpOp at h2
      unfold wpOpIn
      cases ho : ops[i]? with
      | none => simp only [ho] at h2 ⊢; exact wpAnyIn_of_wpAny hc hQ fuel _ _ _ h2
      | some o =>
        simp only [ho] at h2 ⊢
        split
        · rename_i hw
          simp only [hw, if_true] at h2
          rcases h2 with h2 | ⟨_, h2⟩
          · exact Oper.wpIn_mono (fun a w => wpAnyIn_of_wpAny hc hQ fuel _ a w) (wpIn_of_wp (hc i o ho) h2)
          · exact absurd h2 hQ
        · rename_i hw
          simp only [hw] at h2
          exact ⟨fun f _ => trivial, wpAnyIn_of_wpAny hc hQ fuel _ _ _ h2⟩⟩

theorem wpIn_region_wide {P : Program} {id : Nat} {ops : Array Oper} {Q : Exit → Act → World → Prop} {l n : Nat} {a : Act} {w : World} (hm : P.follows .mixedOrders = true) (hc : ∀ (i : Nat) (o : Oper), ops[i]? = some o → calm o) (hQ : ¬ LetsOut Q)
    (h : wpAny P .any ops Q ops.size (Array.replicate ops.size false) a w.drew) : (Code.region id ops true).wpIn (Fence.wide.inRound l) n P Q a w :=
  wpIn_region_any hm (wpAnyIn_of_wpAny hc hQ _ _ _ _ h)

theorem wpOp_wp {P : Program} {ops : Array Oper} {Q : Exit → Act → World → Prop} {i : Nat} {o : Oper} {K : Act → World → Prop} {a : Act} {w : World} (hi : ops[i]? = some o) (hw : Region.wanted o (yielded ops a.tmps) = true) (h : o.wp P a w K Q) : wpOp P ops Q i K a w := by
  unfold wpOp
  simp only [hi, hw, if_true]
  exact .inl h
theorem wpOp_value {P : Program} {ops : Array Oper} {Q : Exit → Act → World → Prop} {i : Nat} {o : Oper} {K : Act → World → Prop} {a : Act} {w w1 : World} {v : Value} (hi : ops[i]? = some o) (hw : Region.wanted o (yielded ops a.tmps) = true) (hr : Sem.run P (execOp a.eval o) w = .ok (.value v) w1) (h : K (a.put o.dst v) w1) : wpOp P ops Q i K a w := by
  refine wpOp_wp hi hw ?_
  unfold Oper.wp
  rw [hr]
  exact h
theorem wpOp_skip {P : Program} {ops : Array Oper} {Q : Exit → Act → World → Prop} {i : Nat} {o : Oper} {K : Act → World → Prop} {a : Act} {w w1 : World} (hi : ops[i]? = some o) (hw : Region.wanted o (yielded ops a.tmps) = true) (hr : Sem.run P (execOp a.eval o) w = .ok .skip w1) (h : K (a.put o.dst undef) w1) : wpOp P ops Q i K a w := by
  refine wpOp_wp hi hw ?_
  unfold Oper.wp
  rw [hr]
  exact h
theorem wpAnyH_one {P : Program} {md : Region.Mode} {ops : Array Oper} {Q : Exit → Act → World → Prop} {S : World → Prop} {i : Nat} {fuel : Nat} {listed : Array Bool} {a : Act} {w : World} (hr : Region.ready md ops listed = [i])
    (h : wpOp P ops Q i (fun a' w' => S w' ∧ wpAnyH P md ops Q S fuel (listed.setIfInBounds i true) a' w') a w) : wpAnyH P md ops Q S (fuel + 1) listed a w :=
  wpAnyH_all hr (by simp) (fun j hj => by simp at hj; subst hj; exact h)
theorem wpAnyH_two {P : Program} {md : Region.Mode} {ops : Array Oper} {Q : Exit → Act → World → Prop} {S : World → Prop} {i j : Nat} {fuel : Nat} {listed : Array Bool} {a : Act} {w : World} (hr : Region.ready md ops listed = [i, j])
    (h : wpOp P ops Q i (fun a' w' => S w' ∧ wpAnyH P md ops Q S fuel (listed.setIfInBounds i true) a' w') a w)
    (h' : wpOp P ops Q j (fun a' w' => S w' ∧ wpAnyH P md ops Q S fuel (listed.setIfInBounds j true) a' w') a w) : wpAnyH P md ops Q S (fuel + 1) listed a w :=
  wpAnyH_all hr (by simp) (fun k hk => by simp at hk; rcases hk with rfl | rfl <;> assumption)
end Go.Proofs.YtogcnfhmcpkdcaaGreat
