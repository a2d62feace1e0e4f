/-
  Whatever two numbers: there are 4,096 items at most, and no index above the greatest, and what has no room changes nothing; the law returns true. No condition.
-/
import Derived.Test.YtogcnfhmcpkdcaaClosed
import Derived.Test.YtogcnfhmcpkdcaaOpen
import Derived.Test.YtogcnfhmcpkdcaaOpenBytes
import Derived.Test.YtogcnfhmcpkdcaaLine7
namespace Go.Proofs.Ytogcnfhmcpkdcaa.lineFull
open Go.ChangeShapes Go.WideShapes Go.ChangeAt Go.RowKit
set_option linter.unusedVariables false

set_option maxRecDepth 100000 in
theorem lifted (os : Os) (started : os.Started) (H : Type) (enc : TypeId × Value → H) :
    ReturnsInHanded {} Try.checked os 5 .any (Rows.lineFullSpec.pre6 enc Try.prog Try.f5 Rows.lineFullRow.domain false) (Rows.lineFullSpec.post enc Try.prog Try.f5 false true false false) := by
  refine returnsInHanded_of_change (C := Try.checked) ownKnob_none started (by kernel_rfl) Try.func5
    (ChangeSpec.witness6 (enc := enc) (C := Try.checked) false ⟨#[], #[.int .u8 0, .int .u8 0], []⟩ 8 (by kernel_rfl) (by kernel_rfl) (by kernel_rfl) (by kernel_rfl)) ?_
  intro W base args ds gs before hval0 hW hcnd _
  have hval : ∀ (j : Nat) t v, Try.f5.params[j]? = some t → args[j]? = some v → Value.okWide Try.prog W .any base t v := hval0
  have hW' := hW
  obtain ⟨p, q, hA0, hV, rfl, hfz, hnd⟩ := hW
  have hA : DataW.TrodAll enc Try.prog W 0 (fun _ => true) true Try.f5.params.toList args.toList ds p := hA0
  rw [Try.params5] at hA hval
  obtain ⟨v0, vs0, d0, ds0, p0, q0, hargs, rfl, rfl, h0, r0⟩ := trodAll_cons hA
  obtain ⟨v1, vs1, d1, ds1, p1, q1, rfl, rfl, rfl, h1, r1⟩ := trodAll_cons r0
  obtain ⟨rfl, rfl, rfl⟩ := trodAll_nil r1
  obtain rfl : args = #[v0, v1] := by cases args; simp_all
  obtain ⟨rfl, rfl⟩ := trodVars_none hV
  have k0 := h0
  have lt0 := trod_lt_of k0
  have k1 := h1
  have lt1 := trod_lt_of k1
  obtain ⟨z0, rfl, rfl, rfl, w0⟩ := open_int Try.underlying5 (hval 0 5 v0 rfl rfl) h0
  obtain ⟨a0, rfl, b0⟩ := u8_nat w0
  obtain ⟨z1, rfl, rfl, rfl, w1⟩ := open_int Try.underlying5 (hval 1 5 v1 rfl rfl) h1
  obtain ⟨a1, rfl, b1⟩ := u8_nat w1
  clear hA0 hval0
  refine (lineFull_calls a0 a1 b0 b1 W).mono fun e W' ⟨he, bel⟩ => ?_
  subst he
  exact ⟨_, rfl, _, _, _, [], _, [], hW', trodAll_mk1 (shut_bool Try.underlying4 _), (trodAll_cons_mk (Below.trod laidOut_yes (by kernel_rfl) (of_decide_eq_true (by kernel_rfl)) k0 bel lt0) (trodAll_cons_mk (Below.trod laidOut_yes (by kernel_rfl) (of_decide_eq_true (by kernel_rfl)) k1 bel lt1) trodAll_mk0)), rfl, bel.frame _, fun h => by cases h⟩

theorem c2 : (Rows.lineFullRow.inPlace == Try.prog.inPlace 5) = true := by kernel_rfl
theorem c3 : (Rows.lineFullRow.unfollowed == Try.prog.unfollowed 5) = true := by kernel_rfl
theorem c4 : (Rows.lineFullRow.recurses == Try.prog.recurses 5) = true := by kernel_rfl
theorem c5 : (Rows.lineFullRow.named == Try.prog.varsNamed 5) = true := by kernel_rfl
theorem closed : joinedFacts Try.prog 5 Try.f5 Rows.lineFullSpec Rows.lineFullRow = true :=
  joined_of (by kernel_rfl) c2 c3 c4 c5 (by kernel_rfl) (by kernel_rfl) ⟨rfl, rfl, rfl⟩
theorem over : Rows.lineFullRow.holds Try.pinned (OpenSpec.ofChange Rows.lineFullSpec) :=
  OpenClaim.holds_of_wide 5 Try.f5 rfl rfl rfl rfl rfl rfl rfl ⟨rfl, rfl, rfl, rfl, rfl⟩ rfl rfl rfl rfl rfl (by kernel_rfl) Try.func5 closed
    (of_decide_eq_true (by kernel_rfl)) (by unfold Func.isWrapper; rw [if_neg (of_decide_eq_false (by kernel_rfl))]; exact ⟨rfl, rfl⟩)
    (fun os started H enc _ => lifted os started H enc)

theorem proved : Rows.LineFullSaid := over
#print axioms proved
end Go.Proofs.Ytogcnfhmcpkdcaa.lineFull
