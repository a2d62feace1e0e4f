/-
  Whatever the bytes: what is read as a letter is right, and has just the bytes from which it was read; the law returns true. No condition.
-/
import Derived.Test.YtogcnfhmcpkdcaaClosed
import Derived.Test.YtogcnfhmcpkdcaaOpen
import Derived.Test.YtogcnfhmcpkdcaaOpenBR
import Derived.Test.YtogcnfhmcpkdcaaLaw15b
namespace Go.Proofs.Ytogcnfhmcpkdcaa.letterOne
open Go.ChangeShapes Go.WideShapes Go.ChangeAt Go.RowKit
set_option linter.unusedVariables false

set_option maxRecDepth 100000 in
theorem lifted (os : Os) (started : os.Started) (H : Type) (enc : TypeId × Value → H) :
    ReturnsInHanded {} Try.checked os 16 .any (Rows.letterOneSpec.pre6 enc Try.prog Try.f16 Rows.letterOneRow.domain false) (Rows.letterOneSpec.post enc Try.prog Try.f16 false true false false) := by
  refine returnsInHanded_of_change (C := Try.checked) ownKnob_none started (by kernel_rfl) Try.func16
    (ChangeSpec.witness6 (enc := enc) (C := Try.checked) false ⟨#[], #[.slice none 0 0], []⟩ 8 (by kernel_rfl) (by kernel_rfl) (by kernel_rfl) (by kernel_rfl)) ?_
  intro W base args ds gs before hval0 hW hcnd _
  have hval : ∀ (j : Nat) t v, Try.f16.params[j]? = some t → args[j]? = some v → Value.okWide Try.prog W .any base t v := hval0
  have hW' := hW
  obtain ⟨p, q, hA0, hV, rfl, hfz, hnd⟩ := hW
  have hA : DataW.TrodAll enc Try.prog W 0 (fun _ => true) true Try.f16.params.toList args.toList ds p := hA0
  rw [Try.params16] at hA hval
  obtain ⟨v0, vs0, d0, ds0, p0, q0, hargs, rfl, rfl, h0, r0⟩ := trodAll_cons hA
  obtain ⟨rfl, rfl, rfl⟩ := trodAll_nil r0
  obtain rfl : args = #[v0] := by cases args; simp_all
  obtain ⟨rfl, rfl⟩ := trodVars_none hV
  have k0 := h0
  have lt0 := trod_lt_of k0
  obtain ⟨a0, n0, c0, l0, rfl, e0, s0⟩ := open_bytes (hval 0 22 v0 rfl rfl) h0
  clear hA0 hval0
  subst e0
  refine (letterOne_calls l0 a0 c0 W (fun hh => s0 (by omega))).mono fun e W' ⟨he, bel⟩ => ?_
  subst he
  exact ⟨_, rfl, _, _, _, [], _, [], hW', trodAll_mk1 (shut_bool Try.underlying4 _), (trodAll_cons_mk (Below.trod laidOut_yes (by kernel_rfl) (of_decide_eq_true (by kernel_rfl)) k0 bel lt0) trodAll_mk0), rfl, bel.frame _, fun h => by cases h⟩

theorem c2 : (Rows.letterOneRow.inPlace == Try.prog.inPlace 16) = true := by kernel_rfl
theorem c3 : (Rows.letterOneRow.unfollowed == Try.prog.unfollowed 16) = true := by kernel_rfl
theorem c4 : (Rows.letterOneRow.recurses == Try.prog.recurses 16) = true := by kernel_rfl
theorem c5 : (Rows.letterOneRow.named == Try.prog.varsNamed 16) = true := by kernel_rfl
theorem closed : joinedFacts Try.prog 16 Try.f16 Rows.letterOneSpec Rows.letterOneRow = true :=
  joined_of (by kernel_rfl) c2 c3 c4 c5 (by kernel_rfl) (by kernel_rfl) ⟨rfl, rfl, rfl⟩
theorem over : Rows.letterOneRow.holds Try.pinned (OpenSpec.ofChange Rows.letterOneSpec) :=
  OpenClaim.holds_of_wide 16 Try.f16 rfl rfl rfl rfl rfl rfl rfl ⟨rfl, rfl, rfl, rfl, rfl⟩ rfl rfl rfl rfl rfl (by kernel_rfl) Try.func16 closed
    (of_decide_eq_true (by kernel_rfl)) (by unfold Func.isWrapper; rw [if_neg (of_decide_eq_false (by kernel_rfl))]; exact ⟨rfl, rfl⟩)
    (fun os started H enc _ => lifted os started H enc)

theorem proved : Rows.LetterOneSaid := over
#print axioms proved
end Go.Proofs.Ytogcnfhmcpkdcaa.letterOne
