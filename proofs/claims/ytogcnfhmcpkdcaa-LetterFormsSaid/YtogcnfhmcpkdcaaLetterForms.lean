/-
  Whatever the letter: it is right, and has the form, that the document says, and is read as it was; the law returns true. No condition.
-/
import Derived.Test.YtogcnfhmcpkdcaaClosed
import Derived.Test.YtogcnfhmcpkdcaaOpen
import Derived.Test.YtogcnfhmcpkdcaaOpenLet
import Derived.Test.YtogcnfhmcpkdcaaLaw15c
namespace Go.Proofs.Ytogcnfhmcpkdcaa.letterForms
open Go.ChangeShapes Go.WideShapes Go.ChangeAt Go.RowKit
set_option linter.unusedVariables false

set_option maxRecDepth 100000 in
theorem lifted (os : Os) (started : os.Started) (H : Type) (enc : TypeId × Value → H) :
    ReturnsInHanded {} Try.checked os 14 .any (Rows.letterFormsSpec.pre6 enc Try.prog Try.f14 Rows.letterFormsRow.domain false) (Rows.letterFormsSpec.post enc Try.prog Try.f14 false true false false) := by
  refine returnsInHanded_of_change (C := Try.checked) ownKnob_none started (by kernel_rfl) Try.func14
    (ChangeSpec.witness6 (enc := enc) (C := Try.checked) false ⟨#[], #[.agg #[.int .i64 0, .int .i64 0, .int .i64 0, .int .i64 0, .int .i64 0, .bool false, .slice none 0 0, .slice none 0 0]], []⟩ 8 (by kernel_rfl) (by kernel_rfl) (by kernel_rfl) (by kernel_rfl)) ?_
  intro W base args ds gs before hval0 hW hcnd _
  have hval : ∀ (j : Nat) t v, Try.f14.params[j]? = some t → args[j]? = some v → Value.okWide Try.prog W .any base t v := hval0
  have hW' := hW
  obtain ⟨p, q, hA0, hV, rfl, hfz, hnd⟩ := hW
  have hA : DataW.TrodAll enc Try.prog W 0 (fun _ => true) true Try.f14.params.toList args.toList ds p := hA0
  rw [Try.params14] at hA hval
  obtain ⟨v0, vs0, d0, ds0, p0, q0, hargs, rfl, rfl, h0, r0⟩ := trodAll_cons hA
  obtain ⟨rfl, rfl, rfl⟩ := trodAll_nil r0
  obtain rfl : args = #[v0] := by cases args; simp_all
  obtain ⟨rfl, rfl⟩ := trodVars_none hV
  have k0 := h0
  have lt0 := trod_lt_of k0
  obtain ⟨x0, ia0, ic0, ms0, ba0, bc0, rfl, e0⟩ := open_letter (hval 0 111 v0 rfl rfl) h0
  clear hA0 hval0
  refine (letterForms_calls x0 ia0 ic0 ms0 ba0 bc0 W e0).mono fun e W' ⟨he, bel⟩ => ?_
  subst he
  exact ⟨_, rfl, _, _, _, [], _, [], hW', trodAll_mk1 (shut_bool Try.underlying4 _), (trodAll_cons_mk (Below.trod laidOut_yes (by kernel_rfl) (of_decide_eq_true (by kernel_rfl)) k0 bel lt0) trodAll_mk0), rfl, bel.frame _, fun h => by cases h⟩

theorem c2 : (Rows.letterFormsRow.inPlace == Try.prog.inPlace 14) = true := by kernel_rfl
theorem c3 : (Rows.letterFormsRow.unfollowed == Try.prog.unfollowed 14) = true := by kernel_rfl
theorem c4 : (Rows.letterFormsRow.recurses == Try.prog.recurses 14) = true := by kernel_rfl
theorem c5 : (Rows.letterFormsRow.named == Try.prog.varsNamed 14) = true := by kernel_rfl
theorem closed : joinedFacts Try.prog 14 Try.f14 Rows.letterFormsSpec Rows.letterFormsRow = true :=
  joined_of (by kernel_rfl) c2 c3 c4 c5 (by kernel_rfl) (by kernel_rfl) ⟨rfl, rfl, rfl⟩
theorem over : Rows.letterFormsRow.holds Try.pinned (OpenSpec.ofChange Rows.letterFormsSpec) :=
  OpenClaim.holds_of_wide 14 Try.f14 rfl rfl rfl rfl rfl rfl rfl ⟨rfl, rfl, rfl, rfl, rfl⟩ rfl rfl rfl rfl rfl (by kernel_rfl) Try.func14 closed
    (of_decide_eq_true (by kernel_rfl)) (by unfold Func.isWrapper; rw [if_neg (of_decide_eq_false (by kernel_rfl))]; exact ⟨rfl, rfl⟩)
    (fun os started H enc _ => lifted os started H enc)

theorem proved : Rows.LetterFormsSaid := over
#print axioms proved
end Go.Proofs.Ytogcnfhmcpkdcaa.letterForms
