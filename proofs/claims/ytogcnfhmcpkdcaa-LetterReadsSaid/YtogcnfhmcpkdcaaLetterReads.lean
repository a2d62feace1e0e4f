/-
  Whatever the bytes: they are read as a letter, or refused, as the document says; the law returns true. No condition.
-/
import Derived.Test.YtogcnfhmcpkdcaaClosed
import Derived.Test.YtogcnfhmcpkdcaaOpen
import Derived.Test.YtogcnfhmcpkdcaaOpenBR
import Derived.Test.YtogcnfhmcpkdcaaLaw15b
namespace Go.Proofs.Ytogcnfhmcpkdcaa.letterReads
open Go.ChangeShapes Go.WideShapes Go.ChangeAt Go.RowKit
set_option linter.unusedVariables false

set_option maxRecDepth 100000 in
theorem lifted (os : Os) (started : os.Started) (H : Type) (enc : TypeId × Value → H) :
    ReturnsInHanded {} Try.checked os 15 .any (Rows.letterReadsSpec.pre6 enc Try.prog Try.f15 Rows.letterReadsRow.domain false) (Rows.letterReadsSpec.post enc Try.prog Try.f15 false true false false) := by
  refine returnsInHanded_of_change (C := Try.checked) ownKnob_none started (by kernel_rfl) Try.func15
    (ChangeSpec.witness6 (enc := enc) (C := Try.checked) false ⟨#[], #[.slice none 0 0], []⟩ 8 (by kernel_rfl) (by kernel_rfl) (by kernel_rfl) (by kernel_rfl)) ?_
  intro W base args ds gs before hval0 hW hcnd _
  have hval : ∀ (j : Nat) t v, Try.f15.params[j]? = some t → args[j]? = some v → Value.okWide Try.prog W .any base t v := hval0
  have hW' := hW
  obtain ⟨p, q, hA0, hV, rfl, hfz, hnd⟩ := hW
  have hA : DataW.TrodAll enc Try.prog W 0 (fun _ => true) true Try.f15.params.toList args.toList ds p := hA0
  rw [Try.params15] at hA hval
  obtain ⟨v0, vs0, d0, ds0, p0, q0, hargs, rfl, rfl, h0, r0⟩ := trodAll_cons hA
  obtain ⟨rfl, rfl, rfl⟩ := trodAll_nil r0
  obtain rfl : args = #[v0] := by cases args; simp_all
  obtain ⟨rfl, rfl⟩ := trodVars_none hV
  have k0 := h0
  have lt0 := trod_lt_of k0
  obtain ⟨a0, n0, c0, l0, rfl, e0, s0⟩ := open_bytes (hval 0 22 v0 rfl rfl) h0
  clear hA0 hval0
  subst e0
  refine (letterReads_calls l0 a0 c0 W (fun hh => s0 (by omega))).mono fun e W' ⟨he, bel⟩ => ?_
  subst he
  exact ⟨_, rfl, _, _, _, [], _, [], hW', trodAll_mk1 (shut_bool Try.underlying4 _), (trodAll_cons_mk (Below.trod laidOut_yes (by kernel_rfl) (of_decide_eq_true (by kernel_rfl)) k0 bel lt0) trodAll_mk0), rfl, bel.frame _, fun h => by cases h⟩

theorem c2 : (Rows.letterReadsRow.inPlace == Try.prog.inPlace 15) = true := by kernel_rfl
theorem c3 : (Rows.letterReadsRow.unfollowed == Try.prog.unfollowed 15) = true := by kernel_rfl
theorem c4 : (Rows.letterReadsRow.recurses == Try.prog.recurses 15) = true := by kernel_rfl
theorem c5 : (Rows.letterReadsRow.named == Try.prog.varsNamed 15) = true := by kernel_rfl
theorem closed : joinedFacts Try.prog 15 Try.f15 Rows.letterReadsSpec Rows.letterReadsRow = true :=
  joined_of (by kernel_rfl) c2 c3 c4 c5 (by kernel_rfl) (by kernel_rfl) ⟨rfl, rfl, rfl⟩
theorem over : Rows.letterReadsRow.holds Try.pinned (OpenSpec.ofChange Rows.letterReadsSpec) :=
  OpenClaim.holds_of_wide 15 Try.f15 rfl rfl rfl rfl rfl rfl rfl ⟨rfl, rfl, rfl, rfl, rfl⟩ rfl rfl rfl rfl rfl (by kernel_rfl) Try.func15 closed
    (of_decide_eq_true (by kernel_rfl)) (by unfold Func.isWrapper; rw [if_neg (of_decide_eq_false (by kernel_rfl))]; exact ⟨rfl, rfl⟩)
    (fun os started H enc _ => lifted os started H enc)

theorem proved : Rows.LetterReadsSaid := over
#print axioms proved
end Go.Proofs.Ytogcnfhmcpkdcaa.letterReads
