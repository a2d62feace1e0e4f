/-
  Whatever ballot and bytes: ballots have the form that the document says, and are read, or refused, as it says; the law returns true. No condition.
-/
import Derived.Test.YtogcnfhmcpkdcaaClosed
import Derived.Test.YtogcnfhmcpkdcaaOpen
import Derived.Test.YtogcnfhmcpkdcaaOpenB
import Derived.Test.YtogcnfhmcpkdcaaOpenBytes
import Derived.Test.YtogcnfhmcpkdcaaVote11
namespace Go.Proofs.Ytogcnfhmcpkdcaa.voteBytes
open Go.ChangeShapes Go.WideShapes Go.ChangeAt Go.RowKit
set_option linter.unusedVariables false

set_option maxRecDepth 100000 in
theorem lifted (os : Os) (started : os.Started) (H : Type) (enc : TypeId × Value → H) :
    ReturnsInHanded {} Try.checked os 23 .any (Rows.voteBytesSpec.pre6 enc Try.prog Try.f23 Rows.voteBytesRow.domain false) (Rows.voteBytesSpec.post enc Try.prog Try.f23 false true false false) := by
  refine returnsInHanded_of_change (C := Try.checked) ownKnob_none started (by kernel_rfl) Try.func23
    (ChangeSpec.witness6 (enc := enc) (C := Try.checked) false ⟨#[], #[.agg #[.int .i64 0, .int .i64 0], .slice none 0 0], []⟩ 8 (by kernel_rfl) (by kernel_rfl) (by kernel_rfl) (by kernel_rfl)) ?_
  intro W base args ds gs before hval0 hW hcnd _
  have hval : ∀ (j : Nat) t v, Try.f23.params[j]? = some t → args[j]? = some v → Value.okWide Try.prog W .any base t v := hval0
  have hW' := hW
  obtain ⟨p, q, hA0, hV, rfl, hfz, hnd⟩ := hW
  have hA : DataW.TrodAll enc Try.prog W 0 (fun _ => true) true Try.f23.params.toList args.toList ds p := hA0
  rw [Try.params23] at hA hval
  obtain ⟨v0, vs0, d0, ds0, p0, q0, hargs, rfl, rfl, h0, r0⟩ := trodAll_cons hA
  obtain ⟨v1, vs1, d1, ds1, p1, q1, rfl, rfl, rfl, h1, r1⟩ := trodAll_cons r0
  obtain ⟨rfl, rfl, rfl⟩ := trodAll_nil r1
  obtain rfl : args = #[v0, v1] := by cases args; simp_all
  obtain ⟨rfl, rfl⟩ := trodVars_none hV
  have k0 := h0
  have lt0 := trod_lt_of k0
  have k1 := h1
  have lt1 := trod_lt_of k1
  obtain ⟨a0, b0, rfl, wa0, wb0⟩ := open_ballot (hval 0 128 v0 rfl rfl) h0
  obtain ⟨a1, n1, c1, l1, rfl, e1, s1⟩ := open_bytes (hval 1 22 v1 rfl rfl) h1
  clear hA0 hval0
  refine (voteBytes_calls a0 b0 l1 a1 n1 c1 W e1 (fun hh => s1 (by omega))).mono fun e W' ⟨he, bel⟩ => ?_
  subst he
  exact ⟨_, rfl, _, _, _, [], _, [], hW', trodAll_mk1 (shut_bool Try.underlying4 _), (trodAll_cons_mk (Below.trod laidOut_yes (by kernel_rfl) (of_decide_eq_true (by kernel_rfl)) k0 bel lt0) (trodAll_cons_mk (Below.trod laidOut_yes (by kernel_rfl) (of_decide_eq_true (by kernel_rfl)) k1 bel lt1) trodAll_mk0)), rfl, bel.frame _, fun h => by cases h⟩

theorem c2 : (Rows.voteBytesRow.inPlace == Try.prog.inPlace 23) = true := by kernel_rfl
theorem c3 : (Rows.voteBytesRow.unfollowed == Try.prog.unfollowed 23) = true := by kernel_rfl
theorem c4 : (Rows.voteBytesRow.recurses == Try.prog.recurses 23) = true := by kernel_rfl
theorem c5 : (Rows.voteBytesRow.named == Try.prog.varsNamed 23) = true := by kernel_rfl
theorem closed : joinedFacts Try.prog 23 Try.f23 Rows.voteBytesSpec Rows.voteBytesRow = true :=
  joined_of (by kernel_rfl) c2 c3 c4 c5 (by kernel_rfl) (by kernel_rfl) ⟨rfl, rfl, rfl⟩
theorem over : Rows.voteBytesRow.holds Try.pinned (OpenSpec.ofChange Rows.voteBytesSpec) :=
  OpenClaim.holds_of_wide 23 Try.f23 rfl rfl rfl rfl rfl rfl rfl ⟨rfl, rfl, rfl, rfl, rfl⟩ rfl rfl rfl rfl rfl (by kernel_rfl) Try.func23 closed
    (of_decide_eq_true (by kernel_rfl)) (by unfold Func.isWrapper; rw [if_neg (of_decide_eq_false (by kernel_rfl))]; exact ⟨rfl, rfl⟩)
    (fun os started H enc _ => lifted os started H enc)

theorem proved : Rows.VoteBytesSaid := over
#print axioms proved
end Go.Proofs.Ytogcnfhmcpkdcaa.voteBytes
