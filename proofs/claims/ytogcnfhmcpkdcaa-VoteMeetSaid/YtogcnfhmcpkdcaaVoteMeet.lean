/-
  Whatever the number of replicas, the two lots and the seven indexes: two lots of enough replicas share one, and what is agreed one of any enough has; the law returns true. No condition.
-/
import Derived.Test.YtogcnfhmcpkdcaaClosed
import Derived.Test.YtogcnfhmcpkdcaaOpen
import Derived.Test.YtogcnfhmcpkdcaaOpenB
import Derived.Test.YtogcnfhmcpkdcaaVote5
namespace Go.Proofs.Ytogcnfhmcpkdcaa.voteMeet
open Go.ChangeShapes Go.WideShapes Go.ChangeAt Go.RowKit
set_option linter.unusedVariables false

set_option maxRecDepth 100000 in
theorem lifted (os : Os) (started : os.Started) (H : Type) (enc : TypeId × Value → H) :
    ReturnsInHanded {} Try.checked os 19 .any (Rows.voteMeetSpec.pre6 enc Try.prog Try.f19 Rows.voteMeetRow.domain false) (Rows.voteMeetSpec.post enc Try.prog Try.f19 false true false false) := by
  refine returnsInHanded_of_change (C := Try.checked) ownKnob_none started (by kernel_rfl) Try.func19
    (ChangeSpec.witness6 (enc := enc) (C := Try.checked) false ⟨#[], #[.int .i64 0, .int .u8 0, .int .u8 0, .agg #[.int .i64 0, .int .i64 0, .int .i64 0, .int .i64 0, .int .i64 0, .int .i64 0, .int .i64 0]], []⟩ 8 (by kernel_rfl) (by kernel_rfl) (by kernel_rfl) (by kernel_rfl)) ?_
  intro W base args ds gs before hval0 hW hcnd _
  have hval : ∀ (j : Nat) t v, Try.f19.params[j]? = some t → args[j]? = some v → Value.okWide Try.prog W .any base t v := hval0
  have hW' := hW
  obtain ⟨p, q, hA0, hV, rfl, hfz, hnd⟩ := hW
  have hA : DataW.TrodAll enc Try.prog W 0 (fun _ => true) true Try.f19.params.toList args.toList ds p := hA0
  rw [Try.params19] at hA hval
  obtain ⟨v0, vs0, d0, ds0, p0, q0, hargs, rfl, rfl, h0, r0⟩ := trodAll_cons hA
  obtain ⟨v1, vs1, d1, ds1, p1, q1, rfl, rfl, rfl, h1, r1⟩ := trodAll_cons r0
  obtain ⟨v2, vs2, d2, ds2, p2, q2, rfl, rfl, rfl, h2, r2⟩ := trodAll_cons r1
  obtain ⟨v3, vs3, d3, ds3, p3, q3, rfl, rfl, rfl, h3, r3⟩ := trodAll_cons r2
  obtain ⟨rfl, rfl, rfl⟩ := trodAll_nil r3
  obtain rfl : args = #[v0, v1, v2, v3] := by cases args; simp_all
  obtain ⟨rfl, rfl⟩ := trodVars_none hV
  have k0 := h0
  have lt0 := trod_lt_of k0
  have k1 := h1
  have lt1 := trod_lt_of k1
  have k2 := h2
  have lt2 := trod_lt_of k2
  have k3 := h3
  have lt3 := trod_lt_of k3
  obtain ⟨a0, rfl, rfl, rfl, w0⟩ := open_int Try.underlying3 (hval 0 3 v0 rfl rfl) h0
  obtain ⟨a1, rfl, rfl, rfl, w1⟩ := open_int Try.underlying5 (hval 1 5 v1 rfl rfl) h1
  obtain ⟨a2, rfl, rfl, rfl, w2⟩ := open_int Try.underlying5 (hval 2 5 v2 rfl rfl) h2
  obtain ⟨x30, x31, x32, x33, x34, x35, x36, rfl⟩ := open_arr7 (hval 3 123 v3 rfl rfl) h3
  clear hA0 hval0
  refine (l16VoteMeet_calls a0 a1 a2 (bounds_u8 w1).1 (bounds_u8 w1).2 (bounds_u8 w2).1 (bounds_u8 w2).2 x30 x31 x32 x33 x34 x35 x36 W).mono fun e W' ⟨he, bel⟩ => ?_
  subst he
  exact ⟨_, rfl, _, _, _, [], _, [], hW', trodAll_mk1 (shut_bool Try.underlying4 _), (trodAll_cons_mk (Below.trod laidOut_yes (by kernel_rfl) (of_decide_eq_true (by kernel_rfl)) k0 bel lt0) (trodAll_cons_mk (Below.trod laidOut_yes (by kernel_rfl) (of_decide_eq_true (by kernel_rfl)) k1 bel lt1) (trodAll_cons_mk (Below.trod laidOut_yes (by kernel_rfl) (of_decide_eq_true (by kernel_rfl)) k2 bel lt2) (trodAll_cons_mk (Below.trod laidOut_yes (by kernel_rfl) (of_decide_eq_true (by kernel_rfl)) k3 bel lt3) trodAll_mk0)))), rfl, bel.frame _, fun h => by cases h⟩

theorem c2 : (Rows.voteMeetRow.inPlace == Try.prog.inPlace 19) = true := by kernel_rfl
theorem c3 : (Rows.voteMeetRow.unfollowed == Try.prog.unfollowed 19) = true := by kernel_rfl
theorem c4 : (Rows.voteMeetRow.recurses == Try.prog.recurses 19) = true := by kernel_rfl
theorem c5 : (Rows.voteMeetRow.named == Try.prog.varsNamed 19) = true := by kernel_rfl
theorem closed : joinedFacts Try.prog 19 Try.f19 Rows.voteMeetSpec Rows.voteMeetRow = true :=
  joined_of (by kernel_rfl) c2 c3 c4 c5 (by kernel_rfl) (by kernel_rfl) ⟨rfl, rfl, rfl⟩
theorem over : Rows.voteMeetRow.holds Try.pinned (OpenSpec.ofChange Rows.voteMeetSpec) :=
  OpenClaim.holds_of_wide 19 Try.f19 rfl rfl rfl rfl rfl rfl rfl ⟨rfl, rfl, rfl, rfl, rfl⟩ rfl rfl rfl rfl rfl (by kernel_rfl) Try.func19 closed
    (of_decide_eq_true (by kernel_rfl)) (by unfold Func.isWrapper; rw [if_neg (of_decide_eq_false (by kernel_rfl))]; exact ⟨rfl, rfl⟩)
    (fun os started H enc _ => lifted os started H enc)

theorem proved : Rows.VoteMeetSaid := over
#print axioms proved
end Go.Proofs.Ytogcnfhmcpkdcaa.voteMeet
