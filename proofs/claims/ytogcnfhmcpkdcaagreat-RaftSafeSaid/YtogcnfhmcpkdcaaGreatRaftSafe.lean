/-
  Whatever happens to a group, its items are handed out in one order, one leads in a term, and who leads later has all that was agreed: RaftSafe answers true for every input. No condition.
-/
import Derived.Test.YtogcnfhmcpkdcaaGreatClosed
import Derived.Test.YtogcnfhmcpkdcaaGreatOpenO
import Derived.Test.YtogcnfhmcpkdcaaGreatGrT
namespace Go.Proofs.YtogcnfhmcpkdcaaGreat.raftSafe
open Go.ChangeShapes Go.WideShapes Go.ChangeAt Go.RowKit
set_option linter.unusedVariables false
set_option maxRecDepth 100000 in
theorem lifted (os : Os) (started : os.Started) (H : Type) (enc : TypeId × Value → H) :
  ReturnsInHanded {} Tryz.checked os 4 .any (Rows.raftSafeSpec.pre6 enc Tryz.prog Tryz.f4 Rows.raftSafeRow.domain false) (Rows.raftSafeSpec.post enc Tryz.prog Tryz.f4 false true false false) := by
 refine returnsInHanded_of_change (C := Tryz.checked) ownKnob_none started (by kernel_rfl) Tryz.func4
  (ChangeSpec.witness6 (enc := enc) (C := Tryz.checked) false ⟨#[], #[.int .u8 0, .slice none 0 0], []⟩ 8 (by kernel_rfl) (by kernel_rfl) (by kernel_rfl) (by kernel_rfl)) ?_
 intro W base args ds gs before hval0 hW hcnd _;have hval : ∀ (j : Nat) t v, Tryz.f4.params[j]? = some t → args[j]? = some v → Value.okWide Tryz.prog W .any base t v := hval0;have hW' := hW;obtain ⟨p, q, hA0, hV, rfl, hfz, hnd⟩ := hW;have hA : DataW.TrodAll enc Tryz.prog W 0 (fun _ => true) true Tryz.f4.params.toList args.toList ds p := hA0;rw [Tryz.params4] at hA hval;obtain ⟨v0, vs0, d0, ds0, p0, q0, hargs, rfl, rfl, h0, r0⟩ := trodAll_cons hA;obtain ⟨v1, vs1, d1, ds1, p1, q1, rfl, rfl, rfl, h1, r1⟩ := trodAll_cons r0;obtain ⟨rfl, rfl, rfl⟩ := trodAll_nil r1;obtain rfl : args = #[v0, v1] := by cases args; simp_all
 obtain ⟨rfl, rfl⟩ := trodVars_none hV;have k0 := h0;have lt0 := trod_lt_of k0;have k1 := h1;have lt1 := trod_lt_of k1;obtain ⟨z0, rfl, rfl, rfl, w0⟩ := open_int Tryz.underlying5 (hval 0 5 v0 rfl rfl) h0;obtain ⟨a0, rfl, b0⟩ := u8_nat w0;obtain ⟨a1, c1, l1, rfl, s1, e1⟩ := open_steps (hval 1 54 v1 rfl rfl) h1;clear hA0 hval0;refine (raftSafe_calls a0 b0 l1 a1 c1 W s1 e1).mono fun e W' ⟨he, bel⟩ => ?_
 subst he;exact ⟨_, rfl, _, _, _, [], _, [], hW', trodAll_mk1 (shut_bool Tryz.underlying4 _), (trodAll_cons_mk (Below.trod laidOut_yes (by kernel_rfl) (of_decide_eq_true (by kernel_rfl)) k0 bel lt0) (trodAll_cons_mk (Below.trod laidOut_yes (by kernel_rfl) (of_decide_eq_true (by kernel_rfl)) k1 bel lt1) trodAll_mk0)), rfl, bel.frame _, fun h => by cases h⟩
theorem c2 : (Rows.raftSafeRow.inPlace == Tryz.prog.inPlace 4) = true := by kernel_rfl
theorem c3 : (Rows.raftSafeRow.unfollowed == Tryz.prog.unfollowed 4) = true := by kernel_rfl
theorem c4 : (Rows.raftSafeRow.recurses == Tryz.prog.recurses 4) = true := by kernel_rfl
theorem c5 : (Rows.raftSafeRow.named == Tryz.prog.varsNamed 4) = true := by kernel_rfl
theorem closed : joinedFacts Tryz.prog 4 Tryz.f4 Rows.raftSafeSpec Rows.raftSafeRow = true :=
 joined_of (by kernel_rfl) c2 c3 c4 c5 (by kernel_rfl) (by kernel_rfl) ⟨rfl, rfl, rfl⟩
theorem over : Rows.raftSafeRow.holds Tryz.pinned (OpenSpec.ofChange Rows.raftSafeSpec) :=
 OpenClaim.holds_of_wide 4 Tryz.f4 rfl rfl rfl rfl rfl rfl rfl ⟨rfl, rfl, rfl, rfl, rfl⟩ rfl rfl rfl rfl rfl (by kernel_rfl) Tryz.func4 closed
  (of_decide_eq_true (by kernel_rfl)) (by unfold Func.isWrapper; rw [if_neg (of_decide_eq_false (by kernel_rfl))]; exact ⟨rfl, rfl⟩)
  (fun os started H enc _ => lifted os started H enc)
theorem proved : Rows.RaftSafeSaid := over
#print axioms proved
end Go.Proofs.YtogcnfhmcpkdcaaGreat.raftSafe
