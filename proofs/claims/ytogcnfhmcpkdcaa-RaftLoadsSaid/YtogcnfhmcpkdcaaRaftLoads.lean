/-
  Any bytes are loaded, or refused, without an end of the program; what is loaded has a head that loads to itself: RaftLoads answers true for every input. No condition.
-/
import Derived.Test.YtogcnfhmcpkdcaaClosed
import Derived.Test.YtogcnfhmcpkdcaaOpen
import Derived.Test.YtogcnfhmcpkdcaaRaft21
namespace Go.Proofs.Ytogcnfhmcpkdcaa.raftLoads
open Go.ChangeShapes Go.WideShapes Go.ChangeAt Go.RowKit
set_option linter.unusedVariables false

set_option maxRecDepth 100000 in
theorem lifted (os : Os) (started : os.Started) (H : Type) (enc : TypeId × Value → H) :
    ReturnsInHanded {} Try.checked os 24 .any (Rows.raftLoadsSpec.pre6 enc Try.prog Try.f24 Rows.raftLoadsRow.domain false) (Rows.raftLoadsSpec.post enc Try.prog Try.f24 false true false false) := by
  refine returnsInHanded_of_change (C := Try.checked) ownKnob_none started (by kernel_rfl) Try.func24
    (ChangeSpec.witness6 (enc := enc) (C := Try.checked) false ⟨#[], #[.slice none 0 0, .slice none 0 0], []⟩ 8 (by kernel_rfl) (by kernel_rfl) (by kernel_rfl) (by kernel_rfl)) ?_
  intro W base args ds gs before hval0 hW hcnd _
  have hval : ∀ (j : Nat) t v, Try.f24.params[j]? = some t → args[j]? = some v → Value.okWide Try.prog W .any base t v := hval0
  have hW' := hW
  obtain ⟨p, q, hA0, hV, rfl, hfz, hnd⟩ := hW
  have hA : DataW.TrodAll enc Try.prog W 0 (fun _ => true) true Try.f24.params.toList args.toList ds p := hA0
  rw [Try.params24] at hA hval
  obtain ⟨v0, vs0, d0, ds0, p0, q0, hargs, rfl, rfl, h0, r0⟩ := trodAll_cons hA
  obtain ⟨v1, vs1, d1, ds1, p1, q1, rfl, rfl, rfl, h1, r1⟩ := trodAll_cons r0
  obtain ⟨rfl, rfl, rfl⟩ := trodAll_nil r1
  obtain rfl : args = #[v0, v1] := by cases args; simp_all
  obtain ⟨rfl, rfl⟩ := trodVars_none hV
  have k0 := h0
  have lt0 := trod_lt_of k0
  have k1 := h1
  have lt1 := trod_lt_of k1
  obtain ⟨a0, n0, c0, l0, rfl, e0, s0⟩ := open_bytes (hval 0 22 v0 rfl rfl) h0
  obtain ⟨a1, c1, m1, rfl, s1, e1⟩ := open_bss (hval 1 146 v1 rfl rfl) h1
  subst e0
  clear hA0 hval0
  refine (raftLoads_calls l0 a0 c0 m1 a1 c1 W s0 s1 e1).mono fun e W' ⟨he, bel⟩ => ?_
  subst he
  exact ⟨_, rfl, _, _, _, [], _, [], hW', trodAll_mk1 (shut_bool Try.underlying4 _), (trodAll_cons_mk (Below.trod laidOut_yes (by kernel_rfl) (of_decide_eq_true (by kernel_rfl)) k0 bel lt0) (trodAll_cons_mk (Below.trod laidOut_yes (by kernel_rfl) (of_decide_eq_true (by kernel_rfl)) k1 bel lt1) trodAll_mk0)), rfl, bel.frame _, fun h => by cases h⟩

theorem c2 : (Rows.raftLoadsRow.inPlace == Try.prog.inPlace 24) = true := by kernel_rfl
theorem c3 : (Rows.raftLoadsRow.unfollowed == Try.prog.unfollowed 24) = true := by kernel_rfl
theorem c4 : (Rows.raftLoadsRow.recurses == Try.prog.recurses 24) = true := by kernel_rfl
theorem c5 : (Rows.raftLoadsRow.named == Try.prog.varsNamed 24) = true := by kernel_rfl
theorem closed : joinedFacts Try.prog 24 Try.f24 Rows.raftLoadsSpec Rows.raftLoadsRow = true :=
  joined_of (by kernel_rfl) c2 c3 c4 c5 (by kernel_rfl) (by kernel_rfl) ⟨rfl, rfl, rfl⟩
theorem over : Rows.raftLoadsRow.holds Try.pinned (OpenSpec.ofChange Rows.raftLoadsSpec) :=
  OpenClaim.holds_of_wide 24 Try.f24 rfl rfl rfl rfl rfl rfl rfl ⟨rfl, rfl, rfl, rfl, rfl⟩ rfl rfl rfl rfl rfl (by kernel_rfl) Try.func24 closed
    (of_decide_eq_true (by kernel_rfl)) (by unfold Func.isWrapper; rw [if_neg (of_decide_eq_false (by kernel_rfl))]; exact ⟨rfl, rfl⟩)
    (fun os started H enc _ => lifted os started H enc)

theorem proved : Rows.RaftLoadsSaid := over
#print axioms proved
end Go.Proofs.Ytogcnfhmcpkdcaa.raftLoads
