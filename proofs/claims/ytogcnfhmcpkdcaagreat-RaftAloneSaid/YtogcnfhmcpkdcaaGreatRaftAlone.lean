/-
  A group of one hands out what is proposed to it, at once, and all again when it begins anew: RaftAlone answers true for every input. No condition.
-/
import Derived.Test.YtogcnfhmcpkdcaaGreatClosed
import Derived.Test.YtogcnfhmcpkdcaaGreatOpen
import Derived.Test.YtogcnfhmcpkdcaaGreatGrB
namespace Go.Proofs.YtogcnfhmcpkdcaaGreat.raftAlone
open Go.ChangeShapes Go.WideShapes Go.ChangeAt Go.RowKit
set_option linter.unusedVariables false

set_option maxRecDepth 100000 in
theorem lifted (os : Os) (started : os.Started) (H : Type) (enc : TypeId × Value → H) :
    ReturnsInHanded {} Tryz.checked os 6 .any (Rows.raftAloneSpec.pre6 enc Tryz.prog Tryz.f6 Rows.raftAloneRow.domain false) (Rows.raftAloneSpec.post enc Tryz.prog Tryz.f6 false true false false) := by
  refine returnsInHanded_of_change (C := Tryz.checked) ownKnob_none started (by kernel_rfl) Tryz.func6
    (ChangeSpec.witness6 (enc := enc) (C := Tryz.checked) false ⟨#[], #[.slice none 0 0, .slice none 0 0], []⟩ 8 (by kernel_rfl) (by kernel_rfl) (by kernel_rfl) (by kernel_rfl)) ?_
  intro W base args ds gs before hval0 hW hcnd _
  have hval : ∀ (j : Nat) t v, Tryz.f6.params[j]? = some t → args[j]? = some v → Value.okWide Tryz.prog W .any base t v := hval0
  have hW' := hW
  obtain ⟨p, q, hA0, hV, rfl, hfz, hnd⟩ := hW
  have hA : DataW.TrodAll enc Tryz.prog W 0 (fun _ => true) true Tryz.f6.params.toList args.toList ds p := hA0
  rw [Tryz.params6] at hA hval
  obtain ⟨v0, vs0, d0, ds0, p0, q0, hargs, rfl, rfl, h0, r0⟩ := trodAll_cons hA
  obtain ⟨v1, vs1, d1, ds1, p1, q1, rfl, rfl, rfl, h1, r1⟩ := trodAll_cons r0
  obtain ⟨rfl, rfl, rfl⟩ := trodAll_nil r1
  obtain rfl : args = #[v0, v1] := by cases args; simp_all
  obtain ⟨rfl, rfl⟩ := trodVars_none hV
  have k0 := h0
  have lt0 := trod_lt_of k0
  have k1 := h1
  have lt1 := trod_lt_of k1
  obtain ⟨a0, c0, m0, rfl, s0, e0⟩ := open_bss (hval 0 29 v0 rfl rfl) h0
  obtain ⟨a1, c1, l1, rfl, s1⟩ := open_bools (hval 1 71 v1 rfl rfl) h1
  clear hA0 hval0
  refine (raftAlone_calls a0 c0 m0 a1 c1 l1 W s0 e0 s1).mono fun e W' ⟨he, bel⟩ => ?_
  subst he
  exact ⟨_, rfl, _, _, _, [], _, [], hW', trodAll_mk1 (shut_bool Tryz.underlying4 _), (trodAll_cons_mk (Below.trod laidOut_yes (by kernel_rfl) (of_decide_eq_true (by kernel_rfl)) k0 bel lt0) (trodAll_cons_mk (Below.trod laidOut_yes (by kernel_rfl) (of_decide_eq_true (by kernel_rfl)) k1 bel lt1) trodAll_mk0)), rfl, bel.frame _, fun h => by cases h⟩

theorem c2 : (Rows.raftAloneRow.inPlace == Tryz.prog.inPlace 6) = true := by kernel_rfl
theorem c3 : (Rows.raftAloneRow.unfollowed == Tryz.prog.unfollowed 6) = true := by kernel_rfl
theorem c4 : (Rows.raftAloneRow.recurses == Tryz.prog.recurses 6) = true := by kernel_rfl
theorem c5 : (Rows.raftAloneRow.named == Tryz.prog.varsNamed 6) = true := by kernel_rfl
theorem closed : joinedFacts Tryz.prog 6 Tryz.f6 Rows.raftAloneSpec Rows.raftAloneRow = true :=
  joined_of (by kernel_rfl) c2 c3 c4 c5 (by kernel_rfl) (by kernel_rfl) ⟨rfl, rfl, rfl⟩
theorem over : Rows.raftAloneRow.holds Tryz.pinned (OpenSpec.ofChange Rows.raftAloneSpec) :=
  OpenClaim.holds_of_wide 6 Tryz.f6 rfl rfl rfl rfl rfl rfl rfl ⟨rfl, rfl, rfl, rfl, rfl⟩ rfl rfl rfl rfl rfl (by kernel_rfl) Tryz.func6 closed
    (of_decide_eq_true (by kernel_rfl)) (by unfold Func.isWrapper; rw [if_neg (of_decide_eq_false (by kernel_rfl))]; exact ⟨rfl, rfl⟩)
    (fun os started H enc _ => lifted os started H enc)

theorem proved : Rows.RaftAloneSaid := over
#print axioms proved
end Go.Proofs.YtogcnfhmcpkdcaaGreat.raftAlone
