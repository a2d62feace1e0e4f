/-
  Whatever the base, the term, the items and the bytes: a line's form is the document's, it is read as it was, and any bytes are read, or refused, as the document says; the law returns true. No condition.
-/
import Derived.Test.YtogcnfhmcpkdcaaClosed
import Derived.Test.YtogcnfhmcpkdcaaOpen
import Derived.Test.YtogcnfhmcpkdcaaOpenBytes
import Derived.Test.YtogcnfhmcpkdcaaOpenActs
import Derived.Test.YtogcnfhmcpkdcaaLineM7
namespace Go.Proofs.Ytogcnfhmcpkdcaa.lineBytes
open Go.ChangeShapes Go.WideShapes Go.ChangeAt Go.RowKit
set_option linter.unusedVariables false

set_option maxRecDepth 100000 in
theorem lifted (os : Os) (started : os.Started) (H : Type) (enc : TypeId × Value → H) :
    ReturnsInHanded {} Try.checked os 13 .any (Rows.lineBytesSpec.pre6 enc Try.prog Try.f13 Rows.lineBytesRow.domain false) (Rows.lineBytesSpec.post enc Try.prog Try.f13 false true false false) := by
  refine returnsInHanded_of_change (C := Try.checked) ownKnob_none started (by kernel_rfl) Try.func13
    (ChangeSpec.witness6 (enc := enc) (C := Try.checked) false ⟨#[], #[.int .i64 0, .int .i64 0, .slice none 0 0, .slice none 0 0], []⟩ 8 (by kernel_rfl) (by kernel_rfl) (by kernel_rfl) (by kernel_rfl)) ?_
  intro W base args ds gs before hval0 hW hcnd _
  have hval : ∀ (j : Nat) t v, Try.f13.params[j]? = some t → args[j]? = some v → Value.okWide Try.prog W .any base t v := hval0
  have hW' := hW
  obtain ⟨p, q, hA0, hV, rfl, hfz, hnd⟩ := hW
  have hA : DataW.TrodAll enc Try.prog W 0 (fun _ => true) true Try.f13.params.toList args.toList ds p := hA0
  rw [Try.params13] at hA hval
  obtain ⟨v0, vs0, d0, ds0, p0, q0, hargs, rfl, rfl, h0, r0⟩ := trodAll_cons hA
  obtain ⟨v1, vs1, d1, ds1, p1, q1, rfl, rfl, rfl, h1, r1⟩ := trodAll_cons r0
  obtain ⟨v2, vs2, d2, ds2, p2, q2, rfl, rfl, rfl, h2, r2⟩ := trodAll_cons r1
  obtain ⟨v3, vs3, d3, ds3, p3, q3, rfl, rfl, rfl, h3, r3⟩ := trodAll_cons r2
  obtain ⟨rfl, rfl, rfl⟩ := trodAll_nil r3
  obtain rfl : args = #[v0, v1, v2, v3] := by cases args; simp_all
  obtain ⟨rfl, rfl⟩ := trodVars_none hV
  have k0 := h0
  have lt0 := trod_lt_of k0
  have k1 := h1
  have lt1 := trod_lt_of k1
  have k2 := h2
  have lt2 := trod_lt_of k2
  have k3 := h3
  have lt3 := trod_lt_of k3
  obtain ⟨a0, rfl, rfl, rfl, w0⟩ := open_int Try.underlying3 (hval 0 3 v0 rfl rfl) h0
  obtain ⟨a1, rfl, rfl, rfl, w1⟩ := open_int Try.underlying3 (hval 1 3 v1 rfl rfl) h1
  obtain ⟨a2, c2, l2, rfl, s2, e2⟩ := open_items (hval 2 49 v2 rfl rfl) h2
  obtain ⟨a3, n3, c3, l3, rfl, e3, s3⟩ := open_bytes (hval 3 22 v3 rfl rfl) h3
  subst e3
  clear hA0 hval0
  refine (lineBytes_calls a0 a1 l2 a2 c2 l3 a3 c3 W s2 e2 (fun hh => s3 (by omega))).mono fun e W' ⟨he, bel⟩ => ?_
  subst he
  exact ⟨_, rfl, _, _, _, [], _, [], hW', trodAll_mk1 (shut_bool Try.underlying4 _), (trodAll_cons_mk (Below.trod laidOut_yes (by kernel_rfl) (of_decide_eq_true (by kernel_rfl)) k0 bel lt0) (trodAll_cons_mk (Below.trod laidOut_yes (by kernel_rfl) (of_decide_eq_true (by kernel_rfl)) k1 bel lt1) (trodAll_cons_mk (Below.trod laidOut_yes (by kernel_rfl) (of_decide_eq_true (by kernel_rfl)) k2 bel lt2) (trodAll_cons_mk (Below.trod laidOut_yes (by kernel_rfl) (of_decide_eq_true (by kernel_rfl)) k3 bel lt3) trodAll_mk0)))), rfl, bel.frame _, fun h => by cases h⟩

theorem c2 : (Rows.lineBytesRow.inPlace == Try.prog.inPlace 13) = true := by kernel_rfl
theorem c3 : (Rows.lineBytesRow.unfollowed == Try.prog.unfollowed 13) = true := by kernel_rfl
theorem c4 : (Rows.lineBytesRow.recurses == Try.prog.recurses 13) = true := by kernel_rfl
theorem c5 : (Rows.lineBytesRow.named == Try.prog.varsNamed 13) = true := by kernel_rfl
theorem closed : joinedFacts Try.prog 13 Try.f13 Rows.lineBytesSpec Rows.lineBytesRow = true :=
  joined_of (by kernel_rfl) c2 c3 c4 c5 (by kernel_rfl) (by kernel_rfl) ⟨rfl, rfl, rfl⟩
theorem over : Rows.lineBytesRow.holds Try.pinned (OpenSpec.ofChange Rows.lineBytesSpec) :=
  OpenClaim.holds_of_wide 13 Try.f13 rfl rfl rfl rfl rfl rfl rfl ⟨rfl, rfl, rfl, rfl, rfl⟩ rfl rfl rfl rfl rfl (by kernel_rfl) Try.func13 closed
    (of_decide_eq_true (by kernel_rfl)) (by unfold Func.isWrapper; rw [if_neg (of_decide_eq_false (by kernel_rfl))]; exact ⟨rfl, rfl⟩)
    (fun os started H enc _ => lifted os started H enc)

theorem proved : Rows.LineBytesSaid := over
#print axioms proved
end Go.Proofs.Ytogcnfhmcpkdcaa.lineBytes
